/- A part of the proof of laws of this seat: PatchBack, PatchDiff, PatchLeast, PatchMetric. Conditions: none of our own. -/
import Derived.ScopeJumps
import Derived.WalkMore
import Derived.Outline
import Derived.IntWalk
import Derived.Lib.IndexLaws
import Derived.Lib.Hide
import Derived.Laws.RangeAny
import Derived.Laws.StructEq
import Derived.Test.YtdlolaognnbhpaaDoorK2
namespace Go.Proofs.YtdlolaognnbhpaaDoor.Rune
open Go.RowKit Go.Proofs.YtdlolaognnbhpaaDoorW.PrintWords Go.Lib
theorem wp_scope_fwd {P:Program} {a:Act} {w:World} {Q:Exit→Act→World→Prop} {c rest:Code} (l:Nat) (hf:findLabel c l=some rest)
    (first:c.wp P (Exit.jump l (fun a w=>rest.wp P (Exit.noGoto Q) a w) Q) a w):(Code.scope c).wp P Q a w:=
  wp_scope_jumps l _ (fun _ _=>0) hf first (fun a w h=>wp_mono h (fun e a w q=>by cases e<;>first|exact q|exact q.elim))
def cnt (l:List UInt8) (c:UInt8) (i:Nat):Nat:=(l.take i).count c
theorem at_list (s:ByteArray) (k:Nat) (h:k<s.size):s.data.toList[k]?=some (s[k]'h):=by
 rw [List.getElem?_eq_getElem (by rw [Array.length_toList];exact h)];rfl
theorem size_list (s:ByteArray):s.data.toList.length=s.size:=by rw [Array.length_toList];rfl
theorem cnt_succ (s:ByteArray) (c:UInt8) (i:Nat) (h:i<s.size) (hc:s[i]=c):cnt s.data.toList c (i+1)=cnt s.data.toList c i+1:=by
 unfold cnt
 rw [List.take_add_one,at_list s i h,hc,List.count_append]
 simp
theorem cnt_mono (l:List UInt8) (c:UInt8) {i k:Nat} (h:i≤k):cnt l c i≤cnt l c k:=by
 unfold cnt
 exact (List.take_sublist_take_left h).count_le _
theorem occ_iff (l t:List UInt8) (i:Nat):occAt l t i=true↔∀ q,q<t.length→l[i+q]?=t[q]?:=by
 unfold occAt
 rw [List.isPrefixOf_iff_prefix]
 constructor
 {
 rintro ⟨u,hu⟩ q hq
 have:=congrArg (·[q]?) hu
 simp only [List.getElem?_append_left hq,List.getElem?_drop] at this
 exact this.symm
 }
 {
 intro h
 refine ⟨(l.drop i).drop t.length,?_⟩
 apply List.ext_getElem?
 intro q
 by_cases hq:q<t.length
 {
 rw [List.getElem?_append_left hq,List.getElem?_drop,h q hq]
 }
 {
 rw [List.getElem?_append_right (Nat.le_of_not_lt hq)]
 simp only [List.getElem?_drop]
 congr 1;omega
 }
 }
theorem no_last {s rs:ByteArray} {m i:Nat} {b:UInt8} (hsz:rs.size=m+1) (g1:rs[m]'(by omega)=b) (hi:m≤i) (h:s.data.toList[i]?≠some b):occAt s.data.toList rs.data.toList (i - m)=false:=by
 cases ho:occAt s.data.toList rs.data.toList (i - m) with
 |false=>rfl
 |true=>
  (
 have:=(occ_iff _ _ _).1 ho m (by rw [size_list];omega)
 rw [at_list rs m (by omega),g1,show i - m+m=i from by omega] at this
 exact absurd this h
  )
theorem occ_miss {s rs:ByteArray} {m i j:Nat} (hsz:rs.size=m+1) (hi:m≤i) (hlt:i<s.size) (hj:j≤m) (h:(s[i - j]'(by omega))≠(rs[m - j]'(by omega))):occAt s.data.toList rs.data.toList (i - m)=false:=by
 cases ho:occAt s.data.toList rs.data.toList (i - m) with
 |false=>rfl
 |true=>
  (
 have:=(occ_iff _ _ _).1 ho (m - j) (by rw [size_list];omega)
 rw [at_list rs (m - j) (by omega),show i - m+(m - j)=i - j from by omega,at_list s (i - j) (by omega)] at this
 exact absurd (Option.some.inj this) h
  )
theorem occ_all {s rs:ByteArray} {m i:Nat} {b:UInt8} (hsz:rs.size=m+1) (g1:rs[m]'(by omega)=b) (hi:m≤i) (hlt:i<s.size) (hb:s[i]=b) (h:∀ q,1≤q→q<m+1→s.data.toList[i - q]?=rs.data.toList[m - q]?):occAt s.data.toList rs.data.toList (i - m)=true:=by
 refine (occ_iff _ _ _).2 fun q hq=> ?_
 rw [size_list] at hq
 by_cases e:q=m
 {
 subst e
 rw [at_list rs q (by omega),g1,show i - q+q=i from by omega,at_list s i hlt,hb]
 }
 {
 have:=h (m - q) (by omega) (by omega)
 rw [show i - (m - q)=i - m+q from by omega,show m - (m - q)=q from by omega] at this
 exact this
 }
theorem match_step {s rs:ByteArray} {m i j:Nat} (hsz:rs.size=m+1) (hi:m≤i) (hlt:i<s.size) (hj:j≤m) (h:∀ q,1≤q→q<j→s.data.toList[i - q]?=rs.data.toList[m - q]?) (hc:(s[i - j]'(by omega))=(rs[m - j]'(by omega))):
    ∀ q,1≤q→q<j+1→s.data.toList[i - q]?=rs.data.toList[m - q]?:=fun q h1 h2=>by
  by_cases e:q=j
  · subst e
    rw [at_list s (i - q) (by omega),at_list rs (m - q) (by omega),hc]
  · exact h q h1 (by omega)
theorem indexByte_cases (l:List UInt8) (c:UInt8):Lib.indexByte l c= -1∨∃ k:Nat,Lib.indexByte l c=k∧k<l.length:=by
 induction l with
 |nil=>exact .inl rfl
 |cons x l ih=>
  (
 unfold Lib.indexByte
 by_cases h:(x==c)=true
 {
 exact .inr ⟨0,by simp [h],by simp⟩
 }
 {
 rw [if_neg h]
 rcases ih with h'|⟨k,h',hk⟩
 {
 exact .inl (by simp [h'])
 }
 {
 refine .inr ⟨k+1,?_,by simp;omega⟩
 rw [h',if_neg (by first|(simp;done)|(simp;omega))];rfl
 }
 }
  )
theorem no_occ_more {s rs:ByteArray} {m i i2:Nat} {b:UInt8} (hsz:rs.size=m+1) (g1:rs[m]'(by omega)=b) (h:NoOcc s.data.toList rs.data.toList (i+1 - m)) (hq:∀ q,i+1≤q→q<i2→s.data.toList[q]?≠some b):NoOcc s.data.toList rs.data.toList (i2 - m):=fun j hj=>by
  by_cases hj1:j<i+1 - m
  · exact h j hj1
  · have:=no_last (i:=j+m) hsz g1 (by omega) (hq (j+m) (by omega) (by omega))
    rwa [Nat.add_sub_cancel] at this
theorem index_none_from {s rs:ByteArray} {m i:Nat} {b:UInt8} (hsz:rs.size=m+1) (g1:rs[m]'(by omega)=b) (h:NoOcc s.data.toList rs.data.toList (i+1 - m)) (hq:∀ q,i+1≤q→s.data.toList[q]?≠some b):Lib.index s.data.toList rs.data.toList= -1:=
  index_none fun j _=>no_occ_more (i2:=j+1+m) hsz g1 h (fun q h1 _=>hq q h1) j (by omega)
theorem ret64 {a b:Int} (h:a=b):Ending.returned (.int .i64 a)= .returned (.int .i64 b):=by rw [h]
set_option maxHeartbeats 4000000 in
set_option maxRecDepth 100000 in
theorem index_some (s:ByteArray) (r:Int) (w:World) (h1:128≤r) (h2:r<65536) (hv:Utf8.valid r=true) (hr:r≠65533) (rs:ByteArray) (he:Utf8.encode r=rs) (m:Nat) (hm1:1≤m) (hm2:m≤2) (hsz:rs.size=m+1) (b:UInt8) (g1:rs[m]'(by omega)=b) (hs:s.size<4611686018427387904)
 (hF:∀ i,i≤s.size→cnt s.data.toList b i≤(i+16) / 8):
 Calls Tryd.prog 86 #[.string s,.int .i32 r] w fun e w'=>e= .returned (.int .i64 (Lib.index s.data.toList rs.data.toList))∧Drawn0 w w':=by
 have e1:decide ((0:Int)≤r)=true:=by simp;omega
 have e2:decide (r<(128:Int))=false:=by simp;omega
 have e3:(r==(65533:Int))=false:=by simp;omega
 have e4:Lib.validRune r=true:=by {
 simp only [Utf8.valid,Bool.or_eq_true,Bool.and_eq_true,decide_eq_true_eq] at hv
 simp [Lib.validRune];omega
 }
 go_enter Tryd.func86,Tryd.ntmps86
 go_wp2_with (go_at_call 91;refine (Tryd.utf8_ValidRune _ _).mono ?_;rintro e w' ⟨rfl,hw⟩;rw [hw];clear hw)
 go_step3
 go_wp2
 go_loopw [9,10,11,12] (fun vi vf _ _ wc=>∃ i f:Nat,vi= .int .i64 i∧vf= .int .i64 f∧m≤i∧i≤s.size+m∧Aside0 (NoOcc s.data.toList rs.data.toList (i - m))∧Aside0 (f≤cnt s.data.toList b i)∧Drawn0 w wc) (fun vi _ _ _ _=>(s.size+m) - (RowKit.intOf vi).toNat)
 case atStart=>exact ⟨m,0,rfl,rfl,by omega,by omega,⟨by rw [Nat.sub_self];exact NoOcc.zero _ _⟩,⟨by omega⟩,Drawn0.refl _⟩
 case round=>
  (
 obtain ⟨i,f,rfl,rfl,hi1,hi2,HN,hfc,⟨nd,rfl⟩⟩:=hrel
 by_cases hlt:i<s.size
 {
 by_cases hb:s[i]=b
 {
 go_wp2
 refine wp_scope_fwd 0 rfl ?_
 go_wp2
 go_quiet (fail)
 go_wp2
 have hf3:Aside0 (f+1≤cnt s.data.toList b (i+1)):=⟨by rw [cnt_succ s b i hlt hb];have:=hfc.out;omega⟩
 have hf4: ¬ (((i:Int)+1+16) / 8<(f:Int)+1):=by have:=hF (i+1) hlt;have:=hf3.out;omega
 have hf5:(f:Int)≤4611686018427387904:=by omega
 go_loopw [12] (fun vj wc=>∃ j:Nat,vj= .int .i64 j∧1≤j∧j≤m+1∧Aside0 (∀ q,1≤q→q<j→s.data.toList[i - q]?=rs.data.toList[m - q]?)∧Drawn0 w wc) (fun vj _=>(m+1) - (RowKit.intOf vj).toNat)
 case atStart=>exact ⟨1,rfl,by omega,by omega,⟨fun q h1 h2=>by omega⟩,⟨by first|exact ⟨_,rfl⟩|exact ⟨_,World.drewN_drewN _ _ _⟩⟩⟩
 case round=>
  (
 obtain ⟨j,rfl,hj1,hj2,HJ,⟨nd2,rfl⟩⟩:=hrel
 by_cases hj:j≤m
 {
 have p1:(0:Int)≤(i:Int) - j:=by omega
 have p2:(i:Int) - j<s.size:=by omega
 have p3:(0:Int)≤(m:Int) - j:=by omega
 have p4:(m:Int) - j<(m:Int)+1:=by omega
 have p5:j≤i:=by omega
 by_cases hc:(s[i - j]'(by omega))=(rs[m - j]'(by omega))
 {
 have HJ':=Aside0.mk (match_step hsz hi1 hlt hj HJ.out hc)
 have q1:IntKind.i64.wrap ((i:Int) - j)=(i:Int) - j:=IntWalk.i64_in _ (by omega)
 have q2:IntKind.i64.wrap ((m:Int) - j)=(m:Int) - j:=IntWalk.i64_in _ (by omega)
 have q3:((i:Int) - j).toNat=i - j:=by omega
 have q4:((m:Int) - j).toNat=m - j:=by omega
 go_wp2
 go_quiet (fail)
 try clear q1
 try clear q2
 try clear q3
 try clear q4
 go_wp2
 go_roundw
 case rel=>exact ⟨j+1,by go_num,by omega,by omega,HJ',⟨_,rfl⟩⟩
 case measure=>simp [RowKit.intOf];omega
 }
 {
 have HM:=Aside0.mk (occ_miss hsz hi1 hlt hj hc)
 have hc2:(((s[i - j]'(by omega)).toNat:Int) !=((rs[m - j]'(by omega)).toNat:Int))=true:=by {
 rw [bne_iff_ne]
 intro e
 exact hc (UInt8.toNat_inj.1 (Int.ofNat_inj.1 e))
 }
 have q1:IntKind.i64.wrap ((i:Int) - j)=(i:Int) - j:=IntWalk.i64_in _ (by omega)
 have q2:IntKind.i64.wrap ((m:Int) - j)=(m:Int) - j:=IntWalk.i64_in _ (by omega)
 have q3:((i:Int) - j).toNat=i - j:=by omega
 have q4:((m:Int) - j).toNat=m - j:=by omega
 go_wp2
 go_quiet (fail)
 try clear q1
 try clear q2
 try clear q3
 try clear q4
 go_wp2
 go_step3
 refine ⟨rfl,?_⟩
 go_wp2_with (go_at_call 92;refine (Tryd.bytealg_Cutover _ (by omega) (by omega) _).mono ?_;rintro e w' ⟨rfl,hw⟩;rw [hw];clear hw)
 refine ⟨⟨i+1,f+1,by go_num,by go_num,by omega,by omega,⟨by rw [show i+1 - m=i - m+1 from by omega];exact HN.out.succ HM.out⟩,⟨hf3.out⟩,⟨_,rfl⟩⟩,by simp [RowKit.intOf];omega⟩
 }
 }
 {
 have hje:j=m+1:=by omega
 have HI:=Aside0.mk (index_hit HN.out (by rw [size_list];omega) (occ_all hsz g1 hi1 hlt hb (by rw [hje] at HJ;exact HJ.out)))
 clear hje
 go_wp2
 refine ⟨rfl,_,results_tmp (t:=4) rfl _ _ _,?_,⟨_,rfl⟩⟩
 show Ending.returned (.int .i64 ((i:Int) - m))=_
 exact ret64 (by rw [HI.out];omega)
 }
  )
 }
 {
 have hbl:s.data.toList[i]?≠some b:=by rw [at_list s i hlt];exact fun e=>hb (Option.some.inj e)
 have hbn:(((s[i]).toNat:Int) !=(b.toNat:Int))=true:=by {
 rw [bne_iff_ne]
 intro e
 exact hb (UInt8.toNat_inj.1 (Int.ofNat_inj.1 e))
 }
 have HN1:NoOcc s.data.toList rs.data.toList (i+1 - m):=by {
 rw [show i+1 - m=i - m+1 from by omega];exact HN.out.succ (no_last hsz g1 hi1 hbl)
 }
 have HD:∀ k,(s.extract (i+1) s.size).data.toList[k]?=s.data.toList[i+1+k]?:=fun k=>by {
 rw [extract_data,List.getElem?_take,List.getElem?_drop]
 split
 {
 rfl
 }
 {
 rw [List.getElem?_eq_none (by rw [size_list];omega)]
 }
 }
 obtain ⟨o,ho⟩:∃ o,Lib.indexByte (s.extract (i+1) s.size).data.toList b=o:=⟨_,rfl⟩
 have CB:∀ W:World,Calls Tryd.prog 90 #[.string (s.extract (i+1) s.size),.int .u8 b.toNat] W fun e w'=>e= .returned (.int .i64 o)∧w'=W:=fun W=>by {
 have:=Tryd.strings_IndexByte (s.extract (i+1) s.size) b.toNat W
 rwa [show ((b.toNat:Int).toNat.toUInt8)=b from by simp,ho] at this
 }
 rcases indexByte_cases (s.extract (i+1) s.size).data.toList b with hm|⟨k,hm,hk⟩
 {
 obtain rfl:o= -1:=ho.symm.trans hm
 have HI:Lib.index s.data.toList rs.data.toList= -1:=index_none_from hsz g1 HN1 (fun q hq=>by
   have:=indexByte_none hm (q - (i+1))
   rw [HD,show i+1+(q - (i+1))=q from by omega] at this
   exact this)
 have HI:=Aside0.mk HI
 have w1:IntKind.i64.wrap ((i:Int)+1)=(i:Int)+1:=IntWalk.i64_in _ (by omega)
 have w2:((i:Int)+1).toNat=i+1:=by omega
 have w3:(0:Int)≤(i:Int)+1:=by omega
 have w4:(i:Int)+1≤s.size:=by omega
 clear ho hm HD HN1
 go_wp2
 refine wp_scope_fwd 0 rfl ?_
 go_wp2
 go_quiet (fail)
 go_wp2
 go_quiet ((go_at_call 90;(refine (CB _).mono ?_;rintro e w'' ⟨rfl,rfl⟩;exact ⟨rfl,_,rfl⟩)))
 go_wp2
 refine ⟨rfl,_,results_tmp (t:=4) rfl _ _ _,?_,⟨_,rfl⟩⟩
 show Ending.returned (.int .i64 (-1))=_
 exact ret64 HI.out.symm
 }
 {
 obtain rfl:o=(k:Int):=ho.symm.trans hm
 obtain ⟨hk1,hk2⟩:=indexByte_some hm
 obtain ⟨i2,hi2e⟩:∃ i2:Nat,i+(k+1)=i2:=⟨_,rfl⟩
 have hib:s.data.toList[i2]?=some b:=by rw [HD,show i+1+k=i2 from by omega] at hk1;exact hk1
 have hltb:i2<s.size:=by {
 have:=(List.getElem?_eq_some_iff.1 hib).1
 rw [size_list] at this;exact this
 }
 have hbb:s[i2]=b:=by rw [at_list s i2 hltb] at hib;exact Option.some.inj hib
 have hi1b:m≤i2:=by omega
 have HNb:Aside0 (NoOcc s.data.toList rs.data.toList (i2 - m)):=⟨no_occ_more hsz g1 HN1 (fun q hq1 hq2=>by
   have:=hk2 (q - (i+1)) (by omega)
   rw [HD,show i+1+(q - (i+1))=q from by omega] at this
   exact this)⟩
 have hfcb:Aside0 (f≤cnt s.data.toList b i2):=⟨Nat.le_trans hfc.out (cnt_mono _ _ (by omega))⟩
 have hi2i:((i:Int)+((k:Int)+1))=(i2:Int):=by omega
 have HI2:=Lib.hid hi2i
 have hkb:(k:Int)≤4611686018427387904:=by omega
 have w1:IntKind.i64.wrap ((i:Int)+1)=(i:Int)+1:=IntWalk.i64_in _ (by omega)
 have w2:((i:Int)+1).toNat=i+1:=by omega
 have w3:(0:Int)≤(i:Int)+1:=by omega
 have w4:(i:Int)+1≤s.size:=by omega
 clear ho hm HD HN1 hk1 hk2 hib hi2i
 have hi2s:=Lib.hid hi2e
 clear hi2e
 go_wp2
 refine wp_scope_fwd 0 rfl ?_
 go_wp2
 go_quiet (fail)
 go_wp2
 go_quiet ((go_at_call 90;(refine (CB _).mono ?_;rintro e w'' ⟨rfl,rfl⟩;exact ⟨rfl,_,rfl⟩)))
 clear w1 w2
 go_wp2
 rw [HI2.out]
 have hi2e:=hi2s.out
 have hf3:Aside0 (f+1≤cnt s.data.toList b (i2+1)):=⟨by rw [cnt_succ s b i2 hltb hbb];have:=hfcb.out;omega⟩
 have hf4: ¬ (((i2:Int)+1+16) / 8<(f:Int)+1):=by have:=hF (i2+1) hltb;have:=hf3.out;omega
 have hf5:(f:Int)≤4611686018427387904:=by omega
 go_loopw [12] (fun vj wc=>∃ j:Nat,vj= .int .i64 j∧1≤j∧j≤m+1∧Aside0 (∀ q,1≤q→q<j→s.data.toList[i2 - q]?=rs.data.toList[m - q]?)∧Drawn0 w wc) (fun vj _=>(m+1) - (RowKit.intOf vj).toNat)
 case atStart=>exact ⟨1,rfl,by omega,by omega,⟨fun q h1 h2=>by omega⟩,⟨by first|exact ⟨_,rfl⟩|exact ⟨_,World.drewN_drewN _ _ _⟩⟩⟩
 case round=>
  (
 obtain ⟨j,rfl,hj1,hj2,HJ,⟨nd2,rfl⟩⟩:=hrel
 by_cases hj:j≤m
 {
 have p1:(0:Int)≤(i2:Int) - j:=by omega
 have p2:(i2:Int) - j<s.size:=by omega
 have p3:(0:Int)≤(m:Int) - j:=by omega
 have p4:(m:Int) - j<(m:Int)+1:=by omega
 have p5:j≤i2:=by omega
 by_cases hc:(s[i2 - j]'(by omega))=(rs[m - j]'(by omega))
 {
 have HJ':=Aside0.mk (match_step hsz hi1b hltb hj HJ.out hc)
 have q1:IntKind.i64.wrap ((i2:Int) - j)=(i2:Int) - j:=IntWalk.i64_in _ (by omega)
 have q2:IntKind.i64.wrap ((m:Int) - j)=(m:Int) - j:=IntWalk.i64_in _ (by omega)
 have q3:((i2:Int) - j).toNat=i2 - j:=by omega
 have q4:((m:Int) - j).toNat=m - j:=by omega
 go_wp2
 go_quiet (fail)
 try clear q1
 try clear q2
 try clear q3
 try clear q4
 go_wp2
 go_roundw
 case rel=>exact ⟨j+1,by go_num,by omega,by omega,HJ',⟨_,rfl⟩⟩
 case measure=>simp [RowKit.intOf];omega
 }
 {
 have HM:=Aside0.mk (occ_miss hsz hi1b hltb hj hc)
 have hc2:(((s[i2 - j]'(by omega)).toNat:Int) !=((rs[m - j]'(by omega)).toNat:Int))=true:=by {
 rw [bne_iff_ne]
 intro e
 exact hc (UInt8.toNat_inj.1 (Int.ofNat_inj.1 e))
 }
 have q1:IntKind.i64.wrap ((i2:Int) - j)=(i2:Int) - j:=IntWalk.i64_in _ (by omega)
 have q2:IntKind.i64.wrap ((m:Int) - j)=(m:Int) - j:=IntWalk.i64_in _ (by omega)
 have q3:((i2:Int) - j).toNat=i2 - j:=by omega
 have q4:((m:Int) - j).toNat=m - j:=by omega
 go_wp2
 go_quiet (fail)
 try clear q1
 try clear q2
 try clear q3
 try clear q4
 go_wp2
 go_step3
 refine ⟨rfl,?_⟩
 go_wp2_with (go_at_call 92;refine (Tryd.bytealg_Cutover _ (by omega) (by omega) _).mono ?_;rintro e w' ⟨rfl,hw⟩;rw [hw];clear hw)
 refine ⟨⟨i2+1,f+1,by go_num,by go_num,by omega,by omega,⟨by rw [show i2+1 - m=i2 - m+1 from by omega];exact HNb.out.succ HM.out⟩,⟨hf3.out⟩,⟨_,rfl⟩⟩,by simp [RowKit.intOf];omega⟩
 }
 }
 {
 have hje:j=m+1:=by omega
 have HI:=Aside0.mk (index_hit HNb.out (by rw [size_list];omega) (occ_all hsz g1 hi1b hltb hbb (by rw [hje] at HJ;exact HJ.out)))
 clear hje
 go_wp2
 refine ⟨rfl,_,results_tmp (t:=4) rfl _ _ _,?_,⟨_,rfl⟩⟩
 show Ending.returned (.int .i64 ((i2:Int) - m))=_
 exact ret64 (by rw [HI.out];omega)
 }
  )
 }
 }
 }
 {
 have HI:=Aside0.mk (index_past (by intro e;have:=size_list rs;rw [e] at this;simp at this;omega) HN.out (by rw [size_list,size_list];omega))
 go_wp2
 rw [Exit.noGoto_ret]
 go_ret
 exact ⟨ret64 (by rw [HI.out]),⟨_,rfl⟩⟩
 }
  )
set_option maxHeartbeats 4000000 in
set_option maxRecDepth 1000000 in
theorem index_err (s:ByteArray) (w:World) (hG:∀ p,p<s.size→p % 2=0→(Utf8.decode s p).2=2∧(Utf8.decode s p).1≠65533):
 Calls Tryd.prog 86 #[.string s,.int .i32 65533] w fun e w'=>e= .returned (.int .i64 (-1))∧Below w.heap.size w w':=by
 go_enter Tryd.func86,Tryd.ntmps86
 go_wp2_with fail
 go_loopw [5,6] (fun _ _ w'=>∃ pos:Nat,w'=w.iter s pos∧pos % 2=0) (fun _ _ w'=>s.size - w'.iterPos w.heap.size)
 case atStart=>exact ⟨0,rfl,rfl⟩
 case round=>
  (
 obtain ⟨pos,rfl,hp2⟩:=hrel
 by_cases hp:pos<s.size
 {
 obtain ⟨d1,d2⟩:=hG pos hp hp2
 have d3:(((Utf8.decode s pos).1:Int)==65533)=false:=by {
 rw [beq_eq_false_iff_ne];omega
 }
 have hnx:∀ ty,(Instr.next (.pointer (some ⟨w.heap.size,0,none⟩)) true ty).run Tryd.prog (w.iter s pos)=_:=fun ty=>run_next_any w s pos ty hp
 go_wp2
 go_roundw
 case rel=>exact ⟨pos+2,rfl,by omega⟩
 case measure=>simp;omega
 }
 {
 have hnx:∀ ty,(Instr.next (.pointer (some ⟨w.heap.size,0,none⟩)) true ty).run Tryd.prog (w.iter s pos)=_:=fun ty=>run_next_end w s pos ty hp
 go_wp2
 go_ret
 exact ⟨rfl,(Below.refl _ _).alloc (Nat.le_refl _) _⟩
 }
  )
set_option maxHeartbeats 4000000 in
set_option maxRecDepth 1000000 in
theorem index_bad (s:ByteArray) (r:Int) (w:World) (h1:128≤r) (hv:Utf8.valid r=false) (hr:r≠65533):
 Calls Tryd.prog 86 #[.string s,.int .i32 r] w fun e w'=>e= .returned (.int .i64 (-1))∧Below w.heap.size w w':=by
 have e1:decide ((0:Int)≤r)=true:=by simp;omega
 have e2:decide (r<(128:Int))=false:=by simp;omega
 have e3:(r==(65533:Int))=false:=by simp;omega
 have e4:Lib.validRune r=false:=by {
 simp only [Utf8.valid,Bool.or_eq_false_iff,Bool.and_eq_false_iff,decide_eq_false_iff_not] at hv
 simp [Lib.validRune];omega
 }
 go_enter Tryd.func86,Tryd.ntmps86
 go_wp2_with (go_at_call 91;refine (Tryd.utf8_ValidRune _ _).mono ?_;rintro e w' ⟨rfl,hw⟩;rw [hw];clear hw)
 go_ret
 exact ⟨rfl,Below.refl _ _⟩
structure Good (s:ByteArray):Prop where
 size:s.size<4611686018427387904
 two:∀ p,p<s.size→p % 2=0→(Utf8.decode s p).2=2∧(Utf8.decode s p).1≠65533
 few:∀ (b:UInt8) i,128≤b.toNat→b.toNat<192→i≤s.size→cnt s.data.toList b i≤(i+16) / 8
def idx (s:ByteArray) (r:Int):Int:=
  if r<128 then Lib.indexByte s.data.toList r.toNat.toUInt8 else if r=65533∨Utf8.valid r=false then -1 else Lib.index s.data.toList (Utf8.encode r).data.toList
theorem encode_two (r:Int) (h1:128≤r) (h2:r<65536) (hv:Utf8.valid r=true):∃ (m:Nat) (_:1≤m) (_:m≤2) (hs:(Utf8.encode r).size=m+1) (b:UInt8),(Utf8.encode r)[m]'(by omega)=b∧128≤b.toNat∧b.toNat<192:=by
 have hc: ¬ r.toNat<128:=by omega
 have hc3:r.toNat<65536:=by omega
 unfold Utf8.encode
 simp only [hv,if_true,hc,if_false]
 by_cases h:r.toNat<2048
 {
 simp only [h,if_true]
 refine ⟨1,by omega,by omega,rfl,_,rfl,?_⟩
 show 128≤(UInt8.ofNat (128+r.toNat % 64)).toNat∧(UInt8.ofNat (128+r.toNat % 64)).toNat<192
 simp;omega
 }
 {
 simp only [h,if_false,hc3,if_true]
 refine ⟨2,by omega,by omega,rfl,_,rfl,?_⟩
 show 128≤(UInt8.ofNat (128+r.toNat % 64)).toNat∧(UInt8.ofNat (128+r.toNat % 64)).toNat<192
 simp;omega
 }
theorem index_any (s:ByteArray) (hs:Good s) (r:Int) (h0:0≤r) (h1:r<65536) (w:World):
 Calls Tryd.prog 86 #[.string s,.int .i32 r] w fun e w'=>e= .returned (.int .i64 (idx s r))∧Below w.heap.size w w':=by
 unfold idx
 by_cases h128:r<128
 {
 rw [if_pos h128]
 refine (Tryd.strings_IndexRune_ascii s r w h0 h128).mono ?_
 rintro e w' ⟨rfl,rfl⟩
 exact ⟨rfl,Below.refl _ _⟩
 }
 {
 rw [if_neg h128]
 by_cases he:r=65533
 {
 rw [if_pos (.inl he),he]
 exact index_err s w hs.two
 }
 {
 by_cases hv:Utf8.valid r=false
 {
 rw [if_pos (.inr hv)]
 exact index_bad s r w (by omega) hv he
 }
 {
 rw [if_neg (by intro h;rcases h with h|h;exact he h;exact hv h)]
 have hv':Utf8.valid r=true:=by simpa using hv
 obtain ⟨m,hm1,hm2,hsz,b,g1,hb,hb2⟩:=encode_two r (by omega) h1 hv'
 refine (index_some s r w (by omega) h1 hv' he (Utf8.encode r) rfl m hm1 hm2 hsz b g1 hs.size (fun i hi=>hs.few b i hb hb2 hi)).mono ?_
 rintro e w' ⟨rfl,hd⟩
 exact ⟨rfl,hd.below⟩
 }
 }
 }
set_option maxHeartbeats 4000000 in
set_option maxRecDepth 1000000 in
theorem contains_any (s:ByteArray) (hs:Good s) (r:Int) (h0:0≤r) (h1:r<65536) (w:World):
 Calls Tryd.prog 80 #[.string s,.int .i32 r] w fun e w'=>e= .returned (.bool (decide (0≤idx s r)))∧Below w.heap.size w w':=by
 obtain ⟨q,hq⟩:∃ q,idx s r=q:=⟨_,rfl⟩
 have C:=index_any s hs r h0 h1 w
 rw [hq] at C⊢
 go_enter Tryd.func80,Tryd.ntmps80
 go_wp2_with (go_at_call 86;refine C.mono ?_;rintro e w' ⟨rfl,hb⟩)
 go_ret
 exact ⟨rfl,hb⟩
end Go.Proofs.YtdlolaognnbhpaaDoor.Rune
namespace Go.Proofs.YtdlolaognnbhpaaDoorW.PrintLast
open Go.Proofs.YtdlolaognnbhpaaDoorW.PrintWords (Aside0)
def needsOf (md:Region.Mode) (o:Oper):List Nat:=(o.after.toList.filter (fun e=>Region.binds md e)).map (fun e=>e.on)
def clashOf (md:Region.Mode) (ops:Array Oper) (i:Nat) (oi:Oper):List Nat:=(List.range ops.size).filter fun j=> !(j==i) && match ops[j]? with
 |some oj=> !(oj.after.any (fun e=>Region.binds md e && e.on==i)||oi.apart ops oj)
 |none=>false
def rtab (md:Region.Mode) (ops:Array Oper):Bool×List (List Nat×List Nat):=(Region.noSelect ops,(List.range ops.size).map fun i=>match ops[i]? with
 |some o=>(needsOf md o,clashOf md ops i o)
 |none=>([],[]))
def readyAt (T:List (List Nat×List Nat)) (l:List Bool) (i:Nat):Bool:= !l.getD i true && match T[i]? with
 |some r=>r.1.all (fun j=>l.getD j false)
 |none=>false
def readyT (T:List (List Nat×List Nat)) (l:List Bool):List Nat:=(List.range T.length).filter (readyAt T l)
def freeT (T:List (List Nat×List Nat)) (l:List Bool) (i:Nat):Bool:=match T[i]? with
 |some r=>r.2.all (fun j=>l.getD j true)
 |none=>false
def closedT (T:List (List Nat×List Nat)) (l:List Bool):Bool:=(List.range T.length).all fun j=> !l.getD j false||match T[j]? with
 |some r=>r.1.all (fun k=>l.getD k false)
 |none=>true
def reachT (T:List (List Nat×List Nat)) (i:Nat):Nat→Nat→Bool
 |0,_=>false
 |fuel+1,d=>match T[d]? with
   |some r=>r.1.any fun j=>j==i||reachT T i fuel j
   |none=>false
def lastT (T:List (List Nat×List Nat)) (l:List Bool) (ds:List Nat) (i:Nat):Bool:=ds.all fun d=>l.getD d true||reachT T i T.length d
section
variable {md : Region.Mode} {ops : Array Oper} {T : Bool × List (List Nat × List Nat)} {l l' li lj lk : Array Bool} {ds : List Nat} {i j k : Nat}
theorem gd (l:Array Bool) (j:Nat) (b:Bool):l.getD j b=l.toList.getD j b:=by simp [Array.getD_eq_getD_getElem?,List.getD_eq_getElem?_getD]
theorem needs_all (o:Oper) (p:Nat→Bool):o.after.all (fun e=> !Region.binds md e||p e.on)=(needsOf md o).all p:=by
 unfold needsOf
 rw [←Array.all_toList]
 induction o.after.toList with
 |nil=>rfl
 |cons e r ih=>
  (
 rw [List.all_cons,ih,List.filter_cons]
 cases h:Region.binds md e<;>simp
  )
theorem needs_any (o:Oper) (p:Nat→Bool):o.after.any (fun e=>Region.binds md e && p e.on)=(needsOf md o).any p:=by
 unfold needsOf
 rw [←Array.any_toList]
 induction o.after.toList with
 |nil=>rfl
 |cons e r ih=>
  (
 rw [List.any_cons,ih,List.filter_cons]
 cases h:Region.binds md e<;>simp
  )
theorem rtab_length:(rtab md ops).2.length=ops.size:=by simp [rtab]
theorem rtab_some {o:Oper} (h:ops[i]?=some o):(rtab md ops).2[i]?=some (needsOf md o,clashOf md ops i o):=by
 have hi:=(Array.getElem?_eq_some_iff.1 h).1
 unfold rtab
 rw [List.getElem?_map,List.getElem?_range hi,Option.map_some,h]
theorem rtab_none (h:ops[i]?=none):(rtab md ops).2[i]?=none:=by
 have hi:ops.size≤i:=Array.getElem?_eq_none_iff.1 h
 exact List.getElem?_eq_none (by rw [rtab_length];exact hi)
theorem readyAt_eq:readyAt (rtab md ops).2 l.toList i=(!l.getD i true && ((ops[i]?).map (·.after.all fun e=> !Region.binds md e||l.getD e.on false)).getD false):=by
 unfold readyAt
 rw [gd]
 cases h:ops[i]? with
 |none=>rw [rtab_none h];rfl
 |some o=>
  (
 rw [rtab_some h]
 simp only [Option.map_some,Option.getD_some]
 rw [←needs_all]
 simp only [gd]
  )
theorem ready_eq:Region.ready md ops l=readyT (rtab md ops).2 l.toList:=by
 unfold Region.ready readyT
 rw [rtab_length]
 refine List.filter_congr (fun i _=> ?_)
 rw [readyAt_eq]
theorem free_eq:Region.free md ops l i=freeT (rtab md ops).2 l.toList i:=by
 unfold Region.free freeT
 cases h:ops[i]? with
 |none=>rw [rtab_none h]
 |some oi=>
  (
 rw [rtab_some h]
 simp only [clashOf]
 rw [List.all_filter]
 congr 1
 funext j
 rw [gd]
 cases hj:ops[j]? with
 |none=>cases (j==i)<;>cases (l.toList.getD j true)<;>simp
 |some oj=>
  (
 cases (j==i)<;>cases (l.toList.getD j true)<;>cases (oj.after.any (fun e=>Region.binds md e && e.on==i)||oi.apart ops oj)<;>simp_all
  )
  )
theorem closed_eq:Region.closedB md ops l=closedT (rtab md ops).2 l.toList:=by
 unfold Region.closedB closedT
 rw [rtab_length]
 congr 1
 funext j
 rw [gd]
 cases h:ops[j]? with
 |none=>rw [rtab_none h]
 |some o=>
  (
 rw [rtab_some h]
 simp only
 rw [←needs_all]
 simp only [gd]
  )
theorem reach_eq:∀ (fuel d:Nat),Region.reachB md ops i fuel d=reachT (rtab md ops).2 i fuel d
 |0,_=>rfl
 |fuel+1,d=>by {
 unfold Region.reachB reachT
 cases h:ops[d]? with
 |none=>rw [rtab_none h]
 |some o=>
  (
 rw [rtab_some h]
 simp only
 rw [←needs_any]
 congr 1
 funext e
 rw [reach_eq fuel]
  )
 }
theorem last_eq:Region.lastB md ops l ds i=lastT (rtab md ops).2 l.toList ds i:=by
 unfold Region.lastB lastT
 rw [rtab_length]
 congr 1
 funext d
 rw [gd,reach_eq]
theorem readyAt_mem (h:readyAt T.2 l.toList i=true) (hT:rtab md ops=T):(Region.ready md ops l).contains i=true:=by
 subst hT
 rw [ready_eq]
 unfold readyT
 rw [List.contains_iff_mem,List.mem_filter,List.mem_range]
 refine ⟨?_,h⟩
 unfold readyAt at h
 rw [Bool.and_eq_true] at h
 cases hq:(rtab md ops).2[i]? with
 |none=>rw [hq] at h;simp at h
 |some r=>exact (List.getElem?_eq_some_iff.1 hq).1
theorem set_of (h:(l.toList.set i true==l'.toList)=true):(l.setIfInBounds i true==l')=true:=by
 rw [beq_iff_eq] at h⊢
 apply Array.ext'
 rw [Array.toList_setIfInBounds]
 exact h
def anyT (T:Bool×List (List Nat×List Nat)) (l l':List Bool) (i:Nat):Bool:=T.1 && freeT T.2 l i && readyAt T.2 l i && (l.set i true==l')
theorem any_of (hT:rtab md ops=T) (h:anyT T l.toList l'.toList i=true):anyB md ops l l' i=true:=by
 simp only [anyT,Bool.and_eq_true] at h
 obtain ⟨⟨⟨h1,h2⟩,h3⟩,h4⟩:=h
 have h5:=readyAt_mem h3 hT
 have h6:=set_of h4
 subst hT
 simp only [anyB,Bool.and_eq_true]
 exact ⟨⟨⟨h1,by rw [free_eq];exact h2⟩,h5⟩,h6⟩
def takeT (T:Bool×List (List Nat×List Nat)) (ds:List Nat) (l l':List Bool) (i:Nat):Bool:=T.1 && freeT T.2 l i && readyAt T.2 l i && closedT T.2 l && lastT T.2 l ds i && (l.set i true==l')
theorem take_of (hT:rtab md ops=T) (h:takeT T ds l.toList l'.toList i=true):takeB md ops ds l l' i=true:=by
 simp only [takeT,Bool.and_eq_true] at h
 obtain ⟨⟨⟨⟨⟨h1,h2⟩,h3⟩,h4⟩,h5⟩,h6⟩:=h
 have h7:=readyAt_mem h3 hT
 have h8:=set_of h6
 subst hT
 simp only [takeB,Bool.and_eq_true]
 exact ⟨⟨⟨⟨⟨h1,by rw [free_eq];exact h2⟩,h7⟩,by rw [closed_eq];exact h4⟩,by rw [last_eq];exact h5⟩,h8⟩
theorem one_of (hT:rtab md ops=T) (h:(readyT T.2 l.toList==[i] && l.toList.set i true==l'.toList)=true):readyB md ops l l' i=true:=by
 simp only [Bool.and_eq_true] at h
 obtain ⟨h1,h2⟩:=h
 subst hT
 simp only [readyB,Bool.and_eq_true]
 exact ⟨by rw [ready_eq];exact h1,set_of h2⟩
theorem two_of (hT:rtab md ops=T) (h:(readyT T.2 l.toList==[i,j] && l.toList.set i true==li.toList && l.toList.set j true==lj.toList)=true):(Region.ready md ops l==[i,j] && l.setIfInBounds i true==li && l.setIfInBounds j true==lj)=true:=by
 simp only [Bool.and_eq_true] at h⊢
 obtain ⟨⟨h1,h2⟩,h3⟩:=h
 subst hT
 exact ⟨⟨by rw [ready_eq];exact h1,set_of h2⟩,set_of h3⟩
theorem done_of (hT:rtab md ops=T) (h:(readyT T.2 l.toList==[])=true):(Region.ready md ops l==[])=true:=by
 subst hT
 rw [ready_eq]
 exact h
def upM (B:List Nat) (d:Nat):List Nat→Nat
 |[]=>0
 |n::r=>(2 ^ n|||(if n<d then B.getD n 0 else 0))|||upM B d r
def waitsOk (T:List (List Nat×List Nat)) (B:List Nat):Bool:=(List.range T.length).all fun d=>match T[d]? with
 |some r=>(B.getD d 0|||upM B d r.1)==upM B d r.1
 |none=>false
theorem upM_bit {B:List Nat} {d i:Nat}:∀ {ns:List Nat},(upM B d ns).testBit i=true→∃ n∈ns,n=i∨(n<d∧(B.getD n 0).testBit i=true)
 |[],h=>by simp [upM] at h
 |n::r,h=>by {
 unfold upM at h
 rw [Nat.testBit_or,Nat.testBit_or,Bool.or_eq_true,Bool.or_eq_true] at h
 rcases h with (h|h)|h
 {
 rw [Nat.testBit_two_pow] at h
 exact ⟨n,List.mem_cons_self,.inl (by simpa using h)⟩
 }
 {
 by_cases hn:n<d
 {
 rw [if_pos hn] at h
 exact ⟨n,List.mem_cons_self,.inr ⟨hn,h⟩⟩
 }
 {
 rw [if_neg hn] at h
 simp at h
 }
 }
 {
 obtain ⟨m,hm,h2⟩:=upM_bit h
 exact ⟨m,List.mem_cons_of_mem _ hm,h2⟩
 }
 }
theorem reach_bit {T:List (List Nat×List Nat)} {B:List Nat} (hB:waitsOk T B=true):∀ (fuel d:Nat),d<fuel→d<T.length→(B.getD d 0).testBit i=true→reachT T i fuel d=true
 |0,d,h,_,_=>by omega
 |fuel+1,d,h,hd,hb=>by {
 have h1:=List.all_eq_true.1 hB d (List.mem_range.2 hd)
 cases hr:T[d]? with
 |none=>rw [hr] at h1;simp at h1
 |some r=>
  (
 rw [hr] at h1
 simp only [beq_iff_eq] at h1
 have h2:(upM B d r.1).testBit i=true:=by rw [←h1,Nat.testBit_or,hb,Bool.true_or]
 obtain ⟨n,hn,h3⟩:=upM_bit h2
 unfold reachT
 rw [hr]
 simp only
 rw [List.any_eq_true]
 refine ⟨n,hn,?_⟩
 rcases h3 with rfl|⟨h4,h5⟩
 {
 simp
 }
 {
 rw [reach_bit hB fuel n (by omega) (by omega) h5,Bool.or_true]
 }
  )
 }
def lastW (T:List (List Nat×List Nat)) (B:List Nat) (l:List Bool) (ds:List Nat) (i:Nat):Bool:=ds.all fun d=>l.getD d true||(decide (d<T.length) && (B.getD d 0).testBit i)
def takeW (T:Bool×List (List Nat×List Nat)) (B:List Nat) (ds:List Nat) (l l':List Bool) (i:Nat):Bool:=T.1 && freeT T.2 l i && readyAt T.2 l i && closedT T.2 l && lastW T.2 B l ds i && (l.set i true==l')
theorem take_ofW {B:List Nat} (hT:rtab md ops=T) (hB:waitsOk T.2 B=true) (h:takeW T B ds l.toList l'.toList i=true):takeB md ops ds l l' i=true:=by
 refine take_of hT ?_
 simp only [takeW,takeT,Bool.and_eq_true] at h⊢
 obtain ⟨⟨⟨⟨⟨h1,h2⟩,h3⟩,h4⟩,h5⟩,h6⟩:=h
 refine ⟨⟨⟨⟨⟨h1,h2⟩,h3⟩,h4⟩,?_⟩,h6⟩
 unfold lastW at h5
 unfold lastT
 rw [List.all_eq_true] at h5⊢
 intro d hd
 have h7:=h5 d hd
 rw [Bool.or_eq_true,Bool.and_eq_true,decide_eq_true_eq] at h7
 rcases h7 with h7|⟨h8,h9⟩
 {
 rw [h7,Bool.true_or]
 }
 {
 rw [reach_bit hB _ d h8 h8 h9,Bool.or_true]
 }
theorem with_tabW {P:Program} {Q:Exit→Act→World→Prop} {S:World→Prop} {n:Nat} {a:Act} {w:World} {B:List Nat} (hT:rtab md ops=T) (hB:waitsOk T.2 B=true) (h:Aside0 (rtab md ops=T)→Aside0 (waitsOk T.2 B=true)→wpAnyLast P md ops Q S ds n l a w):wpAnyLast P md ops Q S ds n l a w:=h ⟨hT⟩ ⟨hB⟩
end
def opsIn:Code→Nat→Option (Array Oper)
 | .region id ops _,k=>if id==k then some ops else none
 | .seq a b,k=>match opsIn a k with
   |some o=>some o
   |none=>opsIn b k
 | .cond _ a b,k=>match opsIn a k with
   |some o=>some o
   |none=>opsIn b k
 | .block _ c,k=>opsIn c k
 | .loop c,k=>opsIn c k
 | .scope c,k=>opsIn c k
 | .rangeFunc _ _ a b,k=>match opsIn a k with
   |some o=>some o
   |none=>opsIn b k
 |_,_=>none
def opsOf (f:Func) (k:Nat):Array Oper:=((f.body.bind fun c=>opsIn c k)).getD #[]
end Go.Proofs.YtdlolaognnbhpaaDoorW.PrintLast
namespace Go.Proofs.YtdlolaognnbhpaaDoorW.PrintWords
open Go.RowKit
section
variable {P : Program} {d : Nat} {xs ys : Array Value} {f : Field} {fs : List Field} {a b : Value} {r s : Bool} {w : World}
theorem eqf_last (hn : (f.name == "_") = false) (ha : (part f.type xs f.offset).run P w = .ok a w) (hb : (part f.type ys f.offset).run P w = .ok b w) (he : (Op.equalIn d f.type a b).run P w = .ok r w) : (Op.eqFields d xs ys [f]).run P w = .ok r w := by
 have hn' : f.name ≠ "_" := by simpa using hn
 simp only [Op.eqFields,if_pos hn',Sem.run_bind,ha,hb,he,Result.andThen_ok]
 cases r<;>simp
theorem eqf_cons (hn : (f.name == "_") = false) (ha : (part f.type xs f.offset).run P w = .ok a w) (hb : (part f.type ys f.offset).run P w = .ok b w) (he : (Op.equalIn d f.type a b).run P w = .ok r w) (hr : (Op.eqFields d xs ys fs).run P w = .ok s w) : (Op.eqFields d xs ys (f :: fs)).run P w = .ok (r && s) w := by
 have hn' : f.name ≠ "_" := by simpa using hn
 rw [Op.eqFields]
 simp only [if_pos hn',Sem.run_bind,ha,hb,he,Result.andThen_ok]
 cases r
 {
 simp
 }
 {
 simpa using hr
 }
theorem eqA_of {t:TypeId} {fs:Array Field} (hu:P.underlying t=some (.struct fs)) (hp:P.stoodInHeld t=false) (h:(Op.eqFields d xs ys fs.toList).run P w= .ok r w):(Op.equalIn (d+1) t (.agg xs) (.agg ys)).run P w= .ok r w:=by
 have hf:P.fieldsOf t=fs:=by simp [Program.fieldsOf,hu]
 rw [run_equalIn_struct (P:=P) w d t xs ys (by rw [hf];exact hu) hp,hf]
 exact h
end
end Go.Proofs.YtdlolaognnbhpaaDoorW.PrintWords
namespace Go.Proofs.YtdlolaognnbhpaaDoorW.PrintWords
theorem Reps.one {α:Type} {R:α→List Value→Prop} {ps:List α} {cs:List Value} {p:α} {v:Value} (hp:R p [v]) (h:Reps R 1 ps cs):Reps R 1 (p::ps) (v::cs):=by
 refine ⟨by simp [h.1],fun j q hq=> ?_⟩
 cases j with
 |zero=>
  (
 simp only [List.getElem?_cons_zero,Option.some.injEq] at hq
 subst hq
 simpa using hp
  )
 |succ j=>
  (
 simp only [List.getElem?_cons_succ] at hq
 have h1:=h.2 j q hq
 simpa [Nat.mul_one] using h1
  )
theorem Reps.front {α:Type} {R:α→List Value→Prop} {size:Nat} {ps:List α} {cs c all:List Value} {p:α} (hp:R p c) (hc:c.length=size) (h:Reps R size ps cs) (ha:c++cs=all):Reps R size (p::ps) all:=by
 subst ha
 refine ⟨by rw [List.length_append,hc,h.1,List.length_cons,Nat.succ_mul,Nat.add_comm],fun j q hq=> ?_⟩
 cases j with
 |zero=>
  (
 simp only [List.getElem?_cons_zero,Option.some.injEq] at hq
 subst hq
 rw [Nat.zero_mul,List.drop_zero,List.take_append_of_le_length (by omega),List.take_of_length_le (by omega)]
 exact hp
  )
 |succ j=>
  (
 simp only [List.getElem?_cons_succ] at hq
 have h1:=h.2 j q hq
 rw [Nat.succ_mul,List.drop_append,List.drop_of_length_le (by rw [hc];exact Nat.le_add_left _ _),List.nil_append,hc,Nat.add_sub_cancel]
 exact h1
  )
theorem Reps.c2 {α:Type} {R:α→List Value→Prop} {ps:List α} {cs:List Value} {p:α} {va vb:Value} (hp:R p [va,vb]) (h:Reps R 2 ps cs):Reps R 2 (p::ps) (va::vb::cs):=Reps.front hp rfl h rfl
theorem Reps.c3 {α:Type} {R:α→List Value→Prop} {ps:List α} {cs:List Value} {p:α} {va vb vc:Value} (hp:R p [va,vb,vc]) (h:Reps R 3 ps cs):Reps R 3 (p::ps) (va::vb::vc::cs):=Reps.front hp rfl h rfl
theorem Reps.c4 {α:Type} {R:α→List Value→Prop} {ps:List α} {cs:List Value} {p:α} {va vb vc vd:Value} (hp:R p [va,vb,vc,vd]) (h:Reps R 4 ps cs):Reps R 4 (p::ps) (va::vb::vc::vd::cs):=Reps.front hp rfl h rfl
theorem Reps.c5 {α:Type} {R:α→List Value→Prop} {ps:List α} {cs:List Value} {p:α} {va vb vc vd ve:Value} (hp:R p [va,vb,vc,vd,ve]) (h:Reps R 5 ps cs):Reps R 5 (p::ps) (va::vb::vc::vd::ve::cs):=Reps.front hp rfl h rfl
theorem Reps.c6 {α:Type} {R:α→List Value→Prop} {ps:List α} {cs:List Value} {p:α} {va vb vc vd ve vf:Value} (hp:R p [va,vb,vc,vd,ve,vf]) (h:Reps R 6 ps cs):Reps R 6 (p::ps) (va::vb::vc::vd::ve::vf::cs):=Reps.front hp rfl h rfl
end Go.Proofs.YtdlolaognnbhpaaDoorW.PrintWords
namespace Go.Proofs.YtdlolaognnbhpaaDoorW.PrintWords
open Go.RowKit
section
variable {P : Program} {ops : Array Oper} {rest : List Oper} {o : Oper} {a : Act} {Q : Exit → Act → World → Prop} {W : World}
theorem gate_guard (hw:Region.wanted o (yielded ops a.tmps)=true) (h:wpList P ops Q ({ o with guard:=none }::rest) a W):wpList P ops Q (o::rest) a W:=by
 have h1:Region.wanted { o with guard:=none } (yielded ops a.tmps)=true:=rfl
 unfold wpList at h⊢
 rw [if_pos h1] at h
 rw [if_pos hw]
 exact h
end
end Go.Proofs.YtdlolaognnbhpaaDoorW.PrintWords
namespace Go.Proofs.YtdlolaognnbhpaaDoorW.PrintLast
open Go.RowKit Go.Proofs.YtdlolaognnbhpaaDoorW.PrintWords Go.Proofs.YtdlolaognnbhpaaDoorW.PrintMore
section
variable {P : Program} {ops : Array Oper} {Q : Exit → Act → World → Prop} {md : Region.Mode} {S : World → Prop} {ds : List Nat} {T : Bool × List (List Nat × List Nat)} {B : List Nat} {i : Nat} {N : Option Tmp} {oi : Oper} {v : Value} {fuel : Nat} {l : Array Bool} {a a' : Act} {w : World}
theorem pA_ (HT:Aside0 (rtab md ops=T)) (h:wpAnyLast P md ops Q S ds fuel (l.setIfInBounds i true) a' w) (hi:ops[i]?=some oi:=by exact rfl) (hN:oi.dst=N:=by exact rfl) (hc:anyT T l.toList (l.setIfInBounds i true).toList i=true:=by kernel_rfl)
    (hQ:∀ c a w,Q (.panic c) (a.put oi.dst v) w→Q (.panic c) a w:=by exact fun _ _ _ h=>h) (hy:Yields P ops oi v a:=by refine Or.inl ⟨by rfl,?_⟩;intro w';go_simp;with_reducible rfl) (ha:a.put N v=a':=by simp only [Act.put,List.setIfInBounds_toArray,List.set_cons_zero,List.set_cons_succ,i64_w,i32_w];rfl):
    wpAnyLast P md ops Q S ds (fuel+1) l a w:=pure_ _ hi hN (any_of HT.out hc) hQ hy ha h
theorem pU_ (HT:Aside0 (rtab md ops=T)) (h:wpAnyLast P md ops Q S ds fuel (l.setIfInBounds i true) a' w) (hi:ops[i]?=some oi:=by exact rfl) (hN:oi.dst=N:=by exact rfl) (hc:anyT T l.toList (l.setIfInBounds i true).toList i=true:=by kernel_rfl)
    (hQ:∀ c a w,Q (.panic c) (a.put oi.dst undef) w→Q (.panic c) a w:=by exact fun _ _ _ h=>h) (hy:Yields P ops oi undef a:=by exact Or.inr ⟨by rfl,rfl⟩) (ha:a.put N undef=a':=by simp only [Act.put,List.setIfInBounds_toArray,List.set_cons_zero,List.set_cons_succ,i64_w,i32_w];rfl):
    wpAnyLast P md ops Q S ds (fuel+1) l a w:=pure_ _ hi hN (any_of HT.out hc) hQ hy ha h
theorem pK_ (h:wpAnyLast P md ops Q S ds fuel (l.setIfInBounds i true) a' w) (hi:ops[i]?=some oi:=by exact rfl) (hN:oi.dst=N:=by exact rfl) (hc:anyB md ops l (l.setIfInBounds i true) i=true:=by kernel_rfl)
    (hQ:∀ c a w,Q (.panic c) (a.put oi.dst v) w→Q (.panic c) a w:=by exact fun _ _ _ h=>h) (hy:Yields P ops oi v a:=by refine Or.inl ⟨by rfl,?_⟩;intro w';go_simp;with_reducible rfl) (ha:a.put N v=a':=by simp only [Act.put,List.setIfInBounds_toArray,List.set_cons_zero,List.set_cons_succ,i64_w,i32_w];rfl):
    wpAnyLast P md ops Q S ds (fuel+1) l a w:=pure_ _ hi hN hc hQ hy ha h
theorem tA_ (HT:Aside0 (rtab md ops=T)) (HW:Aside0 (waitsOk T.2 B=true)) (hS:S w) (h:wpAnyLast P md ops Q S ds fuel (l.setIfInBounds i true) a' w) (hi:ops[i]?=some oi:=by exact rfl) (hN:oi.dst=N:=by exact rfl) (hc:takeW T B ds l.toList (l.setIfInBounds i true).toList i=true:=by kernel_rfl)
    (hQ:∀ c a w,Q (.panic c) (a.put oi.dst v) w→Q (.panic c) a w:=by exact fun _ _ _ h=>h) (hy:YieldsIf P ops S oi v a:=by refine Or.inl ⟨by rfl,?_⟩;intro w' hs_;(repeat (obtain ⟨s_,hs_⟩:=hs_));go_simp;with_reducible rfl) (ha:a.put N v=a':=by simp only [Act.put,List.setIfInBounds_toArray,List.set_cons_zero,List.set_cons_succ,i64_w,i32_w];rfl):
    wpAnyLast P md ops Q S ds (fuel+1) l a w:=take_ _ hi hN (take_ofW HT.out HW.out hc) hQ hy hS ha h
theorem tK_ (hS:S w) (h:wpAnyLast P md ops Q S ds fuel (l.setIfInBounds i true) a' w) (hi:ops[i]?=some oi:=by exact rfl) (hN:oi.dst=N:=by exact rfl) (hc:takeB md ops ds l (l.setIfInBounds i true) i=true:=by kernel_rfl)
    (hQ:∀ c a w,Q (.panic c) (a.put oi.dst v) w→Q (.panic c) a w:=by exact fun _ _ _ h=>h) (hy:YieldsIf P ops S oi v a:=by refine Or.inl ⟨by rfl,?_⟩;intro w' hs_;(repeat (obtain ⟨s_,hs_⟩:=hs_));go_simp;with_reducible rfl) (ha:a.put N v=a':=by simp only [Act.put,List.setIfInBounds_toArray,List.set_cons_zero,List.set_cons_succ,i64_w,i32_w];rfl):
    wpAnyLast P md ops Q S ds (fuel+1) l a w:=take_ _ hi hN hc hQ hy hS ha h
end
theorem od_ {p:Prop} [Decidable p] (h:decide p=true:=by first|(with_reducible assumption)|assumption):p:=of_decide_eq_true h
theorem ml_ {p:Prop} (h:p:=by (try simp only [List.map_toArray,List.map_cons,List.map_nil]);first|done|rfl|(simp only [List.length_drop,List.length_take];rfl)):p:=h
theorem b0_ {w w':World} (h:Below w.heap.size w w':=by repeat (first|(with_reducible first|exact HB.out|apply below_alloc|apply pw_below_drewN|apply below_drew1|refine below_set ?_ (Aside0.out (by assumption)))|exact HB.out)):Below w.heap.size w w':=h
theorem r0_ {p:Prop} (h:p:=by first|rfl|(simp;done)|(simp [*];done)):p:=h
theorem r1_ {p:Prop} (h:p:=by first|rfl|(simp [errW_none,errW_some]<;>rfl)|(simp [*,errW_none,errW_some]<;>rfl)):p:=h
theorem k0_ {w:World} {g:Nat} {o:Obj} (h:w.heap[g]?=some o:=by (with_reducible repeat (first|refine blk_drewN ?_ _|refine blk_drew ?_|refine blk_alloc ?_ _|refine blk_far ?_ (Aside0.out (by assumption)) _));exact Aside0.out (by assumption)):w.heap[g]?=some o:=h
theorem bb_ {w w' w1:World} {g:Nat} {o:Obj} (H:Aside0 (w'.heap[g]?=some o)) (hb:Below w.heap.size w w1) (h:w'.heap[g]?=some o→w.heap[g]?=some o:=by intro hq_;(with_reducible repeat (first|refine blk_drewN ?_ _|refine blk_drew ?_|refine blk_alloc ?_ _|refine blk_far ?_ (Aside0.out (by assumption)) _));exact hq_):w1.heap[g]?=some o:=blk_below (h H.out) hb
theorem g0_ {g:Nat} {w w':World} (hg:g=w'.heap.size) (h:Below w.heap.size w w'):w.heap.size≤g:=hg▸below_size h
theorem g1_ {g g':Nat} {w:World} {o:Obj} (hg:g'=w.heap.size) (h:w.heap[g]?=some o):g≠g':=hg▸Nat.ne_of_lt (blk_lt h)
theorem g2_ {g g':Nat} {w:World} {o:Obj} (hg:g'=w.heap.size) (h:w.heap[g]?=some o):g'≠g:=hg▸Nat.ne_of_gt (blk_lt h)
theorem bx_ {P:Program} {ops:Array Oper} {Q:Exit→Act→World→Prop} {rest:List Oper} {o:Oper} {a:Act} {W:World} {N:Tmp} {cs:Array Value} {t:TypeId}
    (h:∀ g,g=W.heap.size→∀ w1,w1.heap[g]?=some (.cells cs t (0,0))→Below W.heap.size W w1→wpList P ops Q rest (a.put o.dst (.pointer (some ⟨g,0,none⟩))) w1)
    (hd:o.dst=some N:=by exact rfl) (hgd:o.guard=none:=by exact rfl) (hrun:(execOp a.eval o).run P W= .ok (.value (.pointer (some ⟨W.heap.size,0,none⟩))) (W.alloc (.cells cs t (0,0))):=by first|(go_simp;done)|(go_simp;rfl)):wpList P ops Q (o::rest) a W:=box_event hgd hd hrun h
theorem c0_ {p:Prop} (h:p:=by repeat (first|exact (Kd.C_below (Aside0.out (by assumption)) HB.out)|(with_reducible refine Kd.C_alloc ?_ _)|(with_reducible refine Kd.C_drewN ?_ _)|(with_reducible refine Kd.C_drew ?_))):p:=h
theorem c1_ {p q:Prop} (H:Aside0 q) (h:q→p:=by intro hq_;repeat (first|(with_reducible exact hq_)|(with_reducible refine Kd.C_alloc ?_ _)|(with_reducible refine Kd.C_drewN ?_ _)|(with_reducible refine Kd.C_drew ?_)|exact hq_)):p:=h H.out
theorem a0_ {p:Prop} (h:p:=by first|(rw [add_block];assumption)|(show (Addr.add _ _).block≠_;rw [add_block];assumption)|assumption):p:=h
theorem xN_ {p q:Prop} (H:Aside0 q) (h:q→p:=by intro hq_;(with_reducible repeat (first|apply Kd.N_alloc|apply Kd.N_drewN|apply Kd.N_drew));exact hq_):p:=h H.out
theorem xV_ {p q:Prop} (H:Aside0 q) (h:q→p:=by intro hq_;(with_reducible repeat (first|apply Kd.V_alloc|apply Kd.V_drewN|apply Kd.V_drew));exact hq_):p:=h H.out
theorem xR_ {p q:Prop} (H:Aside0 q) (h:q→p:=by intro hq_;(with_reducible repeat (first|apply Kd.R_alloc|apply Kd.R_drewN|apply Kd.R_drew));exact hq_):p:=h H.out
theorem xS_ {p q:Prop} (H:Aside0 q) (h:q→p:=by intro hq_;(with_reducible repeat (first|apply Kd.S_alloc|apply Kd.S_drewN|apply Kd.S_drew));exact hq_):p:=h H.out
theorem d0_ {w w':World} (h:Drawn0 w w':=by repeat (first|exact Drawn0.refl _|apply Drawn0.step)):Drawn0 w w':=h
theorem ce2_ {w:World} {g:Nat} {t:TypeId} {v0 v1:Value} (H:Aside0 (w.heap[g]?=some (.cells #[v0,v1] t (0,0)))):w.cell? ⟨g,0,none⟩=some v0∧w.cell? ⟨g,1,none⟩=some v1∧w.frozen? ⟨g,0,none⟩=false∧w.frozen? ⟨g,1,none⟩=false:=⟨(blk_cell H.out 0).trans rfl,(blk_cell H.out 1).trans rfl,blk_frozen H.out 0,blk_frozen H.out 1⟩
theorem ce3_ {w:World} {g:Nat} {t:TypeId} {v0 v1 v2:Value} (H:Aside0 (w.heap[g]?=some (.cells #[v0,v1,v2] t (0,0)))):w.cell? ⟨g,0,none⟩=some v0∧w.cell? ⟨g,1,none⟩=some v1∧w.cell? ⟨g,2,none⟩=some v2∧w.frozen? ⟨g,0,none⟩=false∧w.frozen? ⟨g,1,none⟩=false∧w.frozen? ⟨g,2,none⟩=false:=⟨(blk_cell H.out 0).trans rfl,(blk_cell H.out 1).trans rfl,(blk_cell H.out 2).trans rfl,blk_frozen H.out 0,blk_frozen H.out 1,blk_frozen H.out 2⟩
theorem ce4_ {w:World} {g:Nat} {t:TypeId} {v0 v1 v2 v3:Value} (H:Aside0 (w.heap[g]?=some (.cells #[v0,v1,v2,v3] t (0,0)))):w.cell? ⟨g,0,none⟩=some v0∧w.cell? ⟨g,1,none⟩=some v1∧w.cell? ⟨g,2,none⟩=some v2∧w.cell? ⟨g,3,none⟩=some v3∧w.frozen? ⟨g,0,none⟩=false∧w.frozen? ⟨g,1,none⟩=false∧w.frozen? ⟨g,2,none⟩=false∧w.frozen? ⟨g,3,none⟩=false:=⟨(blk_cell H.out 0).trans rfl,(blk_cell H.out 1).trans rfl,(blk_cell H.out 2).trans rfl,(blk_cell H.out 3).trans rfl,blk_frozen H.out 0,blk_frozen H.out 1,blk_frozen H.out 2,blk_frozen H.out 3⟩
theorem as2_ {p0 p1:Prop} (h0:p0) (h1:p1):Aside0 p0∧Aside0 p1:=⟨⟨h0⟩,⟨h1⟩⟩
theorem as3_ {p0 p1 p2:Prop} (h0:p0) (h1:p1) (h2:p2):Aside0 p0∧Aside0 p1∧Aside0 p2:=⟨⟨h0⟩,⟨h1⟩,⟨h2⟩⟩
theorem as4_ {p0 p1 p2 p3:Prop} (h0:p0) (h1:p1) (h2:p2) (h3:p3):Aside0 p0∧Aside0 p1∧Aside0 p2∧Aside0 p3:=⟨⟨h0⟩,⟨h1⟩,⟨h2⟩,⟨h3⟩⟩
theorem as5_ {p0 p1 p2 p3 p4:Prop} (h0:p0) (h1:p1) (h2:p2) (h3:p3) (h4:p4):Aside0 p0∧Aside0 p1∧Aside0 p2∧Aside0 p3∧Aside0 p4:=⟨⟨h0⟩,⟨h1⟩,⟨h2⟩,⟨h3⟩,⟨h4⟩⟩
theorem as6_ {p0 p1 p2 p3 p4 p5:Prop} (h0:p0) (h1:p1) (h2:p2) (h3:p3) (h4:p4) (h5:p5):Aside0 p0∧Aside0 p1∧Aside0 p2∧Aside0 p3∧Aside0 p4∧Aside0 p5:=⟨⟨h0⟩,⟨h1⟩,⟨h2⟩,⟨h3⟩,⟨h4⟩,⟨h5⟩⟩
theorem as7_ {p0 p1 p2 p3 p4 p5 p6:Prop} (h0:p0) (h1:p1) (h2:p2) (h3:p3) (h4:p4) (h5:p5) (h6:p6):Aside0 p0∧Aside0 p1∧Aside0 p2∧Aside0 p3∧Aside0 p4∧Aside0 p5∧Aside0 p6:=⟨⟨h0⟩,⟨h1⟩,⟨h2⟩,⟨h3⟩,⟨h4⟩,⟨h5⟩,⟨h6⟩⟩
theorem as8_ {p0 p1 p2 p3 p4 p5 p6 p7:Prop} (h0:p0) (h1:p1) (h2:p2) (h3:p3) (h4:p4) (h5:p5) (h6:p6) (h7:p7):Aside0 p0∧Aside0 p1∧Aside0 p2∧Aside0 p3∧Aside0 p4∧Aside0 p5∧Aside0 p6∧Aside0 p7:=⟨⟨h0⟩,⟨h1⟩,⟨h2⟩,⟨h3⟩,⟨h4⟩,⟨h5⟩,⟨h6⟩,⟨h7⟩⟩
theorem as9_ {p0 p1 p2 p3 p4 p5 p6 p7 p8:Prop} (h0:p0) (h1:p1) (h2:p2) (h3:p3) (h4:p4) (h5:p5) (h6:p6) (h7:p7) (h8:p8):Aside0 p0∧Aside0 p1∧Aside0 p2∧Aside0 p3∧Aside0 p4∧Aside0 p5∧Aside0 p6∧Aside0 p7∧Aside0 p8:=⟨⟨h0⟩,⟨h1⟩,⟨h2⟩,⟨h3⟩,⟨h4⟩,⟨h5⟩,⟨h6⟩,⟨h7⟩,⟨h8⟩⟩
theorem as10_ {p0 p1 p2 p3 p4 p5 p6 p7 p8 p9:Prop} (h0:p0) (h1:p1) (h2:p2) (h3:p3) (h4:p4) (h5:p5) (h6:p6) (h7:p7) (h8:p8) (h9:p9):Aside0 p0∧Aside0 p1∧Aside0 p2∧Aside0 p3∧Aside0 p4∧Aside0 p5∧Aside0 p6∧Aside0 p7∧Aside0 p8∧Aside0 p9:=⟨⟨h0⟩,⟨h1⟩,⟨h2⟩,⟨h3⟩,⟨h4⟩,⟨h5⟩,⟨h6⟩,⟨h7⟩,⟨h8⟩,⟨h9⟩⟩
theorem as11_ {p0 p1 p2 p3 p4 p5 p6 p7 p8 p9 p10:Prop} (h0:p0) (h1:p1) (h2:p2) (h3:p3) (h4:p4) (h5:p5) (h6:p6) (h7:p7) (h8:p8) (h9:p9) (h10:p10):Aside0 p0∧Aside0 p1∧Aside0 p2∧Aside0 p3∧Aside0 p4∧Aside0 p5∧Aside0 p6∧Aside0 p7∧Aside0 p8∧Aside0 p9∧Aside0 p10:=⟨⟨h0⟩,⟨h1⟩,⟨h2⟩,⟨h3⟩,⟨h4⟩,⟨h5⟩,⟨h6⟩,⟨h7⟩,⟨h8⟩,⟨h9⟩,⟨h10⟩⟩
theorem as12_ {p0 p1 p2 p3 p4 p5 p6 p7 p8 p9 p10 p11:Prop} (h0:p0) (h1:p1) (h2:p2) (h3:p3) (h4:p4) (h5:p5) (h6:p6) (h7:p7) (h8:p8) (h9:p9) (h10:p10) (h11:p11):Aside0 p0∧Aside0 p1∧Aside0 p2∧Aside0 p3∧Aside0 p4∧Aside0 p5∧Aside0 p6∧Aside0 p7∧Aside0 p8∧Aside0 p9∧Aside0 p10∧Aside0 p11:=⟨⟨h0⟩,⟨h1⟩,⟨h2⟩,⟨h3⟩,⟨h4⟩,⟨h5⟩,⟨h6⟩,⟨h7⟩,⟨h8⟩,⟨h9⟩,⟨h10⟩,⟨h11⟩⟩
theorem ob_ {α β:Type} {o:Option α} {f:α→Option β} {r:β} (h:o.bind f=some r):∃ x,Aside0 (o=some x)∧f x=some r:=(Option.bind_eq_some_iff.1 h).imp fun _ h=>⟨⟨h.1⟩,h.2⟩
theorem tp_ {α:Type} {x y z:α} {d:Decidable (true=true)} (h: @ite α (true=true) d x y=z):x=z:=(if_pos rfl).symm.trans h
theorem fn_ {α:Type} {x y z:α} {d:Decidable (false=true)} (h: @ite α (false=true) d x y=z):y=z:=(if_neg Bool.false_ne_true).symm.trans h
theorem gl_ {P:Program} {ops:Array Oper} {Q:Exit→Act→World→Prop} {rest:List Oper} {oi:Oper} {a:Act} {w:World} (N:Option Tmp) {f:FuncId} {fn:Func} (hf:P.funcs[f]?=some fn) (args:Array Value) {xs:Array Operand} {ts:Array TypeId}
    (h:Calls P f args w fun e w'=>∃ v,e= .returned v∧wpList P ops Q rest (a.put N v) w')
    (hop : oi.op = .call { callee := .value (.func f), args := xs, argTypes := ts } := by with_reducible exact rfl) (hd : oi.dst = N := by exact rfl) (hg : oi.guard = none := by exact rfl) (hname : (fn.name == "runtime.NumGoroutine") = false := by kernel_rfl) (hb : fn.body.isSome = true := by exact rfl)
    (hargs:xs.map a.eval=args:=by (try simp only [List.map_toArray,List.map_cons,List.map_nil]);first|done|rfl|(simp only [List.length_drop,List.length_take];rfl)):wpList P ops Q (oi::rest) a w:=goesL_ N hd hg hf hname hb args hop hargs h
theorem cel_ {w w':World} {a:Addr} {v:Value} (HB:Aside0 (Below w.heap.size w w')) (h:w.cell? a=some v):w'.cell? a=some v:=(HB.out.cell (World.block_lt_of_cell? w _ h)).trans h
end Go.Proofs.YtdlolaognnbhpaaDoorW.PrintLast
