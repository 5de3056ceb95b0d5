/- A part of the proof of laws of this seat: PatchBack, PatchDiff, PatchLeast, PatchMetric. Conditions: none of our own. -/
import Derived.Test.YtdlolaognnbhpaaDoorK8
import Derived.Test.YtdlolaognnbhpaaDoorK10
namespace Go.Proofs.YtdlolaognnbhpaaDoor.Pr
open Go.RowKit Go.Proofs.YtdlolaognnbhpaaDoorW.PrintWords Go.Proofs.YtdlolaognnbhpaaDoorW.PrintLast Go.Proofs.YtdlolaognnbhpaaDoorW.PrintMore
noncomputable section
attribute [local go_sem] max2_int min2_int max_two min_two max_three min_three max_four min_four
set_option linter.unusedVariables false
set_option linter.unusedSimpArgs false
def patch_fits.one (k:Nat) (a:List S50) (x:S53):Option Bool:=
  if 0≤x.f0∧a.length≤1000000∧x.f1.length≤1000000 then
    (if x.f0>a.length then some true else if x.f1.length>a.length - x.f0 then some true else (patch_equal.f k ((a.take (x.f0+x.f1.length).toNat).drop x.f0.toNat) x.f1).bind fun t=>some (!t)) else none
def patch_fits.find (k:Nat) (a:List S50):Int→List S53→Option Int
 |_,[]=>some (-1)
 |i,x::l=>(patch_fits.one k a x).bind fun t=>if t=true then some i else patch_fits.find k a (i+1) l
def patch_fits.f (k:Nat) (a:List S50) (l:List S53):Option Bool:=
  if l.length≤1000000 then (patch_Valid.f k l).bind fun v=>if v=true then (patch_fits.find k a 0 l).bind fun i=>some (decide (i<0)) else some false else none
set_option maxHeartbeats 4000000 in
set_option maxRecDepth 100000 in
theorem patch_fits.one_calls (k:Nat) (A:Option Addr) (c:Nat) (a:List S50) (g:Nat) (x:S53) (A1 A2:Option Addr) (c1 c2:Nat) (r:Bool) (w:World) (ha:Kd.C k50 w A a.length a) (hc:a.length≤c) (hg:w.heap[g]?=some (.cells #[.slice A a.length c] 22 (0,0))) (hx:Kd.C k50 w A1 x.f1.length x.f1) (hc1:x.f1.length≤c1) (h:patch_fits.one k a x=some r):
 Calls Tryd.prog 43 #[.agg #[.int .i64 x.f0,.slice A1 x.f1.length c1,.slice A2 x.f2.length c2],.pointer (some ⟨g,0,none⟩)] w fun e w'=>e= .returned (.bool r)∧Below w.heap.size w w':=by
 unfold patch_fits.one at h
 by_cases hb:0≤x.f0∧a.length≤1000000∧x.f1.length≤1000000
 {
 rw [if_pos hb] at h
 obtain ⟨h0,h2,h3⟩:=hb
 have HA:=Aside0.mk ha
 have HC:=Aside0.mk hc
 have HX:=Aside0.mk hx
 have HC1:=Aside0.mk hc1
 have hgl:=blk_lt hg
 have cg:(w.alloc (.cells #[.int .i64 x.f0,.slice A1 x.f1.length c1,.slice A2 x.f2.length c2] 53)).cell? ⟨g,0,none⟩=some (.slice A a.length c):=(blk_cell (blk_alloc hg _) 0).trans rfl
 clear ha hc hx hc1 hg
 by_cases hgt:x.f0>a.length
 {
 rw [if_pos hgt] at h
 obtain rfl:=Option.some.inj h
 have hd:decide ((a.length:Int)<x.f0)=true:=decide_eq_true hgt
 clear h
 go_enter Tryd.func43,Tryd.ntmps43
 go_wp2
 go_quiet (fail)
 go_wp2
 go_ret
 exact ⟨rfl,pw_below_drewN (below_alloc (Below.refl _ _) _) _⟩
 }
 {
 rw [if_neg hgt] at h
 have hd:decide ((a.length:Int)<x.f0)=false:=decide_eq_false hgt
 have hw1:IntKind.i64.wrap ((a.length:Int) - x.f0)=(a.length:Int) - x.f0:=IntWalk.i64_in _ (by omega)
 by_cases hgt2:x.f1.length>a.length - x.f0
 {
 rw [if_pos hgt2] at h
 obtain rfl:=Option.some.inj h
 have hd2:decide ((a.length:Int) - x.f0<(x.f1.length:Int))=true:=decide_eq_true hgt2
 clear h
 go_enter Tryd.func43,Tryd.ntmps43
 go_wp2
 go_quiet (fail)
 go_wp2
 go_ret
 exact ⟨rfl,pw_below_drewN (below_alloc (Below.refl _ _) _) _⟩
 }
 {
 rw [if_neg hgt2] at h
 obtain ⟨t,ht,h⟩:=Option.bind_eq_some_iff.1 h
 obtain rfl:=Option.some.inj h
 have hd2:decide ((a.length:Int) - x.f0<(x.f1.length:Int))=false:=decide_eq_false hgt2
 have hw2:IntKind.i64.wrap (x.f0+(x.f1.length:Int))=x.f0+(x.f1.length:Int):=IntWalk.i64_in _ (by omega)
 have hl:((a.take (x.f0+x.f1.length).toNat).drop x.f0.toNat).length=(x.f0+x.f1.length).toNat - x.f0.toNat:=by rw [List.length_drop,List.length_take];omega
 obtain ⟨y,hy⟩:∃ y,y=(a.take (x.f0+x.f1.length).toNat).drop x.f0.toNat:=⟨_,rfl⟩
 rw [←hy] at ht hl
 obtain ⟨i0,hi,_,hsz,_⟩:=info_parts info50
 have hcut:=cut_mid (P:=Tryd.prog) 22 50 .i64 .i64 Tryd.underlying22 hi 4 hsz A a.length c x.f0 (x.f0+x.f1.length) h0 (by omega) (by omega) HC.out
 have HCC:Aside0 (∀ w,Kd.C k50 w A a.length a→Kd.C k50 w (if c=x.f0.toNat then A else A.map (·.add (x.f0.toNat * 4))) y.length y):=⟨fun w h=>by
   have h2:=Kd.C_mid (lo:=x.f0.toNat) (hi:=(x.f0+x.f1.length).toNat) h (by omega) (by omega) HC.out
   rw [←hy] at h2
   exact h2⟩
 obtain ⟨Ay,hAy⟩:∃ A1,A1=(if c=x.f0.toNat then A else A.map (·.add (x.f0.toNat * 4))):=⟨_,rfl⟩
 obtain ⟨cy,hcy⟩:∃ c1,c1=c - x.f0.toNat:=⟨_,rfl⟩
 have HCY:Aside0 (y.length≤cy):=⟨by have:=HC.out;omega⟩
 rw [←hAy] at HCC
 rw [←hAy,←hcy,←hl] at hcut
 have HT:=Aside0.mk ht
 have e1:(w.alloc (.cells #[.int .i64 x.f0,.slice A1 x.f1.length c1,.slice A2 x.f2.length c2] 53)).heap[w.heap.size]?=some (.cells #[.int .i64 x.f0,.slice A1 x.f1.length c1,.slice A2 x.f2.length c2] 53 (0,0)):=blk_new w _
 have cx0:(w.alloc (.cells #[.int .i64 x.f0,.slice A1 x.f1.length c1,.slice A2 x.f2.length c2] 53)).cell? ⟨w.heap.size,0,none⟩=some (.int .i64 x.f0):=(blk_cell e1 0).trans rfl
 have cx1:(w.alloc (.cells #[.int .i64 x.f0,.slice A1 x.f1.length c1,.slice A2 x.f2.length c2] 53)).cell? ⟨w.heap.size,1,none⟩=some (.slice A1 x.f1.length c1):=(blk_cell e1 1).trans rfl
 have HW1:Aside0 (Below w.heap.size w (w.alloc (.cells #[.int .i64 x.f0,.slice A1 x.f1.length c1,.slice A2 x.f2.length c2] 53)).drew):=⟨below_drew (below_alloc (Below.refl _ _) _)⟩
 clear h ht hl hy hi hsz hAy hcy e1
 go_enter Tryd.func43,Tryd.ntmps43
 go_wp2
 go_region_held3 (fun w'=>w'.cell? ⟨g,0,none⟩=some (.slice A a.length c)∧w'.cell? ⟨w.heap.size,0,none⟩=some (.int .i64 x.f0)∧w'.cell? ⟨w.heap.size,1,none⟩=some (.slice A1 x.f1.length c1)) (first|go_keep|(go_split_ands;exact ⟨pw_cell_below hb5 (by assumption),pw_cell_below hb5 (by assumption),pw_cell_below hb5 (by assumption)⟩)) ((go_at_call 44;refine (patch_equal.calls k _ _ y _ _ x.f1 t _ (HCC.out _ (Kd.C_below HA.out HW1.out)) HCY.out (Kd.C_below HX.out HW1.out) HC1.out HT.out).mono ?_;rintro e w5 ⟨rfl,hb5⟩))
 go_wp2
 go_ret
 exact ⟨rfl,HW1.out.trans (hb5.mono HW1.out.size)⟩
 }
 }
 }
 {
 rw [if_neg hb] at h
 cases h
 }
set_option maxHeartbeats 4000000 in
set_option maxRecDepth 100000 in
theorem patch_fits.index_calls (k:Nat) (A:Option Addr) (c:Nat) (a:List S50) (g:Nat) (A1:Option Addr) (c1:Nat) (l:List S53) (r:Int) (w:World) (ha:Kd.C k50 w A a.length a) (hc:a.length≤c) (hg:w.heap[g]?=some (.cells #[.slice A a.length c] 22 (0,0))) (hx:Kd.C k53 w A1 l.length l) (hc1:l.length≤c1) (hl:l.length≤1000000) (h:patch_fits.find k a 0 l=some r):
 Calls Tryd.prog 57 #[.slice A1 l.length c1,.func (.func 43) #[] #[.pointer (some ⟨g,0,none⟩)]] w fun e w'=>e= .returned (.int .i64 r)∧Below w.heap.size w w':=by
 have HA:=Aside0.mk ha
 have HC:=Aside0.mk hc
 have HG:=Aside0.mk hg
 have HX:=Aside0.mk hx
 have HC1:=Aside0.mk hc1
 have HH:=Aside0.mk h
 clear ha hc hg hx hc1 h
 go_enter Tryd.func57,Tryd.ntmps57
 go_wp2
 go_loopw [8] (fun v8 wr=>∃ i:Int,v8= .int .i64 i∧0≤i∧i≤l.length∧Aside0 (patch_fits.find k a i (l.drop i.toNat)=some r)∧Aside0 (Below w.heap.size w wr)) (fun v8 _=>l.length - (RowKit.intOf v8).toNat)
 case atStart=>exact ⟨0,rfl,by omega,by omega,HH,⟨Below.refl _ _⟩⟩
 case round=>
  (
 clear HH
 obtain ⟨i,rfl,h0,h1,HH,HB⟩:=hrel
 by_cases hlt:i<l.length
 {
 have hd:decide (i<(l.length:Int))=true:=decide_eq_true hlt
 obtain ⟨ad,A3,c3,A4,c4,rfl,hx0,hx1,hx2,hl3,hr3,hl4,hr4⟩:=at_T53 (Kd.C_below HX.out HB.out) i h0 hlt
 have h:=HH.out
 have hn:i.toNat<l.length:=by omega
 rw [List.drop_eq_getElem_cons hn,patch_fits.find,show l[i.toNat]=rd_T53 l i from by unfold rd_T53;rw [List.getD_eq_getElem?_getD,List.getElem?_eq_getElem hn];rfl] at h
 obtain ⟨t,ht,h⟩:=Option.bind_eq_some_iff.1 h
 have HT:=Aside0.mk ht
 have HN:=Aside0.mk h
 have HL3:=Aside0.mk hl3
 have HR3:=Aside0.mk hr3
 clear h ht HH hl3 hr3 hl4 hr4 hn
 have hgB:=Aside0.mk (blk_below HG.out HB.out)
 cases t with
 |true=>
  (
 have h:=HN.out
 rw [if_pos rfl] at h
 obtain rfl:=Option.some.inj h
 clear h HN
 go_wp2_with (go_at_call 43;refine (patch_fits.one_calls k A c a g (rd_T53 l i) A3 A4 c3 c4 true _ (Kd.C_below HA.out HB.out) HC.out hgB.out HR3.out HL3.out HT.out).mono ?_;rintro e w5 ⟨rfl,hb5⟩)
 go_ret
 exact ⟨rfl,HB.out.trans (hb5.mono HB.out.size)⟩
  )
 |false=>
  (
 have h:=HN.out
 rw [if_neg (by decide)] at h
 have HN1:=Aside0.mk h
 clear h HN
 go_wp2_with (go_at_call 43;refine (patch_fits.one_calls k A c a g (rd_T53 l i) A3 A4 c3 c4 false _ (Kd.C_below HA.out HB.out) HC.out hgB.out HR3.out HL3.out HT.out).mono ?_;rintro e w5 ⟨rfl,hb5⟩)
 refine ⟨⟨i+1,rfl,by omega,by omega,⟨by have h:=HN1.out;rwa [show (i+1).toNat=i.toNat+1 by omega]⟩,⟨HB.out.trans (hb5.mono HB.out.size)⟩⟩,by simp [RowKit.intOf];omega⟩
  )
 }
 {
 have hd:decide (i<(l.length:Int))=false:=decide_eq_false hlt
 have h:=HH.out
 rw [List.drop_of_length_le (by omega),patch_fits.find] at h
 obtain rfl:=Option.some.inj h
 clear h HH
 go_wp2
 go_ret
 exact ⟨rfl,HB.out⟩
 }
  )
set_option maxHeartbeats 4000000 in
theorem patch_fits.contains_calls (k:Nat) (A:Option Addr) (c:Nat) (a:List S50) (g:Nat) (A1:Option Addr) (c1:Nat) (l:List S53) (r:Int) (w:World) (ha:Kd.C k50 w A a.length a) (hc:a.length≤c) (hg:w.heap[g]?=some (.cells #[.slice A a.length c] 22 (0,0))) (hx:Kd.C k53 w A1 l.length l) (hc1:l.length≤c1) (hl:l.length≤1000000) (h:patch_fits.find k a 0 l=some r):
 Calls Tryd.prog 42 #[.slice A1 l.length c1,.func (.func 43) #[] #[.pointer (some ⟨g,0,none⟩)]] w fun e w'=>e= .returned (.bool (decide (0≤r)))∧Below w.heap.size w w':=by
 go_enter Tryd.func42,Tryd.ntmps42
 have HH:Aside0 (Calls Tryd.prog 57 #[.slice A1 l.length c1,.func (.func 43) #[] #[.pointer (some ⟨g,0,none⟩)]] w fun e w'=>e= .returned (.int .i64 r)∧Below w.heap.size w w'):=⟨patch_fits.index_calls k A c a g A1 c1 l r w ha hc hg hx hc1 hl h⟩
 clear ha hc hg hx hc1 h
 go_wp2_with (go_at_call 57;refine HH.out.mono ?_;rintro e w5 ⟨rfl,hb5⟩)
 go_ret
 exact ⟨rfl,hb5⟩
set_option maxHeartbeats 4000000 in
set_option maxRecDepth 100000 in
theorem patch_fits.calls (k:Nat) (A0:Option Addr) (c0:Nat) (l0:List (S50)) (A1:Option Addr) (c1:Nat) (l1:List (S53)) (r:Bool) (w:World) (hr0:Kd.C k50 w A0 l0.length l0) (hc0:l0.length≤c0) (hr1:Kd.C k53 w A1 l1.length l1) (hc1:l1.length≤c1) (h:patch_fits.f k l0 l1=some r):
 Calls Tryd.prog 27 #[.slice A0 l0.length c0,.slice A1 l1.length c1] w fun e w'=>e= .returned (.bool r)∧Below w.heap.size w w':=by
 unfold patch_fits.f at h
 by_cases hl:l1.length≤1000000
 {
 rw [if_pos hl] at h
 obtain ⟨v,hv,h⟩:=Option.bind_eq_some_iff.1 h
 have HV:=Aside0.mk hv
 have HR0:=Aside0.mk hr0
 have HC0:=Aside0.mk hc0
 have HR1:=Aside0.mk hr1
 have HC1:=Aside0.mk hc1
 have HL:=Aside0.mk hl
 have HB0:Aside0 (Below w.heap.size w (w.alloc (.cells #[.slice A0 l0.length c0] 22))):=⟨below_alloc (Below.refl _ _) _⟩
 have BG0:Aside0 ((w.alloc (.cells #[.slice A0 l0.length c0] 22)).heap[w.heap.size]?=some (.cells #[.slice A0 l0.length c0] 22 (0,0))):=⟨blk_new w _⟩
 clear hv hr0 hc0 hr1 hc1 hl
 cases v with
 |false=>
  (
 rw [if_neg (by decide)] at h
 obtain rfl:=Option.some.inj h
 clear h
 go_enter Tryd.func27,Tryd.ntmps27
 go_wp2_with (go_at_call 21;refine (patch_Valid.calls k _ _ l1 false _ (Kd.C_below HR1.out HB0.out) HC1.out HV.out).mono ?_;rintro e w5 ⟨rfl,hb5⟩)
 go_ret
 exact ⟨rfl,HB0.out.trans (hb5.mono HB0.out.size)⟩
  )
 |true=>
  (
 rw [if_pos rfl] at h
 obtain ⟨i,hi,h⟩:=Option.bind_eq_some_iff.1 h
 obtain rfl:=Option.some.inj h
 have HI:=Aside0.mk hi
 clear h hi
 go_enter Tryd.func27,Tryd.ntmps27
 go_wp2_with (first|(go_at_call 21;refine (patch_Valid.calls k _ _ l1 true _ (Kd.C_below HR1.out HB0.out) HC1.out HV.out).mono ?_;rintro e w5 ⟨rfl,hb5⟩;have HB5:=Aside0.mk (HB0.out.trans (hb5.mono HB0.out.size));have BG5:=Aside0.mk (blk_below BG0.out hb5);clear hb5)|(go_at_call 42;refine (patch_fits.contains_calls k _ _ l0 w.heap.size _ _ l1 i _ (Kd.C_below HR0.out HB5.out) HC0.out BG5.out (Kd.C_below HR1.out HB5.out) HC1.out HL.out HI.out).mono ?_;rintro e w6 ⟨rfl,hb6⟩))
 go_ret
 have e_:decide (i<0)= !decide (0≤i):=by by_cases h:i<0<;>simp [h]<;>omega
 exact ⟨by rw [e_];rfl,HB5.out.trans (hb6.mono HB5.out.size)⟩
  )
 }
 {
 rw [if_neg hl] at h
 cases h
 }
def patch_sized.f (a0:Int) (l1:List (S50)):Option (Int×(List (S50))×Int):=if (l1.length:Int)<1 then (some (0,([]:List (S50)),3)) else (if (l1.length:Int)>60 then (some (0,([]:List (S50)),3)) else (some (a0,l1,0)))
set_option maxHeartbeats 8000000 in
set_option maxRecDepth 100000 in
theorem patch_sized.calls (a0:Int) (P1_:Nat→Prop) (A1:Option Addr) (c1:Nat) (l1:List (S50)) (r1:Int) (r2:List (S50)) (r3:Int) (w:World) (hs1:Kd.V k50 50 w w.heap.size (fun k_=>P1_ k_) (.slice A1 l1.length c1) l1) (h:patch_sized.f a0 l1=some (r1,r2,r3)):
 Calls Tryd.prog 31 #[.int .i64 a0,.slice A1 l1.length c1] w fun e w'=>∃ v1_:Value,e= .returned (.tuple #[.agg #[.int .i64 r1,v1_],.int .i64 r3])∧Kd.V k50 50 w' w.heap.size (fun k_=>(P1_ k_∨w.heap.size≤k_)) v1_ r2∧Below w.heap.size w w':=by
 have hu24:=Tryd.underlying24
 have HO1:=Aside0.mk (show Kd.V k50 50 w w.heap.size (fun k_=>(P1_ k_∨w.heap.size≤k_)) (.slice A1 l1.length c1) l1 from Kd.V_mono hs1 (fun k_ hk=> .inl hk))
 have HB:=Aside0.mk (Below.refl w.heap.size w)
 have H:(if (l1.length:Int)<1 then (some (0,([]:List (S50)),3)) else (if (l1.length:Int)>60 then (some (0,([]:List (S50)),3)) else (some (a0,l1,0))))=some (r1,r2,r3):=h
 clear h
 by_cases c3:(l1.length:Int)<1
 {
 rw [if_pos c3] at H
 have c3b0:decide ((l1.length:Int)<1)=true:=decide_eq_true c3
 have c3b1:decide (l1.length<1)=true:=decide_eq_true (by omega)
 clear c3
 simp only [Option.some.injEq,Prod.mk.injEq] at H
 obtain ⟨rfl,rfl,rfl⟩:=H
 go_enter Tryd.func31,Tryd.ntmps31
 go_wp2_with (first|((with_reducible refine gate_dst (N:=4) rfl ?_);(try (refine gate_guard (by rfl) ?_;dsimp only));refine bx_ (N:=4) (cs:=#[.int .i64 0,.slice none 0 0]) (t:=24) ?_;intro gb204 hg w4 hbox hb;have n_:=as5_ (Kd.V_below (Kd.V_elderB (xV_ HO1) gb204 (Nat.le_of_eq hg.symm)) hb) (below_step b0_ hb) (hbox) ((g0_ hg b0_:w.heap.size≤gb204)) ((g0_ hg b0_:w.heap.size≤gb204));clear HO1 HB;obtain ⟨HO1,HB,BK204,GW204,GE204⟩:=n_;clear hb hbox hg;obtain ⟨hcz5_0,hcz5_1,hfz5_0,hfz5_1⟩:=ce2_ BK204))
 refine bodyPost_ret (results_ct rfl _ _ gb204 24 #[.int .i64 0,.slice none 0 0] (0,0) _ rfl (by (with_reducible repeat (first|refine blk_drewN ?_ _|refine blk_drew ?_|refine blk_alloc ?_ _));refine blk_put (cs:=#[.int .i64 0,.slice none 0 0]) ?_ 1 _ rfl;(with_reducible repeat (first|refine blk_drewN ?_ _|refine blk_drew ?_|refine blk_alloc ?_ _));refine blk_put (cs:=#[.int .i64 0,.slice none 0 0]) ?_ 0 _ rfl;(with_reducible repeat (first|refine blk_drewN ?_ _|refine blk_drew ?_|refine blk_alloc ?_ _));exact BK204.out) Tryd.underlying24 rfl (by kernel_rfl)) rfl ?_
 exact ⟨_,r1_,(by first|exact Kd.V_nil _ _ _ _ _|exact Kd.V_mono (Kd.S_V (by first|exact Kd.S_nil _ _ _ _ _|exact Kd.N_nil _ _ _ _ _|exact Kd.V_nil _ _ _ _ _|exact Kd.Q_nil _ _ _ _ _|exact Kd.R_nil _ _ _ _ _)) (fun k_ hk=>by first|exact ⟨(.inr (hk.1)),hk.2⟩|exact (.inr (hk)))),b0_⟩
 }
 {
 rw [if_neg c3] at H
 have c3b0:decide ((l1.length:Int)<1)=false:=decide_eq_false c3
 have c3b1:decide (l1.length<1)=false:=decide_eq_false (by omega)
 clear c3
 by_cases c6:(l1.length:Int)>60
 {
 rw [if_pos c6] at H
 have c6b0:decide (60<(l1.length:Int))=true:=decide_eq_true c6
 have c6b1:decide (60<l1.length)=true:=decide_eq_true (by omega)
 clear c6
 simp only [Option.some.injEq,Prod.mk.injEq] at H
 obtain ⟨rfl,rfl,rfl⟩:=H
 go_enter Tryd.func31,Tryd.ntmps31
 go_wp2_with (first|((with_reducible refine gate_dst (N:=4) rfl ?_);(try (refine gate_guard (by rfl) ?_;dsimp only));refine bx_ (N:=4) (cs:=#[.int .i64 0,.slice none 0 0]) (t:=24) ?_;intro gb204 hg w7 hbox hb;have n_:=as5_ (Kd.V_below (Kd.V_elderB (xV_ HO1) gb204 (Nat.le_of_eq hg.symm)) hb) (below_step b0_ hb) (hbox) ((g0_ hg b0_:w.heap.size≤gb204)) ((g0_ hg b0_:w.heap.size≤gb204));clear HO1 HB;obtain ⟨HO1,HB,BK204,GW204,GE204⟩:=n_;clear hb hbox hg;obtain ⟨hcz8_0,hcz8_1,hfz8_0,hfz8_1⟩:=ce2_ BK204))
 refine bodyPost_ret (results_ct rfl _ _ gb204 24 #[.int .i64 0,.slice none 0 0] (0,0) _ rfl (by (with_reducible repeat (first|refine blk_drewN ?_ _|refine blk_drew ?_|refine blk_alloc ?_ _));refine blk_put (cs:=#[.int .i64 0,.slice none 0 0]) ?_ 1 _ rfl;(with_reducible repeat (first|refine blk_drewN ?_ _|refine blk_drew ?_|refine blk_alloc ?_ _));refine blk_put (cs:=#[.int .i64 0,.slice none 0 0]) ?_ 0 _ rfl;(with_reducible repeat (first|refine blk_drewN ?_ _|refine blk_drew ?_|refine blk_alloc ?_ _));exact BK204.out) Tryd.underlying24 rfl (by kernel_rfl)) rfl ?_
 exact ⟨_,r1_,(by first|exact Kd.V_nil _ _ _ _ _|exact Kd.V_mono (Kd.S_V (by first|exact Kd.S_nil _ _ _ _ _|exact Kd.N_nil _ _ _ _ _|exact Kd.V_nil _ _ _ _ _|exact Kd.Q_nil _ _ _ _ _|exact Kd.R_nil _ _ _ _ _)) (fun k_ hk=>by first|exact ⟨(.inr (hk.1)),hk.2⟩|exact (.inr (hk)))),b0_⟩
 }
 {
 rw [if_neg c6] at H
 have c6b0:decide (60<(l1.length:Int))=false:=decide_eq_false c6
 have c6b1:decide (60<l1.length)=false:=decide_eq_false (by omega)
 clear c6
 simp only [Option.some.injEq,Prod.mk.injEq] at H
 obtain ⟨rfl,rfl,rfl⟩:=H
 go_enter Tryd.func31,Tryd.ntmps31
 go_wp2_with (first|((with_reducible refine gate_dst (N:=4) rfl ?_);(try (refine gate_guard (by rfl) ?_;dsimp only));refine bx_ (N:=4) (cs:=#[.int .i64 0,.slice none 0 0]) (t:=24) ?_;intro gb204 hg w9 hbox hb;have n_:=as5_ (Kd.V_below (Kd.V_elderB (xV_ HO1) gb204 (Nat.le_of_eq hg.symm)) hb) (below_step b0_ hb) (hbox) ((g0_ hg b0_:w.heap.size≤gb204)) ((g0_ hg b0_:w.heap.size≤gb204));clear HO1 HB;obtain ⟨HO1,HB,BK204,GW204,GE204⟩:=n_;clear hb hbox hg;obtain ⟨hcz10_0,hcz10_1,hfz10_0,hfz10_1⟩:=ce2_ BK204))
 refine bodyPost_ret (results_ct rfl _ _ gb204 24 #[.int .i64 a0,.slice A1 l1.length c1] (0,0) _ rfl (by (with_reducible repeat (first|refine blk_drewN ?_ _|refine blk_drew ?_|refine blk_alloc ?_ _));refine blk_put (cs:=#[.int .i64 a0,.slice none 0 0]) ?_ 1 _ rfl;(with_reducible repeat (first|refine blk_drewN ?_ _|refine blk_drew ?_|refine blk_alloc ?_ _));refine blk_put (cs:=#[.int .i64 0,.slice none 0 0]) ?_ 0 _ rfl;(with_reducible repeat (first|refine blk_drewN ?_ _|refine blk_drew ?_|refine blk_alloc ?_ _));exact BK204.out) Tryd.underlying24 rfl (by kernel_rfl)) rfl ?_
 exact ⟨_,r1_,by (with_reducible repeat (first|apply Kd.V_alloc|apply Kd.V_drewN|apply Kd.V_drew));exact Kd.V_mono (Kd.V_far (p:=⟨gb204,1,none⟩) (Kd.V_far (p:=⟨gb204,0,none⟩) (Kd.V_mono HO1.out (fun k_ hk=>(⟨hk,hk.2⟩:_∧k_≠gb204))) (fun _ hk=>hk.2) (.int .i64 a0)) (fun _ hk=>hk.2) (.slice A1 l1.length c1)) (fun _ hk=>hk.1.1),b0_⟩
 }
 }
end
end Go.Proofs.YtdlolaognnbhpaaDoor.Pr
namespace Go.Proofs.YtdlolaognnbhpaaDoor.Pr
open Go.RowKit Go.Proofs.YtdlolaognnbhpaaDoorW.PrintWords Go.Proofs.YtdlolaognnbhpaaDoorW.PrintLast Go.Proofs.YtdlolaognnbhpaaDoorW.PrintMore
noncomputable section
attribute [local go_sem] max2_int min2_int max_two min_two max_three min_three max_four min_four
set_option linter.unusedVariables false
set_option linter.unusedSimpArgs false
def patch_result.l0:Nat→List (S50)→List (S50)→Int→List (S53)→Int→Int→Option ((List (S50)))
 |0,_,_,_,_,_,_=>none
 |k+1,x0,x5,x6,x9,x10,x11=>if x11<x10 then (if 0≤x11 then (if x11<(x9.length:Int) then (if 0≤x6 then (if x6≤((rd_T53 x9 x11).f0) then (if ((rd_T53 x9 x11).f0)≤(x0.length:Int) then ((patch_own.f k ((x0.take (((rd_T53 x9 x11).f0):Int).toNat).drop (x6:Int).toNat)).bind fun t211=>(if x5.length+t211.length<2932031007402 then ((some (x5++t211:List (S50))).bind fun y214=>((patch_own.f k ((rd_T53 x9 x11).f2)).bind fun t217=>(if y214.length+t217.length<2932031007402 then (patch_result.l0 k x0 (y214++t217) (wrap64 (((rd_T53 x9 x11).f0)+(((rd_T53 x9 x11).f1).length:Int))) x9 x10 (wrap64 (x11+1))) else (none)))) else (none))) else (none)) else (none)) else (none)) else (none)) else (none)) else (if 0≤x6 then (if x6≤(x0.length:Int) then ((patch_own.f k (x0.drop (x6:Int).toNat)).bind fun t227=>(if x5.length+t227.length<2932031007402 then (some (x5++t227)) else (none))) else (none)) else (none))
def patch_result.f (k:Nat) (l0:List (S50)) (l1:List (S53)):Option ((List (S50))):=patch_result.l0 k l0 ([]:List (S50)) 0 l1 (l1.length:Int) 0
def patch_result.T6:Bool×List (List Nat×List Nat):=(true,[([],[]),([],[]),([],[]),([],[]),([3],[3]),([1,2,4],[1,2,4]),([5],[5]),([0,6,6],[0,6]),([],[]),([8],[8]),([9,7],[9]),([7,10,10],[7,10]),([11,11,0,1,2,3,4,5,6,7,8,9,10,11],[0,11])])
def patch_result.B6:List Nat:=[0,0,0,0,8,30,62,127,0,256,1023,2047,4095]
theorem patch_result.tab6:rtab .any (opsOf Tryd.f32 6)=patch_result.T6:=by kernel_rfl
theorem patch_result.bits6:waitsOk patch_result.T6.2 patch_result.B6=true:=by kernel_rfl
set_option maxHeartbeats 8000000 in
set_option maxRecDepth 100000 in
theorem patch_result.calls (k:Nat) (A0:Option Addr) (c0:Nat) (l0:List (S50)) (A1:Option Addr) (c1:Nat) (l1:List (S53)) (r:List (S50)) (w:World) (hr0:Kd.C k50 w A0 l0.length l0) (hc0:l0.length≤c0) (hr1:Kd.C k53 w A1 l1.length l1) (hc1:l1.length≤c1) (h:patch_result.f k l0 l1=some r):
 Calls Tryd.prog 32 #[.slice A0 l0.length c0,.slice A1 l1.length c1] w fun e w'=>∃ v0_:Value,e= .returned (v0_)∧Kd.N k50 50 w' w.heap.size (fun k_=>(w.heap.size≤k_)) v0_ r∧Below w.heap.size w w':=by
 have hu53:=Tryd.underlying53
 have HR0:=Aside0.mk hr0
 have HC0:=Aside0.mk hc0
 clear hr0 hc0
 have HR1:=Aside0.mk hr1
 have HC1:=Aside0.mk hc1
 clear hr1 hc1
 have HB:=Aside0.mk (Below.refl w.heap.size w)
 have H:(patch_result.l0 k l0 ([]:List (S50)) 0 l1 (l1.length:Int) 0)=some r:=h
 clear h
 have H':=Aside0.mk H
 clear H
 go_enter Tryd.func32,Tryd.ntmps32
 go_wp2
 go_loopg [5,6,11] k (fun kq v5 v6 v11 w'=>∃ (x5_1:List (S50)) (x6_1:Int) (x11_1:Int),v6= .int .i64 x6_1∧v11= .int .i64 x11_1∧Aside0 (patch_result.l0 kq l0 x5_1 x6_1 l1 (l1.length:Int) x11_1=some r)∧Aside0 (kq≤k)∧Aside0 (Kd.N k50 50 w' w.heap.size (fun k_=>(w.heap.size≤k_)) v5 x5_1)∧Aside0 (Below w.heap.size w w'))
 case atStart=>exact ⟨(([]:List (S50))),(0),(0),r0_,r0_,H',⟨Nat.le_refl _⟩,⟨by first|exact Kd.S_nil _ _ _ _ _|exact Kd.N_nil _ _ _ _ _|exact Kd.V_nil _ _ _ _ _|exact Kd.Q_nil _ _ _ _ _|exact Kd.R_nil _ _ _ _ _⟩,⟨b0_⟩⟩
 case round=>
  (
 clear H'
 try clear c1
 try clear p2
 obtain ⟨x5_1,x6_1,x11_1,rfl,rfl,HA,HK1,HO_5,HB⟩:=hrel
 cases gk with
 |zero=>exact absurd HA.out (by simp [patch_result.l0])
 |succ k1=>
  (
 have H:=HA.out
 clear HA
 simp only [patch_result.l0] at H
 by_cases c3:x11_1<(l1.length:Int)
 {
 rw [if_pos c3] at H
 have c3b0:decide (x11_1<(l1.length:Int))=true:=decide_eq_true c3
 clear c3
 by_cases c4:0≤x11_1
 {
 rw [if_pos c4] at H
 have c4b0:decide (0≤x11_1)=true:=decide_eq_true c4
 clear c4
 by_cases c5:x11_1<(l1.length:Int)
 {
 rw [if_pos c5] at H
 have c5b0:decide (x11_1<(l1.length:Int))=true:=decide_eq_true c5
 clear c5
 by_cases c6:0≤x6_1
 {
 rw [if_pos c6] at H
 have c6b0:=eq_true c6
 have c6b1:decide (0≤x6_1)=true:=decide_eq_true c6
 clear c6
 by_cases c7:x6_1≤((rd_T53 l1 x11_1).f0)
 {
 rw [if_pos c7] at H
 have c7b0:=eq_true c7
 have c7b1:decide (x6_1≤((rd_T53 l1 x11_1).f0))=true:=decide_eq_true c7
 clear c7
 by_cases c8:((rd_T53 l1 x11_1).f0)≤(l0.length:Int)
 {
 rw [if_pos c8] at H
 have c8b0:=eq_true c8
 have c8b1:decide (((rd_T53 l1 x11_1).f0)≤(l0.length:Int))=true:=decide_eq_true c8
 clear c8
 obtain ⟨y207,hy207⟩:∃ y_:List (S50),y_=((l0.take (((rd_T53 l1 x11_1).f0):Int).toNat).drop (x6_1:Int).toNat):=⟨_,rfl⟩
 replace H:((patch_own.f k1 y207).bind fun t211=>(if x5_1.length+t211.length<2932031007402 then ((some (x5_1++t211:List (S50))).bind fun y214=>((patch_own.f k1 ((rd_T53 l1 x11_1).f2)).bind fun t217=>(if y214.length+t217.length<2932031007402 then (patch_result.l0 k1 l0 (y214++t217) (wrap64 (((rd_T53 l1 x11_1).f0)+(((rd_T53 l1 x11_1).f1).length:Int))) l1 (l1.length:Int) (wrap64 (x11_1+1))) else (none)))) else (none)))=some r:=by first|(rw [hy207];with_reducible exact H)|(have H2_:=(Option.bind_some _ _).symm.trans H;rw [hy207];with_reducible exact H2_)|(have H2_:=(Option.bind_some _ _).symm.trans H;with_reducible exact H2_)|with_reducible exact H|(rw [hy207];exact H)|exact H
 have Ny207:=Aside0.mk hy207
 clear hy207
 obtain ⟨t211,A9,H⟩:=ob_ H
 by_cases c10:x5_1.length+t211.length<2932031007402
 {
 rw [if_pos c10] at H
 have LMc10:=Aside0.mk c10
 clear c10
 obtain ⟨y214,hy214⟩:∃ y_:List (S50),y_=(x5_1++t211):=⟨_,rfl⟩
 replace H:((patch_own.f k1 ((rd_T53 l1 x11_1).f2)).bind fun t217=>(if y214.length+t217.length<2932031007402 then (patch_result.l0 k1 l0 (y214++t217) (wrap64 (((rd_T53 l1 x11_1).f0)+(((rd_T53 l1 x11_1).f1).length:Int))) l1 (l1.length:Int) (wrap64 (x11_1+1))) else (none)))=some r:=by first|(rw [hy214];with_reducible exact H)|(have H2_:=(Option.bind_some _ _).symm.trans H;rw [hy214];with_reducible exact H2_)|(have H2_:=(Option.bind_some _ _).symm.trans H;with_reducible exact H2_)|with_reducible exact H|(rw [hy214];exact H)|exact H
 have Ny214:=Aside0.mk hy214
 clear hy214
 obtain ⟨t217,A11,H⟩:=ob_ H
 by_cases c12:y214.length+t217.length<2932031007402
 {
 rw [if_pos c12] at H
 have LMc12:=Aside0.mk c12
 clear c12
 obtain ⟨y220,hy220⟩:∃ y_:List (S50),y_=(y214++t217):=⟨_,rfl⟩
 replace H:(patch_result.l0 k1 l0 y220 (wrap64 (((rd_T53 l1 x11_1).f0)+(((rd_T53 l1 x11_1).f1).length:Int))) l1 (l1.length:Int) (wrap64 (x11_1+1)))=some r:=by first|(rw [hy220];with_reducible exact H)|(have H2_:=(Option.bind_some _ _).symm.trans H;rw [hy220];with_reducible exact H2_)|(have H2_:=(Option.bind_some _ _).symm.trans H;with_reducible exact H2_)|with_reducible exact H|(rw [hy220];exact H)|exact H
 have Ny220:=Aside0.mk hy220
 clear hy220
 have H':=Aside0.mk H
 clear H
 have p205:0≤(x11_1:Int):=od_
 have q205:x11_1<(l1.length:Int):=od_
 obtain ⟨ad205,A205_1,c205_1,A205_2,c205_2,e205,hx205_0,hx205_1,hx205_2,hl205_1,hi205_1,hl205_2,hi205_2⟩:=at_T53 HR1.out x11_1 p205 q205
 cases e205
 replace hx205_0:=cel_ HB hx205_0
 replace hx205_1:=cel_ HB hx205_1
 replace hx205_2:=cel_ HB hx205_2
 have HR205_1:=Aside0.mk hi205_1
 have HC205_1:=Aside0.mk hl205_1
 clear hi205_1 hl205_1
 have HR205_2:=Aside0.mk hi205_2
 have HC205_2:=Aside0.mk hl205_2
 clear hi205_2 hl205_2
 replace p205:=eq_true p205
 replace q205:=eq_true q205
 try go_wp2_with (first|((with_reducible refine gate_dst (N:=8) rfl ?_);refine bx_ (N:=8) (cs:=#[.int .i64 0,.slice none 0 0,.slice none 0 0]) (t:=53) ?_;intro gb206 hg w13 hbox hb;have n_:=as5_ (Kd.N_below (Kd.N_elderB (xN_ HO_5) gb206 (Nat.le_of_eq hg.symm)) hb) (below_step b0_ hb) (hbox) ((g0_ hg b0_:w.heap.size≤gb206)) ((g0_ hg b0_:w.heap.size≤gb206));clear HO_5 HB;obtain ⟨HO_5,HB,BK206,GW206,GE206⟩:=n_;clear hb hbox hg;obtain ⟨hcz14_0,hcz14_1,hcz14_2,hfz14_0,hfz14_1,hfz14_2⟩:=ce3_ BK206))
 have n0_:Aside0 (Kd.N k50 50 (((w13.setCell ⟨gb206,0,none⟩ (.int .i64 ((rd_T53 l1 x11_1).f0))).setCell ⟨gb206,1,none⟩ (.slice A205_1 ((rd_T53 l1 x11_1).f1).length c205_1)).setCell ⟨gb206,2,none⟩ (.slice A205_2 ((rd_T53 l1 x11_1).f2).length c205_2)) w.heap.size (fun k_=>(w.heap.size≤k_)∧k_≠gb206) u5 x5_1):=⟨by (with_reducible repeat (first|apply Kd.N_alloc|apply Kd.N_drewN|apply Kd.N_drew));exact Kd.N_mono (Kd.N_far (p:=⟨gb206,2,none⟩) (Kd.N_far (p:=⟨gb206,1,none⟩) (Kd.N_far (p:=⟨gb206,0,none⟩) (Kd.N_mono HO_5.out (fun k_ hk=>(⟨hk,hk.2⟩:_∧k_≠gb206))) (fun _ hk=>hk.2) (.int .i64 ((rd_T53 l1 x11_1).f0))) (fun _ hk=>hk.2) (.slice A205_1 ((rd_T53 l1 x11_1).f1).length c205_1)) (fun _ hk=>hk.2) (.slice A205_2 ((rd_T53 l1 x11_1).f2).length c205_2)) (fun _ hk=>⟨hk.1.1,hk.1.2⟩)⟩
 have n1_:Aside0 ((((w13.setCell ⟨gb206,0,none⟩ (.int .i64 ((rd_T53 l1 x11_1).f0))).setCell ⟨gb206,1,none⟩ (.slice A205_1 ((rd_T53 l1 x11_1).f1).length c205_1)).setCell ⟨gb206,2,none⟩ (.slice A205_2 ((rd_T53 l1 x11_1).f2).length c205_2)).heap[gb206]?=some (.cells #[.int .i64 ((rd_T53 l1 x11_1).f0),.slice A205_1 ((rd_T53 l1 x11_1).f1).length c205_1,.slice A205_2 ((rd_T53 l1 x11_1).f2).length c205_2] 53 (0,0))):=⟨by (with_reducible repeat (first|refine blk_drewN ?_ _|refine blk_drew ?_|refine blk_alloc ?_ _));refine blk_put (cs:=#[.int .i64 ((rd_T53 l1 x11_1).f0),.slice A205_1 ((rd_T53 l1 x11_1).f1).length c205_1,.slice none 0 0]) ?_ 2 _ rfl;(with_reducible repeat (first|refine blk_drewN ?_ _|refine blk_drew ?_|refine blk_alloc ?_ _));refine blk_put (cs:=#[.int .i64 ((rd_T53 l1 x11_1).f0),.slice none 0 0,.slice none 0 0]) ?_ 1 _ rfl;(with_reducible repeat (first|refine blk_drewN ?_ _|refine blk_drew ?_|refine blk_alloc ?_ _));refine blk_put (cs:=#[.int .i64 0,.slice none 0 0,.slice none 0 0]) ?_ 0 _ rfl;(with_reducible repeat (first|refine blk_drewN ?_ _|refine blk_drew ?_|refine blk_alloc ?_ _));exact BK206.out⟩
 have n2_:Aside0 (Below w.heap.size w (((w13.setCell ⟨gb206,0,none⟩ (.int .i64 ((rd_T53 l1 x11_1).f0))).setCell ⟨gb206,1,none⟩ (.slice A205_1 ((rd_T53 l1 x11_1).f1).length c205_1)).setCell ⟨gb206,2,none⟩ (.slice A205_2 ((rd_T53 l1 x11_1).f2).length c205_2))):=⟨b0_⟩
 (try clear HO_5)
 (try clear BK206)
 (try clear HB)
 generalize (((w13.setCell ⟨gb206,0,none⟩ (.int .i64 ((rd_T53 l1 x11_1).f0))).setCell ⟨gb206,1,none⟩ (.slice A205_1 ((rd_T53 l1 x11_1).f1).length c205_1)).setCell ⟨gb206,2,none⟩ (.slice A205_2 ((rd_T53 l1 x11_1).f2).length c205_2))=w15 at n0_ n1_ n2_⊢
 have HO_5:=n0_
 have BK206:=n1_
 have HB:=n2_
 clear n0_ n1_ n2_
 have n0_:=Aside0.mk (Kd.N_drew HO_5.out)
 have n1_:=Aside0.mk (blk_drew BK206.out)
 have n2_:=Aside0.mk (below_drew1 HB.out)
 clear HO_5
 clear BK206
 clear HB
 have HO_5:=n0_
 have BK206:=n1_
 have HB:=n2_
 clear n0_ n1_ n2_
 have q17:(((rd_T53 l1 x11_1).f0):Int)≤((l0.length:Int):Int):=od_
 obtain ⟨i017,hi017,_,hsz17,_⟩:=info_parts info50
 have hroom17:l0.length≤c0:=HC0.out
 have hC17:Kd.C k50 _ A0 l0.length l0:=HR0.out
 have ql17:(x6_1:Int)≤(((rd_T53 l1 x11_1).f0):Int):=od_
 have q017:(0:Int)≤(x6_1:Int):=od_
 have hcut17:=cut_mid (P:=Tryd.prog) 22 50 .i64 .i64 Tryd.underlying22 hi017 4 hsz17 A0 l0.length c0 x6_1 ((rd_T53 l1 x11_1).f0) q017 ql17 q17 hroom17
 have hr17:=Kd.C_mid (lo:=(x6_1:Int).toNat) (hi:=(((rd_T53 l1 x11_1).f0):Int).toNat) (c:=c0) hC17 (by omega) (by omega) hroom17
 obtain ⟨A17,hA17⟩:∃ A1,A1=(if c0=(x6_1:Int).toNat then A0 else (A0:Option Addr).map (·.add ((x6_1:Int).toNat * 4))):=⟨_,rfl⟩
 obtain ⟨c17,hc17⟩:∃ c1,c1=c0 - (x6_1:Int).toNat:=⟨_,rfl⟩
 have hy17:y207.length=(((rd_T53 l1 x11_1).f0):Int).toNat - (x6_1:Int).toNat:=(by rw [Ny207.out,List.length_drop,List.length_take]<;>omega)
 rw [show ((l0).take (((rd_T53 l1 x11_1).f0):Int).toNat).drop (x6_1:Int).toNat=y207 from Ny207.out.symm] at hr17
 replace hr17:Kd.C k50 _ A17 y207.length y207:=(by rw [hA17];exact hr17)
 rw [←hy17,←hA17,←hc17] at hcut17
 have HR210:=Aside0.mk hr17
 have HC210:=Aside0.mk (show y207.length≤c17 from by rw [hy17,hc17];exact Nat.sub_le_sub_right (Nat.le_trans (by omega) hroom17) _)
 clear hr17 hC17 hroom17 hi017 hsz17 hc17
 have KY17:=Aside0.mk hy17
 have KA17:=Aside0.mk hA17
 clear hy17 hA17
 replace q17:=eq_true q17
 refine start_ (n:=13) (S:=fun w'=>w'.cell? ⟨gb206,0,none⟩=some (.int .i64 ((rd_T53 l1 x11_1).f0))∧w'.cell? ⟨gb206,1,none⟩=some (.slice A205_1 ((rd_T53 l1 x11_1).f1).length c205_1)∧w'.cell? ⟨gb206,2,none⟩=some (.slice A205_2 ((rd_T53 l1 x11_1).f2).length c205_2)) (ds:=[]) #[false,false,false,false,false,false,false,false,false,false,false,false,false] (by kernel_rfl) rfl rfl ⟨(blk_cell BK206.out 0).trans rfl,(blk_cell BK206.out 1).trans rfl,(blk_cell BK206.out 2).trans rfl⟩ (fun hHeld=> ?_);refine with_tabW patch_result.tab6 patch_result.bits6 (fun HT_ HW_=> ?_)
 generalize w15.drew=w16 at HO_5 BK206 HB HR210 hHeld⊢
 refine pA_ (i:=0) (N:=some 15) HT_ ?_
 refine pA_ (i:=1) (N:=some 16) HT_ ?_
 refine pA_ (i:=2) (N:=some 17) HT_ ?_
 refine pA_ (i:=3) (N:=some 18) HT_ ?_
 refine pA_ (i:=8) (N:=some 23) HT_ ?_
 refine tA_ (i:=4) (N:=some 19) HT_ HW_ hHeld ?_
 refine pA_ (i:=5) (N:=some 20) HT_ ?_
 refine tA_ (i:=9) (N:=some 24) HT_ HW_ hHeld ?_
 refine one_ (i:=6) (N:=some 21) #[true,true,true,true,true,true,true,false,true,true,false,false,false] rfl rfl (one_of HT_.out (by kernel_rfl)) (by decide) (fun K hK=> ?_)
 refine goes_ Tryd.func34 (by kernel_rfl) rfl #[.slice A17 y207.length c17] (by rfl) rfl rfl ml_ ?_
 with_reducible refine (patch_own.calls k1 _ _ y207 t211 _ ?side1 ?side2 A9.out).mono ?_
 (case side1=>exact c0_)
 (case side2=>exact HC210.out)
 rintro e w18 ⟨v212,rfl,ho0,hb⟩
 refine ⟨_,rfl,?_⟩
 have n0_:=Aside0.mk (Kd.N_elder' (xN_ HO_5) (by first|exact Kd.N_base ho0|exact Kd.S_base ho0|exact Kd.R_base ho0) hb)
 have n1_:=Aside0.mk (Kd.N_lower (Kd.N_mono (ok':=fun k_=>(w.heap.size≤k_)∧some k_≠(u5:Value).ownBlock∧k_≠gb206) (Kd.S_N (Kd.S_bound ho0)) (fun k_ hk_=>⟨(Nat.le_trans (below_size b0_) hk_.2.1),(Kd.fresh' (Kd.N_lt (xN_ HO_5)) k_ hk_.2.1),(Kd.freshB (g:=gb206) (o:= .cells #[.int .i64 ((rd_T53 l1 x11_1).f0),.slice A205_1 ((rd_T53 l1 x11_1).f1).length c205_1,.slice A205_2 ((rd_T53 l1 x11_1).f2).length c205_2] 53 (0,0)) k0_ k_ hk_.2.1)⟩)) (below_size b0_))
 have n2_:=Aside0.mk (bb_ BK206 hb)
 have n3_:=Aside0.mk (below_step b0_ hb)
 clear HO_5
 clear BK206
 clear HB
 have HO_5:=n0_
 have HO213:=n1_
 have BK206:=n2_
 have HB:=n3_
 clear n0_ n1_ n2_ n3_
 (try clear hb)
 (try clear hk)
 (try clear hi)
 (try clear ho0)
 obtain ⟨Ao20,co20,eo20⟩:=Kd.N_slice HO213.out
 (first|subst eo20|(injection eo20 with f1_ f2_ f3_;have f4_:=f1_.symm;have f5_:=f3_.symm;clear f1_ f2_ f3_;subst f4_;subst f5_))
 refine hK.out _ _ ⟨(blk_cell BK206.out 0).trans rfl,(blk_cell BK206.out 1).trans rfl,(blk_cell BK206.out 2).trans rfl⟩ (fun hHeld=> ?_)
 clear hK K
 refine norm_ (a':=?_) ?_ ?_
 rotate_left
 {
 show Act.put _ (some 21) _=_
 simp only [Act.put,List.setIfInBounds_toArray,List.set_cons_zero,List.set_cons_succ,i64_w,i32_w]
 rfl
 }
 refine one_ (i:=7) (N:=some 22) #[true,true,true,true,true,true,true,true,true,true,false,false,false] rfl rfl (one_of HT_.out (by kernel_rfl)) (by decide) (fun K hK=> ?_)
 refine Kd.N_append_rows_step k50 (w0:=w) w.heap.size (by rfl) (.tmp 15) (.tmp 21) 22 50 (.agg #[(.string ⟨#[]⟩),(.int .u8 0),(.int .u8 0),(.slice none 0 0)]) 48 rfl Tryd.underlying22 info50 rfl (by decide) (by omega) u5 x5_1 t211 _ _ _ (fun k_=>(w.heap.size≤k_)∧k_≠gb206) (fun k_=>((fun k_=>(w.heap.size≤k_)∧k_≠gb206)) k_∧some k_≠(u5:Value).ownBlock) rfl rfl ?aO ?aR (fun _ hk=>hk) ?aF ?aB ?aS ?aL ?_
 (case aR=>exact (by skip;exact Kd.N_F (Kd.N_mono (ok':=(fun k_=>((fun k_=>(w.heap.size≤k_)∧k_≠gb206)) k_∧some k_≠(u5:Value).ownBlock)) (HO213.out) (fun k_ hk=>⟨⟨hk.1,hk.2.2⟩,hk.2.1⟩))))
 (case aB=>exact b0_)
 (case aF=>exact (fun k_ hk=>⟨(Nat.le_trans (below_size b0_) hk),Kd.freshB (g:=gb206) (o:= .cells #[.int .i64 ((rd_T53 l1 x11_1).f0),.slice A205_1 ((rd_T53 l1 x11_1).f1).length c205_1,.slice A205_2 ((rd_T53 l1 x11_1).f2).length c205_2] 53 (0,0)) k0_ k_ hk⟩))
 (case aO=>exact (by (with_reducible repeat (first|apply Kd.N_alloc|apply Kd.N_drewN|apply Kd.N_drew));exact Kd.N_mono HO_5.out (fun _ hk=>⟨hk.1.1,hk.1.2⟩)))
 (case aS=>exact (below_size b0_))
 (case aL=>have:=LMc10.out;omega)
 intro v215 w19 ho hb hg hat
 rw [←Ny214.out] at ho
 have n0_:=Aside0.mk (blk_grown (g:=gb206) (o:= .cells #[.int .i64 ((rd_T53 l1 x11_1).f0),.slice A205_1 ((rd_T53 l1 x11_1).f1).length c205_1,.slice A205_2 ((rd_T53 l1 x11_1).f2).length c205_2] 53 (0,0)) k0_ hg (Kd.N_ne HO_5.out BK206.out (by decide)))
 have n1_:=Aside0.mk (Kd.N_afterv (ok:=(fun k_=>(w.heap.size≤k_)∧k_≠gb206)) (by (with_reducible repeat (first|apply Kd.N_alloc|apply Kd.N_drewN|apply Kd.N_drew));exact Kd.N_mono HO213.out (fun _ hk=>⟨⟨hk.1,hk.2.2⟩,hk.2.1⟩)) hg hat)
 have n2_:=Aside0.mk (hb)
 have n3_:=Aside0.mk (ho)
 clear BK206
 clear HO213
 clear HB
 clear HO_5
 have BK206:=n0_
 have HO213:=n1_
 have HB:=n2_
 have HO216:=n3_
 clear n0_ n1_ n2_ n3_
 clear ho hb hg hat
 refine hK.out _ _ ⟨(blk_cell BK206.out 0).trans rfl,(blk_cell BK206.out 1).trans rfl,(blk_cell BK206.out 2).trans rfl⟩ (fun hHeld=> ?_)
 clear hK K
 refine norm_ (a':=?_) ?_ ?_
 rotate_left
 {
 show Act.put _ (some 22) _=_
 simp only [Act.put,List.setIfInBounds_toArray,List.set_cons_zero,List.set_cons_succ,i64_w,i32_w]
 rfl
 }
 refine one_ (i:=10) (N:=some 25) #[true,true,true,true,true,true,true,true,true,true,true,false,false] rfl rfl (one_of HT_.out (by kernel_rfl)) (by decide) (fun K hK=> ?_)
 refine goes_ Tryd.func34 (by kernel_rfl) rfl #[.slice A205_2 ((rd_T53 l1 x11_1).f2).length c205_2] (by rfl) rfl rfl ml_ ?_
 with_reducible refine (patch_own.calls k1 _ _ ((rd_T53 l1 x11_1).f2) t217 _ ?side1 ?side2 A11.out).mono ?_
 (case side1=>exact c0_)
 (case side2=>exact HC205_2.out)
 rintro e w21 ⟨v218,rfl,ho0,hb⟩
 refine ⟨_,rfl,?_⟩
 have n0_:=Aside0.mk (Kd.N_elder' (xN_ HO213) (by first|exact Kd.N_base ho0|exact Kd.S_base ho0|exact Kd.R_base ho0) hb)
 have n1_:=Aside0.mk (Kd.N_elder' (xN_ HO216) (by first|exact Kd.N_base ho0|exact Kd.S_base ho0|exact Kd.R_base ho0) hb)
 have n2_:=Aside0.mk (Kd.N_lower (Kd.N_mono (ok':=fun k_=>(w.heap.size≤k_)∧some k_≠(.slice Ao20 t211.length co20:Value).ownBlock∧some k_≠(v215:Value).ownBlock∧k_≠gb206) (Kd.S_N (Kd.S_bound ho0)) (fun k_ hk_=>⟨(Nat.le_trans (below_size b0_) hk_.2.1),(Kd.fresh' (Kd.N_lt (xN_ HO213)) k_ hk_.2.1),(Kd.fresh' (Kd.N_lt (xN_ HO216)) k_ hk_.2.1),(Kd.freshB (g:=gb206) (o:= .cells #[.int .i64 ((rd_T53 l1 x11_1).f0),.slice A205_1 ((rd_T53 l1 x11_1).f1).length c205_1,.slice A205_2 ((rd_T53 l1 x11_1).f2).length c205_2] 53 (0,0)) k0_ k_ hk_.2.1)⟩)) (below_size b0_))
 have n3_:=Aside0.mk (bb_ BK206 hb)
 have n4_:=Aside0.mk (below_step b0_ hb)
 clear HO213
 clear HO216
 clear BK206
 clear HB
 have HO213:=n0_
 have HO216:=n1_
 have HO219:=n2_
 have BK206:=n3_
 have HB:=n4_
 clear n0_ n1_ n2_ n3_ n4_
 (try clear hb)
 (try clear hk)
 (try clear hi)
 (try clear ho0)
 obtain ⟨Ao23,co23,eo23⟩:=Kd.N_slice HO219.out
 (first|subst eo23|(injection eo23 with f1_ f2_ f3_;have f4_:=f1_.symm;have f5_:=f3_.symm;clear f1_ f2_ f3_;subst f4_;subst f5_))
 refine hK.out _ _ ⟨(blk_cell BK206.out 0).trans rfl,(blk_cell BK206.out 1).trans rfl,(blk_cell BK206.out 2).trans rfl⟩ (fun hHeld=> ?_)
 clear hK K
 refine norm_ (a':=?_) ?_ ?_
 rotate_left
 {
 show Act.put _ (some 25) _=_
 simp only [Act.put,List.setIfInBounds_toArray,List.set_cons_zero,List.set_cons_succ,i64_w,i32_w]
 rfl
 }
 refine one_ (i:=11) (N:=some 26) #[true,true,true,true,true,true,true,true,true,true,true,true,false] rfl rfl (one_of HT_.out (by kernel_rfl)) (by decide) (fun K hK=> ?_)
 refine Kd.N_append_rows_step k50 (w0:=w) w.heap.size (by rfl) (.tmp 22) (.tmp 25) 22 50 (.agg #[(.string ⟨#[]⟩),(.int .u8 0),(.int .u8 0),(.slice none 0 0)]) 48 rfl Tryd.underlying22 info50 rfl (by decide) (by omega) v215 y214 t217 _ _ _ (fun k_=>(w.heap.size≤k_)∧k_≠gb206) (fun k_=>((fun k_=>(w.heap.size≤k_)∧k_≠gb206)) k_∧some k_≠(v215:Value).ownBlock) rfl rfl ?aO ?aR (fun _ hk=>hk) ?aF ?aB ?aS ?aL ?_
 (case aR=>exact (by skip;exact Kd.N_F (Kd.N_mono (ok':=(fun k_=>((fun k_=>(w.heap.size≤k_)∧k_≠gb206)) k_∧some k_≠(v215:Value).ownBlock)) (HO219.out) (fun k_ hk=>⟨⟨hk.1,hk.2.2.2⟩,hk.2.2.1⟩))))
 (case aB=>exact b0_)
 (case aF=>exact (fun k_ hk=>⟨(Nat.le_trans (below_size b0_) hk),Kd.freshB (g:=gb206) (o:= .cells #[.int .i64 ((rd_T53 l1 x11_1).f0),.slice A205_1 ((rd_T53 l1 x11_1).f1).length c205_1,.slice A205_2 ((rd_T53 l1 x11_1).f2).length c205_2] 53 (0,0)) k0_ k_ hk⟩))
 (case aO=>exact (by (with_reducible repeat (first|apply Kd.N_alloc|apply Kd.N_drewN|apply Kd.N_drew));exact Kd.N_mono HO216.out (fun _ hk=>⟨hk.1.1,hk.1.2⟩)))
 (case aS=>exact (below_size b0_))
 (case aL=>have:=LMc12.out;omega)
 intro v221 w22 ho hb hg hat
 rw [←Ny220.out] at ho
 have n0_:=Aside0.mk (blk_grown (g:=gb206) (o:= .cells #[.int .i64 ((rd_T53 l1 x11_1).f0),.slice A205_1 ((rd_T53 l1 x11_1).f1).length c205_1,.slice A205_2 ((rd_T53 l1 x11_1).f2).length c205_2] 53 (0,0)) k0_ hg (Kd.N_ne HO216.out BK206.out (by decide)))
 have n1_:=Aside0.mk (Kd.N_afterv (ok:=(fun k_=>(w.heap.size≤k_)∧some k_≠(.slice Ao23 t217.length co23:Value).ownBlock∧k_≠gb206)) (by (with_reducible repeat (first|apply Kd.N_alloc|apply Kd.N_drewN|apply Kd.N_drew));exact Kd.N_mono HO213.out (fun _ hk=>⟨⟨hk.1.1.1,⟨hk.2,hk.1.1.2⟩⟩,hk.1.2⟩)) hg hat)
 have n2_:=Aside0.mk (Kd.N_afterv (ok:=(fun k_=>(w.heap.size≤k_)∧some k_≠(.slice Ao20 t211.length co20:Value).ownBlock∧k_≠gb206)) (by (with_reducible repeat (first|apply Kd.N_alloc|apply Kd.N_drewN|apply Kd.N_drew));exact Kd.N_mono HO219.out (fun _ hk=>⟨⟨hk.1,⟨hk.2.1,hk.2.2.2⟩⟩,hk.2.2.1⟩)) hg hat)
 have n3_:=Aside0.mk (hb)
 have n4_:=Aside0.mk (ho)
 clear BK206
 clear HO213
 clear HO219
 clear HB
 clear HO216
 have BK206:=n0_
 have HO213:=n1_
 have HO219:=n2_
 have HB:=n3_
 have HO222:=n4_
 clear n0_ n1_ n2_ n3_ n4_
 clear ho hb hg hat
 refine hK.out _ _ ⟨(blk_cell BK206.out 0).trans rfl,(blk_cell BK206.out 1).trans rfl,(blk_cell BK206.out 2).trans rfl⟩ (fun hHeld=> ?_)
 clear hK K
 refine norm_ (a':=?_) ?_ ?_
 rotate_left
 {
 show Act.put _ (some 26) _=_
 simp only [Act.put,List.setIfInBounds_toArray,List.set_cons_zero,List.set_cons_succ,i64_w,i32_w]
 rfl
 }
 refine pA_ (i:=12) (N:=some 5) HT_ ?_
 refine done_ (done_of HT_.out (by kernel_rfl)) ?_
 have hcz24_0:w22.cell? ⟨gb206,0,none⟩=some (.int .i64 ((rd_T53 l1 x11_1).f0)):=(blk_cell BK206.out 0).trans rfl;have hcz24_1:w22.cell? ⟨gb206,1,none⟩=some (.slice A205_1 ((rd_T53 l1 x11_1).f1).length c205_1):=(blk_cell BK206.out 1).trans rfl;have hcz24_2:w22.cell? ⟨gb206,2,none⟩=some (.slice A205_2 ((rd_T53 l1 x11_1).f2).length c205_2):=(blk_cell BK206.out 2).trans rfl
 have hfz24_0:=blk_frozen BK206.out 0
 have hfz24_1:=blk_frozen BK206.out 1
 have hfz24_2:=blk_frozen BK206.out 2
 try go_wp2
 go_roundg k1
 case measure=>have:=HK1.out;omega
 case rel=>exact ⟨(y220),(wrap64 (((rd_T53 l1 x11_1).f0)+(((rd_T53 l1 x11_1).f1).length:Int))),(wrap64 (x11_1+1)),r0_,r0_,H',⟨by have:=HK1.out;omega⟩,⟨by (with_reducible repeat (first|apply Kd.N_alloc|apply Kd.N_drewN|apply Kd.N_drew));exact Kd.N_mono HO222.out (fun _ hk=>hk.1)⟩,⟨b0_⟩⟩
 }
 {
 rw [if_neg c12] at H
 exact absurd H (by simp)
 }
 }
 {
 rw [if_neg c10] at H
 exact absurd H (by simp)
 }
 }
 {
 rw [if_neg c8] at H
 exact absurd H (by simp)
 }
 }
 {
 rw [if_neg c7] at H
 exact absurd H (by simp)
 }
 }
 {
 rw [if_neg c6] at H
 exact absurd H (by simp)
 }
 }
 {
 rw [if_neg c5] at H
 exact absurd H (by simp)
 }
 }
 {
 rw [if_neg c4] at H
 exact absurd H (by simp)
 }
 }
 {
 rw [if_neg c3] at H
 have c3b0:decide (x11_1<(l1.length:Int))=false:=decide_eq_false c3
 clear c3
 by_cases c25:0≤x6_1
 {
 rw [if_pos c25] at H
 have c25b0:=eq_true c25
 have c25b1:decide (0≤x6_1)=true:=decide_eq_true c25
 clear c25
 by_cases c26:x6_1≤(l0.length:Int)
 {
 rw [if_pos c26] at H
 have c26b0:=eq_true c26
 have c26b1:decide (x6_1≤(l0.length:Int))=true:=decide_eq_true c26
 clear c26
 obtain ⟨y223,hy223⟩:∃ y_:List (S50),y_=(l0.drop (x6_1:Int).toNat):=⟨_,rfl⟩
 replace H:((patch_own.f k1 y223).bind fun t227=>(if x5_1.length+t227.length<2932031007402 then (some (x5_1++t227)) else (none)))=some r:=by first|(rw [hy223];with_reducible exact H)|(have H2_:=(Option.bind_some _ _).symm.trans H;rw [hy223];with_reducible exact H2_)|(have H2_:=(Option.bind_some _ _).symm.trans H;with_reducible exact H2_)|with_reducible exact H|(rw [hy223];exact H)|exact H
 have Ny223:=Aside0.mk hy223
 clear hy223
 obtain ⟨t227,A27,H⟩:=ob_ H
 by_cases c28:x5_1.length+t227.length<2932031007402
 {
 rw [if_pos c28] at H
 have LMc28:=Aside0.mk c28
 clear c28
 obtain ⟨y230,hy230⟩:∃ y_:List (S50),y_=(x5_1++t227):=⟨_,rfl⟩
 replace H:(some y230)=some r:=by first|(rw [hy230];with_reducible exact H)|(have H2_:=(Option.bind_some _ _).symm.trans H;rw [hy230];with_reducible exact H2_)|(have H2_:=(Option.bind_some _ _).symm.trans H;with_reducible exact H2_)|with_reducible exact H|(rw [hy230];exact H)|exact H
 have Ny230:=Aside0.mk hy230
 clear hy230
 obtain rfl:=Option.some.inj H
 have q29:(x6_1:Int)≤((l0.length:Int):Int):=od_
 obtain ⟨i029,hi029,_,hsz29,_⟩:=info_parts info50
 have hroom29:l0.length≤c0:=HC0.out
 have hC29:Kd.C k50 _ A0 l0.length l0:=HR0.out
 have q029:(0:Int)≤(x6_1:Int):=od_
 have hcut29:=cut_from (P:=Tryd.prog) 22 50 .i64 Tryd.underlying22 hi029 4 hsz29 A0 l0.length c0 x6_1 q029 q29
 have hr29:=Kd.C_drop (m:=(x6_1:Int).toNat) (c:=c0) hC29 (by omega) hroom29
 obtain ⟨A29,hA29⟩:∃ A1,A1=(if c0=(x6_1:Int).toNat then A0 else (A0:Option Addr).map (·.add ((x6_1:Int).toNat * 4))):=⟨_,rfl⟩
 obtain ⟨c29,hc29⟩:∃ c1,c1=c0 - (x6_1:Int).toNat:=⟨_,rfl⟩
 have hy29:y223.length=l0.length - (x6_1:Int).toNat:=(by rw [Ny223.out,List.length_drop]<;>omega)
 rw [show (l0).drop (x6_1:Int).toNat=y223 from Ny223.out.symm] at hr29
 replace hr29:Kd.C k50 _ A29 y223.length y223:=(by rw [hA29];exact hr29)
 rw [←hy29,←hA29,←hc29] at hcut29
 have HR226:=Aside0.mk hr29
 have HC226:=Aside0.mk (show y223.length≤c29 from by rw [hy29,hc29];exact Nat.sub_le_sub_right hroom29 _)
 clear hr29 hC29 hroom29 hi029 hsz29 hc29
 have KY29:=Aside0.mk hy29
 have KA29:=Aside0.mk hA29
 clear hy29 hA29
 replace q29:=eq_true q29
 go_wp2_with (first|((with_reducible refine gate_callee (f:=34) rfl ?_);refine gl_ (some 38) Tryd.func34 #[.slice A29 y223.length c29] ?_;(with_reducible refine (patch_own.calls k1 _ _ y223 t227 _ ?side1 ?side2 A27.out).mono ?_);(case side1=>exact c0_);(case side2=>exact HC226.out);rintro e w30 ⟨v228,rfl,ho0,hb⟩;refine ⟨_,rfl,?_⟩;have n_:=as3_ (Kd.N_elder' (xN_ HO_5) (by first|exact Kd.N_base ho0|exact Kd.S_base ho0|exact Kd.R_base ho0) hb) (Kd.N_lower (Kd.N_mono (ok':=fun k_=>(w.heap.size≤k_)∧some k_≠(u5:Value).ownBlock) (Kd.S_N (Kd.S_bound ho0)) (fun k_ hk_=>⟨(Nat.le_trans (below_size b0_) hk_.2.1),(Kd.fresh' (Kd.N_lt (xN_ HO_5)) k_ hk_.2.1)⟩)) (below_size b0_)) (below_step b0_ hb);clear HO_5 HB;obtain ⟨HO_5,HO229,HB⟩:=n_;(try clear hb);(try clear hk);(try clear hi);(try clear ho0);obtain ⟨Ao32,co32,eo32⟩:=Kd.N_slice HO229.out;subst eo32)|((with_reducible refine gate_builtin (b:= .append) (xs:=#[.tmp 34,.tmp 38]) rfl ?_);at_builtin;refine Kd.N_append_rows k50 (w0:=w) w.heap.size rfl (.tmp 34) (.tmp 38) 22 50 (.agg #[(.string ⟨#[]⟩),(.int .u8 0),(.int .u8 0),(.slice none 0 0)]) 48 rfl Tryd.underlying22 info50 rfl (by decide) (by omega) u5 x5_1 t227 _ _ _ (fun k_=>(w.heap.size≤k_)) (fun k_=>((fun k_=>(w.heap.size≤k_))) k_∧some k_≠(u5:Value).ownBlock) rfl rfl ?aO ?aR (fun _ hk=>hk) ?aF ?aB ?aS ?aL ?_;(case aR=>exact (by skip;exact Kd.N_F (Kd.N_mono (ok':=(fun k_=>((fun k_=>(w.heap.size≤k_))) k_∧some k_≠(u5:Value).ownBlock)) (HO229.out) (fun k_ hk=>⟨hk.1,hk.2⟩))));(case aB=>exact b0_);(case aF=>exact (fun k_ hk=>(Nat.le_trans (below_size b0_) hk)));(case aO=>exact (by (with_reducible repeat (first|apply Kd.N_alloc|apply Kd.N_drewN|apply Kd.N_drew));exact Kd.N_mono HO_5.out (fun _ hk=>hk.1)));(case aS=>exact (below_size b0_));(case aL=>have:=LMc28.out;omega);intro v231 w31 ho hb hg hat;rw [←Ny230.out] at ho;have n_:=as3_ (Kd.N_afterv (ok:=(fun k_=>(w.heap.size≤k_))) (xN_ HO229) hg hat) (hb) (ho);clear HO229 HB HO_5;obtain ⟨HO229,HB,HO232⟩:=n_;clear ho hb hg hat))
 go_ret
 exact ⟨_,r1_,by (with_reducible repeat (first|apply Kd.N_alloc|apply Kd.N_drewN|apply Kd.N_drew));exact HO232.out,b0_⟩
 }
 {
 rw [if_neg c28] at H
 exact absurd H (by simp)
 }
 }
 {
 rw [if_neg c26] at H
 exact absurd H (by simp)
 }
 }
 {
 rw [if_neg c25] at H
 exact absurd H (by simp)
 }
 }
  )
  )
end
end Go.Proofs.YtdlolaognnbhpaaDoor.Pr
namespace Go.Proofs.YtdlolaognnbhpaaDoor.Pr
open Go.RowKit Go.Proofs.YtdlolaognnbhpaaDoorW.PrintWords Go.Proofs.YtdlolaognnbhpaaDoorW.PrintLast Go.Proofs.YtdlolaognnbhpaaDoorW.PrintMore
noncomputable section
attribute [local go_sem] max2_int min2_int max_two min_two max_three min_three max_four min_four
set_option linter.unusedVariables false
set_option linter.unusedSimpArgs false
def patch_Apply_1.f (k:Nat) (a0_0:ByteArray) (a0_1:Int) (a0_2:Int) (l0_3:List (S55)):Option (Bool):=(record_ValidField.f k a0_0 a0_1 a0_2 l0_3).bind fun t234=>(some (!t234))
set_option maxHeartbeats 8000000 in
set_option maxRecDepth 100000 in
theorem patch_Apply_1.calls (k:Nat) (a0_0:ByteArray) (a0_1:Int) (a0_2:Int) (A0_3:Option Addr) (c0_3:Nat) (l0_3:List (S55)) (r:Bool) (w:World) (hT:PTabs w) (hr0_3:Kd.C k55 w A0_3 l0_3.length l0_3) (hc0_3:l0_3.length≤c0_3) (h:patch_Apply_1.f k a0_0 a0_1 a0_2 l0_3=some r):
 Calls Tryd.prog 29 #[.agg #[.string a0_0,.int .u8 a0_1,.int .u8 a0_2,.slice A0_3 l0_3.length c0_3]] w fun e w'=>e= .returned (.bool r)∧Below w.heap.size w w':=by
 have hu50:=Tryd.underlying50
 have HR0_3:=Aside0.mk hr0_3
 have HC0_3:=Aside0.mk hc0_3
 clear hr0_3 hc0_3
 have HB:=Aside0.mk (Below.refl w.heap.size w)
 have HT:=Aside0.mk hT
 clear hT
 have H:((record_ValidField.f k a0_0 a0_1 a0_2 l0_3).bind fun t234=>(some (!t234)))=some r:=h
 clear h
 obtain ⟨t234,A2,H⟩:=ob_ H
 obtain rfl:=Option.some.inj H
 go_enter Tryd.func29,Tryd.ntmps29
 go_wp2_with (first|((with_reducible refine gate_dst (N:=1) rfl ?_);refine bx_ (N:=1) (cs:=#[.string a0_0,.int .u8 a0_1,.int .u8 a0_2,.slice A0_3 l0_3.length c0_3]) (t:=50) ?_;intro gb233 hg w3 hbox hb;have n_:=as4_ (below_step b0_ hb) (hbox) ((g0_ hg b0_:w.heap.size≤gb233)) ((g0_ hg b0_:w.heap.size≤gb233));clear HB;obtain ⟨HB,BK233,GW233,GE233⟩:=n_;clear hb hbox hg;obtain ⟨hcz4_0,hcz4_1,hcz4_2,hcz4_3,hfz4_0,hfz4_1,hfz4_2,hfz4_3⟩:=ce4_ BK233)|((with_reducible refine gate_callee (f:=30) rfl ?_);refine gl_ (some 4) Tryd.func30 #[.agg #[.string a0_0,.int .u8 a0_1,.int .u8 a0_2,.slice A0_3 l0_3.length c0_3]] ?_;(with_reducible refine (record_ValidField.calls k a0_0 a0_1 a0_2 _ _ l0_3 t234 _ ?side3 ?side1 ?side2 A2.out).mono ?_);(case side1=>exact c0_);(case side2=>exact HC0_3.out);(case side3=>exact PTabs.step HT.out b0_);rintro e w5 ⟨rfl,hb⟩;refine ⟨_,rfl,?_⟩;have n_:=as2_ (bb_ BK233 hb) (below_step b0_ hb);clear BK233 HB;obtain ⟨BK233,HB⟩:=n_;(try clear hb)))
 go_ret
 exact ⟨r1_,b0_⟩
def api_Field__v29_45001.l0:Nat→List (S50)→Int→Int→Option (Int)
 |0,_,_,_=>none
 |k+1,x0,x7,x8=>if x8<x7 then (if 0≤x8 then (if x8<(x0.length:Int) then ((patch_Apply_1.f k ((rd_T50 x0 x8).f0) ((rd_T50 x0 x8).f1.f0) ((rd_T50 x0 x8).f1.f1) ((rd_T50 x0 x8).f2)).bind fun t236=>(if t236=true then (some x8) else (api_Field__v29_45001.l0 k x0 x7 (wrap64 (x8+1))))) else (none)) else (none)) else (some (-1))
def api_Field__v29_45001.f (k:Nat) (l0:List (S50)):Option (Int):=api_Field__v29_45001.l0 k l0 (l0.length:Int) 0
set_option maxHeartbeats 8000000 in
set_option maxRecDepth 100000 in
theorem api_Field__v29_45001.calls (k:Nat) (A0:Option Addr) (c0:Nat) (l0:List (S50)) (r:Int) (w:World) (hT:PTabs w) (hr0:Kd.C k50 w A0 l0.length l0) (hc0:l0.length≤c0) (h:api_Field__v29_45001.f k l0=some r):
 Calls Tryd.prog 45 #[.slice A0 l0.length c0,.func (.func 29) #[] #[]] w fun e w'=>e= .returned (.int .i64 r)∧Below w.heap.size w w':=by
 have hu50:=Tryd.underlying50
 have HR0:=Aside0.mk hr0
 have HC0:=Aside0.mk hc0
 clear hr0 hc0
 have HB:=Aside0.mk (Below.refl w.heap.size w)
 have HT:=Aside0.mk hT
 clear hT
 have H:(api_Field__v29_45001.l0 k l0 (l0.length:Int) 0)=some r:=h
 clear h
 have H':=Aside0.mk H
 clear H
 go_enter Tryd.func45,Tryd.ntmps45
 go_wp2
 go_loopg [8] k (fun kq v8 w'=>∃ (x8_1:Int),v8= .int .i64 x8_1∧Aside0 (api_Field__v29_45001.l0 kq l0 (l0.length:Int) x8_1=some r)∧Aside0 (kq≤k)∧Aside0 (Below w.heap.size w w'))
 case atStart=>exact ⟨(0),r0_,H',⟨Nat.le_refl _⟩,⟨b0_⟩⟩
 case round=>
  (
 clear H'
 obtain ⟨x8_1,rfl,HA,HK1,HB⟩:=hrel
 cases gk with
 |zero=>exact absurd HA.out (by simp [api_Field__v29_45001.l0])
 |succ k1=>
  (
 have H:=HA.out
 clear HA
 simp only [api_Field__v29_45001.l0] at H
 by_cases c2:x8_1<(l0.length:Int)
 {
 rw [if_pos c2] at H
 have c2b0:decide (x8_1<(l0.length:Int))=true:=decide_eq_true c2
 clear c2
 by_cases c3:0≤x8_1
 {
 rw [if_pos c3] at H
 have c3b0:decide (0≤x8_1)=true:=decide_eq_true c3
 clear c3
 by_cases c4:x8_1<(l0.length:Int)
 {
 rw [if_pos c4] at H
 have c4b0:decide (x8_1<(l0.length:Int))=true:=decide_eq_true c4
 clear c4
 obtain ⟨t236,A5,H⟩:=ob_ H
 by_cases c6:t236=true
 {
 subst c6
 replace H:=tp_ H
 obtain rfl:=Option.some.inj H
 have p235:0≤(x8_1:Int):=od_
 have q235:x8_1<(l0.length:Int):=od_
 obtain ⟨ad235,A235_3,c235_3,e235,hx235_0,hx235_1,hx235_2,hx235_3,hl235_3,hi235_3⟩:=at_T50 HR0.out x8_1 p235 q235
 cases e235
 replace hx235_0:=cel_ HB hx235_0
 replace hx235_1:=cel_ HB hx235_1
 replace hx235_2:=cel_ HB hx235_2
 replace hx235_3:=cel_ HB hx235_3
 have HR235_3:=Aside0.mk hi235_3
 have HC235_3:=Aside0.mk hl235_3
 clear hi235_3 hl235_3
 replace p235:=eq_true p235
 replace q235:=eq_true q235
 go_wp2_with (first|((refine Aid.gate_calleeT (f:=29) rfl rfl ?_);refine Aid.goesT_ (some 16) rfl rfl Tryd.func29 (by kernel_rfl) rfl #[.agg #[.string ((rd_T50 l0 x8_1).f0),.int .u8 ((rd_T50 l0 x8_1).f1.f0),.int .u8 ((rd_T50 l0 x8_1).f1.f1),.slice A235_3 ((rd_T50 l0 x8_1).f2).length c235_3]] rfl rfl ml_ ?_;(with_reducible refine (patch_Apply_1.calls k1 ((rd_T50 l0 x8_1).f0) ((rd_T50 l0 x8_1).f1.f0) ((rd_T50 l0 x8_1).f1.f1) _ _ ((rd_T50 l0 x8_1).f2) true _ ?side3 ?side1 ?side2 A5.out).mono ?_);(case side1=>exact c0_);(case side2=>exact HC235_3.out);(case side3=>exact PTabs.step HT.out b0_);rintro e w7 ⟨rfl,hb⟩;refine ⟨_,rfl,?_⟩;have n0_:=Aside0.mk (below_step b0_ hb);clear HB;have HB:=n0_;clear n0_;(try clear hb)))
 go_ret
 exact ⟨r1_,b0_⟩
 }
 {
 replace c6:=Bool.eq_false_iff.mpr c6
 subst c6
 replace H:=fn_ H
 have H':=Aside0.mk H
 clear H
 have p235:0≤(x8_1:Int):=od_
 have q235:x8_1<(l0.length:Int):=od_
 obtain ⟨ad235,A235_3,c235_3,e235,hx235_0,hx235_1,hx235_2,hx235_3,hl235_3,hi235_3⟩:=at_T50 HR0.out x8_1 p235 q235
 cases e235
 replace hx235_0:=cel_ HB hx235_0
 replace hx235_1:=cel_ HB hx235_1
 replace hx235_2:=cel_ HB hx235_2
 replace hx235_3:=cel_ HB hx235_3
 have HR235_3:=Aside0.mk hi235_3
 have HC235_3:=Aside0.mk hl235_3
 clear hi235_3 hl235_3
 replace p235:=eq_true p235
 replace q235:=eq_true q235
 go_wp2_with (first|((refine Aid.gate_calleeT (f:=29) rfl rfl ?_);refine Aid.goesT_ (some 16) rfl rfl Tryd.func29 (by kernel_rfl) rfl #[.agg #[.string ((rd_T50 l0 x8_1).f0),.int .u8 ((rd_T50 l0 x8_1).f1.f0),.int .u8 ((rd_T50 l0 x8_1).f1.f1),.slice A235_3 ((rd_T50 l0 x8_1).f2).length c235_3]] rfl rfl ml_ ?_;(with_reducible refine (patch_Apply_1.calls k1 ((rd_T50 l0 x8_1).f0) ((rd_T50 l0 x8_1).f1.f0) ((rd_T50 l0 x8_1).f1.f1) _ _ ((rd_T50 l0 x8_1).f2) false _ ?side3 ?side1 ?side2 A5.out).mono ?_);(case side1=>exact c0_);(case side2=>exact HC235_3.out);(case side3=>exact PTabs.step HT.out b0_);rintro e w8 ⟨rfl,hb⟩;refine ⟨_,rfl,?_⟩;have n0_:=Aside0.mk (below_step b0_ hb);clear HB;have HB:=n0_;clear n0_;(try clear hb)))
 go_roundg k1
 case measure=>have:=HK1.out;omega
 case rel=>exact ⟨(wrap64 (x8_1+1)),r0_,H',⟨by have:=HK1.out;omega⟩,⟨b0_⟩⟩
 }
 }
 {
 rw [if_neg c4] at H
 exact absurd H (by simp)
 }
 }
 {
 rw [if_neg c3] at H
 exact absurd H (by simp)
 }
 }
 {
 rw [if_neg c2] at H
 have c2b0:decide (x8_1<(l0.length:Int))=false:=decide_eq_false c2
 clear c2
 obtain rfl:=Option.some.inj H
 go_wp2
 go_ret
 exact ⟨r1_,b0_⟩
 }
  )
  )
def api_Field__v29_28000.f (k:Nat) (l0:List (S50)):Option (Bool):=(api_Field__v29_45001.f k l0).bind fun t237=>(some (decide (t237≥0)))
set_option maxHeartbeats 8000000 in
set_option maxRecDepth 100000 in
theorem api_Field__v29_28000.calls (k:Nat) (A0:Option Addr) (c0:Nat) (l0:List (S50)) (r:Bool) (w:World) (hT:PTabs w) (hr0:Kd.C k50 w A0 l0.length l0) (hc0:l0.length≤c0) (h:api_Field__v29_28000.f k l0=some r):
 Calls Tryd.prog 28 #[.slice A0 l0.length c0,.func (.func 29) #[] #[]] w fun e w'=>e= .returned (.bool r)∧Below w.heap.size w w':=by
 have HR0:=Aside0.mk hr0
 have HC0:=Aside0.mk hc0
 clear hr0 hc0
 have HB:=Aside0.mk (Below.refl w.heap.size w)
 have HT:=Aside0.mk hT
 clear hT
 have H:((api_Field__v29_45001.f k l0).bind fun t237=>(some (decide (t237≥0))))=some r:=h
 clear h
 obtain ⟨t237,A2,H⟩:=ob_ H
 obtain rfl:=Option.some.inj H
 go_enter Tryd.func28,Tryd.ntmps28
 go_wp2_with (first|((with_reducible refine gate_callee (f:=45) rfl ?_);refine gl_ (some 7) Tryd.func45 #[.slice A0 l0.length c0,.func (.func 29) #[] #[]] ?_;(with_reducible refine (api_Field__v29_45001.calls k _ _ l0 t237 _ ?side3 ?side1 ?side2 A2.out).mono ?_);(case side1=>repeat (first|exact HR0.out|(with_reducible refine Kd.C_alloc ?_ _)|(with_reducible refine Kd.C_drewN ?_ _)|(with_reducible refine Kd.C_drew ?_)));(case side2=>exact HC0.out);(case side3=>exact PTabs.step HT.out b0_);rintro e w3 ⟨rfl,hb⟩;refine ⟨_,rfl,?_⟩;have n0_:=Aside0.mk (below_step b0_ hb);clear HB;have HB:=n0_;clear n0_;(try clear hb)))
 go_ret
 exact ⟨r1_,b0_⟩
end
end Go.Proofs.YtdlolaognnbhpaaDoor.Pr
