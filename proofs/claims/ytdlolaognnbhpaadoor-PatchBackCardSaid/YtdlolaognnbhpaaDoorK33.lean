/- A part of the proof of laws of this seat: PatchBack, PatchDiff, PatchLeast, PatchMetric. Conditions: none of our own. -/
import Derived.Test.YtdlolaognnbhpaaDoorK17
import Derived.Test.YtdlolaognnbhpaaDoorK32
namespace Go.Proofs.YtdlolaognnbhpaaDoor.Rec
open Go.RowKit Go.Proofs.YtdlolaognnbhpaaDoorW.PrintWords Go.Proofs.YtdlolaognnbhpaaDoor.Pr Go.Proofs.YtdlolaognnbhpaaDoor.Lcs Classical
set_option linter.unusedVariables false
set_option linter.unusedSimpArgs false
abbrev Re:=S60
def re (e:Ed Fd):Re:=⟨e.1,e.2.1,e.2.2⟩
theorem refat_eq (a b:List Fd) (ha:Small a) (i j:Nat) (hi:i<a.length) (hj:j<b.length):Ev (fun k=>bookplateref18_Edits.at_ k a b (i:Int) (j:Int)) (decide (a[i]=b[j])):=by
 refine Ev.ext (fun k=> ?_) (refsame_eq (a[i]) (b[j]) (ha.get i hi))
 rw [bookplateref18_Edits.at_,if_pos (by omega),if_pos (by omega),rdF a i hi,rdF b j hj]
theorem refat_no (k:Nat) (a b:List Fd) (i j:Nat) (h: ¬ (i<a.length∧j<b.length)):bookplateref18_Edits.at_ k a b (i:Int) (j:Int)=some false:=by
 unfold bookplateref18_Edits.at_
 by_cases hi:(i:Int)<a.length
 {
 rw [if_pos hi,if_neg (by omega)]
 }
 {
 rw [if_neg hi]
 }
theorem refcopy_eq (x:Fd) (h:x.f2.length<5864062014805):bookplateref18_Edits.copy_ x=some x:=by
 unfold bookplateref18_Edits.copy_ bookplateref12_CopyField.f
 rw [Option.bind_some,if_pos (by simpa using h)]
 rfl
abbrev nw (o:Option Re) (i:Int):Re:=bookplateref18_Edits.new_ o i
def Full (o:Option Re):Prop:=∀ x,o=some x→0<x.f1.length+x.f2.length
theorem toList_eq (o:Option Re) (i:Int) (h:Full o):o.toList=(out1 (nw o i).f0 (nw o i).f1 (nw o i).f2).map re:=by
 cases o with
 |none=>rfl
 |some x=>
  (
 show [x]=(out1 x.f0 x.f1 x.f2).map re
 unfold out1
 rw [if_pos (h x rfl)]
 rfl
  )
theorem refgo_end (a b:List Fd) (L:List (List Int)) (acc:List Re) (o:Option Re) (h:Full o):Ev2 (fun k n=>bookplateref18_Edits.go k a b L n acc o (a.length:Int) (b.length:Int)) (acc++(group (nw o a.length).f0 (nw o a.length).f1 (nw o a.length).f2 (steps (a.drop a.length) (b.drop b.length))).map re):=by
 refine Ev2.step (g:=fun _ _=>some (acc++o.toList)) (fun k n=> ?_) ?_
 {
 rw [bookplateref18_Edits.go,if_neg (by omega)]
 }
 {
 rw [List.drop_length,List.drop_length,steps,group,←toList_eq o _ h]
 exact Ev2.pure _
 }
theorem refgo_del (a b:List Fd) (hs:Subs a) (L:List (List Int)) (acc:List Re) (o:Option Re) (i j:Nat) (hi:i<a.length) (ht:Ev (fun k=>bookplateref18_Edits.at_ k a b (i:Int) (j:Int)) false) (hl:patch_edits.left_ a b L (i:Int) (j:Int)=true) {v:List Re}
 (h:Ev2 (fun k n=>bookplateref18_Edits.go k a b L n acc (some ⟨(nw o i).f0,(nw o i).f1++[a[i]],(nw o i).f2⟩) ((i+1:Nat):Int) (j:Int)) v):Ev2 (fun k n=>bookplateref18_Edits.go k a b L n acc o (i:Int) (j:Int)) v:=by
 obtain ⟨K,hK⟩:=ht
 obtain ⟨M,hM⟩:=h
 refine ⟨max K M+1,fun k n hk hn=> ?_⟩
 obtain ⟨m,rfl⟩:∃ m,n=m+1:=⟨n - 1,by omega⟩
 show bookplateref18_Edits.go k a b L (m+1) acc o (i:Int) (j:Int)=_
 rw [bookplateref18_Edits.go,if_pos (by omega),show bookplateref18_Edits.at_ k a b (i:Int) (j:Int)=some false from hK k (by omega),Option.bind_some,if_neg (by decide),if_pos hl,rdF a i hi,refcopy_eq _ (hs _ (List.getElem_mem hi)),Option.bind_some]
 exact hM k m (by omega) (by omega)
theorem refgo_ins (a b:List Fd) (hs:Subs b) (L:List (List Int)) (acc:List Re) (o:Option Re) (i j:Nat) (hj:j<b.length) (ht:Ev (fun k=>bookplateref18_Edits.at_ k a b (i:Int) (j:Int)) false) (hl:patch_edits.left_ a b L (i:Int) (j:Int)=false) {v:List Re}
 (h:Ev2 (fun k n=>bookplateref18_Edits.go k a b L n acc (some ⟨(nw o i).f0,(nw o i).f1,(nw o i).f2++[b[j]]⟩) (i:Int) ((j+1:Nat):Int)) v):Ev2 (fun k n=>bookplateref18_Edits.go k a b L n acc o (i:Int) (j:Int)) v:=by
 obtain ⟨K,hK⟩:=ht
 obtain ⟨M,hM⟩:=h
 refine ⟨max K M+1,fun k n hk hn=> ?_⟩
 obtain ⟨m,rfl⟩:∃ m,n=m+1:=⟨n - 1,by omega⟩
 show bookplateref18_Edits.go k a b L (m+1) acc o (i:Int) (j:Int)=_
 rw [bookplateref18_Edits.go,if_pos (by omega),show bookplateref18_Edits.at_ k a b (i:Int) (j:Int)=some false from hK k (by omega),Option.bind_some,if_neg (by decide),if_neg (by rw [hl];decide),rdF b j hj,refcopy_eq _ (hs _ (List.getElem_mem hj)),Option.bind_some]
 exact hM k m (by omega) (by omega)
theorem refgo_keep (a b:List Fd) (L:List (List Int)) (acc:List Re) (o:Option Re) (i j:Nat) (hi:i<a.length) (ht:Ev (fun k=>bookplateref18_Edits.at_ k a b (i:Int) (j:Int)) true) {v:List Re}
 (h:Ev2 (fun k n=>bookplateref18_Edits.go k a b L n (acc++o.toList) none ((i+1:Nat):Int) ((j+1:Nat):Int)) v):Ev2 (fun k n=>bookplateref18_Edits.go k a b L n acc o (i:Int) (j:Int)) v:=by
 obtain ⟨K,hK⟩:=ht
 obtain ⟨M,hM⟩:=h
 refine ⟨max K M+1,fun k n hk hn=> ?_⟩
 obtain ⟨m,rfl⟩:∃ m,n=m+1:=⟨n - 1,by omega⟩
 show bookplateref18_Edits.go k a b L (m+1) acc o (i:Int) (j:Int)=_
 rw [bookplateref18_Edits.go,if_pos (by omega),show bookplateref18_Edits.at_ k a b (i:Int) (j:Int)=some true from hK k (by omega),Option.bind_some,if_pos rfl]
 exact hM k m (by omega) (by omega)
theorem full_one (x:Re) (h:0<x.f1.length+x.f2.length):Full (some x):=fun y hy=>by cases hy;exact h
theorem refgo_eq (a b:List Fd) (ha:Small a) (hsa:Subs a) (hsb:Subs b) (L:List (List Int)) (hT:Tab a b L):∀ (m i j:Nat) (acc:List Re) (o:Option Re),(a.length - i)+(b.length - j)≤m→i≤a.length→j≤b.length→Full o→(i:Int)=(nw o i).f0+(nw o i).f1.length→
 Ev2 (fun k n=>bookplateref18_Edits.go k a b L n acc o (i:Int) (j:Int)) (acc++(group (nw o i).f0 (nw o i).f1 (nw o i).f2 (steps (a.drop i) (b.drop j))).map re):=by
 intro m
 induction m with
 |zero=>
  (
 intro i j acc o h hi hj hf he
 obtain rfl:i=a.length:=by omega
 obtain rfl:j=b.length:=by omega
 exact refgo_end a b L acc o hf
  )
 |succ m ih=>
  (
 intro i j acc o h hi hj hf he
 by_cases h1:i<a.length
 {
 have del:Ev2 (fun k n=>bookplateref18_Edits.go k a b L n acc (some ⟨(nw o i).f0,(nw o i).f1++[a[i]],(nw o i).f2⟩) ((i+1:Nat):Int) (j:Int)) (acc++(group (nw o i).f0 ((nw o i).f1++[a[i]]) (nw o i).f2 (steps (a.drop (i+1)) (b.drop j))).map re):=ih (i+1) j acc (some ⟨(nw o i).f0,(nw o i).f1++[a[i]],(nw o i).f2⟩) (by omega) (by omega) hj (full_one _ (by simp only [List.length_append,List.length_singleton];omega)) (by show ((i+1:Nat):Int)=(nw o i).f0+(((nw o i).f1++[a[i]]).length:Int);simp only [List.length_append,List.length_singleton];omega)
 by_cases h2:j<b.length
 {
 rw [steps_both a b i j h1 h2]
 by_cases hs:a[i]=b[j]
 {
 rw [if_pos hs,group,List.map_append,←List.append_assoc,←toList_eq o i hf]
 refine refgo_keep a b L acc o i j h1 ((refat_eq a b ha i j h1 h2).cast (decide_eq_true hs)) ?_
 have:=ih (i+1) (j+1) (acc++o.toList) none (by omega) (by omega) (by omega) (fun _ h=>by cases h) (by show ((i+1:Nat):Int)=((i+1:Nat):Int)+((([]:List Fd).length:Nat):Int);simp)
 rw [show (nw o i).f0+((nw o i).f1.length:Int)+1=((i+1:Nat):Int) by omega]
 exact this
 }
 {
 rw [if_neg hs]
 have hg:=(refat_eq a b ha i j h1 h2).cast (decide_eq_false hs)
 by_cases hl:lcs (a.drop i) (b.drop (j+1))≤lcs (a.drop (i+1)) (b.drop j)
 {
 rw [if_pos hl,group]
 exact refgo_del a b hsa L acc o i j h1 hg ((left_eq a b L hT i j h1 h2).trans (decide_eq_true hl)) del
 }
 {
 rw [if_neg hl,group]
 exact refgo_ins a b hsb L acc o i j h2 hg ((left_eq a b L hT i j h1 h2).trans (decide_eq_false hl)) (ih i (j+1) acc (some ⟨(nw o i).f0,(nw o i).f1,(nw o i).f2++[b[j]]⟩) (by omega) hi (by omega) (full_one _ (by simp only [List.length_append,List.length_singleton];omega)) he)
 }
 }
 }
 {
 obtain rfl:j=b.length:=by omega
 rw [steps_left a b i h1,group]
 refine refgo_del a b hsa L acc o i b.length h1 (Ev.ext (fun k=>refat_no k a b i b.length (by omega)) (Ev.pure false)) ?_ del
 unfold patch_edits.left_
 rw [decide_eq_true (show (i:Int)<a.length by omega),decide_eq_true rfl]
 rfl
 }
 }
 {
 obtain rfl:i=a.length:=by omega
 by_cases h2:j<b.length
 {
 rw [steps_right a b j h2,group]
 refine refgo_ins a b hsb L acc o a.length j h2 (Ev.ext (fun k=>refat_no k a b a.length j (by omega)) (Ev.pure false)) ?_ (ih a.length (j+1) acc (some ⟨(nw o a.length).f0,(nw o a.length).f1,(nw o a.length).f2++[b[j]]⟩) (by omega) hi (by omega) (full_one _ (by simp only [List.length_append,List.length_singleton];omega)) he)
 unfold patch_edits.left_
 rw [decide_eq_false (show ¬ (a.length:Int)<a.length by omega),Bool.false_and]
 }
 {
 obtain rfl:j=b.length:=by omega
 exact refgo_end a b L acc o hf
 }
 }
  )
end Go.Proofs.YtdlolaognnbhpaaDoor.Rec
namespace Go.Proofs.YtdlolaognnbhpaaDoor.Rep
open Go.RowKit Go.Proofs.YtdlolaognnbhpaaDoorW.PrintWords Go.Lib Rune
set_option linter.unusedVariables false
set_option linter.unusedSimpArgs false
def flat (L:List Int):List UInt8:=L.flatMap fun r=>[UInt8.ofNat (192+r.toNat / 64),UInt8.ofNat (128+r.toNat % 64)]
def latinL:List Int:=[192,200,204,210,217,224,232,236,242,249,193,201,205,211,218,221,225,233,237,243,250,253,262,263,313,314,323,324,340,341,346,347,377,378,194,202,206,212,219,226,234,238,244,251,264,265,284,285,292,293,308,309,348,349,372,373,374,375,195,209,213,227,241,245,296,297,360,361,256,257,274,275,298,299,332,333,362,363,258,259,276,277,286,287,300,301,334,335,364,365,266,267,278,279,288,289,304,379,380,196,203,207,214,220,228,235,239,246,252,255,376,197,229,366,367,336,337,368,369,268,269,270,271,282,283,327,328,344,345,352,353,356,357,381,382,317,318,199,231,290,291,310,311,315,316,325,326,342,343,350,351,354,355,260,261,280,281,302,303,370,371,198,230,216,248,208,240,222,254,223,272,273,294,295,305,321,322,338,339,330,331,358,359]
def greekL:List Int:=[902,904,905,906,908,910,911,940,941,942,943,972,973,974,938,939,970,971]
def cyrillicL:List Int:=[1025,1105,1031,1111,1028,1108,1168,1169,1038,1118,1030,1110]
theorem flat_length (L:List Int):(flat L).length=2 * L.length:=by
 induction L with
 |nil=>rfl
 |cons x l ih=>unfold flat at ih⊢;rw [List.flatMap_cons,List.length_append,ih];simp;omega
theorem flat_cons (x:Int) (L:List Int):flat (x::L)=UInt8.ofNat (192+x.toNat / 64)::UInt8.ofNat (128+x.toNat % 64)::flat L:=rfl
theorem mem_of_occ (r:Int) (h1:128≤r) (h2:r<2048):∀ (L:List Int),(∀ x∈L,128≤x∧x<2048)→(∃ j,occAt (flat L) [UInt8.ofNat (192+r.toNat / 64),UInt8.ofNat (128+r.toNat % 64)] j=true)→r∈L
 |[],_,⟨j,hj⟩=>by simp [occAt,flat] at hj
 |x::L,hL,⟨j,hj⟩=>by {
 have hx:=hL x (List.mem_cons_self ..)
 match j,hj with
 |0,hj=>
  (
 simp only [occAt,flat_cons,List.drop_zero,List.isPrefixOf,Bool.and_eq_true,beq_iff_eq] at hj
 obtain ⟨e1,e2,_⟩:=hj
 have f1:=congrArg UInt8.toNat e1
 have f2:=congrArg UInt8.toNat e2
 simp at f1 f2
 have:r=x:=by omega
 rw [this];exact List.mem_cons_self ..
  )
 |1,hj=>
  (
 simp only [occAt,flat_cons,List.drop_succ_cons,List.drop_zero,List.isPrefixOf,Bool.and_eq_true,beq_iff_eq] at hj
 have f1:=congrArg UInt8.toNat hj.1
 simp at f1
 omega
  )
 |j+2,hj=>
  (
 refine List.mem_cons_of_mem _ (mem_of_occ r h1 h2 L (fun y hy=>hL y (List.mem_cons_of_mem _ hy)) ⟨j,?_⟩)
 simpa only [occAt,flat_cons,List.drop_succ_cons] using hj
  )
 }
theorem occ_of_mem (r:Int):∀ (L:List Int),r∈L→∃ j,j≤(flat L).length∧occAt (flat L) [UInt8.ofNat (192+r.toNat / 64),UInt8.ofNat (128+r.toNat % 64)] j=true
 |x::L,h=>by {
 rcases List.mem_cons.1 h with rfl|h
 {
 exact ⟨0,by omega,by simp [occAt,flat_cons,List.isPrefixOf]⟩
 }
 {
 obtain ⟨j,hl,hj⟩:=occ_of_mem r L h
 refine ⟨j+2,by rw [flat_length] at hl⊢;simp at hl⊢;omega,?_⟩
 simpa only [occAt,flat_cons,List.drop_succ_cons] using hj
 }
 }
theorem no_high (r:Int) (a b c:UInt8) (ha:224≤a.toNat):∀ (L:List Int),(∀ x∈L,128≤x∧x<2048)→∀ j,occAt (flat L) [a,b,c] j=false
 |[],_,j=>by simp [occAt,flat]
 |x::L,hL,j=>by {
 have hx:=hL x (List.mem_cons_self ..)
 match j with
 |0=>
  (
 cases h:occAt (flat (x::L)) [a,b,c] 0 with
 |false=>rfl
 |true=>
  (
 simp only [occAt,flat_cons,List.drop_zero,List.isPrefixOf,Bool.and_eq_true,beq_iff_eq] at h
 have f1:=congrArg UInt8.toNat h.1
 simp at f1
 omega
  )
  )
 |1=>
  (
 cases h:occAt (flat (x::L)) [a,b,c] 1 with
 |false=>rfl
 |true=>
  (
 simp only [occAt,flat_cons,List.drop_succ_cons,List.drop_zero,List.isPrefixOf,Bool.and_eq_true,beq_iff_eq] at h
 have f1:=congrArg UInt8.toNat h.1
 simp at f1
 omega
  )
  )
 |j+2=>
  (
 have:=no_high r a b c ha L (fun y hy=>hL y (List.mem_cons_of_mem _ hy)) j
 simpa only [occAt,flat_cons,List.drop_succ_cons] using this
  )
 }
theorem no_ascii (c:UInt8) (hc:c.toNat<128):∀ (L:List Int),(∀ x∈L,128≤x∧x<2048)→Lib.indexByte (flat L) c= -1
 |[],_=>rfl
 |x::L,hL=>by {
 have hx:=hL x (List.mem_cons_self ..)
 have ih:=no_ascii c hc L (fun y hy=>hL y (List.mem_cons_of_mem _ hy))
 have n1:(UInt8.ofNat (192+x.toNat / 64)==c)=false:=by {
 rw [beq_eq_false_iff_ne];intro e
 have:=congrArg UInt8.toNat e
 simp at this;omega
 }
 have n2:(UInt8.ofNat (128+x.toNat % 64)==c)=false:=by {
 rw [beq_eq_false_iff_ne];intro e
 have:=congrArg UInt8.toNat e
 simp at this;omega
 }
 simp only [flat_cons,Lib.indexByte,n1,n2,ih]
 rfl
 }
theorem index_nonneg {s t:List UInt8} (ht:t≠[]):(0≤Lib.index s t)↔∃ j,j≤s.length∧occAt s t j=true:=by
 constructor
 {
 intro h
 refine Classical.byContradiction fun hn=> ?_
 have:=index_none (s:=s) (sub:=t) (fun j hj=>by
   cases ho:occAt s t j with
   |false=>rfl
   |true=>exact absurd ⟨j,hj,ho⟩ hn)
 omega
 }
 {
 rintro ⟨j,hj,ho⟩
 have hge:=Lib.index_ge s t
 refine Classical.byContradiction fun hn=> ?_
 have he:Lib.index s t= -1:=by omega
 obtain ⟨i,hi,hno,hi2⟩:∃ i,i≤s.length∧(∀ k,k<i→occAt s t k=false)∧occAt s t i=true:=by {
 have:∀ n,(∃ k,k≤n∧occAt s t k=true)→∃ i,i≤n∧(∀ k,k<i→occAt s t k=false)∧occAt s t i=true:=by {
 intro n
 induction n using Nat.strongRecOn with
 |_ n ih=>
  (
 rintro ⟨k,hk,hk2⟩
 by_cases hex:∃ k',k'<k∧occAt s t k'=true
 {
 obtain ⟨k',hk',ho'⟩:=hex
 obtain ⟨i,hi,h1,h2⟩:=ih k' (by omega) ⟨k',Nat.le_refl _,ho'⟩
 exact ⟨i,by omega,h1,h2⟩
 }
 {
 refine ⟨k,hk,fun k' hk'=> ?_,hk2⟩
 cases ho':occAt s t k' with
 |false=>rfl
 |true=>exact absurd ⟨k',hk',ho'⟩ hex
 }
  )
 }
 obtain ⟨i,hi,h1,h2⟩:=this j ⟨j,Nat.le_refl _,ho⟩
 exact ⟨i,by omega,h1,h2⟩
 }
 have:=index_hit (i:=i) hno hi hi2
 omega
 }
structure Letters (L:List Int):Prop where
 two:∀ x∈L,128≤x∧x<2048
 len:L.length<1000000
 few:∀ n,n<64→(flat L).count (UInt8.ofNat (128+n))≤3
 start:∀ n,n<64→((flat L).take 7).count (UInt8.ofNat (128+n))≤2
theorem flat_get (L:List Int) (q:Nat) (hq:q<L.length):(flat L)[2 * q]?=some (UInt8.ofNat (192+L[q].toNat / 64))∧(flat L)[2 * q+1]?=some (UInt8.ofNat (128+L[q].toNat % 64)):=by
 induction L generalizing q with
 |nil=>simp at hq
 |cons x l ih=>
  (
 cases q with
 |zero=>simp [flat_cons]
 |succ q=>
  (
 have:=ih q (by simpa using hq)
 simpa [flat_cons,Nat.mul_add] using this
  )
  )
theorem get_bytes (s:ByteArray) (l:List UInt8) (h:s.data.toList=l) (k:Nat) (c:UInt8) (hk:l[k]?=some c):(s.get! k)=c:=by
 subst h
 have hl:k<s.size:=by {
 have:=(List.getElem?_eq_some_iff.1 hk).1
 rwa [size_list] at this
 }
 rw [at_list s k hl] at hk
 rw [←Option.some.inj hk]
 simp [ByteArray.get!,getElem!_pos,hl]
 rfl
theorem good_of {L:List Int} (hL:Letters L) {s:ByteArray} (hs:s.data.toList=flat L):Rune.Good s where
  size:=by
    have:=size_list s
    rw [hs,flat_length] at this
    have:=hL.len
    omega
  two:=fun p hp hp2=>by
    have hsz:=size_list s
    rw [hs,flat_length] at hsz
    obtain ⟨q,rfl⟩:∃ q,p=2 * q:=⟨p / 2,by omega⟩
    have hq:q<L.length:=by omega
    obtain ⟨g0,g1⟩:=flat_get L q hq
    have hx:=hL.two L[q] (List.getElem_mem hq)
    rw [Lib.decode_at,get_bytes s _ hs _ _ g0,get_bytes s _ hs _ _ g1]
    generalize (s.get! (2 * q+2)).toNat=b2
    generalize (s.get! (2 * q+3)).toNat=b3
    have e0:(UInt8.ofNat (192+L[q].toNat / 64)).toNat=192+L[q].toNat / 64:=by simp;omega
    have e1:(UInt8.ofNat (128+L[q].toNat % 64)).toNat=128+L[q].toNat % 64:=by simp;omega
    rw [e0,e1]
    unfold Lib.decodeN
    rw [if_neg (by omega),if_pos (by omega),if_pos (by omega)]
    exact ⟨rfl,by show _≠65533;omega⟩
  few:=fun b i hb1 hb2 hi=>by
    unfold cnt
    rw [hs]
    have hb:b=UInt8.ofNat (128+(b.toNat - 128)):=by
      rw [show 128+(b.toNat - 128)=b.toNat from by omega];simp
    have h3:=hL.few (b.toNat - 128) (by omega)
    have h2:=hL.start (b.toNat - 128) (by omega)
    rw [←hb] at h3 h2
    by_cases h8:i≤7
    · have:((flat L).take i).count b≤((flat L).take 7).count b:=(List.take_sublist_take_left h8).count_le _
      omega
    · have:((flat L).take i).count b≤(flat L).count b:=(List.take_sublist _ _).count_le _
      omega
theorem idx_letters {L:List Int} (hL:Letters L) {s:ByteArray} (hs:s.data.toList=flat L) (r:Int) (h0:0≤r) (h1:r<65536):(0≤idx s r)↔r∈L:=by
 unfold idx
 by_cases h128:r<128
 {
 rw [if_pos h128,hs,no_ascii _ (by simp;omega) L hL.two]
 exact ⟨fun h=>by omega,fun h=>by have:=hL.two r h;omega⟩
 }
 {
 rw [if_neg h128]
 by_cases hb:r=65533∨Utf8.valid r=false
 {
 rw [if_pos hb]
 refine ⟨fun h=>by omega,fun h=> ?_⟩
 have:=hL.two r h
 rcases hb with hb|hb
 {
 omega
 }
 {
 simp [Utf8.valid] at hb;omega
 }
 }
 {
 rw [if_neg hb,hs]
 have hv:Utf8.valid r=true:=by {
 cases hh:Utf8.valid r with
 |true=>rfl
 |false=>exact absurd (.inr hh) hb
 }
 have hc: ¬ r.toNat<128:=by omega
 have hc3:r.toNat<65536:=by omega
 by_cases h:r.toNat<2048
 {
 have he:(Utf8.encode r).data.toList=[UInt8.ofNat (192+r.toNat / 64),UInt8.ofNat (128+r.toNat % 64)]:=by {
 unfold Utf8.encode
 simp only [hv,if_true,hc,if_false,h]
 }
 rw [he,index_nonneg (by simp)]
 exact ⟨fun ⟨j,_,hj⟩=>mem_of_occ r (by omega) (by omega) L hL.two ⟨j,hj⟩,fun hm=>occ_of_mem r L hm⟩
 }
 {
 have he:(Utf8.encode r).data.toList=[UInt8.ofNat (224+r.toNat / 4096),UInt8.ofNat (128+r.toNat / 64 % 64),UInt8.ofNat (128+r.toNat % 64)]:=by {
 unfold Utf8.encode
 simp only [hv,if_true,hc,if_false,h,hc3]
 }
 rw [he,index_nonneg (by simp)]
 refine ⟨fun ⟨j,_,hj⟩=> ?_,fun hm=>by have:=hL.two r hm;omega⟩
 rw [no_high r _ _ _ (by simp;omega) L hL.two j] at hj
 cases hj
 }
 }
 }
theorem latin_letters:Letters latinL:=⟨by decide+kernel,by decide+kernel,by decide+kernel,by decide+kernel⟩
theorem greek_letters:Letters greekL:=⟨by decide+kernel,by decide+kernel,by decide+kernel,by decide+kernel⟩
theorem cyrillic_letters:Letters cyrillicL:=⟨by decide+kernel,by decide+kernel,by decide+kernel,by decide+kernel⟩
end Go.Proofs.YtdlolaognnbhpaaDoor.Rep
namespace Go.Proofs.YtdlolaognnbhpaaDoor.Rep
open Go.RowKit Go.Proofs.YtdlolaognnbhpaaDoorW.PrintWords Go.Lib Rune Go.Proofs.YtdlolaognnbhpaaDoor.Pr
set_option linter.unusedVariables false
set_option linter.unusedSimpArgs false
theorem latin_range (c:Int) (h:c∈latinL):192≤c∧c≤382:=by
 have:∀ x∈latinL,192≤x∧x≤382:=by decide+kernel
 exact this c h
theorem greek_range (c:Int) (h:c∈greekL):902≤c∧c≤974∧c≠930:=by
 have:∀ x∈greekL,902≤x∧x≤974∧x≠930:=by decide+kernel
 exact this c h
theorem cyrillic_range (c:Int) (h:c∈cyrillicL):1025≤c∧c≤1169:=by
 have:∀ x∈cyrillicL,1025≤x∧x≤1169:=by decide+kernel
 exact this c h
def cls0 (c:Int):Int×Int:=
  if c=32∨c=160 then (0,4)
  else if (48≤c∧c≤57)∨c=178∨c=179∨c=185 then (0,3)
  else if (65≤c∧c≤90)∨(97≤c∧c≤122)∨c=383∨c=64257∨c=64258∨c∈latinL then (1,1)
  else if (768≤c∧c≤772)∨(774≤c∧c≤776)∨(778≤c∧c≤780)∨c=803∨c=807∨c=808 then (0,2)
  else if (913≤c∧c≤929)∨(931≤c∧c≤937)∨(945≤c∧c≤969)∨c∈greekL then (2,1)
  else if (1040≤c∧c≤1103)∨c∈cyrillicL then (3,1)
  else if 33≤c∧c≤126 then (0,5) else (0,0)
def cls (c:Int):Int×Int:=cls0 (if 65281≤c∧c≤65374 then c - 65248 else c)
def has (c:Int):Bool:=(cls c).2 !=0
theorem contains_letters {L:List Int} (hL:Letters L) (s:ByteArray) (hs:s.data.toList=flat L) (c:Int) (h0:0≤c) (h1:c<65536):strings_ContainsRune.f s c=some (decide (c∈L)):=by
 unfold strings_ContainsRune.f
 rw [if_pos ⟨good_of hL hs,h0,h1⟩]
 congr 1
 rw [decide_eq_decide]
 exact idx_letters hL hs c h0 h1
theorem from_eq (c a b:Int):repertoire_from.f c a b=some (decide (a≤c∧c≤b)):=by
 unfold repertoire_from.f
 by_cases h:a≤c<;>simp [h]
theorem in_eq (c a b:Int):bookplateref04_in.f c a b=some (decide (a≤c∧c≤b)):=by
 unfold bookplateref04_in.f
 by_cases h:a≤c<;>simp [h]
set_option maxRecDepth 100000 in
set_option maxHeartbeats 1000000 in
theorem letter_eq (k:Nat) (c:Int) (h0:32≤c) (h1:c≤65535):repertoire_letter.f (k+3) c=some (if (65≤c∧c≤90)∨(97≤c∧c≤122)∨c=383∨c=64257∨c=64258∨c∈latinL then 1 else if (913≤c∧c≤929)∨(931≤c∧c≤937)∨(945≤c∧c≤969)∨c∈greekL then 2 else if (1040≤c∧c≤1103)∨c∈cyrillicL then 3 else 0):=by
 have hw:wrap32 c=c:=by unfold wrap32;omega
 have gL:=greek_range c
 unfold repertoire_letter.f
 simp only [repertoire_letter.j0,repertoire_letter.j1,from_eq,hw]
 rw [contains_letters cyrillic_letters _ (by rfl) c (by omega) (by omega),contains_letters greek_letters _ (by rfl) c (by omega) (by omega),contains_letters latin_letters _ (by rfl) c (by omega) (by omega)]
 simp only [Option.bind_some]
 simp only [decide_eq_true_eq]
 grind
theorem mark_eq (k:Nat) (c:Int):repertoire_mark.f (k+1) c=some (decide ((768≤c∧c≤772)∨(774≤c∧c≤776)∨(778≤c∧c≤780)∨c=803∨c=807∨c=808)):=by
 unfold repertoire_mark.f
 simp only [repertoire_mark.j0,from_eq,Option.bind_some]
 by_cases h1:c=773
 {
 subst h1;rfl
 }
 {
 by_cases h2:c=777
 {
 subst h2;rfl
 }
 {
 rw [if_neg h1,if_neg (by simpa using h2)]
 by_cases h3:c=803
 {
 subst h3;rfl
 }
 {
 by_cases h4:c=807
 {
 subst h4;rfl
 }
 {
 by_cases h5:c=808
 {
 subst h5;rfl
 }
 {
 rw [if_neg h3,if_neg h4,if_neg h5]
 congr 1
 rw [decide_eq_decide]
 omega
 }
 }
 }
 }
 }
set_option maxHeartbeats 1000000 in
theorem class0_eq (k:Nat) (c:Int):repertoire_Class.j0 (k+8) c=some (cls0 c):=by
 have hL:=latin_range c
 have hG:=greek_range c
 have hC:=cyrillic_range c
 simp only [repertoire_Class.j0,repertoire_Class.j1]
 unfold cls0
 by_cases h0:c<32
 {
 grind
 }
 {
 by_cases h1:65535<c
 {
 grind
 }
 {
 rw [letter_eq (k+3) c (by omega) (by omega)]
 simp only [Option.bind_some,repertoire_Class.j2,repertoire_Class.j3,from_eq,mark_eq]
 simp only [decide_eq_true_eq]
 grind (splits:=40)
 }
 }
theorem class_eq (k:Nat) (c:Int) (hc: -9223372036854775808≤c) (hc2:c≤9223372036854775807):repertoire_Class.f (k+8) c=some (cls c):=by
 unfold repertoire_Class.f cls
 rw [from_eq,Option.bind_some]
 by_cases h:65281≤c∧c≤65374
 {
 rw [if_pos (by simpa using h),if_pos h,class0_eq]
 congr 2;unfold wrap64;omega
 }
 {
 rw [if_neg (by simpa using h),if_neg h,class0_eq]
 }
theorem has_eq (k:Nat) (c:Int) (hc: -9223372036854775808≤c) (hc2:c≤9223372036854775807):repertoire_Has.f (k+8) c=some (has c):=by
 unfold repertoire_Has.f
 rw [class_eq k c hc hc2]
 rfl
def by_ (s:ByteArray) (i:Nat):Nat:=(s.get! i).toNat
theorem bt_by (s:ByteArray) (i:Nat) (h:i<s.size):bt s (i:Int)=(by_ s i:Int):=by
 unfold bt by_
 rw [dif_pos (by simpa using h)]
 simp [ByteArray.get!,getElem!_pos,h]
 rfl
def atS (s:ByteArray) (i:Nat):Int×Int:=
  if by_ s i<128 then (by_ s i,1)
  else if 194≤by_ s i∧by_ s i<224∧i+1<s.size∧by_ s (i+1) / 64=2 then (((by_ s i:Int) - 192) * 64+((by_ s (i+1):Int) - 128),2)
  else if 224≤by_ s i∧by_ s i<240∧i+2<s.size∧by_ s (i+1) / 64=2∧by_ s (i+2) / 64=2∧2048≤((by_ s i:Int) - 224) * 4096+((by_ s (i+1):Int) - 128) * 64+((by_ s (i+2):Int) - 128) then
    (((by_ s i:Int) - 224) * 4096+((by_ s (i+1):Int) - 128) * 64+((by_ s (i+2):Int) - 128),3)
  else (0,0)
theorem by_lt (s:ByteArray) (i:Nat):by_ s i<256:=(s.get! i).toNat_lt
set_option maxHeartbeats 2000000 in
theorem at_eq (k:Nat) (s:ByteArray) (i:Nat) (hs:s.size≤140737488351232) (hi:i<s.size):bookplateref04_at.f (k+3) s i=some (atS s i):=by
 have w0:wrap64 (by_ s i:Int)=by_ s i:=by have:=by_lt s i;unfold wrap64;omega
 have w1:wrap64 ((i:Int)+1)=((i+1:Nat):Int):=by unfold wrap64;omega
 have w2:wrap64 ((i:Int)+2)=((i+2:Nat):Int):=by unfold wrap64;omega
 have h0:=by_lt s i
 have h1:=by_lt s (i+1)
 have h2:=by_lt s (i+2)
 unfold bookplateref04_at.f atS
 rw [bt_by s i hi,if_pos (by omega),if_pos (by omega),w0]
 simp only [bookplateref04_at.j0,bookplateref04_at.j1,w1,w2]
 by_cases c1:by_ s i<128
 {
 rw [if_pos (by omega),if_pos c1]
 }
 {
 rw [if_neg (by omega),if_neg c1]
 by_cases c2:i+1<s.size
 {
 rw [bt_by s (i+1) c2]
 by_cases c3:i+2<s.size
 {
 rw [bt_by s (i+2) c3]
 generalize by_ s i=b0 at *
 generalize by_ s (i+1)=b1 at *
 generalize by_ s (i+2)=b2 at *
 have e1:wrap64 ((b0:Int) - 192)=(b0:Int) - 192:=by unfold wrap64;omega
 have e2:wrap64 (((b0:Int) - 192) * 64)=((b0:Int) - 192) * 64:=by unfold wrap64;omega
 have e3:wrap64 ((b0:Int) - 224)=(b0:Int) - 224:=by unfold wrap64;omega
 have e4:wrap64 (((b0:Int) - 224) * 4096)=((b0:Int) - 224) * 4096:=by unfold wrap64;omega
 simp only [e1,e2,e3,e4]
 by_cases d1:b1 / 64=2
 {
 have m1:((b1:Int) - 128) % 256=(b1:Int) - 128:=by omega
 have e5:wrap64 (((b0:Int) - 192) * 64+((b1:Int) - 128))=((b0:Int) - 192) * 64+((b1:Int) - 128):=by unfold wrap64;omega
 have e6:wrap64 (((b0:Int) - 224) * 4096+((b1:Int) - 128) * 64)=((b0:Int) - 224) * 4096+((b1:Int) - 128) * 64:=by unfold wrap64;omega
 simp only [m1,e5,e6]
 by_cases d2:b2 / 64=2
 {
 have m2:((b2:Int) - 128) % 256=(b2:Int) - 128:=by omega
 have e7:wrap64 (((b0:Int) - 224) * 4096+((b1:Int) - 128) * 64+((b2:Int) - 128))=((b0:Int) - 224) * 4096+((b1:Int) - 128) * 64+((b2:Int) - 128):=by unfold wrap64;omega
 simp only [m2,e7]
 grind
 }
 {
 grind
 }
 }
 {
 grind
 }
 }
 {
 generalize by_ s i=b0 at *
 generalize by_ s (i+1)=b1 at *
 have e1:wrap64 ((b0:Int) - 192)=(b0:Int) - 192:=by unfold wrap64;omega
 have e2:wrap64 (((b0:Int) - 192) * 64)=((b0:Int) - 192) * 64:=by unfold wrap64;omega
 simp only [e1,e2]
 by_cases d1:b1 / 64=2
 {
 have m1:((b1:Int) - 128) % 256=(b1:Int) - 128:=by omega
 have e5:wrap64 (((b0:Int) - 192) * 64+((b1:Int) - 128))=((b0:Int) - 192) * 64+((b1:Int) - 128):=by unfold wrap64;omega
 simp only [m1,e5]
 grind
 }
 {
 grind
 }
 }
 }
 {
 grind
 }
 }
theorem at_eq' (k:Nat) (hk:3≤k) (s:ByteArray) (i:Nat) (hs:s.size≤140737488351232) (hi:i<s.size):bookplateref04_at.f k s i=some (atS s i):=by
 obtain ⟨m,rfl⟩:∃ m,k=m+3:=⟨k - 3,by omega⟩
 exact at_eq m s i hs hi
theorem at_flat {L:List Int} (hL:Letters L) {s:ByteArray} (hs:s.data.toList=flat L) (q:Nat) (hq:q<L.length):atS s (2 * q)=(L[q],2):=by
 have hsz:=size_list s
 rw [hs,flat_length] at hsz
 obtain ⟨g0,g1⟩:=flat_get L q hq
 have hx:=hL.two L[q] (List.getElem_mem hq)
 unfold atS by_
 rw [get_bytes s _ hs _ _ g0,get_bytes s _ hs _ _ g1]
 have e0:(UInt8.ofNat (192+L[q].toNat / 64)).toNat=192+L[q].toNat / 64:=by simp;omega
 have e1:(UInt8.ofNat (128+L[q].toNat % 64)).toNat=128+L[q].toNat % 64:=by simp;omega
 rw [e0,e1,if_neg (by omega),if_pos (by omega)]
 congr 1
 omega
theorem listed_eq {L:List Int} (hL:Letters L) {s:ByteArray} (hs:s.data.toList=flat L) (c:Int):∀ (d q k:Nat),q+d=L.length→d+4≤k→bookplateref04_listed.l0 k s c ((2 * q:Nat):Int)=some (decide (c∈L.drop q))
 |0,q,k,hq,hk=>by {
 obtain ⟨m,rfl⟩:∃ m,k=m+1:=⟨k - 1,by omega⟩
 have hsz:=size_list s
 rw [hs,flat_length] at hsz
 simp only [bookplateref04_listed.l0]
 rw [if_neg (by omega),List.drop_of_length_le (by omega)]
 simp
 }
 |d+1,q,k,hq,hk=>by {
 obtain ⟨m,rfl⟩:∃ m,k=m+1:=⟨k - 1,by omega⟩
 have hsz:=size_list s
 rw [hs,flat_length] at hsz
 have hlen:=hL.len
 have hql:q<L.length:=by omega
 simp only [bookplateref04_listed.l0]
 rw [if_pos (by omega),at_eq' m (by omega) s (2 * q) (by omega) (by omega),at_flat hL hs q hql]
 simp only [Option.bind_some]
 rw [List.drop_eq_getElem_cons hql]
 by_cases hc:L[q]=c
 {
 rw [if_pos hc,←hc];simp only [List.mem_cons,true_or,decide_true]
 }
 {
 rw [if_neg hc,show wrap64 (((2 * q:Nat):Int)+2)=((2 * (q+1):Nat):Int) from by unfold wrap64;omega,listed_eq hL hs c d (q+1) m (by omega) (by omega)]
 congr 1
 rw [decide_eq_decide,List.mem_cons]
 exact ⟨fun h=> .inr h,fun h=>h.resolve_left (fun e=>hc e.symm)⟩
 }
 }
theorem listed_all {L:List Int} (hL:Letters L) (s:ByteArray) (hs:s.data.toList=flat L) (c:Int) (k:Nat) (hk:L.length+4≤k):bookplateref04_listed.f k s c=some (decide (c∈L)):=by
 unfold bookplateref04_listed.f
 exact listed_eq hL hs c L.length 0 k (by omega) hk
set_option maxRecDepth 100000 in
set_option maxHeartbeats 2000000 in
theorem refclass0_eq (k:Nat) (c:Int):bookplateref04_Class.j0 (k+320) c=some (cls0 c):=by
 have hL:=latin_range c
 have hG:=greek_range c
 have hC:=cyrillic_range c
 have l1:latinL.length=183:=by decide+kernel
 have l2:greekL.length=18:=by decide+kernel
 have l3:cyrillicL.length=12:=by decide+kernel
 simp only [bookplateref04_Class.j0,bookplateref04_Class.j1,bookplateref04_Class.j2,bookplateref04_Class.j3,bookplateref04_Class.j4,bookplateref04_Class.j5,bookplateref04_Class.j6,in_eq]
 rw [listed_all cyrillic_letters _ (by rfl) c _ (by omega),listed_all greek_letters _ (by rfl) c _ (by omega),listed_all latin_letters _ (by rfl) c _ (by omega)]
 simp only [Option.bind_some,decide_eq_true_eq]
 unfold cls0
 grind (splits:=60)
theorem refclass_eq (k:Nat) (c:Int) (hc: -9223372036854775808≤c) (hc2:c≤9223372036854775807):bookplateref04_Class.f (k+320) c=some (cls c):=by
 unfold bookplateref04_Class.f cls
 rw [in_eq,Option.bind_some]
 by_cases h:65281≤c∧c≤65374
 {
 rw [if_pos (by simpa using h),if_pos h,refclass0_eq]
 congr 2;unfold wrap64;omega
 }
 {
 rw [if_neg (by simpa using h),if_neg h,refclass0_eq]
 }
end Go.Proofs.YtdlolaognnbhpaaDoor.Rep
namespace Go.Proofs.YtdlolaognnbhpaaDoor.Rep
open Go.RowKit Go.Proofs.YtdlolaognnbhpaaDoorW.PrintWords Go.Lib Rune Go.Proofs.YtdlolaognnbhpaaDoor.Pr
set_option linter.unusedVariables false
set_option linter.unusedSimpArgs false
theorem has_range (c:Int) (h:has c=true):32≤c∧c≤65374∧ ¬ (1200≤c∧c<64000):=by
 have hL:∀ d,d∈latinL→192≤d∧d≤382:=latin_range
 have hG:∀ d,d∈greekL→902≤d∧d≤974∧d≠930:=greek_range
 have hC:∀ d,d∈cyrillicL→1025≤d∧d≤1169:=cyrillic_range
 unfold has cls at h
 by_cases hw:65281≤c∧c≤65374
 {
 omega
 }
 {
 rw [if_neg hw] at h
 have h1:=hL c
 have h2:=hG c
 have h3:=hC c
 unfold cls0 at h
 grind (splits:=60)
 }
def atN (n b0 b1 b2:Nat):Int×Int:=
  if b0<128 then (b0,1)
  else if 194≤b0∧b0<224∧1<n∧b1 / 64=2 then (((b0:Int) - 192) * 64+((b1:Int) - 128),2)
  else if 224≤b0∧b0<240∧2<n∧b1 / 64=2∧b2 / 64=2∧2048≤((b0:Int) - 224) * 4096+((b1:Int) - 128) * 64+((b2:Int) - 128) then
    (((b0:Int) - 224) * 4096+((b1:Int) - 128) * 64+((b2:Int) - 128),3)
  else (0,0)
theorem atS_atN (s:ByteArray) (i:Nat):atS s i=atN (s.size - i) (by_ s i) (by_ s (i+1)) (by_ s (i+2)):=by
 unfold atS atN
 simp only [show (1<s.size - i)=(i+1<s.size) from propext ⟨fun h=>by omega,fun h=>by omega⟩,show (2<s.size - i)=(i+2<s.size) from propext ⟨fun h=>by omega,fun h=>by omega⟩]
theorem dec_step (n b0 b1 b2 b3:Nat) (h0:b0<256) (h1:b1<256) (h2:b2<256) (h3:b3<256):
 (((decodeN n b0 b1 b2 b3).1:Int)≠65533∧has (decodeN n b0 b1 b2 b3).1=true∧atN n b0 b1 b2=(((decodeN n b0 b1 b2 b3).1:Int),((decodeN n b0 b1 b2 b3).2:Int)))∨
 ((((decodeN n b0 b1 b2 b3).1:Int)=65533∨has (decodeN n b0 b1 b2 b3).1=false)∧((atN n b0 b1 b2).2=0∨has (atN n b0 b1 b2).1=false)):=by
 have hn:∀ c:Int, ¬ (32≤c∧c≤65374∧ ¬ (1200≤c∧c<64000))→has c=false:=fun c hc=>by {
 cases hh:has c with
 |false=>rfl
 |true=>exact absurd (has_range c hh) hc
 }
 unfold decodeN
 by_cases c0:b0<128
 {
 rw [if_pos c0]
 have ha:atN n b0 b1 b2=((b0:Int),1):=by unfold atN;rw [if_pos c0]
 rw [ha]
 rcases Bool.eq_false_or_eq_true (has (b0:Int)) with hh|hh
 {
 exact .inl ⟨by show ((b0:Nat):Int)≠65533;omega,hh,rfl⟩
 }
 {
 exact .inr ⟨.inr hh,.inr hh⟩
 }
 }
 {
 rw [if_neg c0]
 by_cases c1:b0 / 32=6∧(1<n∧b1 / 64=2)
 {
 rw [if_pos c1]
 by_cases c2:b0 % 32 * 64+b1 % 64≥128
 {
 rw [if_pos c2]
 have ha:atN n b0 b1 b2=(((b0 % 32 * 64+b1 % 64:Nat):Int),2):=by {
 unfold atN
 rw [if_neg c0,if_pos (by omega)]
 congr 1;omega
 }
 rw [ha]
 rcases Bool.eq_false_or_eq_true (has ((b0 % 32 * 64+b1 % 64:Nat):Int)) with hh|hh
 {
 exact .inl ⟨by show ((b0 % 32 * 64+b1 % 64:Nat):Int)≠65533;omega,hh,rfl⟩
 }
 {
 exact .inr ⟨.inr hh,.inr hh⟩
 }
 }
 {
 rw [if_neg c2]
 have ha:atN n b0 b1 b2=(0,0):=by {
 unfold atN
 rw [if_neg c0,if_neg (by omega),if_neg (by omega)]
 }
 rw [ha]
 exact .inr ⟨.inl rfl,.inl rfl⟩
 }
 }
 {
 rw [if_neg c1]
 by_cases c3:b0 / 16=14∧(1<n∧b1 / 64=2)∧(2<n∧b2 / 64=2)
 {
 rw [if_pos c3]
 have ha:atN n b0 b1 b2=if 2048≤b0 % 16 * 4096+b1 % 64 * 64+b2 % 64 then (((b0 % 16 * 4096+b1 % 64 * 64+b2 % 64:Nat):Int),3) else (0,0):=by {
 unfold atN
 rw [if_neg c0,if_neg (by omega)]
 by_cases c4:2048≤b0 % 16 * 4096+b1 % 64 * 64+b2 % 64
 {
 rw [if_pos c4,if_pos (by omega)]
 congr 1;omega
 }
 {
 rw [if_neg c4,if_neg (by omega)]
 }
 }
 rw [ha]
 generalize hv:b0 % 16 * 4096+b1 % 64 * 64+b2 % 64=v
 have hv2:v<65536:=by omega
 by_cases c4:v≥2048∧(v<55296∨57344≤v∧v≤1114111)
 {
 rw [if_pos c4,if_pos c4.1]
 rcases Bool.eq_false_or_eq_true (has ((v:Nat):Int)) with hh|hh
 {
 exact .inl ⟨by have:=has_range _ hh;show ((v:Nat):Int)≠65533;omega,hh,rfl⟩
 }
 {
 exact .inr ⟨.inr hh,.inr hh⟩
 }
 }
 {
 rw [if_neg c4]
 refine .inr ⟨.inl rfl,?_⟩
 by_cases c5:2048≤v
 {
 rw [if_pos c5];exact .inr (hn _ (by show ¬ _;omega))
 }
 {
 rw [if_neg c5];exact .inl rfl
 }
 }
 }
 {
 rw [if_neg c3]
 have ha:atN n b0 b1 b2=(0,0):=by {
 unfold atN
 rw [if_neg c0,if_neg (by omega),if_neg (by omega)]
 }
 rw [ha]
 refine .inr ⟨?_,.inl rfl⟩
 by_cases c6:b0 / 8=30∧(1<n∧b1 / 64=2)∧(2<n∧b2 / 64=2)∧(3<n∧b3 / 64=2)
 {
 rw [if_pos c6]
 split
 {
 refine .inr (hn _ ?_)
 show ¬ (32≤((_:Nat):Int)∧_)
 omega
 }
 {
 exact .inl rfl
 }
 }
 {
 rw [if_neg c6];exact .inl rfl
 }
 }
 }
 }
theorem get_extract (s:ByteArray) (i k:Nat) (h:i+k<s.size):(s.extract i s.size).get! k=s.get! (i+k):=by
 have h1:(s.extract i s.size).data.toList[k]?=some (s[i+k]'h):=by {
 rw [extract_data,List.getElem?_take,List.getElem?_drop,if_pos (by omega),at_list s _ h]
 }
 rw [get_bytes _ _ rfl k _ h1]
 symm
 exact get_bytes s _ rfl _ _ (at_list s _ h)
theorem extract_size (s:ByteArray) (i:Nat) (h:i≤s.size):(s.extract i s.size).size=s.size - i:=by
 rw [ByteArray.size_extract];omega
theorem step_at (s:ByteArray) (i:Nat) (h:i<s.size):
 (((decodeGo (s.extract i s.size)).1:Int)≠65533∧has (decodeGo (s.extract i s.size)).1=true∧atS s i=(((decodeGo (s.extract i s.size)).1:Int),((decodeGo (s.extract i s.size)).2:Int)))∨
 ((((decodeGo (s.extract i s.size)).1:Int)=65533∨has (decodeGo (s.extract i s.size)).1=false)∧((atS s i).2=0∨has (atS s i).1=false)):=by
 have hz:(s.extract i s.size).size=s.size - i:=extract_size s i (by omega)
 have hd:decodeGo (s.extract i s.size)=decodeN (s.size - i) (by_ s i) ((s.extract i s.size).get! 1).toNat ((s.extract i s.size).get! 2).toNat ((s.extract i s.size).get! 3).toNat:=by {
 unfold decodeGo
 rw [if_neg (by omega),decode_at,hz]
 have:=get_extract s i 0 (by omega)
 simp only [Nat.add_zero] at this
 rw [Nat.sub_zero,Nat.zero_add,Nat.zero_add,Nat.zero_add,this]
 rfl
 }
 have ha:atS s i=atN (s.size - i) (by_ s i) ((s.extract i s.size).get! 1).toNat ((s.extract i s.size).get! 2).toNat:=by {
 rw [atS_atN]
 unfold atN
 by_cases h1:i+1<s.size
 {
 rw [get_extract s i 1 h1]
 by_cases h2:i+2<s.size
 {
 rw [get_extract s i 2 h2];rfl
 }
 {
 have e2: ¬ 2<s.size - i:=by omega
 simp only [e2,false_and,and_false,if_false];rfl
 }
 }
 {
 have e1: ¬ 1<s.size - i:=by omega
 have e2: ¬ 2<s.size - i:=by omega
 simp only [e1,e2,false_and,and_false,if_false]
 }
 }
 rw [hd,ha]
 exact dec_step _ _ _ _ _ (by_lt s i) (UInt8.toNat_lt _) (UInt8.toNat_lt _) (UInt8.toNat_lt _)
def decGo (s:ByteArray):Nat→Nat→List Int→Option (List Int)
 |0,i,acc=>if i<s.size then none else some acc
 |f+1,i,acc=>if i<s.size then (if (atS s i).2=0∨has (atS s i).1=false then none else decGo s f (i+(atS s i).2.toNat) (acc++[(atS s i).1])) else some acc
def dec (s:ByteArray):Option (List Int):=decGo s s.size 0 []
def out (o:Option (List Int)):List Int×Bool:=match o with|some l=>(l,true)|none=>([],false)
theorem atS_width (s:ByteArray) (i:Nat) (hi:i<s.size):(atS s i).2=0∨(1≤(atS s i).2∧(atS s i).2≤3∧i+(atS s i).2.toNat≤s.size∧0≤(atS s i).1∧(atS s i).1<65536):=by
 unfold atS
 have h0:=by_lt s i
 have h1:=by_lt s (i+1)
 have h2:=by_lt s (i+2)
 split
 {
 exact .inr ⟨by omega,by omega,by show i+1≤_;omega,by show (0:Int)≤((_:Nat):Int);omega,by show ((_:Nat):Int)<65536;omega⟩
 }
 {
 split
 {
 rename_i h
 exact .inr ⟨by omega,by omega,by show i+2≤_;omega,by show (0:Int)≤_;omega,by show _<(65536:Int);omega⟩
 }
 {
 split
 {
 rename_i h
 exact .inr ⟨by omega,by omega,by show i+3≤_;omega,by show (0:Int)≤_;omega,by show _<(65536:Int);omega⟩
 }
 {
 exact .inl rfl
 }
 }
 }
theorem refdec_go (s:ByteArray) (hs:s.size≤140737488351232):∀ (f i:Nat) (acc:List Int) (k:Nat),s.size≤i+f→i≤s.size→acc.length≤i→i+400+f≤k+i→s.size<17592186044416→bookplateref04_Decode.l0 k s acc i=some (out (decGo s f i acc))
 |0,i,acc,k,h1,h2,h3,h4,h5=>by {
 obtain ⟨m,rfl⟩:∃ m,k=m+1:=⟨k - 1,by omega⟩
 simp only [bookplateref04_Decode.l0,decGo]
 rw [if_neg (by omega),if_neg (by omega)];rfl
 }
 |f+1,i,acc,k,h1,h2,h3,h4,h5=>by {
 obtain ⟨m,rfl⟩:∃ m,k=m+1:=⟨k - 1,by omega⟩
 simp only [bookplateref04_Decode.l0,decGo]
 by_cases hi:i<s.size
 {
 rw [if_pos (by omega),if_pos hi,at_eq' m (by omega) s i hs hi]
 simp only [Option.bind_some]
 rcases atS_width s i hi with hw|⟨w1,w2,w3,w4,w5⟩
 {
 rw [if_pos hw,if_pos (.inl hw)];rfl
 }
 {
 rw [if_neg (by omega)]
 unfold bookplateref04_Has.f
 obtain ⟨m',rfl⟩:∃ m',m=m'+320:=⟨m - 320,by omega⟩
 rw [refclass_eq m' _ (by omega) (by omega)]
 simp only [Option.bind_some]
 have hh:((cls (atS s i).1).2 !=0)=has (atS s i).1:=rfl
 rw [hh]
 cases hc:has (atS s i).1 with
 |true=>
  (
 rw [if_pos rfl,if_pos (by omega),if_neg (by rintro (h|h);omega;cases h)]
 have hwr:wrap64 ((i:Int)+(atS s i).2)=((i+(atS s i).2.toNat:Nat):Int):=by unfold wrap64;omega
 rw [hwr]
 exact refdec_go s hs f _ _ _ (by omega) (by omega) (by rw [List.length_append];simp;omega) (by omega) h5
  )
 |false=>
  (
 rw [if_neg (by simp),if_pos (.inr rfl)];rfl
  )
 }
 }
 {
 rw [if_neg (by omega),if_neg hi];rfl
 }
 }
theorem refdec_eq (s:ByteArray) (hs:s.size<17592186044416) (k:Nat) (hk:s.size+400≤k):bookplateref04_Decode.f k s=some (out (dec s)):=by
 unfold bookplateref04_Decode.f dec
 exact refdec_go s (by omega) s.size 0 [] k (by omega) (by omega) (by simp) (by omega) hs
theorem progdec_go (s:ByteArray) (hs:s.size<17592186044416):∀ (f i:Nat) (acc:List Int) (k:Nat),s.size≤i+f→i≤s.size→acc.length≤i→f+20≤k→repertoire_Decode.l0 k (s.extract i s.size) acc=some (out (decGo s f i acc))
  |0,i,acc,k,h1,h2,h3,h4=>by
    obtain ⟨m,rfl⟩:∃ m,k=m+1:=⟨k - 1,by omega⟩
    simp only [repertoire_Decode.l0,decGo]
    rw [extract_size s i h2,if_neg (by omega),if_neg (by omega)];rfl
  |f+1,i,acc,k,h1,h2,h3,h4=>by
    obtain ⟨m,rfl⟩:∃ m,k=m+1:=⟨k - 1,by omega⟩
    simp only [repertoire_Decode.l0,decGo]
    by_cases hi:i<s.size
    · rw [extract_size s i h2,if_pos (by omega),if_pos hi]
      unfold utf8_DecodeRuneInString.f
      simp only [Option.bind_some]
      rcases step_at s i hi with ⟨c1,c2,c3⟩|⟨c1,c2⟩
      · have hr:=has_range _ c2
        rw [if_neg c1]
        have hw:wrap64 ((decodeGo (s.extract i s.size)).1:Int)=((decodeGo (s.extract i s.size)).1:Int):=by unfold wrap64;omega
        rw [hw]
        obtain ⟨m',rfl⟩:∃ m',m=m'+8:=⟨m - 8,by omega⟩
        rw [has_eq m' _ (by omega) (by omega),c2]
        simp only [Option.bind_some,if_true]
        have hwd:=atS_width s i hi
        rw [c3] at hwd⊢
        simp only at hwd
        rcases hwd with hwd|⟨w1,w2,w3,_⟩
        · have:=decode_width (s.extract i s.size) (by rw [extract_size s i h2];omega)
          omega
        · rw [if_pos (by omega),if_pos (by omega),if_pos (by omega),if_neg (by rintro (h|h);omega;rw [c2] at h;cases h)]
          have he:(s.extract i s.size).extract ((decodeGo (s.extract i s.size)).2:Int).toNat (s.size - i)=s.extract (i+((decodeGo (s.extract i s.size)).2:Int).toNat) s.size:=by
            rw [ByteArray.extract_extract];congr 1;omega
          rw [he]
          exact progdec_go s hs f _ _ _ (by omega) (by omega) (by rw [List.length_append];simp;omega) (by omega)
      · rw [if_pos c2]
        by_cases c4:((decodeGo (s.extract i s.size)).1:Int)=65533
        · rw [if_pos c4];rfl
        · rw [if_neg c4]
          have hf:has (decodeGo (s.extract i s.size)).1=false:=c1.resolve_left c4
          have hle:((decodeGo (s.extract i s.size)).1:Int)≤2147483647:=decode_small _
          have hw:wrap64 ((decodeGo (s.extract i s.size)).1:Int)=((decodeGo (s.extract i s.size)).1:Int):=by unfold wrap64;omega
          rw [hw]
          obtain ⟨m',rfl⟩:∃ m',m=m'+8:=⟨m - 8,by omega⟩
          rw [has_eq m' _ (by omega) (by omega),hf]
          simp only [Option.bind_some]
          rfl
    · rw [extract_size s i h2,if_neg (by omega),if_neg hi];rfl
where
  decode_width (t:ByteArray) (ht:0<t.size):1≤(decodeGo t).2:=by
    unfold decodeGo
    rw [if_neg (by omega)]
    by_cases h:(t[0]'ht).toNat<128
    · rw [decode_ascii t 0 ht h];exact Nat.le_refl _
    · exact (decode_high t 0 ht (by omega)).2
  decode_small (t:ByteArray):((decodeGo t).1:Int)≤2147483647:=by
    unfold decodeGo
    split
    · show ((65533:Nat):Int)≤_;omega
    · have:=decode_le t 0
      omega
theorem dec_eq (s:ByteArray) (hs:s.size<17592186044416) (k:Nat) (hk:s.size+20≤k):repertoire_Decode.f k s=some (out (dec s)):=by
 unfold repertoire_Decode.f dec
 rw [if_pos (by omega),if_pos (by omega)]
 have:=progdec_go s hs s.size 0 [] k (by omega) (by omega) (by simp) hk
 rwa [show s.extract 0 s.size=s from by simp] at this
end Go.Proofs.YtdlolaognnbhpaaDoor.Rep
namespace Go.Proofs.YtdlolaognnbhpaaDoor.Rep
open Go.RowKit Go.Proofs.YtdlolaognnbhpaaDoorW.PrintWords Go.Lib Rune Go.Proofs.YtdlolaognnbhpaaDoor.Pr
set_option linter.unusedVariables false
set_option linter.unusedSimpArgs false
def decL (s:ByteArray):List Int:=(dec s).getD []
theorem out_dec (s:ByteArray):out (dec s)=(decL s,(dec s).isSome):=by
 unfold decL
 cases dec s<;>rfl
def vText (s:ByteArray):Bool:=decide (1≤s.size∧s.size≤400∧by_ s 0≠32∧by_ s (s.size - 1)≠32) && (dec s).isSome
theorem trim_same (l:List UInt8) (c:UInt8) (h:l≠[]):trimB l c=l↔l.head?≠some c∧l.getLast?≠some c:=by
 have hr:∀ m:List UInt8,m.dropWhile (· ==c)=m↔m.head?≠some c:=by {
 intro m
 cases m with
 |nil=>simp
 |cons x m=>
  (
 by_cases hx:x=c
 {
 subst hx
 simp only [List.dropWhile_cons,beq_self_eq_true,if_true,List.head?_cons]
 constructor
 {
 intro e
 have:=congrArg List.length e
 have h2:=(List.dropWhile_suffix (l:=m) (· ==x)).length_le
 simp at this
 omega
 }
 {
 intro e;exact absurd rfl e
 }
 }
 {
 simp [List.dropWhile_cons,hx]
 }
  )
 }
 have hlen:∀ m:List UInt8,(m.dropWhile (· ==c)).length≤m.length:=fun m=>(List.dropWhile_suffix _).length_le
 unfold trimB trimLeftB trimRightB
 constructor
 {
 intro e
 have l1:=hlen l.reverse
 have l2:=hlen (l.reverse.dropWhile (· ==c)).reverse
 rw [e] at l2
 simp only [List.length_reverse] at l1 l2
 have e1:l.reverse.dropWhile (· ==c)=l.reverse:=by {
 have hsuf:=List.dropWhile_suffix (l:=l.reverse) (· ==c)
 exact hsuf.eq_of_length (by simp;omega)
 }
 rw [e1,List.reverse_reverse] at e
 refine ⟨(hr l).1 e,?_⟩
 have:=(hr l.reverse).1 e1
 rwa [List.head?_reverse] at this
 }
 {
 rintro ⟨h1,h2⟩
 have e1:l.reverse.dropWhile (· ==c)=l.reverse:=(hr l.reverse).2 (by rwa [List.head?_reverse])
 rw [e1,List.reverse_reverse]
 exact (hr l).2 h1
 }
theorem by_list (s:ByteArray) (i:Nat) (h:i<s.size) (c:UInt8):s.data.toList[i]?=some c↔by_ s i=c.toNat:=by
 rw [at_list s i h]
 unfold by_
 have:s.get! i=s[i]'h:=by {
 simp [ByteArray.get!,getElem!_pos,h]
 rfl
 }
 rw [this]
 exact ⟨fun e=>by rw [Option.some.inj e],fun e=>by rw [UInt8.toNat_inj.1 e]⟩
theorem valid_eq (s:ByteArray) (hs:s.size<17592186044416) (k:Nat) (hk:s.size+20≤k):repertoire_Valid.f k s=some (vText s):=by
 unfold repertoire_Valid.f
 rw [dec_eq s hs k hk,out_dec]
 simp only [Option.bind_some]
 have hl:=size_list s
 cases hd:(dec s).isSome with
 |false=>simp [vText,hd]
 |true=>
  (
 rw [if_pos rfl,toList_data]
 by_cases h0:s.data.toList=[]
 {
 rw [if_pos h0]
 rw [h0] at hl
 simp only [List.length_nil] at hl
 unfold vText
 rw [decide_eq_false (by omega)];rfl
 }
 {
 rw [if_neg h0]
 have hpos:0<s.size:=by {
 rcases Nat.eq_zero_or_pos s.size with h|h
 {
 exact absurd (List.eq_nil_of_length_eq_zero (by rw [hl,h])) h0
 }
 {
 exact h
 }
 }
 by_cases h4:s.size≤400
 {
 rw [if_pos (by omega)]
 unfold strings_Trim.f
 rw [if_pos ⟨rfl,by omega⟩]
 simp only [Option.bind_some,toList_data]
 congr 1
 unfold vText
 rw [hd,Bool.and_true,Bool.eq_iff_iff,beq_iff_eq,decide_eq_true_eq]
 rw [trim_same _ _ h0]
 have g0:=by_list s 0 hpos 32
 have g1:=by_list s (s.size - 1) (by omega) 32
 rw [List.head?_eq_getElem?,List.getLast?_eq_getElem?,hl]
 have e32:(32:UInt8).toNat=32:=rfl
 rw [e32] at g0 g1
 rw [ne_eq,g0,ne_eq,g1]
 exact ⟨fun h=>⟨hpos,h4,h.1,h.2⟩,fun h=>⟨h.2.2.1,h.2.2.2⟩⟩
 }
 {
 rw [if_neg (by omega)]
 unfold vText
 rw [decide_eq_false (by omega)];rfl
 }
 }
  )
theorem refvalid_eq (s:ByteArray) (hs:s.size<17592186044416) (k:Nat) (hk:s.size+400≤k):bookplateref04_Valid.f k s=some (vText s):=by
 unfold bookplateref04_Valid.f vText
 by_cases h0:s.size<1
 {
 rw [if_pos (by omega),decide_eq_false (by omega)];rfl
 }
 {
 rw [if_neg (by omega)]
 by_cases h4:400<s.size
 {
 rw [if_pos (by omega),decide_eq_false (by omega)];rfl
 }
 {
 have hw:wrap64 ((s.size:Int) - 1)=((s.size - 1:Nat):Int):=by unfold wrap64;omega
 have hb0:bt s 0=(by_ s 0:Int):=bt_by s 0 (by omega)
 rw [if_neg (by omega),if_pos (by omega),hw,hb0,bt_by s (s.size - 1) (by omega)]
 by_cases a:by_ s 0=32
 {
 rw [if_pos (by omega),decide_eq_false (by omega)];rfl
 }
 {
 rw [if_neg (by omega),if_pos (by omega),if_pos (by omega)]
 by_cases b:by_ s (s.size - 1)=32
 {
 rw [if_pos (by omega),decide_eq_false (by omega)];rfl
 }
 {
 rw [if_neg (by omega),decide_eq_true (by omega),refdec_eq s hs k hk,out_dec]
 rfl
 }
 }
 }
 }
end Go.Proofs.YtdlolaognnbhpaaDoor.Rep
