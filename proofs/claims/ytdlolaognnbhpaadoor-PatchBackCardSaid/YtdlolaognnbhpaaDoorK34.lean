/- A part of the proof of laws of this seat: PatchBack, PatchDiff, PatchLeast, PatchMetric. Conditions: none of our own. -/
import Derived.Test.YtdlolaognnbhpaaDoorK21
import Derived.Test.YtdlolaognnbhpaaDoorK22
import Derived.Test.YtdlolaognnbhpaaDoorK26
import Derived.Test.YtdlolaognnbhpaaDoorK30
import Derived.Test.YtdlolaognnbhpaaDoorK33
namespace Go.Proofs.YtdlolaognnbhpaaDoor.Rec
open Go.RowKit Go.Proofs.YtdlolaognnbhpaaDoorW.PrintWords Go.Proofs.YtdlolaognnbhpaaDoor.Pr Go.Proofs.YtdlolaognnbhpaaDoor.Rep Classical
set_option linter.unusedVariables false
set_option linter.unusedSimpArgs false
def isD (c:Int):Bool:=decide (48≤c) && decide (c≤57)
def isC (c:Int):Bool:=isD c||(decide (97≤c) && decide (c≤122))
def isI (c:Int):Bool:=decide (c=32)||isC c
def vTag (s:ByteArray):Bool:=decide (s.size=3) && isD (bt s 0) && isD (bt s 1) && isD (bt s 2) && decide (s.toList≠[48,48,48])
def vSub (y:Sb):Bool:=isC y.f0 && vText y.f1
def vField (x:Fd):Bool:=vTag x.f0 && isI x.f1.f0 && isI x.f1.f1 && decide (1≤x.f2.length∧x.f2.length≤20) && x.f2.all vSub
def vRec (i:Int) (l:List Fd):Bool:=decide (1≤i∧i≤1000000000) && decide (1≤l.length∧l.length≤60) && l.all vField
def Vals (x:Fd):Prop:=x.f2.length<4611686018427387904∧∀ y∈x.f2,y.f1.size<17592186044416
theorem digit_eq (c:Int):record_digit.f c=some (isD c):=by
 unfold record_digit.f isD
 by_cases h:48≤c
 {
 rw [if_pos h,decide_eq_true h,Bool.true_and]
 }
 {
 rw [if_neg h,decide_eq_false h];rfl
 }
theorem refdigit_eq (c:Int):bookplateref12_isDigit.f c=some (isD c):=by
 unfold bookplateref12_isDigit.f isD
 by_cases h:48≤c
 {
 rw [if_pos h,decide_eq_true h,Bool.true_and]
 }
 {
 rw [if_neg h,decide_eq_false h];rfl
 }
theorem small_eq (c:Int):record_small.f c=some (decide (97≤c) && decide (c≤122)):=by
 unfold record_small.f
 by_cases h:97≤c
 {
 rw [if_pos h,decide_eq_true h,Bool.true_and]
 }
 {
 rw [if_neg h,decide_eq_false h];rfl
 }
theorem code_eq (c:Int):record_code.f c=some (isC c):=by
 unfold record_code.f isC
 rw [digit_eq,small_eq,Option.bind_some]
 cases isD c<;>rfl
theorem refcode_eq (c:Int):bookplateref12_isCode.f c=some (isC c):=by
 unfold bookplateref12_isCode.f isC
 rw [refdigit_eq,Option.bind_some]
 cases isD c
 {
 rw [if_neg (by decide),Bool.false_or]
 by_cases h:97≤c
 {
 rw [if_pos h,decide_eq_true h,Bool.true_and]
 }
 {
 rw [if_neg h,decide_eq_false h];rfl
 }
 }
 {
 rfl
 }
theorem ind_eq (c:Int):record_indicator.f c=some (isI c):=by
 unfold record_indicator.f isI
 rw [code_eq]
 by_cases h:c=32
 {
 rw [if_pos h,decide_eq_true h];rfl
 }
 {
 rw [if_neg h,decide_eq_false h];rfl
 }
theorem tag_eq (s:ByteArray):record_ValidTag.f s=some (vTag s):=by
 unfold record_ValidTag.f vTag
 simp only [digit_eq,Option.bind_some]
 by_cases h:s.size=3
 {
 rw [if_pos (by omega),decide_eq_true h,if_pos (show (0:Int)<s.size by omega),if_pos (show (1:Int)<s.size by omega),if_pos (show (2:Int)<s.size by omega)]
 by_cases h0:s.toList=[48,48,48]
 {
 rw [if_pos h0,decide_eq_false (by simpa using h0),Bool.and_false]
 }
 {
 rw [if_neg h0,decide_eq_true h0,Bool.and_true]
 cases isD (bt s 0)<;>cases isD (bt s 1)<;>cases isD (bt s 2)<;>rfl
 }
 }
 {
 rw [if_neg (by omega),decide_eq_false h];rfl
 }
theorem reftag_eq (s:ByteArray):bookplateref12_ValidTag.f s=some (vTag s):=by
 unfold bookplateref12_ValidTag.f vTag
 simp only [refdigit_eq,Option.bind_some]
 by_cases h:s.size=3
 {
 rw [if_pos (by omega),decide_eq_true h,if_pos (show (0:Int)<s.size by omega),if_pos (show (1:Int)<s.size by omega),if_pos (show (2:Int)<s.size by omega)]
 have e:(s.toList !=[48,48,48])=decide (s.toList≠[48,48,48]):=by {
 by_cases h0:s.toList=[48,48,48]
 {
 rw [h0];rfl
 }
 {
 rw [decide_eq_true h0];simpa using h0
 }
 }
 rw [e]
 generalize decide (s.toList≠[48,48,48])=z
 cases isD (bt s 0)<;>cases isD (bt s 1)<;>cases isD (bt s 2)<;>cases z<;>rfl
 }
 {
 rw [if_neg (by omega),decide_eq_false h];rfl
 }
theorem find_ev {α:Type} (l:List α) (P:α→Bool) (T:Nat→α→Option Bool) (F:Nat→Int→Option Int) (hT:∀ x∈l,Ev (fun k=>T k x) (!P x))
 (hF:∀ (k i:Nat) (h:i<l.length),F (k+1) (i:Int)=(T k l[i]).bind fun t=>if t=true then some (i:Int) else F k ((i+1:Nat):Int)) (hE:∀ k,F (k+1) (l.length:Int)=some (-1)):
 ∀ (d i:Nat),i+d=l.length→∃ r,Ev (fun k=>F k (i:Int)) r∧decide (r≥0)= !((l.drop i).all P)
 |0,i,h=>by {
 obtain rfl:i=l.length:=by omega
 refine ⟨-1,Ev.step (g:=fun _=>some (-1)) (fun k=>hE k) (Ev.pure _),?_⟩
 rw [List.drop_length]
 rfl
 }
 |d+1,i,h=>by {
 have hi:i<l.length:=by omega
 obtain ⟨r,h1,h2⟩:=find_ev l P T F hT hF hE d (i+1) (by omega)
 have ht:=hT _ (List.getElem_mem hi)
 rw [List.drop_eq_getElem_cons hi,List.all_cons]
 cases hp:P l[i] with
 |true=>
  (
 rw [hp] at ht
 refine ⟨r,Ev.step (hF · i hi) (Ev.bind ht (Ev.neg (by decide) h1)),?_⟩
 rw [h2,Bool.true_and]
  )
 |false=>
  (
 rw [hp] at ht
 refine ⟨(i:Int),Ev.step (hF · i hi) (Ev.bind ht (Ev.pos (by decide) (Ev.pure _))),?_⟩
 rw [Bool.false_and,decide_eq_true (by omega)]
 rfl
  )
 }
theorem all_ev {α:Type} (l:List α) (P:α→Bool) (T:Nat→α→Option Bool) (F:Nat→Int→Option Bool) (hT:∀ x∈l,Ev (fun k=>T k x) (P x))
 (hF:∀ (k i:Nat) (h:i<l.length),F (k+1) (i:Int)=(T k l[i]).bind fun t=>if t=true then F k ((i+1:Nat):Int) else some false) (hE:∀ k,F (k+1) (l.length:Int)=some true):
 ∀ (d i:Nat),i+d=l.length→Ev (fun k=>F k (i:Int)) ((l.drop i).all P)
 |0,i,h=>by {
 obtain rfl:i=l.length:=by omega
 refine Ev.step (g:=fun _=>some true) (fun k=>hE k) ((Ev.pure _).cast ?_)
 rw [List.drop_length]
 rfl
 }
 |d+1,i,h=>by {
 have hi:i<l.length:=by omega
 have h1:=all_ev l P T F hT hF hE d (i+1) (by omega)
 have ht:=hT _ (List.getElem_mem hi)
 rw [List.drop_eq_getElem_cons hi,List.all_cons]
 cases hp:P l[i] with
 |true=>
  (
 rw [hp] at ht
 rw [Bool.true_and]
 exact Ev.step (hF · i hi) (Ev.bind ht (Ev.pos (by decide) h1))
  )
 |false=>
  (
 rw [hp] at ht
 rw [Bool.false_and]
 exact Ev.step (hF · i hi) (Ev.bind ht (Ev.neg (by decide) (Ev.pure _)))
  )
 }
theorem text_ev (s:ByteArray) (hs:s.size<17592186044416):Ev (fun k=>repertoire_Valid.f k s) (vText s):=⟨s.size+20,fun k hk=>valid_eq s hs k hk⟩
theorem reftext_ev (s:ByteArray) (hs:s.size<17592186044416):Ev (fun k=>bookplateref04_Valid.f k s) (vText s):=⟨s.size+400,fun k hk=>refvalid_eq s hs k hk⟩
theorem sub_ev (y:Sb) (hs:y.f1.size<17592186044416):Ev (fun k=>record_ValidField_1.f k y.f0 y.f1) (!vSub y):=by
 unfold record_ValidField_1.f vSub
 rw [code_eq]
 cases isC y.f0
 {
 exact Ev.pure _
 }
 {
 exact Ev.bind (Ev.pure true) (Ev.pos rfl (Ev.bind (text_ev _ hs) (Ev.pure _)))
 }
theorem subsV_ev (l:List Sb) (hl:l.length<4611686018427387904) (hs:∀ y∈l,y.f1.size<17592186044416):Ev (fun k=>api_Sub__v49_48004.f k l) (!l.all vSub):=by
 obtain ⟨r,h1,h2⟩:=find_ev l vSub (fun k y=>record_ValidField_1.f k y.f0 y.f1) (fun k i=>api_Sub__v49_60005.l0 k l (l.length:Int) i) (fun y hy=>sub_ev y (hs y hy))
   (fun k i h=>by show api_Sub__v49_60005.l0 (k+1) l _ _=_;rw [api_Sub__v49_60005.l0,if_pos (by omega),if_pos (by omega),if_pos (by omega),rdS l i h,wr1 i (by omega)])
   (fun k=>by show api_Sub__v49_60005.l0 (k+1) l _ _=_;rw [api_Sub__v49_60005.l0,if_neg (by omega)]) l.length 0 (by omega)
 unfold api_Sub__v49_48004.f api_Sub__v49_60005.f
 rw [List.drop_zero] at h2
 exact Ev.bind h1 ((Ev.pure _).cast h2)
theorem field_ev (x:Fd) (hv:Vals x):Ev (fun k=>record_ValidField.f k x.f0 x.f1.f0 x.f1.f1 x.f2) (vField x):=by
 unfold record_ValidField.f vField
 simp only [tag_eq,ind_eq,Option.bind_some]
 cases vTag x.f0
 {
 exact Ev.pure _
 }
 cases isI x.f1.f0
 {
 exact Ev.pure _
 }
 cases isI x.f1.f1
 {
 exact Ev.pure _
 }
 simp only [if_true,Bool.true_and]
 refine Ev.ite (fun h=>(Ev.pure _).cast ?_) (fun h1=>Ev.ite (fun h=>(Ev.pure _).cast ?_) (fun h2=> ?_))
 {
 rw [decide_eq_false (by omega),Bool.false_and]
 }
 {
 rw [decide_eq_false (by omega),Bool.false_and]
 }
 {
 rw [decide_eq_true (by omega),Bool.true_and]
 exact (Ev.bind (subsV_ev _ hv.1 hv.2) (Ev.pure (!(!x.f2.all vSub)))).cast (Bool.not_not _)
 }
theorem reffield_ev (x:Fd) (hv:Vals x):Ev (fun k=>bookplateref12_ValidField.f k x.f0 x.f1.f0 x.f1.f1 x.f2) (vField x):=by
 have loop:Ev (fun k=>bookplateref12_ValidField.l1 k 0 x.f0 x.f1.f0 x.f1.f1 x.f2) (x.f2.all vSub):=by {
 have:=all_ev x.f2 vSub (fun k y=>(bookplateref12_isCode.f y.f0).bind fun t=>if t=true then (bookplateref04_Valid.f k y.f1).bind fun t=>if t=true then some true else some false else some false) (fun k i=>bookplateref12_ValidField.l1 k i x.f0 x.f1.f0 x.f1.f1 x.f2) (fun y hy=> ?_)
   (fun k i h=> ?_) (fun k=>by show bookplateref12_ValidField.l1 (k+1) _ _ _ _ _=_;rw [bookplateref12_ValidField.l1,if_neg (by omega)]) x.f2.length 0 (by omega)
 {
 simpa using this
 }
 {
 unfold vSub
 rw [refcode_eq]
 cases isC y.f0
 {
 exact Ev.pure _
 }
 {
 refine Ev.bind (Ev.pure true) (Ev.pos rfl (Ev.bind (reftext_ev _ (hv.2 y hy)) (Ev.ext (fun k=> ?_) (Ev.pure (vText y.f1)))))
 cases vText y.f1<;>rfl
 }
 }
 {
 have hl:=hv.1
 show bookplateref12_ValidField.l1 (k+1) _ _ _ _ _=_
 rw [bookplateref12_ValidField.l1,if_pos (by omega),if_pos (by omega),rdS x.f2 i h,wr1 i (by omega),refcode_eq]
 cases isC (x.f2[i]).f0
 {
 rfl
 }
 {
 simp only [Option.bind_some,if_true]
 cases bookplateref04_Valid.f k (x.f2[i]).f1 with
 |none=>rfl
 |some b=>cases b<;>rfl
 }
 }
 }
 have w1:wrap64 (0+1)=1:=wr1 0 (by omega)
 have w2:wrap64 (1+1)=2:=wr1 1 (by omega)
 have i0:∀ p q:Int,Aid.ix2 0 p q=p:=fun p q=>rfl
 have i1:∀ p q:Int,Aid.ix2 1 p q=q:=fun p q=>rfl
 have inds:Ev (fun k=>bookplateref12_ValidField.l0 k 0 x.f0 x.f1.f0 x.f1.f1 x.f2) (isI x.f1.f0 && isI x.f1.f1 && x.f2.all vSub):=by {
 have h2:Ev (fun k=>bookplateref12_ValidField.l0 k 2 x.f0 x.f1.f0 x.f1.f1 x.f2) (x.f2.all vSub):=Ev.step (fun k=>by rw [bookplateref12_ValidField.l0,if_neg (by decide)]) loop
 have h1:Ev (fun k=>bookplateref12_ValidField.l0 k 1 x.f0 x.f1.f0 x.f1.f1 x.f2) (isI x.f1.f1 && x.f2.all vSub):=by {
 refine Ev.step (g:=fun k=>if x.f1.f1=32 then bookplateref12_ValidField.l0 k 2 x.f0 x.f1.f0 x.f1.f1 x.f2 else if isC x.f1.f1=true then bookplateref12_ValidField.l0 k 2 x.f0 x.f1.f0 x.f1.f1 x.f2 else some false) (fun k=> ?_) ?_
 {
 rw [bookplateref12_ValidField.l0,if_pos (by decide),if_pos (by decide),i1,w2,refcode_eq]
 rfl
 }
 {
 unfold isI
 refine Ev.ite (fun h=>h2.cast ?_) (fun h=>Ev.ite (fun g=>h2.cast ?_) (fun g=>(Ev.pure _).cast ?_))
 {
 rw [decide_eq_true h];rfl
 }
 {
 rw [g,Bool.or_true,Bool.true_and]
 }
 {
 rw [decide_eq_false h,Bool.eq_false_iff.2 g];rfl
 }
 }
 }
 refine Ev.step (g:=fun k=>if x.f1.f0=32 then bookplateref12_ValidField.l0 k 1 x.f0 x.f1.f0 x.f1.f1 x.f2 else if isC x.f1.f0=true then bookplateref12_ValidField.l0 k 1 x.f0 x.f1.f0 x.f1.f1 x.f2 else some false) (fun k=> ?_) ?_
 {
 rw [bookplateref12_ValidField.l0,if_pos (by decide),if_pos (by decide),i0,w1,refcode_eq]
 rfl
 }
 {
 rw [Bool.and_assoc]
 conv=>rhs;rw [isI]
 refine Ev.ite (fun h=>h1.cast ?_) (fun h=>Ev.ite (fun g=>h1.cast ?_) (fun g=>(Ev.pure _).cast ?_))
 {
 rw [isI,decide_eq_true h];rfl
 }
 {
 rw [isI,g,Bool.or_true,Bool.true_and]
 }
 {
 rw [isI,decide_eq_false h,Bool.eq_false_iff.2 g];rfl
 }
 }
 }
 have j:∀ b:Bool,Ev (fun k=>bookplateref12_ValidField.j0 k b x.f0 x.f1.f0 x.f1.f1 x.f2) (!b && (isI x.f1.f0 && isI x.f1.f1 && x.f2.all vSub)):=by {
 intro b
 cases b
 {
 exact Ev.step (fun k=>by rw [bookplateref12_ValidField.j0,if_neg (by decide)]) inds
 }
 {
 exact Ev.step (g:=fun _=>some false) (fun k=>by rw [bookplateref12_ValidField.j0,if_pos rfl]) (Ev.pure _)
 }
 }
 unfold bookplateref12_ValidField.f vField
 rw [reftag_eq]
 cases vTag x.f0
 {
 exact j true
 }
 {
 simp only [Option.bind_some,if_true,Bool.true_and]
 refine Ev.ite (fun h=>(j true).cast ?_) (fun h1=>(j _).cast ?_)
 {
 rw [decide_eq_false (by omega)]
 simp
 }
 {
 by_cases h2:x.f2.length≤20
 {
 rw [decide_eq_false (by omega),decide_eq_true (show 1≤x.f2.length∧x.f2.length≤20 by omega),Bool.and_true]
 rfl
 }
 {
 rw [decide_eq_true (by omega),decide_eq_false (show ¬ (1≤x.f2.length∧x.f2.length≤20) by omega)]
 simp
 }
 }
 }
theorem fieldsV_ev (l:List Fd) (hl:l.length<4611686018427387904) (hv:∀ x∈l,Vals x):Ev (fun k=>api_Field__v35_28002.f k l) (!l.all vField):=by
 obtain ⟨r,h1,h2⟩:=find_ev l vField (fun k x=>record_Valid_1.f k x.f0 x.f1.f0 x.f1.f1 x.f2) (fun k i=>api_Field__v35_45003.l0 k l (l.length:Int) i) (fun x hx=>Ev.bind (field_ev x (hv x hx)) (Ev.pure _))
   (fun k i h=>by show api_Field__v35_45003.l0 (k+1) l _ _=_;rw [api_Field__v35_45003.l0,if_pos (by omega),if_pos (by omega),if_pos (by omega),rdF l i h,wr1 i (by omega)])
   (fun k=>by show api_Field__v35_45003.l0 (k+1) l _ _=_;rw [api_Field__v35_45003.l0,if_neg (by omega)]) l.length 0 (by omega)
 unfold api_Field__v35_28002.f api_Field__v35_45003.f
 rw [List.drop_zero] at h2
 exact Ev.bind h1 ((Ev.pure _).cast h2)
theorem newV_ev (l:List Fd) (hl:l.length<4611686018427387904) (hv:∀ x∈l,Vals x):Ev (fun k=>api_Field__v29_28000.f k l) (!l.all vField):=by
 obtain ⟨r,h1,h2⟩:=find_ev l vField (fun k x=>patch_Apply_1.f k x.f0 x.f1.f0 x.f1.f1 x.f2) (fun k i=>api_Field__v29_45001.l0 k l (l.length:Int) i) (fun x hx=>Ev.bind (field_ev x (hv x hx)) (Ev.pure _))
   (fun k i h=>by show api_Field__v29_45001.l0 (k+1) l _ _=_;rw [api_Field__v29_45001.l0,if_pos (by omega),if_pos (by omega),if_pos (by omega),rdF l i h,wr1 i (by omega)])
   (fun k=>by show api_Field__v29_45001.l0 (k+1) l _ _=_;rw [api_Field__v29_45001.l0,if_neg (by omega)]) l.length 0 (by omega)
 unfold api_Field__v29_28000.f api_Field__v29_45001.f
 rw [List.drop_zero] at h2
 exact Ev.bind h1 ((Ev.pure _).cast h2)
theorem rec_ev (i:Int) (l:List Fd) (hv:∀ x∈l,Vals x):Ev (fun k=>record_Valid.f k i l) (vRec i l):=by
 unfold record_Valid.f vRec
 refine Ev.ite (fun h=>(Ev.pure _).cast ?_) (fun h1=>Ev.ite (fun h=>(Ev.pure _).cast ?_) (fun h2=>Ev.ite (fun h=>(Ev.pure _).cast ?_) (fun h3=>Ev.ite (fun h=>(Ev.pure _).cast ?_) (fun h4=> ?_))))
 {
 rw [decide_eq_false (by omega)];rfl
 }
 {
 rw [decide_eq_false (by omega)];rfl
 }
 {
 rw [decide_eq_false (show ¬ (1≤l.length∧l.length≤60) by omega),Bool.and_false];rfl
 }
 {
 rw [decide_eq_false (show ¬ (1≤l.length∧l.length≤60) by omega),Bool.and_false];rfl
 }
 {
 rw [decide_eq_true (by omega),decide_eq_true (by omega),Bool.true_and,Bool.true_and]
 exact (Ev.bind (fieldsV_ev l (by omega) hv) (Ev.pure (!(!l.all vField)))).cast (Bool.not_not _)
 }
theorem refrec_ev (i:Int) (l:List Fd) (hl:l.length<4611686018427387904) (hv:∀ x∈l,Vals x):Ev (fun k=>bookplateref12_Valid.f k i l) (vRec i l):=by
 have loop:Ev (fun k=>bookplateref12_Valid.l0 k 0 i l) (l.all vField):=by {
 have:=all_ev l vField (fun k x=>bookplateref12_ValidField.f k x.f0 x.f1.f0 x.f1.f1 x.f2) (fun k j=>bookplateref12_Valid.l0 k j i l) (fun x hx=>reffield_ev x (hv x hx))
   (fun k j h=>by show bookplateref12_Valid.l0 (k+1) _ _ _=_;rw [bookplateref12_Valid.l0,if_pos (by omega),if_pos (by omega),rdF l j h,wr1 j (by omega)])
   (fun k=>by show bookplateref12_Valid.l0 (k+1) _ _ _=_;rw [bookplateref12_Valid.l0,if_neg (by omega)]) l.length 0 (by omega)
 simpa using this
 }
 have j:∀ b:Bool,Ev (fun k=>bookplateref12_Valid.j0 k b i l) (!b && l.all vField):=by {
 intro b
 cases b
 {
 exact Ev.step (fun k=>by rw [bookplateref12_Valid.j0,if_neg (by decide)]) loop
 }
 {
 exact Ev.step (g:=fun _=>some false) (fun k=>by rw [bookplateref12_Valid.j0,if_pos rfl]) (Ev.pure _)
 }
 }
 unfold bookplateref12_Valid.f vRec
 refine Ev.ite (fun h=>(j true).cast ?_) (fun h1=>Ev.ite (fun h=>(j true).cast ?_) (fun h2=>Ev.ite (fun h=>(j true).cast ?_) (fun h3=>(j _).cast ?_)))
 {
 rw [decide_eq_false (by omega)];rfl
 }
 {
 rw [decide_eq_false (by omega)];rfl
 }
 {
 rw [decide_eq_false (show ¬ (1≤l.length∧l.length≤60) by omega),Bool.and_false];rfl
 }
 {
 rw [decide_eq_true (show 1≤i∧i≤1000000000 by omega),Bool.true_and]
 by_cases h4:l.length≤60
 {
 rw [decide_eq_false (show ¬ (l.length:Int)>60 by omega),decide_eq_true (show 1≤l.length∧l.length≤60 by omega)];rfl
 }
 {
 rw [decide_eq_true (show (l.length:Int)>60 by omega),decide_eq_false (show ¬ (1≤l.length∧l.length≤60) by omega)];rfl
 }
 }
def Bd (n:Int) (l:List Fd):Prop:=(l.length:Int)≤n∧∀ x∈l,x.f2.length≤21∧x.f0.size≤20∧∀ y∈x.f2,y.f1.size≤402
theorem few_in (n id:Int) (l:List Fd) (i:Int) (t:ByteArray) (p q:Int) (S:List Sb) (hS:S.length<4611686018427387904) (r:Bool) (hr:Ev (fun k=>bookplateref12_Few.l0 k n (wrap64 (i+1)) id l) r):
 ∀ (d j:Nat),j+d=S.length→∃ b,Ev (fun k=>bookplateref12_Few.l1 k n i (j:Int) id l t p q S) b∧(b=true→r=true∧∀ y∈S.drop j,y.f1.size≤402)
 |0,j,h=>⟨r,Ev.step (fun k=>by rw [bookplateref12_Few.l1,if_neg (by omega)]) hr,fun hb=>⟨hb,by rw [List.drop_eq_nil_of_le (by omega)];intro y hy;cases hy⟩⟩
 |d+1,j,h=>by {
 have hj:j<S.length:=by omega
 obtain ⟨b,h1,h2⟩:=few_in n id l i t p q S hS r hr d (j+1) (by omega)
 have e:∀ k,bookplateref12_Few.l1 (k+1) n i (j:Int) id l t p q S=if 80<(S[j]).f1.size∧(S[j]).f1.size<400∨402<(S[j]).f1.size then some false else bookplateref12_Few.l1 k n i ((j+1:Nat):Int) id l t p q S:=by {
 intro k
 rw [bookplateref12_Few.l1,if_pos (by omega),if_pos (by omega),rdS S j hj,wr1 j (by omega)]
 by_cases c1:80<(S[j]).f1.size
 {
 rw [if_pos (by omega)]
 by_cases c2:(S[j]).f1.size<400
 {
 rw [if_pos (by omega),if_pos (by omega)]
 }
 {
 rw [if_neg (by omega)]
 exact if_iff (by omega) _ _
 }
 }
 {
 rw [if_neg (by omega)]
 exact if_iff (by omega) _ _
 }
 }
 by_cases c:80<(S[j]).f1.size∧(S[j]).f1.size<400∨402<(S[j]).f1.size
 {
 exact ⟨false,Ev.step (g:=fun _=>some false) (fun k=>(e k).trans (if_pos c)) (Ev.pure _),fun hb=>by cases hb⟩
 }
 {
 refine ⟨b,Ev.step (fun k=>(e k).trans (if_neg c)) h1,fun hb=>⟨(h2 hb).1,fun y hy=> ?_⟩⟩
 rw [List.drop_eq_getElem_cons hj] at hy
 rcases List.mem_cons.1 hy with rfl|hy
 {
 omega
 }
 {
 exact (h2 hb).2 y hy
 }
 }
 }
theorem few_go (n id:Int) (l:List Fd) (hl:Small l):∀ (d i:Nat),i+d=l.length→∃ b,Ev (fun k=>bookplateref12_Few.l0 k n (i:Int) id l) b∧(b=true→(l.length:Int)≤n∧∀ x∈l.drop i,x.f2.length≤21∧x.f0.size≤20∧∀ y∈x.f2,y.f1.size≤402)
 |0,i,h=>by {
 refine ⟨decide ((l.length:Int)≤n),Ev.step (g:=fun _=>some (decide ((l.length:Int)≤n))) (fun k=>by rw [bookplateref12_Few.l0,if_neg (by omega)]) (Ev.pure _),fun hb=>⟨of_decide_eq_true hb,?_⟩⟩
 rw [List.drop_eq_nil_of_le (by omega)]
 intro y hy;cases hy
 }
 |d+1,i,h=>by {
 have hi:i<l.length:=by omega
 have hl1:=hl.1
 obtain ⟨r,h1,h2⟩:=few_go n id l hl d (i+1) (by omega)
 rw [←wr1 i (by omega)] at h1
 obtain ⟨b,g1,g2⟩:=few_in n id l (i:Int) (l[i]).f0 (l[i]).f1.f0 (l[i]).f1.f1 (l[i]).f2 (hl.get i hi) r h1 (l[i]).f2.length 0 (by omega)
 have j:∀ z:Bool,Ev (fun k=>bookplateref12_Few.j1 k n (i:Int) z id l (l[i]).f0 (l[i]).f1.f0 (l[i]).f1.f1 (l[i]).f2) (!z && b):=by {
 intro z
 cases z
 {
 exact Ev.step (fun k=>by rw [bookplateref12_Few.j1,if_neg (by decide)];rfl) g1
 }
 {
 exact Ev.step (g:=fun _=>some false) (fun k=>by rw [bookplateref12_Few.j1,if_pos rfl]) (Ev.pure _)
 }
 }
 have e:∀ k,bookplateref12_Few.l0 (k+1) n (i:Int) id l=bookplateref12_Few.j1 k n (i:Int) (decide (8<(l[i]).f2.length∧(l[i]).f2.length≠20∧(l[i]).f2.length≠21∨20<(l[i]).f0.size)) id l (l[i]).f0 (l[i]).f1.f0 (l[i]).f1.f1 (l[i]).f2:=by {
 intro k
 rw [bookplateref12_Few.l0,if_pos (by omega),if_pos (by omega),rdF l i hi]
 have c0:decide (((l[i]).f0.size:Int)>20)=decide (20<(l[i]).f0.size):=by rw [decide_eq_decide];omega
 rw [c0]
 by_cases c1:8<(l[i]).f2.length
 {
 rw [if_pos (by omega)]
 by_cases c2:(l[i]).f2.length=20
 {
 rw [if_pos (by omega)]
 congr 1
 rw [decide_eq_decide];omega
 }
 {
 rw [if_neg (by omega)]
 by_cases c3:(l[i]).f2.length=21
 {
 rw [if_pos (by omega)]
 congr 1
 rw [decide_eq_decide];omega
 }
 {
 rw [if_neg (by omega)]
 congr 1
 rw [eq_comm,decide_eq_true_eq];omega
 }
 }
 }
 {
 rw [if_neg (by omega)]
 congr 1
 rw [decide_eq_decide];omega
 }
 }
 refine ⟨_,Ev.step (fun k=>e k) (j _),fun hb=> ?_⟩
 rw [Bool.and_eq_true,Bool.not_eq_true',decide_eq_false_iff_not] at hb
 obtain ⟨hr,hy⟩:=g2 hb.2
 obtain ⟨hn,ha⟩:=h2 hr
 refine ⟨hn,fun x hx=> ?_⟩
 rw [List.drop_eq_getElem_cons hi] at hx
 rcases List.mem_cons.1 hx with rfl|hx
 {
 refine ⟨by omega,by omega,?_⟩
 rw [List.drop_zero] at hy
 exact hy
 }
 {
 exact ha x hx
 }
 }
theorem few_ev (id:Int) (l:List Fd) (n:Int) (hl:Small l):∃ b,Ev (fun k=>bookplateref12_Few.f k id l n) b∧(b=true→Bd n l):=by
 obtain ⟨b,h1,h2⟩:=few_go n id l hl l.length 0 (by omega)
 rw [List.drop_zero] at h2
 exact ⟨b,h1,h2⟩
theorem Bd.vals {n:Int} {l:List Fd} (h:Bd n l):∀ x∈l,Vals x:=fun x hx=>⟨by have:=(h.2 x hx).1;omega,fun y hy=>by have:=(h.2 x hx).2.2 y hy;omega⟩
end Go.Proofs.YtdlolaognnbhpaaDoor.Rec
namespace Go.Proofs.YtdlolaognnbhpaaDoor.Lcs
set_option linter.unusedVariables false
open Classical
variable {α : Type}
theorem mem_out1 {p:Int} {o n:List α} {e:Ed α} (h:e∈out1 p o n):e=(p,o,n):=by
 unfold out1 at h
 split at h
 {
 exact List.mem_singleton.1 h
 }
 {
 cases h
 }
theorem mem_group:∀ (s:List (Step α)) (p:Int) (o n:List α) (e:Ed α),e∈group p o n s→(∀ x∈e.2.1,x∈o∨x∈src s)∧(∀ x∈e.2.2,x∈n∨x∈dst s)
 |[],p,o,n,e,h=>by {
 rw [group] at h
 obtain rfl:=mem_out1 h
 exact ⟨fun x hx=> .inl hx,fun x hx=> .inl hx⟩
 }
 | .keep y::s,p,o,n,e,h=>by {
 rw [group,List.mem_append] at h
 rcases h with h|h
 {
 obtain rfl:=mem_out1 h
 exact ⟨fun x hx=> .inl hx,fun x hx=> .inl hx⟩
 }
 {
 have:=mem_group s _ _ _ e h
 rw [src,dst]
 exact ⟨fun x hx=> .inr (List.mem_cons_of_mem _ ((this.1 x hx).resolve_left (by simp))),fun x hx=> .inr (List.mem_cons_of_mem _ ((this.2 x hx).resolve_left (by simp)))⟩
 }
 }
 | .del y::s,p,o,n,e,h=>by {
 rw [group] at h
 have:=mem_group s _ _ _ e h
 rw [src,dst]
 refine ⟨fun x hx=> ?_,this.2⟩
 rcases this.1 x hx with h|h
 {
 rcases List.mem_append.1 h with h|h
 {
 exact .inl h
 }
 {
 rw [List.mem_singleton.1 h];exact .inr (List.mem_cons_self ..)
 }
 }
 {
 exact .inr (List.mem_cons_of_mem _ h)
 }
 }
 | .ins y::s,p,o,n,e,h=>by {
 rw [group] at h
 have:=mem_group s _ _ _ e h
 rw [src,dst]
 refine ⟨this.1,fun x hx=> ?_⟩
 rcases this.2 x hx with h|h
 {
 rcases List.mem_append.1 h with h|h
 {
 exact .inl h
 }
 {
 rw [List.mem_singleton.1 h];exact .inr (List.mem_cons_self ..)
 }
 }
 {
 exact .inr (List.mem_cons_of_mem _ h)
 }
 }
theorem size_mem:∀ {l:List (Ed α)} {e:Ed α},e∈l→e.2.1.length+e.2.2.length≤size l
 |x::l,e,h=>by {
 rw [size]
 rcases List.mem_cons.1 h with rfl|h
 {
 omega
 }
 {
 have:=size_mem h;omega
 }
 }
theorem length_ordered:∀ {l:List (Ed α)} {p:Int},Ordered p l→l.length≤size l
 |[],p,h=>Nat.zero_le _
 |e::l,p,h=>by {
 have:=length_ordered h.2.2
 have h1:=h.2.1
 rw [size,List.length_cons]
 omega
 }
theorem place_fits {a:List α}:∀ {l:List (Ed α)},Fits a l→∀ e∈l,0≤e.1∧e.1≤a.length
 |x::l,h,e,he=>by {
 rcases List.mem_cons.1 he with rfl|he
 {
 exact ⟨h.1.1,h.1.2.1⟩
 }
 {
 exact place_fits h.2 e he
 }
 }
noncomputable def edits (a b : List α) : List (Ed α) := group 0 [] [] (steps a b)
noncomputable def backs (a b : List α) : List (Ed α) := group 0 [] [] (flip (steps a b))
theorem ordered_edits (a b:List α):Ordered 0 (edits a b):=ordered_group _ _ _ _
theorem ordered_backs (a b:List α):Ordered 0 (backs a b):=ordered_group _ _ _ _
theorem fits_edits (a b:List α):Fits a (edits a b):=fits_group (steps a b) a [] [] [] (by rw [src_steps];rfl)
theorem fits_backs (a b:List α):Fits b (backs a b):=fits_group (flip (steps a b)) b [] [] [] (by rw [src_flip,dst_steps];rfl)
theorem res_edits (a b:List α):res a 0 (edits a b)=b:=(res_group (steps a b) a [] 0 [] [] (by rw [src_steps];rfl) (Nat.le_refl _) (fun _ _=>trivial)).trans (by rw [dst_steps];rfl)
theorem res_backs (a b:List α):res b 0 (backs a b)=a:=(res_group (flip (steps a b)) b [] 0 [] [] (by rw [src_flip,dst_steps];rfl) (Nat.le_refl _) (fun _ _=>trivial)).trans (by rw [dst_flip,src_steps];rfl)
theorem inv_edits (a b:List α):inv 0 (edits a b)=backs a b:=inv_group (steps a b) 0 0 [] []
theorem inv_backs (a b:List α):inv 0 (backs a b)=edits a b:=(inv_group (flip (steps a b)) 0 0 [] []).trans (by rw [flip_flip];rfl)
theorem size_edits (a b:List α):size (edits a b)+2 * lcs a b=a.length+b.length:=by
 have h:=size_group (steps a b) 0 [] []
 have h2:=cost_steps a b
 unfold edits
 simp only [List.length_nil] at h
 omega
theorem cost_flip:∀ s:List (Step α),cost (flip s)=cost s
 |[]=>rfl
 | .keep x::s=>by rw [flip,cost,cost,cost_flip s]
 | .del x::s=>by rw [flip,cost,cost,cost_flip s]
 | .ins x::s=>by rw [flip,cost,cost,cost_flip s]
theorem size_backs (a b:List α):size (backs a b)=size (edits a b):=by
 have h:=size_group (steps a b) 0 [] []
 have h2:=size_group (flip (steps a b)) 0 [] []
 rw [cost_flip] at h2
 unfold edits backs
 omega
theorem mem_edits {a b:List α} {e:Ed α} (h:e∈edits a b):(∀ x∈e.2.1,x∈a)∧(∀ x∈e.2.2,x∈b):=by
 have:=mem_group _ _ _ _ e h
 rw [src_steps,dst_steps] at this
 exact ⟨fun x hx=>(this.1 x hx).resolve_left (by simp),fun x hx=>(this.2 x hx).resolve_left (by simp)⟩
theorem mem_backs {a b:List α} {e:Ed α} (h:e∈backs a b):(∀ x∈e.2.1,x∈b)∧(∀ x∈e.2.2,x∈a):=by
 have:=mem_group _ _ _ _ e h
 rw [src_flip,dst_flip,src_steps,dst_steps] at this
 exact ⟨fun x hx=>(this.1 x hx).resolve_left (by simp),fun x hx=>(this.2 x hx).resolve_left (by simp)⟩
theorem size_le (a b:List α):size (edits a b)≤a.length+b.length:=by have:=size_edits a b;omega
theorem size_comm (a b:List α):size (edits a b)=size (edits b a):=by
 have h1:=size_edits a b
 have h2:=size_edits b a
 rw [lcs_comm b a] at h2
 omega
theorem size_zero (a b:List α):size (edits a b)=0↔a=b:=by
 have h:=size_edits a b
 constructor
 {
 intro h0
 have h1:=lcs_le_left a b
 have h2:=lcs_le_right a b
 exact eq_of_lcs (by omega) (by omega)
 }
 {
 rintro rfl
 rw [lcs_self] at h
 omega
 }
theorem size_triangle (a b c:List α):size (edits a c)≤size (edits a b)+size (edits b c):=by
 have h1:=size_edits a b
 have h2:=size_edits b c
 have h3:=size_edits a c
 have h4:=lcs_triangle a b c
 omega
theorem edits_same (a:List α):edits a a=[]:=by
 have h:=length_ordered (ordered_edits a a)
 rw [(size_zero a a).2 rfl] at h
 exact List.length_eq_zero_iff.1 (by omega)
theorem common_res (a:List α):∀ (l:List (Ed α)) (p:Nat),p≤a.length→Ordered (p:Int) l→Fits a l→∃ c:List α,c.Sublist (a.drop p)∧c.Sublist (res a (p:Int) l)∧∃ o n:Nat,o+n=size l∧c.length+o=a.length - p∧(res a (p:Int) l).length+o=a.length - p+n
 |[],p,hp,_,_=>⟨a.drop p,List.Sublist.refl _,by rw [res,Int.toNat_natCast];exact List.Sublist.refl _,0,0,rfl,by rw [List.length_drop];omega,by rw [res,Int.toNat_natCast,List.length_drop]⟩
 |e::l,p,hp,ho,hf=>by {
 obtain ⟨h1,h2,h3,h4⟩:=hf.1
 obtain ⟨g1,g2,g3⟩:=ho
 obtain ⟨q,hq⟩:∃ q:Nat,e.1=q:=⟨e.1.toNat,by omega⟩
 obtain ⟨c,c1,c2,o,n,n1,n2,n3⟩:=common_res a l (q+e.2.1.length) (by omega) ((Ordered.mono (by omega) g3)) hf.2
 have hd:a.drop p=(a.take q).drop p++a.drop q:=by {
 have h:=List.take_append_drop q a
 conv=>lhs;rw [←h]
 rw [List.drop_append_of_le_length (by rw [List.length_take];omega)]
 }
 have hs:(a.drop (q+e.2.1.length)).Sublist (a.drop q):=by rw [←List.drop_drop];exact List.drop_sublist _ _
 have hr:res a (p:Int) (e::l)=(a.take q).drop p++e.2.2++res a ((q+e.2.1.length:Nat):Int) l:=by {
 rw [res,hq,Int.toNat_natCast,Int.toNat_natCast]
 rfl
 }
 have hl:((a.take q).drop p).length=q - p:=by rw [List.length_drop,List.length_take];omega
 refine ⟨(a.take q).drop p++c,?_,?_,o+e.2.1.length,n+e.2.2.length,?_,?_,?_⟩
 {
 rw [hd]
 exact (List.Sublist.refl _).append (c1.trans hs)
 }
 {
 rw [hr,List.append_assoc]
 exact (List.Sublist.refl _).append (c2.trans (List.sublist_append_right _ _))
 }
 {
 rw [size];omega
 }
 {
 rw [List.length_append,hl];omega
 }
 {
 rw [hr,List.length_append,List.length_append,hl];omega
 }
 }
theorem least (a:List α) (l:List (Ed α)) (ho:Ordered 0 l) (hf:Fits a l):size (edits a (res a 0 l))≤size l:=by
 obtain ⟨c,c1,c2,o,n,h1,h2,h3⟩:=common_res a l 0 (Nat.zero_le _) ho hf
 have h:=le_lcs (show c.Sublist a from c1) c2
 have g:=size_edits a (res a 0 l)
 have e:res a ((0:Nat):Int) l=res a 0 l:=rfl
 rw [e] at h h3
 omega
theorem mem_res (a:List α):∀ (l:List (Ed α)) (p:Int) (x:α),x∈res a p l→x∈a∨∃ e∈l,x∈e.2.2
 |[],p,x,h=> .inl (List.mem_of_mem_drop h)
 |e::l,p,x,h=>by {
 rw [res,List.mem_append,List.mem_append] at h
 rcases h with (h|h)|h
 {
 exact .inl (List.mem_of_mem_take (List.mem_of_mem_drop h))
 }
 {
 exact .inr ⟨e,List.mem_cons_self ..,h⟩
 }
 {
 rcases mem_res a l _ x h with h|⟨f,hf,hx⟩
 {
 exact .inl h
 }
 {
 exact .inr ⟨f,List.mem_cons_of_mem _ hf,hx⟩
 }
 }
 }
end Go.Proofs.YtdlolaognnbhpaaDoor.Lcs
namespace Go.Proofs.YtdlolaognnbhpaaDoor.Rec
open Go.RowKit Go.Proofs.YtdlolaognnbhpaaDoorW.PrintWords Go.Proofs.YtdlolaognnbhpaaDoor.Pr Go.Proofs.YtdlolaognnbhpaaDoor.Lcs Classical
set_option linter.unusedVariables false
set_option linter.unusedSimpArgs false
def Cnt (l:List Fd):Prop:=l.length<4611686018427387904∧∀ x∈l,x.f2.length<5864062014805∧∀ y∈x.f2,y.f1.size<17592186044416
theorem Cnt.vals {l:List Fd} (h:Cnt l):∀ x∈l,Vals x:=fun x hx=>⟨by have:=(h.2 x hx).1;omega,(h.2 x hx).2⟩
theorem Cnt.small {l:List Fd} (h:Cnt l):Small l:=⟨h.1,fun x hx=>by have:=(h.2 x hx).1;omega⟩
theorem Cnt.subs {l:List Fd} (h:Cnt l):Subs l:=fun x hx=>(h.2 x hx).1
theorem Cnt.sub {l m:List Fd} (h:Cnt l) (hm:∀ x∈m,x∈l) (hl:m.length<4611686018427387904):Cnt m:=⟨hl,fun x hx=>h.2 x (hm x hx)⟩
theorem Bd.cnt {n:Int} {l:List Fd} (h:Bd n l) (hn:n≤100):Cnt l:=⟨by have:=h.1;omega,fun x hx=>⟨by have:=(h.2 x hx).1;omega,fun y hy=>by have:=(h.2 x hx).2.2 y hy;omega⟩⟩
theorem vRec_len {i:Int} {l:List Fd} (h:vRec i l=true):1≤l.length∧l.length≤60:=by
 unfold vRec at h
 simp only [Bool.and_eq_true,decide_eq_true_eq] at h
 exact h.1.2
noncomputable def dv (i : Int) (a : List Fd) (j : Int) (b : List Fd) : List (Ed Fd) × Int := if vRec i a = true then (if vRec j b = true then (if i = j then (edits a b, 0) else ([], 13)) else ([], 1)) else ([], 1)
theorem diff_ev (i j:Int) (a b:List Fd) (ha:Cnt a) (hb:Cnt b):Ev (fun k=>patch_Diff.f k i a j b) ((dv i a j b).1.map pe,(dv i a j b).2):=by
 unfold patch_Diff.f dv
 refine Ev.bind (rec_ev i a ha.vals) ?_
 cases h1:vRec i a with
 |false=>exact Ev.pure _
 |true=>
  (
 refine Ev.pos rfl (Ev.bind (rec_ev j b hb.vals) ?_)
 cases h2:vRec j b with
 |false=>exact Ev.pure _
 |true=>
  (
 simp only [↓reduceIte]
 by_cases h:i=j
 {
 simp only [h,↓reduceIte]
 have l1:=vRec_len h1
 have l2:=vRec_len h2
 obtain ⟨L,hT,hE⟩:=lengths_eq a b ha.small (by omega) (by omega)
 refine Ev.pos ⟨by omega,by omega⟩ (Ev.bind hE ?_)
 refine Ev.ext (g:=fun k=>(patch_edits.go k a b L k [] ⟨0,[],[]⟩ 0 0).bind fun r=>some (r,0)) (fun k=> ?_) (Ev.bind (go_eq a b ha.small ha.subs hb.subs L hT _ 0 0 [] ⟨0,[],[]⟩ (Nat.le_refl _) (Nat.zero_le _) (Nat.zero_le _) rfl).diag (Ev.pure _))
 show patch_Diff.end_ k a b L=_
 rw [patch_Diff.end_,if_pos ⟨hT.len,fun p hp=>hT.row p (Nat.zero_le _) hp⟩]
 }
 {
 simp only [h,↓reduceIte]
 exact Ev.pure _
 }
  )
  )
theorem refedits_ev (a b:List Fd) (ha:Cnt a) (hb:Cnt b) (l1:a.length≤1000) (l2:b.length≤1000):Ev (fun k=>bookplateref18_Edits.f k a b) ((edits a b).map re):=by
 unfold bookplateref18_Edits.f
 obtain ⟨L,hT,hE⟩:=reflengths_eq a b ha.small l1 l2
 refine Ev.pos ⟨l1,l2⟩ (Ev.bind hE (Ev.pos ⟨hT.len,fun p hp=>hT.row p (Nat.zero_le _) hp⟩ ?_))
 exact (refgo_eq a b ha.small ha.subs hb.subs L hT _ 0 0 [] none (Nat.le_refl _) (Nat.zero_le _) (Nat.zero_le _) (fun _ h=>by cases h) rfl).diag
theorem refdiff_ev (i j:Int) (a b:List Fd) (ha:Cnt a) (hb:Cnt b):Ev (fun k=>bookplateref18_Diff.f k i a j b) ((dv i a j b).1.map re,(dv i a j b).2):=by
 have no:Ev (fun k=>bookplateref18_Diff.j0 k true i a j b) ([],1):=Ev.step (g:=fun _=>some ([],1)) (fun k=>by rw [bookplateref18_Diff.j0,if_pos rfl]) (Ev.pure _)
 unfold bookplateref18_Diff.f dv
 refine Ev.bind (refrec_ev i a ha.1 ha.vals) ?_
 cases h1:vRec i a with
 |false=>exact no
 |true=>
  (
 refine Ev.bind (refrec_ev j b hb.1 hb.vals) ?_
 cases h2:vRec j b with
 |false=>exact no
 |true=>
  (
 have l1:=vRec_len h1
 have l2:=vRec_len h2
 refine Ev.step (g:=fun k=>if i=j then (bookplateref18_Edits.f k a b).bind fun t=>some (t,0) else some ([],13)) (fun k=>by rw [Bool.not_true,bookplateref18_Diff.j0,if_neg (by decide)]) ?_
 by_cases h:i=j
 {
 rw [if_pos rfl,if_pos rfl,if_pos h]
 exact Ev.pos h (Ev.bind (refedits_ev a b ha hb (by omega) (by omega)) (Ev.pure _))
 }
 {
 rw [if_pos rfl,if_pos rfl,if_neg h]
 exact Ev.neg h (Ev.pure _)
 }
  )
  )
theorem rdP (l:List Pe) (i:Nat) (h:i<l.length):rd_T53 l (i:Int)=l[i]:=by
 unfold rd_T53
 rw [Int.toNat_natCast,List.getD_eq_getElem?_getD,List.getElem?_eq_getElem h]
 rfl
theorem rdR (l:List Re) (i:Nat) (h:i<l.length):rd_T60 l (i:Int)=l[i]:=by
 unfold rd_T60
 rw [Int.toNat_natCast,List.getD_eq_getElem?_getD,List.getElem?_eq_getElem h]
 rfl
theorem theirs_go (l:List (Ed Fd)) (hl:l.length<1000000000000):∀ (d i:Nat) (acc:List Re),i+d=l.length→acc.length≤i→Ev (fun k=>bookplatelaw18_Theirs.l0 k (l.map pe) acc (i:Int)) (acc++(l.drop i).map re)
 |0,i,acc,h,ha=>by {
 refine Ev.step (g:=fun _=>some acc) (fun k=> ?_) ((Ev.pure _).cast ?_)
 {
 rw [bookplatelaw18_Theirs.l0,if_neg (by rw [List.length_map];omega)]
 }
 {
 rw [List.drop_eq_nil_of_le (by omega),List.map_nil,List.append_nil]
 }
 }
 |d+1,i,acc,h,ha=>by {
 have hi:i<l.length:=by omega
 refine Ev.step (g:=fun k=>bookplatelaw18_Theirs.l0 k (l.map pe) (acc++[re l[i]]) ((i+1:Nat):Int)) (fun k=> ?_) ((theirs_go l hl d (i+1) (acc++[re l[i]]) (by omega) (by simp;omega)).cast ?_)
 {
 rw [bookplatelaw18_Theirs.l0,if_pos (by rw [List.length_map];omega),if_pos (by omega),if_pos (by omega),rdP (l.map pe) i (by rw [List.length_map];omega),wr1 i (by omega),List.getElem_map]
 rfl
 }
 {
 rw [List.append_assoc,List.singleton_append,←List.map_cons,←List.drop_eq_getElem_cons hi]
 }
 }
theorem theirs_ev (l:List (Ed Fd)) (hl:l.length<1000000000000):Ev (fun k=>bookplatelaw18_Theirs.f k (l.map pe)) (l.map re):=(theirs_go l hl l.length 0 [] (by omega) (by simp)).cast (by simp)
theorem ours_go (l:List (Ed Fd)) (hl:l.length<1000000000000):∀ (d i:Nat) (acc:List Pe),i+d=l.length→acc.length≤i→Ev (fun k=>bookplatelaw18_Own.l0 k (l.map re) acc (i:Int)) (acc++(l.drop i).map pe)
 |0,i,acc,h,ha=>by {
 refine Ev.step (g:=fun _=>some acc) (fun k=> ?_) ((Ev.pure _).cast ?_)
 {
 rw [bookplatelaw18_Own.l0,if_neg (by rw [List.length_map];omega)]
 }
 {
 rw [List.drop_eq_nil_of_le (by omega),List.map_nil,List.append_nil]
 }
 }
 |d+1,i,acc,h,ha=>by {
 have hi:i<l.length:=by omega
 refine Ev.step (g:=fun k=>bookplatelaw18_Own.l0 k (l.map re) (acc++[pe l[i]]) ((i+1:Nat):Int)) (fun k=> ?_) ((ours_go l hl d (i+1) (acc++[pe l[i]]) (by omega) (by simp;omega)).cast ?_)
 {
 rw [bookplatelaw18_Own.l0,if_pos (by rw [List.length_map];omega),if_pos (by omega),if_pos (by omega),rdR (l.map re) i (by rw [List.length_map];omega),wr1 i (by omega),List.getElem_map]
 rfl
 }
 {
 rw [List.append_assoc,List.singleton_append,←List.map_cons,←List.drop_eq_getElem_cons hi]
 }
 }
theorem ours_ev (l:List (Ed Fd)) (hl:l.length<1000000000000):Ev (fun k=>bookplatelaw18_Own.f k (l.map re)) (l.map pe):=(ours_go l hl l.length 0 [] (by omega) (by simp)).cast (by simp)
theorem refsame_go (l:List Re) (hl:l.length<4611686018427387904) (hs:∀ x∈l,Small x.f1∧Small x.f2):∀ (d i:Nat),i+d=l.length→Ev (fun k=>bookplateref18_Same.l0 k l l (i:Int)) true
 |0,i,h=>Ev.step (g:=fun _=>some true) (fun k=>by rw [bookplateref18_Same.l0,if_neg (by omega)]) (Ev.pure _)
 |d+1,i,h=>by {
 have hi:i<l.length:=by omega
 have hx:=hs _ (List.getElem_mem hi)
 refine Ev.step (g:=fun k=>(bookplateref12_SameFields.f k (l[i]).f1 (l[i]).f1).bind fun t=>if t=true then (bookplateref12_SameFields.f k (l[i]).f2 (l[i]).f2).bind fun t=>if t=true then bookplateref18_Same.l0 k l l ((i+1:Nat):Int) else some false else some false) (fun k=> ?_) (Ev.bind ((reffields_eq _ _ hx.1).cast (decide_eq_true rfl)) (Ev.pos rfl (Ev.bind ((reffields_eq _ _ hx.2).cast (decide_eq_true rfl)) (Ev.pos rfl (refsame_go l hl hs d (i+1) (by omega))))))
 rw [bookplateref18_Same.l0,if_pos (by omega),if_pos (by omega),if_pos (by omega),if_pos rfl,rdR l i hi,wr1 i (by omega)]
 }
theorem refsameL_ev (l:List Re) (hl:l.length<4611686018427387904) (hs:∀ x∈l,Small x.f1∧Small x.f2):Ev (fun k=>bookplateref18_Same.f k l l) true:=by
 unfold bookplateref18_Same.f
 exact Ev.pos rfl (refsame_go l hl hs l.length 0 (by omega))
theorem edits_small (a b:List Fd) (ha:Cnt a) (hb:Cnt b) (l1:a.length≤1000) (l2:b.length≤1000):(edits a b).length≤2000∧∀ e∈edits a b,Cnt e.2.1∧Cnt e.2.2:=by
 have hs:=size_le a b
 have hn:=length_ordered (ordered_edits a b)
 refine ⟨by omega,fun e he=> ?_⟩
 have hm:=mem_edits he
 have hz:=size_mem he
 exact ⟨ha.sub hm.1 (by omega),hb.sub hm.2 (by omega)⟩
theorem dv_small (i j:Int) (a b:List Fd) (ha:Cnt a) (hb:Cnt b):(dv i a j b).1.length≤2000∧∀ e∈(dv i a j b).1,Cnt e.2.1∧Cnt e.2.2:=by
 unfold dv
 split
 {
 rename_i h1
 split
 {
 rename_i h2
 split
 {
 have l1:=vRec_len h1
 have l2:=vRec_len h2
 exact edits_small a b ha hb (by omega) (by omega)
 }
 {
 exact ⟨by simp,fun e h=>by cases h⟩
 }
 }
 {
 exact ⟨by simp,fun e h=>by cases h⟩
 }
 }
 {
 exact ⟨by simp,fun e h=>by cases h⟩
 }
theorem map_small (l:List (Ed Fd)) (h:∀ e∈l,Cnt e.2.1∧Cnt e.2.2):∀ x∈l.map re,Small x.f1∧Small x.f2:=by
 intro x hx
 obtain ⟨e,he,rfl⟩:=List.mem_map.1 hx
 exact ⟨(h e he).1.small,(h e he).2.small⟩
end Go.Proofs.YtdlolaognnbhpaaDoor.Rec
namespace Go.Proofs.YtdlolaognnbhpaaDoor.Rec
open Go.RowKit Go.Proofs.YtdlolaognnbhpaaDoorW.PrintWords Go.Proofs.YtdlolaognnbhpaaDoor.Pr Go.Proofs.YtdlolaognnbhpaaDoor.Lcs Classical
set_option linter.unusedVariables false
set_option linter.unusedSimpArgs false
abbrev pes (L:List (Ed Fd)):List Pe:=L.map pe
theorem rdE (L:List (Ed Fd)) (i:Nat) (h:i<L.length):rd_T53 (pes L) (i:Int)=pe L[i]:=by
 rw [rdP (pes L) i (by rw [List.length_map];exact h),List.getElem_map]
theorem pes_len (L:List (Ed Fd)):(pes L).length=L.length:=List.length_map ..
def CntE (L:List (Ed Fd)):Prop:=L.length≤1000000∧∀ e∈L,(-9223372036854775808≤e.1∧e.1≤9223372036854775807)∧Cnt e.2.1∧Cnt e.2.2∧e.2.1.length≤1000000∧e.2.2.length≤1000000
theorem wr_id (x:Int) (h: -9223372036854775808≤x) (h2:x≤9223372036854775807):wrap64 x=x:=by unfold wrap64;omega
theorem valid_go (L:List (Ed Fd)) (hc:CntE L):∀ (d i:Nat) (p:Int),i+d=L.length→0≤p→(i=0→p=0)→(∀ h:i - 1<L.length,0<i→p=(L[i - 1]).1+(L[i - 1]).2.1.length+1∧0≤(L[i - 1]).1)→
 Ev (fun k=>patch_Valid.l0 k (pes L) (pes L) ((pes L).length:Int) (i:Int)) (decide (Ordered p (L.drop i)))
 |0,i,p,h,hp,h0,h1=>by {
 refine Ev.step (g:=fun _=>some true) (fun k=>by rw [patch_Valid.l0,if_neg (by rw [pes_len];omega)]) ((Ev.pure _).cast ?_)
 rw [List.drop_eq_nil_of_le (by omega),eq_comm,decide_eq_true_eq]
 trivial
 }
 |d+1,i,p,h,hp,h0,h1=>by {
 have hi:i<L.length:=by omega
 have hl:=hc.1
 obtain ⟨⟨r1,r2⟩,_,_,r3,r4⟩:=hc.2 _ (List.getElem_mem hi)
 have e:∀ k,patch_Valid.l0 (k+1) (pes L) (pes L) ((pes L).length:Int) (i:Int)=if p≤(L[i]).1∧0<(L[i]).2.1.length+(L[i]).2.2.length then patch_Valid.l0 k (pes L) (pes L) ((pes L).length:Int) ((i+1:Nat):Int) else some false:=by {
 intro k
 rw [patch_Valid.l0,if_pos (by rw [pes_len];omega),if_pos (by omega),if_pos (by rw [pes_len];omega),rdE L i hi]
 show (if (L[i]).1<0 then some false else if wrap64 (((L[i]).2.1.length:Int)+((L[i]).2.2.length:Int))=0 then some false else _)=_
 rw [wr_id _ (by omega) (by omega),wr1 i (by omega)]
 by_cases c1:(L[i]).1<0
 {
 rw [if_pos c1,if_neg (by omega)]
 }
 {
 rw [if_neg c1]
 by_cases c2:((L[i]).2.1.length:Int)+((L[i]).2.2.length:Int)=0
 {
 rw [if_pos c2,if_neg (by omega)]
 }
 {
 rw [if_neg c2]
 by_cases c3:i=0
 {
 have:=h0 c3
 rw [if_neg (by omega),if_pos (by omega)]
 }
 {
 have hj:i - 1<L.length:=by omega
 obtain ⟨hp1,hp2⟩:=h1 hj (by omega)
 obtain ⟨⟨s1,s2⟩,_,_,s3,s4⟩:=hc.2 _ (List.getElem_mem hj)
 rw [if_pos (by omega),wr_id ((i:Int) - 1) (by omega) (by omega),if_pos (by omega),if_pos (by rw [pes_len];omega),show (i:Int) - 1=((i - 1:Nat):Int) by omega,rdE L (i - 1) hj]
 show (if wrap64 ((L[i]).1 - ((L[i - 1]).2.1.length:Int))≤(L[i - 1]).1 then some false else _)=_
 rw [wr_id _ (by omega) (by omega)]
 by_cases c4:(L[i]).1 - ((L[i - 1]).2.1.length:Int)≤(L[i - 1]).1
 {
 rw [if_pos c4,if_neg (by omega)]
 }
 {
 rw [if_neg c4,if_pos (by omega)]
 }
 }
 }
 }
 }
 rw [List.drop_eq_getElem_cons hi]
 by_cases c:p≤(L[i]).1∧0<(L[i]).2.1.length+(L[i]).2.2.length
 {
 refine Ev.step (fun k=>(e k).trans (if_pos c)) ((valid_go L hc d (i+1) ((L[i]).1+(L[i]).2.1.length+1) (by omega) (by omega) (by omega) (fun _ _=>⟨rfl,by show 0≤(L[i]).1;omega⟩)).cast ?_)
 rw [decide_eq_decide]
 exact ⟨fun g=>⟨c.1,c.2,g⟩,fun g=>g.2.2⟩
 }
 {
 refine Ev.step (g:=fun _=>some false) (fun k=>(e k).trans (if_neg c)) ((Ev.pure _).cast ?_)
 rw [eq_comm,decide_eq_false_iff_not]
 exact fun g=>c ⟨g.1,g.2.1⟩
 }
 }
theorem valid_ev (L:List (Ed Fd)) (hc:CntE L):Ev (fun k=>patch_Valid.f k (pes L)) (decide (Ordered 0 L)):=by
 unfold patch_Valid.f
 exact (valid_go L hc L.length 0 0 (by omega) (Int.le_refl _) (fun _=>rfl) (fun _ h=>by omega)).cast (by rw [List.drop_zero])
theorem size_go (L:List (Ed Fd)) (hL:L.length≤1000000):∀ (d i:Nat) (n:Nat),i+d=L.length→n+size (L.drop i)<4611686018427387904→Ev (fun k=>patch_Size.l0 k (n:Int) (pes L) ((pes L).length:Int) (i:Int)) (((n+size (L.drop i):Nat)):Int)
 |0,i,n,h,hs=>by {
 refine Ev.step (g:=fun _=>some (n:Int)) (fun k=>by rw [patch_Size.l0,if_neg (by rw [pes_len];omega)]) ((Ev.pure _).cast ?_)
 rw [List.drop_eq_nil_of_le (by omega),size]
 rfl
 }
 |d+1,i,n,h,hs=>by {
 have hi:i<L.length:=by omega
 rw [List.drop_eq_getElem_cons hi,size] at hs⊢
 have:=size_go L hL d (i+1) (n+((L[i]).2.1.length+(L[i]).2.2.length)) (by omega) (by omega)
 refine Ev.step (fun k=> ?_) (this.cast (by congr 1;omega))
 rw [patch_Size.l0,if_pos (by rw [pes_len];omega),if_pos (by omega),if_pos (by rw [pes_len];omega),rdE L i hi,wr1 i (by omega)]
 show patch_Size.l0 k (wrap64 ((n:Int)+wrap64 (((L[i]).2.1.length:Int)+((L[i]).2.2.length:Int)))) (pes L) _ _=_
 rw [wr_id (((L[i]).2.1.length:Int)+((L[i]).2.2.length:Int)) (by omega) (by omega),wr_id _ (by omega) (by omega)]
 congr 1
 }
theorem size_ev (L:List (Ed Fd)) (hL:L.length≤1000000) (hs:size L<4611686018427387904):Ev (fun k=>patch_Size.f k (pes L)) ((size L:Nat):Int):=by
 unfold patch_Size.f
 exact (size_go L hL L.length 0 0 (by omega) (by rw [List.drop_zero];omega)).cast (by rw [List.drop_zero,Nat.zero_add])
def FitOne (a:List Fd) (e:Ed Fd):Prop:=0≤e.1∧e.1≤a.length∧e.2.1.length≤a.length - e.1∧(a.take (e.1+e.2.1.length).toNat).drop e.1.toNat=e.2.1
theorem fit_one (a:List Fd) (ha:Cnt a) (hl:a.length≤1000000) (e:Ed Fd) (h0:0≤e.1) (ho:e.2.1.length≤1000000):Ev (fun k=>patch_fits.one k a (pe e)) (!decide (FitOne a e)):=by
 unfold patch_fits.one
 refine Ev.pos ⟨h0,hl,ho⟩ (Ev.ite (fun h=>(Ev.pure _).cast ?_) (fun h1=>Ev.ite (fun h=>(Ev.pure _).cast ?_) (fun h2=>(Ev.bind (equal_eq _ _ (ha.sub (m:=(a.take (e.1+e.2.1.length).toNat).drop e.1.toNat) (fun x hx=>List.mem_of_mem_take (List.mem_of_mem_drop hx)) (by rw [List.length_drop,List.length_take];omega)).small) (Ev.pure (!decide ((a.take (e.1+e.2.1.length).toNat).drop e.1.toNat=e.2.1)))).cast ?_)))
 {
 rw [decide_eq_false (fun g=>by have:=g.2.1;change e.1>a.length at h;omega)];rfl
 }
 {
 rw [decide_eq_false (fun g=>by have:=g.2.2.1;change (e.2.1.length:Int)>a.length - e.1 at h;omega)];rfl
 }
 {
 change ¬ e.1>a.length at h1
 change ¬ (e.2.1.length:Int)>a.length - e.1 at h2
 congr 1
 rw [decide_eq_decide]
 exact ⟨fun g=>⟨h0,by omega,by omega,g⟩,fun g=>g.2.2.2⟩
 }
theorem find_fits (a:List Fd) (ha:Cnt a) (hl:a.length≤1000000):∀ (L:List (Ed Fd)) (i:Int),0≤i→(∀ e∈L,0≤e.1∧e.2.1.length≤1000000)→∃ r,Ev (fun k=>patch_fits.find k a i (pes L)) r∧decide (r<0)=decide (Fits a L)
 |[],i,hi,h=>⟨-1,Ev.pure _,by rw [decide_eq_true (show Fits a [] from trivial)];rfl⟩
 |e::L,i,hi,h=>by {
 obtain ⟨r,h1,h2⟩:=find_fits a ha hl L (i+1) (by omega) (fun x hx=>h x (List.mem_cons_of_mem _ hx))
 have he:=h e (List.mem_cons_self ..)
 have ho:=fit_one a ha hl e he.1 he.2
 by_cases c:FitOne a e
 {
 rw [decide_eq_true c] at ho
 refine ⟨r,Ev.bind ho (Ev.neg (by decide) h1),h2.trans ?_⟩
 rw [decide_eq_decide]
 exact ⟨fun g=>⟨c,g⟩,fun g=>g.2⟩
 }
 {
 rw [decide_eq_false c] at ho
 refine ⟨i,Ev.bind ho (Ev.pos rfl (Ev.pure _)),?_⟩
 rw [decide_eq_false (by omega),eq_comm,decide_eq_false_iff_not]
 exact fun g=>c g.1
 }
 }
theorem ordered_pos {α:Type}:∀ {L:List (Ed α)} {p:Int},0≤p→Ordered p L→∀ e∈L,0≤e.1
 |x::L,p,hp,h,e,he=>by {
 have h1:=h.1
 rcases List.mem_cons.1 he with rfl|he
 {
 omega
 }
 {
 exact ordered_pos (by omega) h.2.2 e he
 }
 }
theorem fits_ev (a:List Fd) (ha:Cnt a) (hl:a.length≤1000000) (L:List (Ed Fd)) (hc:CntE L):Ev (fun k=>patch_fits.f k a (pes L)) (decide (Ordered 0 L∧Fits a L)):=by
 unfold patch_fits.f
 refine Ev.pos (by rw [pes_len];exact hc.1) (Ev.bind (valid_ev L hc) ?_)
 by_cases ho:Ordered 0 L
 {
 obtain ⟨r,h1,h2⟩:=find_fits a ha hl L 0 (Int.le_refl _) (fun e he=>⟨ordered_pos (Int.le_refl _) ho e he,(hc.2 e he).2.2.2.1⟩)
 refine Ev.pos (decide_eq_true ho) ((Ev.bind h1 (Ev.pure (decide (r<0)))).cast ?_)
 rw [h2,decide_eq_decide]
 exact ⟨fun g=>⟨ho,g⟩,fun g=>g.2⟩
 }
 {
 refine Ev.neg (by simpa using ho) ((Ev.pure _).cast ?_)
 rw [eq_comm,decide_eq_false_iff_not]
 exact fun g=>ho g.1
 }
theorem result_go (a:List Fd) (ha:Cnt a) (L:List (Ed Fd)) (hc:CntE L):∀ (d i:Nat) (acc:List Fd) (p:Nat),i+d=L.length→p≤a.length→Ordered (p:Int) (L.drop i)→Fits a (L.drop i)→acc.length+(a.length - p)+size (L.drop i)<900000000000→
 Ev (fun k=>patch_result.l0 k a acc (p:Int) (pes L) ((pes L).length:Int) (i:Int)) (acc++res a (p:Int) (L.drop i))
 |0,i,acc,p,h,hp,ho,hf,hs=>by {
 rw [List.drop_eq_nil_of_le (by omega),res]
 refine Ev.step (g:=fun k=>(patch_own.f k (a.drop (p:Int).toNat)).bind fun t=>if acc.length+t.length<2932031007402 then some (acc++t) else none) (fun k=>by rw [patch_result.l0,if_neg (by rw [pes_len];omega),if_pos (by omega),if_pos (by omega)]) ?_
 exact Ev.bind (own_eq _ (fun x hx=>ha.subs x (List.mem_of_mem_drop hx)) (by rw [List.length_drop];omega)) (Ev.pos (by rw [List.length_drop];omega) (Ev.pure _))
 }
 |d+1,i,acc,p,h,hp,ho,hf,hs=>by {
 have hi:i<L.length:=by omega
 have hl:=hc.1
 rw [List.drop_eq_getElem_cons hi] at ho hf hs⊢
 obtain ⟨g1,g2,g3⟩:=ho
 obtain ⟨⟨f1,f2,f3,f4⟩,f5⟩:=hf
 obtain ⟨_,_,hn,_,_⟩:=hc.2 _ (List.getElem_mem hi)
 have ha1:=ha.1
 rw [size] at hs
 obtain ⟨q,hq⟩:∃ q:Nat,(L[i]).1=q:=⟨(L[i]).1.toNat,by omega⟩
 have hlen:((a.take q).drop p).length=q - p:=by rw [List.length_drop,List.length_take];omega
 have:=result_go a ha L hc d (i+1) (acc++(a.take q).drop p++(L[i]).2.2) (q+(L[i]).2.1.length) (by omega) (by omega) (Ordered.mono (by omega) g3) f5 (by rw [List.length_append,List.length_append,hlen];omega)
 refine Ev.step (g:=fun k=>(patch_own.f k ((a.take q).drop p)).bind fun t=>if acc.length+t.length<2932031007402 then (patch_own.f k (L[i]).2.2).bind fun u=>if (acc++t).length+u.length<2932031007402 then patch_result.l0 k a (acc++t++u) ((q+(L[i]).2.1.length:Nat):Int) (pes L) ((pes L).length:Int) ((i+1:Nat):Int) else none else none) (fun k=> ?_) ?_
 {
 rw [patch_result.l0,if_pos (by rw [pes_len];omega),if_pos (by omega),if_pos (by rw [pes_len];omega),if_pos (by omega),rdE L i hi,wr1 i (by omega)]
 show (if (p:Int)≤(L[i]).1 then if (L[i]).1≤(a.length:Int) then (patch_own.f k ((a.take (L[i]).1.toNat).drop (p:Int).toNat)).bind _ else none else none)=_
 rw [if_pos (by omega),if_pos (by omega),hq,Int.toNat_natCast,Int.toNat_natCast]
 cases patch_own.f k ((a.take q).drop p) with
 |none=>rfl
 |some t=>
  (
 show (if acc.length+t.length<2932031007402 then _ else none)=(if acc.length+t.length<2932031007402 then _ else none)
 have e:wrap64 ((pe L[i]).f0+((pe L[i]).f1.length:Int))=((q+(L[i]).2.1.length:Nat):Int):=by {
 show wrap64 ((L[i]).1+((L[i]).2.1.length:Int))=_
 rw [wr_id _ (by omega) (by omega)];omega
 }
 rw [Option.bind_some,e]
 rfl
  )
 }
 {
 refine Ev.bind (own_eq _ (fun x hx=>ha.subs x (List.mem_of_mem_take (List.mem_of_mem_drop hx))) (by omega)) (Ev.pos (by omega) (Ev.bind (own_eq _ hn.subs (by omega)) (Ev.pos (by rw [List.length_append];omega) (this.cast ?_))))
 rw [res,hq,Int.toNat_natCast,Int.toNat_natCast,List.append_assoc,List.append_assoc,List.append_assoc]
 rfl
 }
 }
theorem result_ev (a:List Fd) (ha:Cnt a) (L:List (Ed Fd)) (hc:CntE L) (ho:Ordered 0 L) (hf:Fits a L) (hs:a.length+size L<900000000000):Ev (fun k=>patch_result.f k a (pes L)) (res a 0 L):=by
 unfold patch_result.f
 exact (result_go a ha L hc L.length 0 [] 0 (by omega) (Nat.zero_le _) (by rw [List.drop_zero];exact ho) (by rw [List.drop_zero];exact hf) (by rw [List.drop_zero];simp only [List.length_nil];omega)).cast (by rw [List.drop_zero,List.nil_append];rfl)
noncomputable def av (i : Int) (a : List Fd) (L : List (Ed Fd)) : Int × List Fd × Int :=
  if vRec i a=true then (if Ordered 0 L∧Fits a L then (if L.all (fun e=>e.2.2.all vField)=true then (if 1≤(res a 0 L).length∧(res a 0 L).length≤60 then (i,res a 0 L,0) else (0,[],3)) else (0,[],18)) else (0,[],13)) else (0,[],1)
theorem sized_ev (i:Int) (l:List Fd):Ev (fun _=>patch_sized.f i l) (if 1≤l.length∧l.length≤60 then (i,l,0) else (0,[],3)):=by
 unfold patch_sized.f
 refine Ev.ite (fun h=>(Ev.pure _).cast ?_) (fun h1=>Ev.ite (fun h=>(Ev.pure _).cast ?_) (fun h2=>(Ev.pure _).cast ?_))
 {
 rw [if_neg (by omega)]
 }
 {
 rw [if_neg (by omega)]
 }
 {
 rw [if_pos (by omega)]
 }
theorem apply_go (j:Int) (a:List Fd) (L:List (Ed Fd)) (hc:CntE L) (v:Int×List Fd×Int) (hv:Ev (fun k=>(patch_result.f k a (pes L)).bind fun t=>(patch_sized.f j t).bind fun b=>some (b.1,b.2.1,b.2.2)) v):∀ (d i:Nat),i+d=L.length→
 Ev (fun k=>patch_Apply.l0 k (pes L) (pes L) ((pes L).length:Int) (i:Int) j a) (if (L.drop i).all (fun e=>e.2.2.all vField)=true then v else (0,[],18))
 |0,i,h=>by {
 rw [List.drop_eq_nil_of_le (by omega),List.all_nil,if_pos rfl]
 exact Ev.step (fun k=>by rw [patch_Apply.l0,if_neg (by rw [pes_len];omega)]) hv
 }
 |d+1,i,h=>by {
 have hi:i<L.length:=by omega
 have hl:=hc.1
 obtain ⟨_,_,hn,_,_⟩:=hc.2 _ (List.getElem_mem hi)
 have:=apply_go j a L hc v hv d (i+1) (by omega)
 rw [List.drop_eq_getElem_cons hi,List.all_cons]
 refine Ev.step (g:=fun k=>(api_Field__v29_28000.f k (L[i]).2.2).bind fun t=>if t=true then some (0,[],18) else patch_Apply.l0 k (pes L) (pes L) ((pes L).length:Int) ((i+1:Nat):Int) j a) (fun k=> ?_) (Ev.bind (newV_ev _ hn.1 hn.vals) ?_)
 {
 rw [patch_Apply.l0,if_pos (by rw [pes_len];omega),if_pos (by omega),if_pos (by rw [pes_len];omega),rdE L i hi,wr1 i (by omega)]
 rfl
 }
 {
 cases (L[i]).2.2.all vField with
 |true=>rw [Bool.true_and];exact Ev.neg (by decide) this
 |false=>rw [Bool.false_and];exact Ev.pos rfl (Ev.pure _)
 }
 }
theorem apply_ev (i:Int) (a:List Fd) (ha:Cnt a) (L:List (Ed Fd)) (hc:CntE L) (hs:size L<800000000000):Ev (fun k=>patch_Apply.f k i a (pes L)) (av i a L):=by
 unfold patch_Apply.f av
 refine Ev.bind (rec_ev i a ha.vals) (Ev.ext (g:=fun k=>if vRec i a=true then (patch_fits.f k a (pes L)).bind fun t=>if t=true then patch_Apply.l0 k (pes L) (pes L) ((pes L).length:Int) 0 i a else some (0,[],13) else some (0,[],1)) (fun k=>rfl) ?_)
 by_cases h1:vRec i a=true
 {
 rw [if_pos h1]
 have hl:=vRec_len h1
 refine Ev.pos h1 (Ev.bind (fits_ev a ha (by omega) L hc) ?_)
 by_cases h2:Ordered 0 L∧Fits a L
 {
 rw [if_pos h2]
 refine Ev.pos (decide_eq_true h2) ?_
 have:=apply_go i a L hc (if 1≤(res a 0 L).length∧(res a 0 L).length≤60 then (i,res a 0 L,0) else (0,[],3)) ?_ L.length 0 (by omega)
 {
 rw [List.drop_zero] at this
 exact this
 }
 {
 exact Ev.bind (result_ev a ha L hc h2.1 h2.2 (by omega)) (Ev.bind (sized_ev i _) (Ev.pure _))
 }
 }
 {
 rw [if_neg h2]
 exact Ev.neg (by simpa using h2) (Ev.pure _)
 }
 }
 {
 rw [if_neg h1]
 exact Ev.neg h1 (Ev.pure _)
 }
theorem invert_go (L:List (Ed Fd)) (hc:CntE L) (hp:∀ e∈L,0≤e.1∧e.1≤1000000):∀ (d i:Nat) (acc:List Pe) (s:Int),i+d=L.length→acc.length≤i→ -1000000000000≤s - size (L.drop i)→s+size (L.drop i)≤1000000000000→
 Ev (fun k=>patch_Invert.l0 k acc s (pes L) ((pes L).length:Int) (i:Int)) (acc++pes (inv s (L.drop i)),0)
 |0,i,acc,s,h,ha,h1,h2=>by {
 refine Ev.step (g:=fun _=>some (acc,0)) (fun k=>by rw [patch_Invert.l0,if_neg (by rw [pes_len];omega)]) ((Ev.pure _).cast ?_)
 rw [List.drop_eq_nil_of_le (by omega),inv,pes,List.map_nil,List.append_nil]
 }
 |d+1,i,acc,s,h,ha,h1,h2=>by {
 have hi:i<L.length:=by omega
 have hl:=hc.1
 obtain ⟨_,hn1,hn2,hn3,hn4⟩:=hc.2 _ (List.getElem_mem hi)
 have hp1:=hp _ (List.getElem_mem hi)
 rw [List.drop_eq_getElem_cons hi] at h1 h2⊢
 rw [size] at h1 h2
 have:=invert_go L hc hp d (i+1) (acc++[pe ((L[i]).1+s,(L[i]).2.2,(L[i]).2.1)]) (s+((L[i]).2.2.length - (L[i]).2.1.length)) (by omega) (by simp;omega) (by omega) (by omega)
 refine Ev.step (g:=fun k=>(patch_own.f k (L[i]).2.2).bind fun t=>(patch_own.f k (L[i]).2.1).bind fun u=>if acc.length<2513169434916 then patch_Invert.l0 k (acc++[⟨(L[i]).1+s,t,u⟩]) (s+((L[i]).2.2.length - (L[i]).2.1.length)) (pes L) ((pes L).length:Int) ((i+1:Nat):Int) else none) (fun k=> ?_) (Ev.bind (own_eq _ hn2.subs (by omega)) (Ev.bind (own_eq _ hn1.subs (by omega)) (Ev.pos (by omega) (this.cast ?_))))
 {
 rw [patch_Invert.l0,if_pos (by rw [pes_len];omega),if_pos (by omega),if_pos (by rw [pes_len];omega),rdE L i hi,wr1 i (by omega)]
 have e1:wrap64 ((pe L[i]).f0+s)=(L[i]).1+s:=wr_id _ (by show _≤(L[i]).1+s;omega) (by show (L[i]).1+s≤_;omega)
 have e2:wrap64 (s+wrap64 (((pe L[i]).f2.length:Int) - ((pe L[i]).f1.length:Int)))=s+((L[i]).2.2.length - (L[i]).2.1.length):=by {
 show wrap64 (s+wrap64 (((L[i]).2.2.length:Int) - ((L[i]).2.1.length:Int)))=_
 rw [wr_id (((L[i]).2.2.length:Int) - ((L[i]).2.1.length:Int)) (by omega) (by omega),wr_id _ (by omega) (by omega)]
 }
 rw [e1,e2]
 rfl
 }
 {
 rw [inv,pes,pes,List.map_cons,List.append_assoc]
 rfl
 }
 }
theorem invert_ev (L:List (Ed Fd)) (hc:CntE L) (ho:Ordered 0 L) (hp:∀ e∈L,0≤e.1∧e.1≤1000000) (hs:size L≤1000000000000):Ev (fun k=>patch_Invert.f k (pes L)) (pes (inv 0 L),0):=by
 unfold patch_Invert.f
 refine Ev.bind (valid_ev L hc) (Ev.pos (decide_eq_true ho) ?_)
 exact (invert_go L hc hp L.length 0 [] 0 (by omega) (by simp) (by rw [List.drop_zero];omega) (by rw [List.drop_zero];omega)).cast (by rw [List.drop_zero,List.nil_append])
end Go.Proofs.YtdlolaognnbhpaaDoor.Rec
namespace Go.Proofs.YtdlolaognnbhpaaDoor.Rec
open Go.RowKit Go.Proofs.YtdlolaognnbhpaaDoorW.PrintWords Go.Proofs.YtdlolaognnbhpaaDoor.Pr Go.Proofs.YtdlolaognnbhpaaDoor.Lcs Classical
set_option linter.unusedVariables false
set_option linter.unusedSimpArgs false
def fA:Fd:=⟨⟨#[49,48,48]⟩,⟨32,32⟩,[⟨97,⟨#[120]⟩⟩]⟩
def fB:Fd:=⟨⟨#[50,52,53]⟩,⟨32,32⟩,[⟨97,⟨#[121]⟩⟩]⟩
def fC:Fd:=⟨⟨#[55,48,48]⟩,⟨32,32⟩,[⟨97,⟨#[122]⟩⟩]⟩
theorem vA:vField fA=true:=by
 unfold vField vTag
 simp only [ByteArray.toList_eq]
 decide+kernel
theorem vB:vField fB=true:=by
 unfold vField vTag
 simp only [ByteArray.toList_eq]
 decide+kernel
theorem vC:vField fC=true:=by
 unfold vField vTag
 simp only [ByteArray.toList_eq]
 decide+kernel
theorem nAB:fA≠fB:=fun h=>absurd (congrArg (fun x:Fd=>x.f0.data.toList) h) (by decide)
theorem nBC:fB≠fC:=fun h=>absurd (congrArg (fun x:Fd=>x.f0.data.toList) h) (by decide)
theorem nAC:fA≠fC:=fun h=>absurd (congrArg (fun x:Fd=>x.f0.data.toList) h) (by decide)
theorem e_awake:edits [fA,fB] [fB,fC]=[(0,[fA],[]),(2,[],[fC])]:=by
 simp [edits,steps,lcs,group,out1,nAB,nBC,nAC]
theorem cnt_list (l:List Fd) (hl:l.length≤100) (h:∀ x∈l,x.f2.length≤100∧∀ y∈x.f2,y.f1.size≤1000):Cnt l:=⟨by omega,fun x hx=>⟨by have:=(h x hx).1;omega,fun y hy=>by have:=(h x hx).2 y hy;omega⟩⟩
theorem one_ok (x:Fd) (h:x=fA∨x=fB∨x=fC):x.f2.length≤100∧∀ y∈x.f2,y.f1.size≤1000:=by
 rcases h with rfl|rfl|rfl<;>exact ⟨by decide,fun y hy=>by rw [List.mem_singleton.1 hy];decide⟩
theorem cAB:Cnt [fA,fB]:=cnt_list _ (by decide) (fun x hx=>one_ok x (by simp at hx;rcases hx with h|h<;>simp [h]))
theorem cBC:Cnt [fB,fC]:=cnt_list _ (by decide) (fun x hx=>one_ok x (by simp at hx;rcases hx with h|h<;>simp [h]))
theorem rAB:vRec 1 [fA,fB]=true:=by simp [vRec,vA,vB]
theorem rBC:vRec 1 [fB,fC]=true:=by simp [vRec,vB,vC]
theorem cntE_edits {a b:List Fd} (ha:Cnt a) (hb:Cnt b) (l1:a.length≤60) (l2:b.length≤60):CntE (edits a b):=by
 have h:=edits_small a b ha hb (by omega) (by omega)
 refine ⟨by have:=h.1;omega,fun e he=> ?_⟩
 have hp:=place_fits (fits_edits a b) e he
 have hs:=size_mem he
 have hz:=size_le a b
 exact ⟨⟨by omega,by omega⟩,(h.2 e he).1,(h.2 e he).2,by omega,by omega⟩
theorem cntE_backs {a b:List Fd} (ha:Cnt a) (hb:Cnt b) (l1:a.length≤60) (l2:b.length≤60):CntE (backs a b):=by
 have hz:=size_le a b
 have hb2:=size_backs a b
 have hn:=length_ordered (ordered_backs a b)
 refine ⟨by omega,fun e he=> ?_⟩
 have hp:=place_fits (fits_backs a b) e he
 have hs:=size_mem he
 have hm:=mem_backs he
 exact ⟨⟨by omega,by omega⟩,hb.sub hm.1 (by omega),ha.sub hm.2 (by omega),by omega,by omega⟩
theorem vRec_all {i:Int} {l:List Fd} (h:vRec i l=true):∀ x∈l,vField x=true:=by
 unfold vRec at h
 simp only [Bool.and_eq_true] at h
 exact List.all_eq_true.1 h.2
theorem vRec_id {i:Int} {l:List Fd} (h:vRec i l=true):1≤i∧i≤1000000000:=by
 unfold vRec at h
 simp only [Bool.and_eq_true,decide_eq_true_eq] at h
 exact h.1.1
theorem av_edits {i j:Int} {a b:List Fd} (ha:vRec i a=true) (hb:vRec j b=true):av i a (edits a b)=(i,b,0):=by
 have hl:=vRec_len hb
 unfold av
 rw [if_pos ha,if_pos ⟨ordered_edits a b,fits_edits a b⟩,res_edits,if_pos,if_pos hl]
 rw [List.all_eq_true]
 intro e he
 rw [List.all_eq_true]
 exact fun x hx=>vRec_all hb x ((mem_edits he).2 x hx)
theorem av_backs {i j:Int} {a b:List Fd} (ha:vRec i a=true) (hb:vRec j b=true):av j b (backs a b)=(j,a,0):=by
 have hl:=vRec_len ha
 unfold av
 rw [if_pos hb,if_pos ⟨ordered_backs a b,fits_backs a b⟩,res_backs,if_pos,if_pos hl]
 rw [List.all_eq_true]
 intro e he
 rw [List.all_eq_true]
 exact fun x hx=>vRec_all ha x ((mem_backs he).2 x hx)
theorem dv_ok {i j:Int} {a b:List Fd} (ha:vRec i a=true) (hb:vRec j b=true) (h:i=j):dv i a j b=(edits a b,0):=by
 unfold dv
 rw [if_pos ha,if_pos hb,if_pos h]
theorem diffs_ok {i j:Int} {a b:List Fd} (ca:Cnt a) (cb:Cnt b) (ha:vRec i a=true) (hb:vRec j b=true) (h:i=j):Ev (fun k=>patch_Diff.f k i a j b) (pes (edits a b),0):=by
 have:=diff_ev i j a b ca cb
 rw [dv_ok ha hb h] at this
 exact this
theorem sizes_ok {a b:List Fd} (l1:a.length≤60) (l2:b.length≤60):Ev (fun k=>patch_Size.f k (pes (edits a b))) ((size (edits a b):Nat):Int):=by
 have hn:=length_ordered (ordered_edits a b)
 have hz:=size_le a b
 exact size_ev _ (by omega) (by omega)
theorem awake_ev:Ev (fun k=>bookplatelaw18_awake.f k) true:=by
 have d:=diffs_ok cAB cBC rAB rBC rfl
 have p:=apply_ev 1 [fA,fB] cAB (edits [fA,fB] [fB,fC]) (cntE_edits cAB cBC (by decide) (by decide)) (by have:=size_le [fA,fB] [fB,fC];simp only [List.length_cons,List.length_nil] at this;omega)
 rw [av_edits rAB rBC] at p
 have q:=refequal_eq 1 1 [fB,fC] [fB,fC] cBC.small
 have v:=valid_ev (edits [fA,fB] [fB,fC]) (cntE_edits cAB cBC (by decide) (by decide))
 rw [decide_eq_true (ordered_edits _ _)] at v
 have s:=sizes_ok (a:=[fA,fB]) (b:=[fB,fC]) (by decide) (by decide)
 rw [e_awake] at d p v s
 unfold bookplatelaw18_awake.f bookplatelaw18_field.f
 simp only [Option.bind_some]
 refine Ev.bind d (Ev.bind p (Ev.pos rfl (Ev.pos rfl (Ev.pos rfl (Ev.pos (by decide) (Ev.pos rfl (Ev.pos rfl (Ev.pos (by decide) (Ev.pos rfl (Ev.pos rfl ?_))))))))))
 exact Ev.bind (q.cast (decide_eq_true ⟨rfl,rfl⟩)) (Ev.pos rfl (Ev.bind v (Ev.pos rfl (Ev.bind s ((Ev.pure _).cast rfl)))))
end Go.Proofs.YtdlolaognnbhpaaDoor.Rec
