/- A part of the proof of laws of this seat: PatchBack, PatchDiff, PatchLeast, PatchMetric. Conditions: none of our own. -/
import Derived.WideShapes
import Derived.Test.YtdlolaognnbhpaaDoorK14
import Derived.Test.YtdlolaognnbhpaaDoorK20
namespace Go.Proofs.YtdlolaognnbhpaaDoor.Rec
open Go.RowKit Go.Proofs.YtdlolaognnbhpaaDoor.Pr Classical
set_option linter.unusedVariables false
set_option linter.unusedSimpArgs false
def Ev {α:Type} (f:Nat→Option α) (v:α):Prop:=∃ K,∀ k,K≤k→f k=some v
namespace Ev
variable {α β : Type} {f g : Nat → Option α} {v w : α}
theorem pure (v:α):Ev (fun _=>some v) v:=⟨0,fun _ _=>rfl⟩
theorem ext (h:∀ k,f k=g k) (hg:Ev g v):Ev f v:=by
 obtain ⟨K,hK⟩:=hg
 exact ⟨K,fun k hk=>(h k).trans (hK k hk)⟩
theorem step (h:∀ k,f (k+1)=g k) (hg:Ev g v):Ev f v:=by
 obtain ⟨K,hK⟩:=hg
 refine ⟨K+1,fun k hk=> ?_⟩
 obtain ⟨n,rfl⟩:∃ n,k=n+1:=⟨k - 1,by omega⟩
 exact (h n).trans (hK n (by omega))
theorem bind {f:Nat→Option α} {g:Nat→α→Option β} {a:α} {b:β} (hf:Ev f a) (hg:Ev (fun k=>g k a) b):Ev (fun k=>(f k).bind (g k)) b:=by
 obtain ⟨K,hK⟩:=hf
 obtain ⟨L,hL⟩:=hg
 exact ⟨max K L,fun k hk=>by show (f k).bind (g k)=_;rw [hK k (by omega)];exact hL k (by omega)⟩
theorem pos {c:Prop} [Decidable c] (h:c) (hf:Ev f v):Ev (fun k=>if c then f k else g k) v:=ext (fun k=>if_pos h) hf
theorem neg {c:Prop} [Decidable c] (h: ¬ c) (hg:Ev g v):Ev (fun k=>if c then f k else g k) v:=ext (fun k=>if_neg h) hg
theorem ite {c:Prop} [Decidable c] (hf:c→Ev f v) (hg: ¬ c→Ev g v):Ev (fun k=>if c then f k else g k) v:=by
 by_cases h:c
 {
 exact pos h (hf h)
 }
 {
 exact neg h (hg h)
 }
theorem cast (h:Ev f v) (e:v=w):Ev f w:=e▸h
end Ev
theorem if_iff {α:Type} {c d:Prop} [Decidable c] [Decidable d] (h:c↔d) (x y:α):(if c then x else y)=if d then x else y:=by
 by_cases hd:d
 {
 rw [if_pos hd,if_pos (h.2 hd)]
 }
 {
 rw [if_neg hd,if_neg (fun hc=>hd (h.1 hc))]
 }
abbrev Sb:=S55
abbrev Fd:=S50
theorem wr1 (i:Nat) (h:i<4611686018427387904):wrap64 ((i:Int)+1)=((i+1:Nat):Int):=by unfold wrap64;omega
theorem bytes_iff (a b:ByteArray):a.toList=b.toList↔a=b:=by
 rw [ByteArray.toList_eq,ByteArray.toList_eq]
 exact ⟨WideShapes.bytes_inj,fun h=>by rw [h]⟩
theorem rdS (l:List Sb) (i:Nat) (h:i<l.length):rd_T55 l (i:Int)=l[i]:=by
 unfold rd_T55
 rw [Int.toNat_natCast,List.getD_eq_getElem?_getD,List.getElem?_eq_getElem h]
 rfl
theorem rdF (l:List Fd) (i:Nat) (h:i<l.length):rd_T50 l (i:Int)=l[i]:=by
 unfold rd_T50
 rw [Int.toNat_natCast,List.getD_eq_getElem?_getD,List.getElem?_eq_getElem h]
 rfl
theorem drop_iff {α:Type} (a b:List α) (i:Nat) (ha:i<a.length) (hb:i<b.length):a.drop i=b.drop i↔a[i]=b[i]∧a.drop (i+1)=b.drop (i+1):=by
 rw [List.drop_eq_getElem_cons ha,List.drop_eq_getElem_cons hb]
 exact ⟨fun h=>by injection h with h1 h2;exact ⟨h1,h2⟩,fun h=>by rw [h.1,h.2]⟩
theorem sub_ne (x y:Sb):(!(x.f0==y.f0)|| !(x.f1.toList==y.f1.toList))=true↔ ¬ x=y:=by
 obtain ⟨a,b⟩:=x
 obtain ⟨c,d⟩:=y
 simp only [Bool.or_eq_true,Bool.not_eq_true',beq_eq_false_iff_ne,ne_eq,bytes_iff,S55.mk.injEq]
 by_cases h:a=c<;>by_cases g:b=d<;>simp [h,g]
theorem subs_go (a b:List Sb) (he:a.length=b.length) (hl:a.length<4611686018427387904):∀ (d i:Nat),i+d=a.length→Ev (fun k=>api_Sub_56.l0 k a b (a.length:Int) (i:Int)) (decide (a.drop i=b.drop i))
 |0,i,h=>by {
 refine Ev.step (g:=fun _=>some true) (fun k=> ?_) ((Ev.pure _).cast ?_)
 {
 rw [api_Sub_56.l0,if_neg (by omega)]
 }
 {
 rw [List.drop_eq_nil_of_le (by omega),List.drop_eq_nil_of_le (by omega),decide_eq_true rfl]
 }
 }
 |d+1,i,h=>by {
 refine Ev.step (g:=fun k=>if ¬ a[i]'(by omega)=b[i]'(by omega) then some false else api_Sub_56.l0 k a b (a.length:Int) ((i+1:Nat):Int)) (fun k=> ?_) (Ev.ite (fun hn=>(Ev.pure _).cast ?_) (fun hn=>(subs_go a b he hl d (i+1) (by omega)).cast ?_))
 {
 rw [api_Sub_56.l0,if_pos (by omega),if_pos (by omega),if_pos (by omega),if_pos (by omega),rdS a i (by omega),rdS b i (by omega),wr1 i (by omega)]
 exact if_iff (sub_ne _ _) _ _
 }
 {
 rw [eq_comm,decide_eq_false_iff_not,drop_iff a b i (by omega) (by omega)]
 exact fun h=>hn h.1
 }
 {
 rw [decide_eq_decide,drop_iff a b i (by omega) (by omega)]
 exact ⟨fun h=>⟨not_not.1 hn,h⟩,fun h=>h.2⟩
 }
 }
theorem subs_eq (a b:List Sb) (hl:a.length<4611686018427387904):Ev (fun k=>api_Sub_56.f k a b) (decide (a=b)):=by
 unfold api_Sub_56.f
 refine Ev.ite (fun h=> ?_) (fun h=>(Ev.pure _).cast ?_)
 {
 have:=subs_go a b (by omega) hl a.length 0 (by omega)
 simpa using this
 }
 {
 rw [eq_comm,decide_eq_false_iff_not]
 exact fun e=>h (by rw [e])
 }
theorem field_iff (x y:Fd):x=y↔x.f0.toList=y.f0.toList∧(x.f1.f0==y.f1.f0 && x.f1.f1==y.f1.f1)=true∧x.f2=y.f2:=by
 obtain ⟨a,⟨b,c⟩,d⟩:=x
 obtain ⟨e,⟨f,g⟩,h⟩:=y
 simp only [bytes_iff,Bool.and_eq_true,beq_iff_eq,S50.mk.injEq,S47.mk.injEq]
theorem same_eq (x y:Fd) (hl:x.f2.length<4611686018427387904):Ev (fun k=>patch_same.f k x.f0 x.f1.f0 x.f1.f1 x.f2 y.f0 y.f1.f0 y.f1.f1 y.f2) (decide (x=y)):=by
 unfold patch_same.f
 refine Ev.ite (fun h1=>Ev.ite (fun h2=> ?_) (fun h2=>(Ev.pure _).cast ?_)) (fun h1=>(Ev.pure _).cast ?_)
 {
 refine (Ev.bind (subs_eq _ _ hl) (Ev.pure _)).cast ?_
 rw [decide_eq_decide,field_iff x y]
 exact ⟨fun h=>⟨h1,h2,h⟩,fun h=>h.2.2⟩
 }
 {
 rw [eq_comm,decide_eq_false_iff_not,field_iff x y]
 exact fun h=>h2 h.2.1
 }
 {
 rw [eq_comm,decide_eq_false_iff_not,field_iff x y]
 exact fun h=>h1 h.1
 }
def Small (l:List Fd):Prop:=l.length<4611686018427387904∧∀ x∈l,x.f2.length<4611686018427387904
theorem Small.get {l:List Fd} (h:Small l) (i:Nat) (hi:i<l.length):(l[i]).f2.length<4611686018427387904:=h.2 _ (List.getElem_mem hi)
theorem fields_go (a b:List Fd) (he:a.length=b.length) (hl:Small a):∀ (d i:Nat),i+d=a.length→Ev (fun k=>api_Field__v38.l0 k b a (a.length:Int) (i:Int)) (decide (a.drop i=b.drop i))
 |0,i,h=>by {
 refine Ev.step (g:=fun _=>some true) (fun k=> ?_) ((Ev.pure _).cast ?_)
 {
 rw [api_Field__v38.l0,if_neg (by omega)]
 }
 {
 rw [List.drop_eq_nil_of_le (by omega),List.drop_eq_nil_of_le (by omega),decide_eq_true rfl]
 }
 }
 |d+1,i,h=>by {
 have hi:i<a.length:=by omega
 have hj:i<b.length:=by omega
 have hs:=hl.1
 refine Ev.step (g:=fun k=>(patch_same.f k (a[i]).f0 (a[i]).f1.f0 (a[i]).f1.f1 (a[i]).f2 (b[i]).f0 (b[i]).f1.f0 (b[i]).f1.f1 (b[i]).f2).bind fun t=>if t=true then api_Field__v38.l0 k b a (a.length:Int) ((i+1:Nat):Int) else some false) (fun k=> ?_) (Ev.bind (same_eq _ _ (hl.get i hi)) (Ev.ite (fun hn=>(fields_go a b he hl d (i+1) (by omega)).cast ?_) (fun hn=>(Ev.pure _).cast ?_)))
 {
 rw [api_Field__v38.l0,if_pos (by omega),if_pos (by omega),if_pos (by omega),if_pos (by omega),rdF a i hi,rdF b i hj,wr1 i (by omega)]
 }
 {
 rw [decide_eq_decide,drop_iff a b i hi hj]
 exact ⟨fun h=>⟨of_decide_eq_true hn,h⟩,fun h=>h.2⟩
 }
 {
 rw [eq_comm,decide_eq_false_iff_not,drop_iff a b i hi hj]
 exact fun h=>hn (decide_eq_true h.1)
 }
 }
theorem equal_eq (a b:List Fd) (hl:Small a):Ev (fun k=>patch_equal.f k a b) (decide (a=b)):=by
 unfold patch_equal.f api_Field__v38.f
 refine (Ev.bind (Ev.ite (fun h=> ?_) (fun h=>(Ev.pure _).cast ?_)) (Ev.pure _))
 {
 have:=fields_go a b (by omega) hl a.length 0 (by omega)
 simpa using this
 }
 {
 rw [eq_comm,decide_eq_false_iff_not]
 exact fun e=>h (by rw [e])
 }
theorem refsubs_go (a b:List Sb) (he:a.length=b.length) (hl:a.length<4611686018427387904) (x0:ByteArray) (x1 x2:Int) (y0:ByteArray) (y1 y2:Int):∀ (d i:Nat),i+d=a.length→Ev (fun k=>bookplateref12_SameField.l0 k (i:Int) x0 x1 x2 a y0 y1 y2 b) (decide (a.drop i=b.drop i))
 |0,i,h=>by {
 refine Ev.step (g:=fun _=>some true) (fun k=> ?_) ((Ev.pure _).cast ?_)
 {
 rw [bookplateref12_SameField.l0,if_neg (by omega)]
 }
 {
 rw [List.drop_eq_nil_of_le (by omega),List.drop_eq_nil_of_le (by omega),decide_eq_true rfl]
 }
 }
 |d+1,i,h=>by {
 refine Ev.step (g:=fun k=>if ¬ a[i]'(by omega)=b[i]'(by omega) then some false else bookplateref12_SameField.l0 k ((i+1:Nat):Int) x0 x1 x2 a y0 y1 y2 b) (fun k=> ?_) (Ev.ite (fun hn=>(Ev.pure _).cast ?_) (fun hn=>(refsubs_go a b he hl x0 x1 x2 y0 y1 y2 d (i+1) (by omega)).cast ?_))
 {
 rw [bookplateref12_SameField.l0,if_pos (by omega),if_pos (by omega),if_pos (by omega),rdS a i (by omega),rdS b i (by omega),wr1 i (by omega)]
 exact if_iff (sub_ne _ _) _ _
 }
 {
 rw [eq_comm,decide_eq_false_iff_not,drop_iff a b i (by omega) (by omega)]
 exact fun h=>hn h.1
 }
 {
 rw [decide_eq_decide,drop_iff a b i (by omega) (by omega)]
 exact ⟨fun h=>⟨not_not.1 hn,h⟩,fun h=>h.2⟩
 }
 }
theorem refsame_j (b:Bool) (x y:Fd) (hl:x.f2.length<4611686018427387904) (h:b=false→x.f2.length=y.f2.length):Ev (fun k=>bookplateref12_SameField.j0 k b x.f0 x.f1.f0 x.f1.f1 x.f2 y.f0 y.f1.f0 y.f1.f1 y.f2) (!b && decide (x.f2=y.f2)):=by
 cases b with
 |true=>exact Ev.step (g:=fun _=>some false) (fun k=>by rw [bookplateref12_SameField.j0,if_pos rfl]) (Ev.pure _)
 |false=>
  (
 refine Ev.step (g:=fun k=>bookplateref12_SameField.l0 k 0 x.f0 x.f1.f0 x.f1.f1 x.f2 y.f0 y.f1.f0 y.f1.f1 y.f2) (fun k=>by rw [bookplateref12_SameField.j0,if_neg (by decide)]) ?_
 have:=refsubs_go x.f2 y.f2 (h rfl) hl x.f0 x.f1.f0 x.f1.f1 y.f0 y.f1.f0 y.f1.f1 x.f2.length 0 (by omega)
 simpa using this
  )
theorem refsame_eq (x y:Fd) (hl:x.f2.length<4611686018427387904):Ev (fun k=>bookplateref12_SameField.f k x.f0 x.f1.f0 x.f1.f1 x.f2 y.f0 y.f1.f0 y.f1.f1 y.f2) (decide (x=y)):=by
 unfold bookplateref12_SameField.f
 refine Ev.ite (fun h1=>Ev.ite (fun h2=>(refsame_j true x y hl (fun h=>by cases h)).cast ?_) (fun h2=>(refsame_j _ x y hl (fun h=> ?_)).cast ?_)) (fun h1=>(refsame_j true x y hl (fun h=>by cases h)).cast ?_)
 {
 rw [Bool.not_true,Bool.false_and,eq_comm,decide_eq_false_iff_not,field_iff x y]
 intro h
 have:=h.2.1
 simp only [Bool.and_eq_true,Bool.or_eq_true,Bool.not_eq_true'] at this h2
 rcases h2 with h2|h2
 {
 rw [this.1] at h2;cases h2
 }
 {
 rw [this.2] at h2;cases h2
 }
 }
 {
 simp only [bne_eq_false_iff_eq] at h
 omega
 }
 {
 by_cases hs:x.f2=y.f2
 {
 rw [decide_eq_true hs,Bool.and_true,Bool.eq_iff_iff,decide_eq_true_eq,field_iff x y]
 simp only [Bool.or_eq_true,Bool.not_eq_true',not_or,Bool.not_eq_false] at h2
 simp [h1,h2.1,h2.2,hs]
 }
 {
 rw [decide_eq_false hs,Bool.and_false,eq_comm,decide_eq_false_iff_not,field_iff x y]
 exact fun h=>hs h.2.2
 }
 }
 {
 rw [Bool.not_true,Bool.false_and,eq_comm,decide_eq_false_iff_not,field_iff x y]
 exact fun h=>h1 h.1
 }
theorem reffields_go (a b:List Fd) (he:a.length=b.length) (hl:Small a):∀ (d i:Nat),i+d=a.length→Ev (fun k=>bookplateref12_SameFields.l0 k a b (i:Int)) (decide (a.drop i=b.drop i))
 |0,i,h=>by {
 refine Ev.step (g:=fun _=>some true) (fun k=> ?_) ((Ev.pure _).cast ?_)
 {
 rw [bookplateref12_SameFields.l0,if_neg (by omega)]
 }
 {
 rw [List.drop_eq_nil_of_le (by omega),List.drop_eq_nil_of_le (by omega),decide_eq_true rfl]
 }
 }
 |d+1,i,h=>by {
 have hi:i<a.length:=by omega
 have hj:i<b.length:=by omega
 have hs:=hl.1
 refine Ev.step (g:=fun k=>(bookplateref12_SameField.f k (a[i]).f0 (a[i]).f1.f0 (a[i]).f1.f1 (a[i]).f2 (b[i]).f0 (b[i]).f1.f0 (b[i]).f1.f1 (b[i]).f2).bind fun t=>if t=true then bookplateref12_SameFields.l0 k a b ((i+1:Nat):Int) else some false) (fun k=> ?_) (Ev.bind (refsame_eq _ _ (hl.get i hi)) (Ev.ite (fun hn=>(reffields_go a b he hl d (i+1) (by omega)).cast ?_) (fun hn=>(Ev.pure _).cast ?_)))
 {
 rw [bookplateref12_SameFields.l0,if_pos (by omega),if_pos (by omega),if_pos (by omega),rdF a i hi,rdF b i hj,wr1 i (by omega)]
 }
 {
 rw [decide_eq_decide,drop_iff a b i hi hj]
 exact ⟨fun h=>⟨of_decide_eq_true hn,h⟩,fun h=>h.2⟩
 }
 {
 rw [eq_comm,decide_eq_false_iff_not,drop_iff a b i hi hj]
 exact fun h=>hn (decide_eq_true h.1)
 }
 }
theorem reffields_eq (a b:List Fd) (hl:Small a):Ev (fun k=>bookplateref12_SameFields.f k a b) (decide (a=b)):=by
 unfold bookplateref12_SameFields.f
 refine Ev.ite (fun h=> ?_) (fun h=>(Ev.pure _).cast ?_)
 {
 have:=reffields_go a b (by omega) hl a.length 0 (by omega)
 simpa using this
 }
 {
 rw [eq_comm,decide_eq_false_iff_not]
 exact fun e=>h (by rw [e])
 }
theorem refequal_eq (i j:Int) (a b:List Fd) (hl:Small a):Ev (fun k=>bookplateref12_Equal.f k i a j b) (decide (i=j∧a=b)):=by
 unfold bookplateref12_Equal.f
 refine Ev.ite (fun h=>(Ev.bind (reffields_eq a b hl) (Ev.pure _)).cast ?_) (fun h=>(Ev.pure _).cast ?_)
 {
 rw [decide_eq_decide]
 exact ⟨fun g=>⟨h,g⟩,fun g=>g.2⟩
 }
 {
 rw [eq_comm,decide_eq_false_iff_not]
 exact fun g=>h g.1
 }
end Go.Proofs.YtdlolaognnbhpaaDoor.Rec
namespace Go.Proofs.YtdlolaognnbhpaaDoor.Lcs
open Classical
set_option linter.unusedVariables false
variable {α : Type}
noncomputable def lcs : List α → List α → Nat
 |[],_=>0
 |_::_,[]=>0
 |x::xs,y::ys=>if x=y then lcs xs ys+1 else max (lcs xs (y::ys)) (lcs (x::xs) ys)
 termination_by a b=>a.length+b.length
 decreasing_by all_goals (simp only [List.length_cons];omega)
theorem lcs_nil (a:List α):lcs a []=0:=by cases a<;>simp [lcs]
theorem nil_lcs (a:List α):lcs [] a=0:=by simp [lcs]
theorem common_le:∀ (n:Nat) (a b c:List α),a.length+b.length≤n→c.Sublist a→c.Sublist b→c.length≤lcs a b
 |n,[],b,c,_,h,_=>by rw [List.sublist_nil.1 h];exact Nat.zero_le _
 |n,x::xs,[],c,_,_,h=>by rw [List.sublist_nil.1 h];exact Nat.zero_le _
 |0,x::xs,y::ys,c,hn,_,_=>by simp only [List.length_cons] at hn;omega
 |n+1,x::xs,y::ys,c,hn,ha,hb=>by {
 simp only [List.length_cons] at hn
 unfold lcs
 by_cases hxy:x=y
 {
 subst hxy
 rw [if_pos rfl]
 cases c with
 |nil=>exact Nat.zero_le _
 |cons z c=>
  (
 have h1:c.Sublist xs:=by {
 cases ha with
 |cons _ h=>exact (List.sublist_cons_self z c).trans h
 |cons_cons _ h=>exact h
 }
 have h2:c.Sublist ys:=by {
 cases hb with
 |cons _ h=>exact (List.sublist_cons_self z c).trans h
 |cons_cons _ h=>exact h
 }
 have:=common_le n xs ys c (by omega) h1 h2
 simp only [List.length_cons]
 omega
  )
 }
 {
 rw [if_neg hxy]
 cases ha with
 |cons _ h=>
  (
 have:=common_le n xs (y::ys) c (by simp only [List.length_cons];omega) h hb
 omega
  )
 |cons_cons _ h=>
  (
 cases hb with
 |cons _ h2=>
  (
 have:=common_le n (x::xs) ys _ (by simp only [List.length_cons];omega) (List.Sublist.cons_cons x h) h2
 omega
  )
 |cons_cons _ h2=>exact absurd rfl hxy
  )
 }
 }
theorem le_lcs {a b c:List α} (ha:c.Sublist a) (hb:c.Sublist b):c.length≤lcs a b:=common_le _ a b c (Nat.le_refl _) ha hb
theorem common_is:∀ (n:Nat) (a b:List α),a.length+b.length≤n→∃ c:List α,c.Sublist a∧c.Sublist b∧c.length=lcs a b
 |n,[],b,_=>⟨[],List.Sublist.refl _,List.nil_sublist _,by simp [lcs]⟩
 |n,x::xs,[],_=>⟨[],List.nil_sublist _,List.Sublist.refl _,by simp [lcs]⟩
 |0,x::xs,y::ys,hn=>by simp only [List.length_cons] at hn;omega
 |n+1,x::xs,y::ys,hn=>by {
 simp only [List.length_cons] at hn
 unfold lcs
 by_cases hxy:x=y
 {
 subst hxy
 rw [if_pos rfl]
 obtain ⟨c,h1,h2,h3⟩:=common_is n xs ys (by omega)
 exact ⟨x::c,h1.cons_cons x,h2.cons_cons x,by simp [h3]⟩
 }
 {
 rw [if_neg hxy]
 obtain ⟨c,h1,h2,h3⟩:=common_is n xs (y::ys) (by simp only [List.length_cons];omega)
 obtain ⟨d,g1,g2,g3⟩:=common_is n (x::xs) ys (by simp only [List.length_cons];omega)
 rcases Nat.le_total (lcs xs (y::ys)) (lcs (x::xs) ys) with h|h
 {
 exact ⟨d,g1,g2.cons y,by rw [g3,Nat.max_eq_right h]⟩
 }
 {
 exact ⟨c,h1.cons x,h2,by rw [h3,Nat.max_eq_left h]⟩
 }
 }
 }
theorem lcs_is (a b:List α):∃ c:List α,c.Sublist a∧c.Sublist b∧c.length=lcs a b:=common_is _ a b (Nat.le_refl _)
theorem lcs_comm (a b:List α):lcs a b=lcs b a:=by
 obtain ⟨c,h1,h2,h3⟩:=lcs_is a b
 obtain ⟨d,g1,g2,g3⟩:=lcs_is b a
 have:=le_lcs h2 h1
 have:=le_lcs g2 g1
 omega
theorem lcs_le_left (a b:List α):lcs a b≤a.length:=by
 obtain ⟨c,h1,h2,h3⟩:=lcs_is a b
 rw [←h3]
 exact h1.length_le
theorem lcs_le_right (a b:List α):lcs a b≤b.length:=by rw [lcs_comm];exact lcs_le_left b a
theorem lcs_self (a:List α):lcs a a=a.length:=Nat.le_antisymm (lcs_le_left a a) (le_lcs (List.Sublist.refl a) (List.Sublist.refl a))
theorem eq_of_lcs {a b:List α} (ha:lcs a b=a.length) (hb:lcs a b=b.length):a=b:=by
 obtain ⟨c,h1,h2,h3⟩:=lcs_is a b
 rw [←h1.eq_of_length (by omega),h2.eq_of_length (by omega)]
theorem lcs_right_le (a b:List α) (y:α):lcs a (y::b)≤lcs a b+1:=by
 obtain ⟨c,h1,h2,h3⟩:=lcs_is a (y::b)
 rw [←h3]
 cases h2 with
 |cons _ h=>exact Nat.le_succ_of_le (le_lcs h1 h)
 |cons_cons _ h=>
  (
 have:=le_lcs ((List.sublist_cons_self _ _).trans h1) h
 simp only [List.length_cons]
 omega
  )
theorem lcs_left_le (a b:List α) (x:α):lcs (x::a) b≤lcs a b+1:=by
 rw [lcs_comm,lcs_comm a b]
 exact lcs_right_le b a x
theorem meet:∀ {b c1 c2:List α},c1.Sublist b→c2.Sublist b→∃ d:List α,d.Sublist c1∧d.Sublist c2∧c1.length+c2.length≤b.length+d.length
 |[],c1,c2,h1,h2=>by {
 rw [List.sublist_nil.1 h1,List.sublist_nil.1 h2]
 exact ⟨[],List.Sublist.refl _,List.Sublist.refl _,Nat.le_refl _⟩
 }
 |x::b,c1,c2,h1,h2=>by {
 cases h1 with
 |cons _ h1=>
  (
 cases h2 with
 |cons _ h2=>
  (
 obtain ⟨d,g1,g2,g3⟩:=meet h1 h2
 exact ⟨d,g1,g2,by simp only [List.length_cons];omega⟩
  )
 |cons_cons _ h2=>
  (
 obtain ⟨d,g1,g2,g3⟩:=meet h1 h2
 exact ⟨d,g1,g2.cons _,by simp only [List.length_cons];omega⟩
  )
  )
 |cons_cons _ h1=>
  (
 cases h2 with
 |cons _ h2=>
  (
 obtain ⟨d,g1,g2,g3⟩:=meet h1 h2
 exact ⟨d,g1.cons _,g2,by simp only [List.length_cons];omega⟩
  )
 |cons_cons _ h2=>
  (
 obtain ⟨d,g1,g2,g3⟩:=meet h1 h2
 exact ⟨x::d,g1.cons_cons _,g2.cons_cons _,by simp only [List.length_cons];omega⟩
  )
  )
 }
theorem lcs_triangle (a b c:List α):lcs a b+lcs b c≤b.length+lcs a c:=by
 obtain ⟨u,h1,h2,h3⟩:=lcs_is a b
 obtain ⟨v,g1,g2,g3⟩:=lcs_is b c
 obtain ⟨d,e1,e2,e3⟩:=meet h2 g1
 have:=le_lcs (e1.trans h1) (e2.trans g2)
 omega
theorem drop_end_left (a b:List α) {p:Nat} (q:Nat) (h:a.length≤p):lcs (a.drop p) (b.drop q)=0:=by rw [List.drop_eq_nil_of_le h,nil_lcs]
theorem drop_end_right (a b:List α) (p:Nat) {q:Nat} (h:b.length≤q):lcs (a.drop p) (b.drop q)=0:=by rw [List.drop_eq_nil_of_le h,lcs_nil]
theorem drop_lcs (a b:List α) {p q:Nat} (hp:p<a.length) (hq:q<b.length):lcs (a.drop p) (b.drop q)=if a[p]=b[q] then lcs (a.drop (p+1)) (b.drop (q+1))+1 else max (lcs (a.drop (p+1)) (b.drop q)) (lcs (a.drop p) (b.drop (q+1))):=by
 rw [List.drop_eq_getElem_cons hp,List.drop_eq_getElem_cons hq,lcs]
theorem drop_same (a b:List α) {p q:Nat} (hp:p<a.length) (hq:q<b.length) (h:a[p]=b[q]):max (max (lcs (a.drop (p+1)) (b.drop q)) (lcs (a.drop p) (b.drop (q+1)))) (1+lcs (a.drop (p+1)) (b.drop (q+1)))=lcs (a.drop p) (b.drop q):=by
 rw [drop_lcs a b hp hq,if_pos h]
 have h1:=lcs_right_le (a.drop (p+1)) (b.drop (q+1)) b[q]
 have h2:=lcs_left_le (a.drop (p+1)) (b.drop (q+1)) a[p]
 rw [←List.drop_eq_getElem_cons hq] at h1
 rw [←List.drop_eq_getElem_cons hp] at h2
 omega
inductive Step (α:Type) where
 |keep (x:α)
 |del (x:α)
 |ins (x:α)
noncomputable def steps : List α → List α → List (Step α)
 |[],[]=>[]
 |x::xs,[]=> .del x::steps xs []
 |[],y::ys=> .ins y::steps [] ys
 |x::xs,y::ys=>if x=y then .keep x::steps xs ys else if lcs (x::xs) ys≤lcs xs (y::ys) then .del x::steps xs (y::ys) else .ins y::steps (x::xs) ys
 termination_by a b=>a.length+b.length
 decreasing_by all_goals (simp only [List.length_cons];omega)
def src:List (Step α)→List α
 |[]=>[]
 | .keep x::s=>x::src s
 | .del x::s=>x::src s
 | .ins _::s=>src s
def dst:List (Step α)→List α
 |[]=>[]
 | .keep x::s=>x::dst s
 | .del _::s=>dst s
 | .ins x::s=>x::dst s
def cost:List (Step α)→Nat
 |[]=>0
 | .keep _::s=>cost s
 | .del _::s=>cost s+1
 | .ins _::s=>cost s+1
def flip:List (Step α)→List (Step α)
 |[]=>[]
 | .keep x::s=> .keep x::flip s
 | .del x::s=> .ins x::flip s
 | .ins x::s=> .del x::flip s
theorem src_flip:∀ s:List (Step α),src (flip s)=dst s
 |[]=>rfl
 | .keep x::s=>by rw [flip,src,dst,src_flip s]
 | .del x::s=>by rw [flip,src,dst,src_flip s]
 | .ins x::s=>by rw [flip,src,dst,src_flip s]
theorem dst_flip:∀ s:List (Step α),dst (flip s)=src s
 |[]=>rfl
 | .keep x::s=>by rw [flip,dst,src,dst_flip s]
 | .del x::s=>by rw [flip,dst,src,dst_flip s]
 | .ins x::s=>by rw [flip,dst,src,dst_flip s]
theorem flip_flip:∀ s:List (Step α),flip (flip s)=s
 |[]=>rfl
 | .keep x::s=>by rw [flip,flip,flip_flip s]
 | .del x::s=>by rw [flip,flip,flip_flip s]
 | .ins x::s=>by rw [flip,flip,flip_flip s]
theorem steps_all:∀ (n:Nat) (a b:List α),a.length+b.length≤n→src (steps a b)=a∧dst (steps a b)=b∧cost (steps a b)+2 * lcs a b=a.length+b.length
 |n,[],[],_=>by simp [steps,src,dst,cost,lcs]
 |0,x::xs,b,hn=>by simp only [List.length_cons] at hn;omega
 |0,[],y::ys,hn=>by simp only [List.length_cons] at hn;omega
 |n+1,x::xs,[],hn=>by {
 simp only [List.length_cons] at hn
 obtain ⟨h1,h2,h3⟩:=steps_all n xs [] (by simp only [List.length_nil] at hn⊢;omega)
 rw [steps,src,dst,cost,h1,h2]
 refine ⟨rfl,rfl,?_⟩
 rw [lcs_nil] at h3⊢
 simp only [List.length_cons,List.length_nil] at h3⊢
 omega
 }
 |n+1,[],y::ys,hn=>by {
 simp only [List.length_cons] at hn
 obtain ⟨h1,h2,h3⟩:=steps_all n [] ys (by omega)
 rw [steps,src,dst,cost,h1,h2]
 refine ⟨rfl,rfl,?_⟩
 rw [nil_lcs] at h3⊢
 simp only [List.length_cons,List.length_nil] at h3⊢
 omega
 }
 |n+1,x::xs,y::ys,hn=>by {
 simp only [List.length_cons] at hn
 rw [steps,lcs]
 by_cases hxy:x=y
 {
 subst hxy
 obtain ⟨h1,h2,h3⟩:=steps_all n xs ys (by omega)
 rw [if_pos rfl,if_pos rfl,src,dst,cost,h1,h2]
 refine ⟨rfl,rfl,?_⟩
 simp only [List.length_cons]
 omega
 }
 {
 rw [if_neg hxy,if_neg hxy]
 by_cases hl:lcs (x::xs) ys≤lcs xs (y::ys)
 {
 obtain ⟨h1,h2,h3⟩:=steps_all n xs (y::ys) (by simp only [List.length_cons];omega)
 rw [if_pos hl,src,dst,cost,h1,h2,Nat.max_eq_left hl]
 refine ⟨rfl,rfl,?_⟩
 simp only [List.length_cons] at h3⊢
 omega
 }
 {
 obtain ⟨h1,h2,h3⟩:=steps_all n (x::xs) ys (by simp only [List.length_cons];omega)
 rw [if_neg hl,src,dst,cost,h1,h2,Nat.max_eq_right (by omega)]
 refine ⟨rfl,rfl,?_⟩
 simp only [List.length_cons] at h3⊢
 omega
 }
 }
 }
theorem src_steps (a b:List α):src (steps a b)=a:=(steps_all _ a b (Nat.le_refl _)).1
theorem dst_steps (a b:List α):dst (steps a b)=b:=(steps_all _ a b (Nat.le_refl _)).2.1
theorem cost_steps (a b:List α):cost (steps a b)+2 * lcs a b=a.length+b.length:=(steps_all _ a b (Nat.le_refl _)).2.2
abbrev Ed (α:Type):=Int×List α×List α
def out1 (p:Int) (o n:List α):List (Ed α):=if 0<o.length+n.length then [(p,o,n)] else []
def group:Int→List α→List α→List (Step α)→List (Ed α)
 |p,o,n,[]=>out1 p o n
 |p,o,n,.keep _::s=>out1 p o n++group (p+o.length+1) [] [] s
 |p,o,n,.del x::s=>group p (o++[x]) n s
 |p,o,n,.ins x::s=>group p o (n++[x]) s
def size:List (Ed α)→Nat
 |[]=>0
 |e::l=>e.2.1.length+e.2.2.length+size l
theorem size_append:∀ (a b:List (Ed α)),size (a++b)=size a+size b
 |[],b=>by simp [size]
 |e::a,b=>by rw [List.cons_append,size,size,size_append a b];omega
theorem size_out1 (p:Int) (o n:List α):size (out1 p o n)=o.length+n.length:=by
 unfold out1
 split
 {
 simp [size]
 }
 {
 simp only [size];omega
 }
theorem size_group:∀ (s:List (Step α)) (p:Int) (o n:List α),size (group p o n s)=o.length+n.length+cost s
 |[],p,o,n=>by rw [group,size_out1,cost];omega
 | .keep x::s,p,o,n=>by rw [group,size_append,size_out1,size_group s,cost];simp
 | .del x::s,p,o,n=>by rw [group,size_group s,cost];simp only [List.length_append,List.length_singleton];omega
 | .ins x::s,p,o,n=>by rw [group,size_group s,cost];simp only [List.length_append,List.length_singleton];omega
def Ordered:Int→List (Ed α)→Prop
 |_,[]=>True
 |p,e::l=>p≤e.1∧0<e.2.1.length+e.2.2.length∧Ordered (e.1+e.2.1.length+1) l
theorem Ordered.mono {p q:Int} (h:p≤q):∀ {l:List (Ed α)},Ordered q l→Ordered p l
 |[],_=>trivial
 |e::l,g=>⟨by have:=g.1;omega,g.2⟩
theorem ordered_group:∀ (s:List (Step α)) (p:Int) (o n:List α),Ordered p (group p o n s)
 |[],p,o,n=>by {
 rw [group,out1]
 split
 {
 exact ⟨Int.le_refl _,by assumption,trivial⟩
 }
 {
 trivial
 }
 }
 | .keep x::s,p,o,n=>by {
 rw [group,out1]
 have h:=ordered_group s (p+o.length+1) [] []
 split
 {
 exact ⟨Int.le_refl _,by assumption,h⟩
 }
 {
 exact h.mono (by omega)
 }
 }
 | .del x::s,p,o,n=>by rw [group];exact ordered_group s p _ _
 | .ins x::s,p,o,n=>by rw [group];exact ordered_group s p _ _
def Fits (a:List α):List (Ed α)→Prop
 |[]=>True
 |e::l=>(0≤e.1∧e.1≤a.length∧e.2.1.length≤a.length - e.1∧(a.take (e.1+e.2.1.length).toNat).drop e.1.toNat=e.2.1)∧Fits a l
theorem fits_group:∀ (s:List (Step α)) (a pre:List α) (o n:List α),a=pre++o++src s→Fits a (group pre.length o n s)
 |[],a,pre,o,n,h=>by {
 rw [group,out1]
 split
 {
 refine ⟨⟨by omega,?_,?_,?_⟩,trivial⟩
 {
 rw [h];simp only [List.length_append];omega
 }
 {
 rw [h];simp only [List.length_append];omega
 }
 {
 rw [h,src,List.append_nil,show ((pre.length:Int)+(o.length:Int)).toNat=(pre++o).length by simp only [List.length_append];omega,List.take_length,show (pre.length:Int).toNat=pre.length by omega,List.drop_left]
 }
 }
 {
 trivial
 }
 }
 | .keep x::s,a,pre,o,n,h=>by {
 rw [group,out1]
 have h2:=fits_group s a (pre++o++[x]) [] [] (by rw [h,src];simp)
 rw [show ((pre++o++[x]).length:Int)=(pre.length:Int)+o.length+1 by simp only [List.length_append,List.length_singleton];omega] at h2
 split
 {
 refine ⟨⟨by omega,?_,?_,?_⟩,h2⟩
 {
 rw [h];simp only [List.length_append];omega
 }
 {
 rw [h];simp only [List.length_append];omega
 }
 {
 rw [h,show ((pre.length:Int)+(o.length:Int)).toNat=(pre++o).length by simp only [List.length_append];omega,List.take_left,show (pre.length:Int).toNat=pre.length by omega,List.drop_left]
 }
 }
 {
 exact h2
 }
 }
 | .del x::s,a,pre,o,n,h=>by {
 rw [group]
 exact fits_group s a pre (o++[x]) n (by rw [h,src];simp)
 }
 | .ins x::s,a,pre,o,n,h=>by {
 rw [group]
 exact fits_group s a pre o (n++[x]) (by rw [h,src])
 }
def res (a:List α):Int→List (Ed α)→List α
 |p,[]=>a.drop p.toNat
 |p,e::l=>(a.take e.1.toNat).drop p.toNat++e.2.2++res a (e.1+e.2.1.length) l
theorem res_group:∀ (s:List (Step α)) (a pre:List α) (q:Nat) (o n:List α),a=pre++o++src s→q≤pre.length→(n=[]→o=[]→True)→res a q (group pre.length o n s)=pre.drop q++n++dst s
 |[],a,pre,q,o,n,h,hq,_=>by {
 rw [group,out1,dst,List.append_nil]
 split
 {
 rw [res,res,show ((pre.length:Int)+(o.length:Int)).toNat=(pre++o).length by simp only [List.length_append];omega,h,src,List.append_nil,List.drop_length,List.append_nil,show (pre.length:Int).toNat=pre.length by omega,List.take_left,show (q:Int).toNat=q by omega]
 }
 {
 have ho:o=[]:=List.length_eq_zero_iff.1 (by omega)
 have hn:n=[]:=List.length_eq_zero_iff.1 (by omega)
 rw [res,h,ho,hn,src,List.append_nil,List.append_nil,List.append_nil,show (q:Int).toNat=q by omega]
 }
 }
 | .keep x::s,a,pre,q,o,n,h,hq,_=>by {
 rw [group,out1,dst]
 have e1:((pre++o++[x]).length:Int)=(pre.length:Int)+o.length+1:=by simp only [List.length_append,List.length_singleton];omega
 have ha:a=(pre++o++[x])++[]++src s:=by rw [h,src];simp
 split
 {
 have h2:=res_group s a (pre++o++[x]) (pre++o).length [] [] ha (by simp) (fun _ _=>trivial)
 rw [e1] at h2
 rw [List.singleton_append,res,show ((pre.length:Int)+(o.length:Int))=((pre++o).length:Nat) by simp only [List.length_append];omega]
 rw [show ((pre.length:Int)+(o.length:Int)+1)=(((pre++o).length:Nat):Int)+1 by simp only [List.length_append];omega] at h2
 rw [h2,show (pre.length:Int).toNat=pre.length by omega,show (q:Int).toNat=q by omega]
 have h3:a.take pre.length=pre:=by rw [h,List.append_assoc,List.take_left]
 rw [h3,List.drop_left]
 simp
 }
 {
 have ho:o=[]:=List.length_eq_zero_iff.1 (by omega)
 have hn:n=[]:=List.length_eq_zero_iff.1 (by omega)
 have h2:=res_group s a (pre++o++[x]) q [] [] ha (by simp only [List.length_append];omega) (fun _ _=>trivial)
 rw [e1] at h2
 rw [List.nil_append,h2,ho,hn,List.append_nil,List.append_nil,List.append_nil,List.drop_append_of_le_length hq]
 simp
 }
 }
 | .del x::s,a,pre,q,o,n,h,hq,_=>by {
 rw [group,dst]
 exact res_group s a pre q (o++[x]) n (by rw [h,src];simp) hq (fun _ _=>trivial)
 }
 | .ins x::s,a,pre,q,o,n,h,hq,_=>by {
 rw [group,dst,res_group s a pre q o (n++[x]) (by rw [h,src]) hq (fun _ _=>trivial)]
 simp
 }
def inv:Int→List (Ed α)→List (Ed α)
 |_,[]=>[]
 |d,e::l=>(e.1+d,e.2.2,e.2.1)::inv (d+(e.2.2.length - e.2.1.length)) l
theorem inv_group:∀ (s:List (Step α)) (p d:Int) (o n:List α),inv d (group p o n s)=group (p+d) n o (flip s)
 |[],p,d,o,n=>by {
 rw [group,flip,group,out1,out1]
 by_cases h:0<o.length+n.length
 {
 rw [if_pos h,if_pos (by omega)];rfl
 }
 {
 rw [if_neg h,if_neg (by omega)];rfl
 }
 }
 | .keep x::s,p,d,o,n=>by {
 rw [group,flip,group,out1,out1]
 by_cases h:0<o.length+n.length
 {
 rw [if_pos h,if_pos (by omega),List.singleton_append,inv,inv_group s,List.singleton_append]
 refine congrArg _ ?_
 refine congrArg (fun z=>group z [] [] (flip s)) ?_
 show p+o.length+1+(d+((n.length:Int) - o.length))=p+d+n.length+1
 omega
 }
 {
 rw [if_neg h,if_neg (by omega),List.nil_append,List.nil_append,inv_group s]
 refine congrArg (fun z=>group z [] [] (flip s)) ?_
 omega
 }
 }
 | .del x::s,p,d,o,n=>by rw [group,flip,group,inv_group s]
 | .ins x::s,p,d,o,n=>by rw [group,flip,group,inv_group s]
end Go.Proofs.YtdlolaognnbhpaaDoor.Lcs
namespace Go.Proofs.YtdlolaognnbhpaaDoor.Lcs
set_option linter.unusedVariables false
variable {α : Type}
theorem getD_set {β:Type} (l:List β) (i p:Nat) (x d:β) (h:i<l.length):(l.set i x).getD p d=if p=i then x else l.getD p d:=by
 rw [List.getD_eq_getElem?_getD,List.getElem?_set,List.getD_eq_getElem?_getD]
 by_cases hp:p=i
 {
 subst hp
 rw [if_pos rfl,if_pos h,if_pos rfl]
 rfl
 }
 {
 rw [if_neg (fun e=>hp e.symm),if_neg hp]
 }
structure TabFrom (a b:List α) (out:List (List Int)) (i j:Nat):Prop where
 len:out.length=a.length+1
 row:∀ p,i≤p→p≤a.length→(out.getD p []).length=b.length+1
 at_:∀ p q,p≤a.length→q≤b.length→(i<p∨(p=i∧j≤q))→(out.getD p []).getD q 0=(lcs (a.drop p) (b.drop q):Int)
abbrev Tab (a b:List α) (out:List (List Int)):Prop:=TabFrom a b out 0 0
theorem TabFrom.put {a b:List α} {out:List (List Int)} {i j:Nat} (h:TabFrom a b out i (j+1)) (hi:i≤a.length) (hj:j<b.length) {v:Int} (hv:v=(lcs (a.drop i) (b.drop j):Int)):TabFrom a b (out.set i ((out.getD i []).set j v)) i j:=by
 have hl:=h.len
 have hr:=h.row i (Nat.le_refl _) hi
 refine ⟨by rw [List.length_set];exact hl,fun p h1 h2=> ?_,fun p q h1 h2 h3=> ?_⟩
 {
 rw [getD_set _ _ _ _ _ (by omega)]
 split
 {
 rw [List.length_set];exact hr
 }
 {
 exact h.row p h1 h2
 }
 }
 {
 rw [getD_set _ _ _ _ _ (by omega)]
 split
 {
 rename_i hp
 subst hp
 rw [getD_set _ _ _ _ _ (by omega)]
 split
 {
 rename_i hq
 subst hq
 exact hv
 }
 {
 exact h.at_ p q h1 h2 (.inr ⟨rfl,by omega⟩)
 }
 }
 {
 exact h.at_ p q h1 h2 (by omega)
 }
 }
theorem TabFrom.new {a b:List α} {out:List (List Int)} {i:Nat} (h:TabFrom a b out (i+1) 0) (hi:i≤a.length):TabFrom a b (out.set i (List.replicate (b.length+1) 0)) i b.length:=by
 have hl:=h.len
 refine ⟨by rw [List.length_set];exact hl,fun p h1 h2=> ?_,fun p q h1 h2 h3=> ?_⟩
 {
 rw [getD_set _ _ _ _ _ (by omega)]
 split
 {
 simp
 }
 {
 exact h.row p (by omega) h2
 }
 }
 {
 rw [getD_set _ _ _ _ _ (by omega)]
 split
 {
 rename_i hp
 subst hp
 have hq:q=b.length:=by omega
 subst hq
 rw [drop_end_right a b p (Nat.le_refl _),List.getD_eq_getElem?_getD,List.getElem?_replicate_of_lt (by omega)]
 rfl
 }
 {
 exact h.at_ p q h1 h2 (by omega)
 }
 }
theorem TabFrom.last (a b:List α) (out:List (List Int)) (hl:out.length=a.length+1):TabFrom a b (out.set a.length (List.replicate (b.length+1) 0)) a.length 0:=by
 refine ⟨by rw [List.length_set];exact hl,fun p h1 h2=> ?_,fun p q h1 h2 h3=> ?_⟩
 {
 rw [getD_set _ _ _ _ _ (by omega),if_pos (by omega)]
 simp
 }
 {
 have hp:p=a.length:=by omega
 subst hp
 rw [getD_set _ _ _ _ _ (by omega),if_pos rfl,drop_end_left a b q (Nat.le_refl _),List.getD_eq_getElem?_getD,List.getElem?_replicate_of_lt (by omega)]
 rfl
 }
end Go.Proofs.YtdlolaognnbhpaaDoor.Lcs
namespace Go.Proofs.YtdlolaognnbhpaaDoor.Rec
open Go.RowKit Go.Proofs.YtdlolaognnbhpaaDoorW.PrintWords Go.Proofs.YtdlolaognnbhpaaDoor.Pr Go.Proofs.YtdlolaognnbhpaaDoor.Lcs Classical
set_option linter.unusedVariables false
set_option linter.unusedSimpArgs false
theorem rdI (l:List Int) (i:Nat):rd l (i:Int)=l.getD i 0:=by
 unfold rd
 rw [Int.toNat_natCast]
theorem rdL (l:List (List Int)) (i:Nat):rd_L4 l (i:Int)=l.getD i []:=by
 unfold rd_L4
 rw [Int.toNat_natCast]
theorem wrm (i:Nat) (h:i<4611686018427387904):wrap64 ((i:Int) - 1)=(i:Int) - 1:=by unfold wrap64;omega
theorem lcs_small {α:Type} (a b:List α) (h:a.length≤1000) (p q:Nat):lcs (a.drop p) (b.drop q)≤1000:=by
 have:=lcs_le_left (a.drop p) (b.drop q)
 rw [List.length_drop] at this
 omega
theorem len_inner (a b:List Fd) (ha:Small a) (hn:a.length≤1000) (hm:b.length≤1000) (i:Nat) (hi:i<a.length)
 (next:∀ out,TabFrom a b out i 0→∃ L,Tab a b L∧Ev (fun k=>patch_lengths.l0 k a b out ((i:Int) - 1)) L):
 ∀ (j:Nat) (out:List (List Int)),j≤b.length→TabFrom a b out i j→∃ L,Tab a b L∧Ev (fun k=>patch_lengths.l1 k a b out (i:Int) ((j:Int) - 1)) L
 |0,out,_,h=>by {
 obtain ⟨L,hT,hE⟩:=next out h
 refine ⟨L,hT,Ev.step (g:=fun k=>patch_lengths.j2 k a b out (i:Int) (((0:Nat):Int) - 1) false) (fun k=> ?_) (Ev.step (g:=fun k=>patch_lengths.l0 k a b out ((i:Int) - 1)) (fun k=> ?_) hE)⟩
 {
 rw [patch_lengths.l1,if_neg (by omega)]
 }
 {
 rw [patch_lengths.j2,if_neg (by decide),wrm i (by omega)]
 }
 }
 |j+1,out,hj,h=>by {
 have hl:=h.len
 have hr0:=h.row i (Nat.le_refl _) (by omega)
 have hr1:=h.row (i+1) (by omega) (by omega)
 have e00:=h.at_ (i+1) (j+1) (by omega) hj (.inl (by omega))
 have e10:=h.at_ (i+1) j (by omega) (by omega) (.inl (by omega))
 have e01:=h.at_ i (j+1) (by omega) hj (.inr ⟨rfl,by omega⟩)
 have s0:=lcs_small a b hn (i+1) (j+1)
 have s1:=lcs_small a b hn (i+1) j
 have s2:=lcs_small a b hn i (j+1)
 have hd:=drop_lcs a b hi (show j<b.length by omega)
 obtain ⟨L,hT,hE⟩:=len_inner a b ha hn hm i hi next j (out.set i ((out.getD i []).set j (lcs (a.drop i) (b.drop j):Int))) (by omega) (h.put (by omega) (by omega) rfl)
 have ej:(((j+1:Nat):Int) - 1)=(j:Int):=by omega
 refine ⟨L,hT,Ev.step (g:=fun k=>patch_lengths.j2 k a b out (i:Int) (j:Int) true) (fun k=> ?_) (Ev.step (g:=fun k=>(patch_same.f k (a[i]).f0 (a[i]).f1.f0 (a[i]).f1.f1 (a[i]).f2 (b[j]).f0 (b[j]).f1.f0 (b[j]).f1.f1 (b[j]).f2).bind fun t=>if t=true then patch_lengths.l1 k a b (out.set i ((out.getD i []).set j (wrap64 ((out.getD (i+1) []).getD (j+1) 0+1)))) (i:Int) ((j:Int) - 1) else patch_lengths.l1 k a b (out.set i ((out.getD i []).set j (mx ((out.getD (i+1) []).getD j 0) ((out.getD i []).getD (j+1) 0)))) (i:Int) ((j:Int) - 1)) (fun k=> ?_) (Ev.bind (same_eq _ _ (ha.get i hi)) (Ev.ite (fun hs=> ?_) (fun hs=> ?_))))⟩
 {
 rw [patch_lengths.l1,ej,if_pos (by omega),decide_eq_true (by omega)]
 }
 {
 rw [patch_lengths.j2,if_pos rfl,if_pos (by omega),if_pos (by omega),if_pos (by omega),if_pos (by omega),rdF a i hi,rdF b j (by omega),wr1 i (by omega),wr1 j (by omega),wrm j (by omega),rdL,rdL,rdI,rdI,rdI,Int.toNat_natCast,Int.toNat_natCast]
 refine congrArg _ (funext fun t=> ?_)
 cases t with
 |true=>
  (
 simp only [if_true]
 rw [if_pos (by omega),if_pos (by omega),if_pos (by omega),if_pos (by omega),if_pos (by omega),if_pos (by omega)]
  )
 |false=>
  (
 simp only [Bool.false_eq_true,if_false]
 rw [if_pos (by omega),if_pos (by omega),if_pos (by omega),if_pos (by omega),if_pos (by omega),if_pos (by omega),if_pos (by omega)]
  )
 }
 {
 have:wrap64 ((out.getD (i+1) []).getD (j+1) 0+1)=(lcs (a.drop i) (b.drop j):Int):=by {
 rw [e00,hd,if_pos (of_decide_eq_true hs)]
 unfold wrap64
 omega
 }
 rw [this]
 exact hE
 }
 {
 have:mx ((out.getD (i+1) []).getD j 0) ((out.getD i []).getD (j+1) 0)=(lcs (a.drop i) (b.drop j):Int):=by {
 rw [e10,e01,hd,if_neg (fun h=>hs (decide_eq_true h))]
 unfold mx
 omega
 }
 rw [this]
 exact hE
 }
 }
theorem wr1t (l:List Fd) (h:l.length≤1000):wrap64 ((l.length:Int)+1)=((l.length+1:Nat):Int):=wr1 _ (by omega)
theorem len_outer (a b:List Fd) (ha:Small a) (hn:a.length≤1000) (hm:b.length≤1000):∀ (i:Nat) (out:List (List Int)),i≤a.length→TabFrom a b out i 0→∃ L,Tab a b L∧Ev (fun k=>patch_lengths.l0 k a b out ((i:Int) - 1)) L
 |0,out,_,h=>⟨out,h,Ev.step (g:=fun _=>some out) (fun k=>by rw [patch_lengths.l0,if_neg (by omega)]) (Ev.pure _)⟩
 |i+1,out,hi,h=>by {
 have hl:=h.len
 obtain ⟨L,hT,hE⟩:=len_inner a b ha hn hm i (by omega) (fun out h=>len_outer a b ha hn hm i out (by omega) h) b.length _ (Nat.le_refl _) (h.new (by omega))
 refine ⟨L,hT,Ev.step (fun k=> ?_) hE⟩
 rw [show (((i+1:Nat):Int) - 1)=(i:Int) by omega,patch_lengths.l0,if_pos (by omega),wr1t b hm,if_pos (by omega),if_pos (by omega),if_pos (by omega),if_pos (by omega),Int.toNat_natCast,Int.toNat_natCast,wrm _ (by omega)]
 }
theorem lengths_eq (a b:List Fd) (ha:Small a) (hn:a.length≤1000) (hm:b.length≤1000):∃ L,Tab a b L∧Ev (fun k=>patch_lengths.f k a b) L:=by
 obtain ⟨L,hT,hE⟩:=len_outer a b ha hn hm a.length _ (Nat.le_refl _) (TabFrom.last a b (List.replicate (a.length+1) []) (by simp))
 refine ⟨L,hT,Ev.ext (g:=fun k=>patch_lengths.l0 k a b (List.replicate (a.length+1) []) (a.length:Int)) (fun k=> ?_) (Ev.step (g:=fun k=>patch_lengths.l1 k a b ((List.replicate (a.length+1) []).set a.length (List.replicate (b.length+1) 0)) (a.length:Int) ((b.length:Int) - 1)) (fun k=> ?_) (Ev.step (g:=fun k=>patch_lengths.j2 k a b ((List.replicate (a.length+1) []).set a.length (List.replicate (b.length+1) 0)) (a.length:Int) ((b.length:Int) - 1) false) (fun k=> ?_) (Ev.step (fun k=> ?_) hE)))⟩
 {
 unfold patch_lengths.f
 rw [wr1t a hn,if_pos (by omega),if_pos (by omega),Int.toNat_natCast]
 }
 {
 rw [patch_lengths.l0,if_pos (by omega),wr1t b hm,if_pos (by omega),if_pos (by omega),if_pos (by omega),if_pos (by rw [List.length_replicate];omega),Int.toNat_natCast,Int.toNat_natCast,wrm _ (by omega)]
 }
 {
 rw [patch_lengths.l1,decide_eq_false (by omega)]
 split<;>rfl
 }
 {
 rw [patch_lengths.j2,if_neg (by decide),wrm _ (by omega)]
 }
end Go.Proofs.YtdlolaognnbhpaaDoor.Rec
namespace Go.Proofs.YtdlolaognnbhpaaDoor.Rec
open Go.RowKit Go.Proofs.YtdlolaognnbhpaaDoorW.PrintWords Go.Proofs.YtdlolaognnbhpaaDoor.Pr Go.Proofs.YtdlolaognnbhpaaDoor.Lcs Classical
set_option linter.unusedVariables false
set_option linter.unusedSimpArgs false
def Subs (l:List Fd):Prop:=∀ x∈l,x.f2.length<5864062014805
theorem own_go (l:List Fd) (hs:Subs l) (hl:l.length<1000000000000):∀ (d i:Nat) (acc:List Fd),i+d=l.length→acc.length≤i→Ev (fun k=>patch_own.l0 k acc l (l.length:Int) (i:Int)) (acc++l.drop i)
 |0,i,acc,h,ha=>by {
 refine Ev.step (g:=fun _=>some acc) (fun k=> ?_) ((Ev.pure _).cast ?_)
 {
 rw [patch_own.l0,if_neg (by omega)]
 }
 {
 rw [List.drop_eq_nil_of_le (by omega),List.append_nil]
 }
 }
 |d+1,i,acc,h,ha=>by {
 have hi:i<l.length:=by omega
 have hx:=hs _ (List.getElem_mem hi)
 refine Ev.step (g:=fun k=>patch_own.l0 k (acc++[l[i]]) l (l.length:Int) ((i+1:Nat):Int)) (fun k=> ?_) ((own_go l hs hl d (i+1) (acc++[l[i]]) (by omega) (by simp;omega)).cast ?_)
 {
 rw [patch_own.l0,if_pos (by omega),if_pos (by omega),if_pos (by omega),rdF l i hi,api_Sub_55.f,if_pos hx,Option.bind_some,if_pos (by omega),wr1 i (by omega)]
 }
 {
 rw [List.append_assoc,List.singleton_append,←List.drop_eq_getElem_cons hi]
 }
 }
theorem own_eq (l:List Fd) (hs:Subs l) (hl:l.length<1000000000000):Ev (fun k=>patch_own.f k l) l:=by
 unfold patch_own.f
 exact (own_go l hs hl l.length 0 [] (by omega) (by simp)).cast (by simp)
end Go.Proofs.YtdlolaognnbhpaaDoor.Rec
namespace Go.Proofs.YtdlolaognnbhpaaDoor.Rec
open Go.RowKit Go.Proofs.YtdlolaognnbhpaaDoorW.PrintWords Go.Proofs.YtdlolaognnbhpaaDoor.Pr Go.Proofs.YtdlolaognnbhpaaDoor.Lcs Classical
set_option linter.unusedVariables false
set_option linter.unusedSimpArgs false
abbrev Pe:=S53
def pe (e:Ed Fd):Pe:=⟨e.1,e.2.1,e.2.2⟩
def Ev2 {α:Type} (f:Nat→Nat→Option α) (v:α):Prop:=∃ K,∀ k n,K≤k→K≤n→f k n=some v
theorem Ev2.diag {α:Type} {f:Nat→Nat→Option α} {v:α} (h:Ev2 f v):Ev (fun k=>f k k) v:=by
 obtain ⟨K,hK⟩:=h
 exact ⟨K,fun k hk=>hK k k hk hk⟩
theorem Ev2.step {α:Type} {f g:Nat→Nat→Option α} {v:α} (h:∀ k n,f k (n+1)=g k n) (hg:Ev2 g v):Ev2 f v:=by
 obtain ⟨K,hK⟩:=hg
 refine ⟨K+1,fun k n hk hn=> ?_⟩
 obtain ⟨m,rfl⟩:∃ m,n=m+1:=⟨n - 1,by omega⟩
 exact (h k m).trans (hK k m (by omega) (by omega))
theorem Ev2.bind {α β:Type} {f:Nat→Option α} {g:Nat→Nat→α→Option β} {a:α} {b:β} (hf:Ev f a) (hg:Ev2 (fun k n=>g k n a) b):Ev2 (fun k n=>(f k).bind (g k n)) b:=by
 obtain ⟨K,hK⟩:=hf
 obtain ⟨L,hL⟩:=hg
 exact ⟨max K L,fun k n hk hn=>by show (f k).bind (g k n)=_;rw [hK k (by omega)];exact hL k n (by omega) (by omega)⟩
theorem Ev2.ext {α:Type} {f g:Nat→Nat→Option α} {v:α} (h:∀ k n,f k n=g k n) (hg:Ev2 g v):Ev2 f v:=by
 obtain ⟨K,hK⟩:=hg
 exact ⟨K,fun k n hk hn=>(h k n).trans (hK k n hk hn)⟩
theorem Ev2.pure {α:Type} (v:α):Ev2 (fun _ _=>some v) v:=⟨0,fun _ _ _ _=>rfl⟩
theorem out_eq (acc:List Pe) (x:Pe):patch_edits.out_ acc x=acc++(out1 x.f0 x.f1 x.f2).map pe:=by
 unfold patch_edits.out_ out1
 split
 {
 rfl
 }
 {
 simp
 }
theorem at_eq (a b:List Fd) (ha:Small a) (i j:Nat) (hi:i<a.length) (hj:j<b.length):Ev (fun k=>patch_edits.at_ k a b (i:Int) (j:Int)) (decide (a[i]=b[j])):=by
 refine Ev.ext (fun k=> ?_) (same_eq (a[i]) (b[j]) (ha.get i hi))
 rw [patch_edits.at_,if_pos (by omega),if_pos (by omega),rdF a i hi,rdF b j hj]
theorem left_eq (a b:List Fd) (L:List (List Int)) (hT:Tab a b L) (i j:Nat) (hi:i<a.length) (hj:j<b.length):patch_edits.left_ a b L (i:Int) (j:Int)=decide (lcs (a.drop i) (b.drop (j+1))≤lcs (a.drop (i+1)) (b.drop j)):=by
 unfold patch_edits.left_
 have e0:=hT.at_ i (j+1) (by omega) (by omega) (by omega)
 have e1:=hT.at_ (i+1) j (by omega) (by omega) (by omega)
 rw [decide_eq_true (show (i:Int)<a.length by omega),decide_eq_false (show ¬ (j:Int)=b.length by omega),Bool.true_and,Bool.false_or,show ((j:Int)+1)=((j+1:Nat):Int) by omega,show ((i:Int)+1)=((i+1:Nat):Int) by omega,rdI,rdI,Int.toNat_natCast,Int.toNat_natCast,e0,e1,decide_eq_decide]
 omega
theorem steps_left (a b:List Fd) (i:Nat) (hi:i<a.length):steps (a.drop i) (b.drop b.length)= .del a[i]::steps (a.drop (i+1)) (b.drop b.length):=by
 rw [List.drop_eq_getElem_cons hi,List.drop_length,steps]
theorem steps_right (a b:List Fd) (j:Nat) (hj:j<b.length):steps (a.drop a.length) (b.drop j)= .ins b[j]::steps (a.drop a.length) (b.drop (j+1)):=by
 rw [List.drop_eq_getElem_cons hj,List.drop_length,steps]
theorem steps_both (a b:List Fd) (i j:Nat) (hi:i<a.length) (hj:j<b.length):steps (a.drop i) (b.drop j)=if a[i]=b[j] then .keep a[i]::steps (a.drop (i+1)) (b.drop (j+1)) else if lcs (a.drop i) (b.drop (j+1))≤lcs (a.drop (i+1)) (b.drop j) then .del a[i]::steps (a.drop (i+1)) (b.drop j) else .ins b[j]::steps (a.drop i) (b.drop (j+1)):=by
 rw [List.drop_eq_getElem_cons hi,List.drop_eq_getElem_cons hj,steps]
theorem own_one (x:Fd) (h:x.f2.length<5864062014805):Ev (fun k=>patch_own.f k [x]) [x]:=own_eq [x] (fun y hy=>by rw [List.mem_singleton.1 hy];exact h) (by simp)
theorem go_end (a b:List Fd) (L:List (List Int)) (acc:List Pe) (x:Pe):Ev2 (fun k n=>patch_edits.go k a b L n acc x (a.length:Int) (b.length:Int)) (acc++(group x.f0 x.f1 x.f2 (steps (a.drop a.length) (b.drop b.length))).map pe):=by
 refine Ev2.step (g:=fun _ _=>some (patch_edits.out_ acc x)) (fun k n=> ?_) ?_
 {
 rw [patch_edits.go,if_neg (by omega)]
 }
 {
 rw [List.drop_length,List.drop_length,steps,group,←out_eq]
 exact Ev2.pure _
 }
theorem go_del (a b:List Fd) (hs:Subs a) (L:List (List Int)) (acc:List Pe) (x:Pe) (i j:Nat) (hi:i<a.length) (t:Bool) (ht:Ev (fun k=>patch_edits.at_ k a b (i:Int) (j:Int)) false) (hl:patch_edits.left_ a b L (i:Int) (j:Int)=true) {v:List Pe}
 (h:Ev2 (fun k n=>patch_edits.go k a b L n acc ⟨x.f0,x.f1++[a[i]],x.f2⟩ ((i+1:Nat):Int) (j:Int)) v):Ev2 (fun k n=>patch_edits.go k a b L n acc x (i:Int) (j:Int)) v:=by
 refine Ev2.step (g:=fun k n=>(patch_edits.at_ k a b (i:Int) (j:Int)).bind fun t=>if t=true then patch_edits.go k a b L n (patch_edits.out_ acc x) ⟨(i:Int)+1,[],[]⟩ ((i:Int)+1) ((j:Int)+1) else (patch_own.f k [a[i]]).bind fun o=>if o.length≤1 then patch_edits.go k a b L n acc ⟨x.f0,x.f1++o,x.f2⟩ ((i:Int)+1) (j:Int) else none) (fun k n=> ?_) (Ev2.bind ht (Ev2.bind (own_one _ (hs _ (List.getElem_mem hi))) (Ev2.ext (fun k n=>by rw [if_pos (by simp)];rfl) h)))
 rw [patch_edits.go,if_pos (by omega)]
 simp only [hl,if_true,rdF a i hi]
theorem go_ins (a b:List Fd) (hs:Subs b) (L:List (List Int)) (acc:List Pe) (x:Pe) (i j:Nat) (hj:j<b.length) (ht:Ev (fun k=>patch_edits.at_ k a b (i:Int) (j:Int)) false) (hl:patch_edits.left_ a b L (i:Int) (j:Int)=false) {v:List Pe}
 (h:Ev2 (fun k n=>patch_edits.go k a b L n acc ⟨x.f0,x.f1,x.f2++[b[j]]⟩ (i:Int) ((j+1:Nat):Int)) v):Ev2 (fun k n=>patch_edits.go k a b L n acc x (i:Int) (j:Int)) v:=by
 refine Ev2.step (g:=fun k n=>(patch_edits.at_ k a b (i:Int) (j:Int)).bind fun t=>if t=true then patch_edits.go k a b L n (patch_edits.out_ acc x) ⟨(i:Int)+1,[],[]⟩ ((i:Int)+1) ((j:Int)+1) else (patch_own.f k [b[j]]).bind fun o=>if o.length≤1 then patch_edits.go k a b L n acc ⟨x.f0,x.f1,x.f2++o⟩ (i:Int) ((j:Int)+1) else none) (fun k n=> ?_) (Ev2.bind ht (Ev2.bind (own_one _ (hs _ (List.getElem_mem hj))) (Ev2.ext (fun k n=>by rw [if_pos (by simp)];rfl) h)))
 rw [patch_edits.go,if_pos (by omega)]
 simp only [hl,Bool.false_eq_true,if_false,rdF b j hj]
theorem go_keep (a b:List Fd) (L:List (List Int)) (acc:List Pe) (x:Pe) (i j:Nat) (hi:i<a.length) (ht:Ev (fun k=>patch_edits.at_ k a b (i:Int) (j:Int)) true) {v:List Pe}
 (h:Ev2 (fun k n=>patch_edits.go k a b L n (patch_edits.out_ acc x) ⟨(i:Int)+1,[],[]⟩ ((i+1:Nat):Int) ((j+1:Nat):Int)) v):Ev2 (fun k n=>patch_edits.go k a b L n acc x (i:Int) (j:Int)) v:=by
 obtain ⟨K,hK⟩:=ht
 obtain ⟨M,hM⟩:=h
 refine ⟨max K M+1,fun k n hk hn=> ?_⟩
 obtain ⟨m,rfl⟩:∃ m,n=m+1:=⟨n - 1,by omega⟩
 show patch_edits.go k a b L (m+1) acc x (i:Int) (j:Int)=_
 rw [patch_edits.go,if_pos (by omega),show patch_edits.at_ k a b (i:Int) (j:Int)=some true from hK k (by omega),Option.bind_some,if_pos rfl]
 exact hM k m (by omega) (by omega)
theorem at_no (k:Nat) (a b:List Fd) (i j:Nat) (h: ¬ (i<a.length∧j<b.length)):patch_edits.at_ k a b (i:Int) (j:Int)=some false:=by
 unfold patch_edits.at_
 by_cases hi:(i:Int)<a.length
 {
 rw [if_pos hi,if_neg (by omega)]
 }
 {
 rw [if_neg hi]
 }
theorem go_eq (a b:List Fd) (ha:Small a) (hsa:Subs a) (hsb:Subs b) (L:List (List Int)) (hT:Tab a b L):∀ (m i j:Nat) (acc:List Pe) (x:Pe),(a.length - i)+(b.length - j)≤m→i≤a.length→j≤b.length→(i:Int)=x.f0+x.f1.length→
 Ev2 (fun k n=>patch_edits.go k a b L n acc x (i:Int) (j:Int)) (acc++(group x.f0 x.f1 x.f2 (steps (a.drop i) (b.drop j))).map pe):=by
 intro m
 induction m with
 |zero=>
  (
 intro i j acc x h hi hj he
 obtain rfl:i=a.length:=by omega
 obtain rfl:j=b.length:=by omega
 exact go_end a b L acc x
  )
 |succ m ih=>
  (
 intro i j acc x h hi hj he
 by_cases h1:i<a.length
 {
 have del:Ev2 (fun k n=>patch_edits.go k a b L n acc ⟨x.f0,x.f1++[a[i]],x.f2⟩ ((i+1:Nat):Int) (j:Int)) (acc++(group x.f0 (x.f1++[a[i]]) x.f2 (steps (a.drop (i+1)) (b.drop j))).map pe):=ih (i+1) j acc ⟨x.f0,x.f1++[a[i]],x.f2⟩ (by omega) (by omega) hj (by simp only [List.length_append,List.length_singleton];omega)
 by_cases h2:j<b.length
 {
 rw [steps_both a b i j h1 h2]
 by_cases hs:a[i]=b[j]
 {
 rw [if_pos hs,group,List.map_append,←List.append_assoc,←out_eq]
 refine go_keep a b L acc x i j h1 ((at_eq a b ha i j h1 h2).cast (decide_eq_true hs)) ?_
 have:=ih (i+1) (j+1) (patch_edits.out_ acc x) ⟨(i:Int)+1,[],[]⟩ (by omega) (by omega) (by omega) (by simp)
 rw [show x.f0+(x.f1.length:Int)+1=(i:Int)+1 by omega]
 exact this
 }
 {
 rw [if_neg hs]
 have hf:=(at_eq a b ha i j h1 h2).cast (decide_eq_false hs)
 by_cases hl:lcs (a.drop i) (b.drop (j+1))≤lcs (a.drop (i+1)) (b.drop j)
 {
 rw [if_pos hl,group]
 exact go_del a b hsa L acc x i j h1 true hf ((left_eq a b L hT i j h1 h2).trans (decide_eq_true hl)) del
 }
 {
 rw [if_neg hl,group]
 exact go_ins a b hsb L acc x i j h2 hf ((left_eq a b L hT i j h1 h2).trans (decide_eq_false hl)) (ih i (j+1) acc ⟨x.f0,x.f1,x.f2++[b[j]]⟩ (by omega) hi (by omega) he)
 }
 }
 }
 {
 obtain rfl:j=b.length:=by omega
 rw [steps_left a b i h1,group]
 refine go_del a b hsa L acc x i b.length h1 true (Ev.ext (fun k=>at_no k a b i b.length (by omega)) (Ev.pure false)) ?_ del
 unfold patch_edits.left_
 rw [decide_eq_true (show (i:Int)<a.length by omega),decide_eq_true rfl]
 rfl
 }
 }
 {
 obtain rfl:i=a.length:=by omega
 by_cases h2:j<b.length
 {
 rw [steps_right a b j h2,group]
 refine go_ins a b hsb L acc x a.length j h2 (Ev.ext (fun k=>at_no k a b a.length j (by omega)) (Ev.pure false)) ?_ (ih a.length (j+1) acc ⟨x.f0,x.f1,x.f2++[b[j]]⟩ (by omega) hi (by omega) he)
 unfold patch_edits.left_
 rw [decide_eq_false (show ¬ (a.length:Int)<a.length by omega),Bool.false_and]
 }
 {
 obtain rfl:j=b.length:=by omega
 exact go_end a b L acc x
 }
 }
  )
end Go.Proofs.YtdlolaognnbhpaaDoor.Rec
namespace Go.Proofs.YtdlolaognnbhpaaDoor.Rec
open Go.RowKit Go.Proofs.YtdlolaognnbhpaaDoorW.PrintWords Go.Proofs.YtdlolaognnbhpaaDoorW.PrintMore Go.Proofs.YtdlolaognnbhpaaDoor.Pr Go.Proofs.YtdlolaognnbhpaaDoor.Lcs Classical
set_option linter.unusedVariables false
set_option linter.unusedSimpArgs false
theorem tab_keep {a b:List Fd} {out:List (List Int)} {i j:Nat} (h:TabFrom a b out i (j+1)) (hi:i≤a.length) (hj:j<b.length) (v:Int):TabFrom a b (out.set i ((out.getD i []).set j v)) i (j+1):=by
 have hl:=h.len
 have hr:=h.row i (Nat.le_refl _) hi
 refine ⟨by rw [List.length_set];exact hl,fun p h1 h2=> ?_,fun p q h1 h2 h3=> ?_⟩
 {
 rw [getD_set _ _ _ _ _ (by omega)]
 split
 {
 rw [List.length_set];exact hr
 }
 {
 exact h.row p h1 h2
 }
 }
 {
 rw [getD_set _ _ _ _ _ (by omega)]
 split
 {
 rename_i hp
 subst hp
 rw [getD_set _ _ _ _ _ (by omega),if_neg (by omega)]
 exact h.at_ p q h1 h2 (.inr ⟨rfl,by omega⟩)
 }
 {
 exact h.at_ p q h1 h2 (by omega)
 }
 }
theorem reflen_inner (a b:List Fd) (ha:Small a) (hn:a.length≤1000) (hm:b.length≤1000) (i:Nat) (hi:i<a.length)
 (next:∀ out,TabFrom a b out i 0→∃ L,Tab a b L∧Ev (fun k=>bookplateref18_lengths.l0 k a b out ((i:Int) - 1)) L):
 ∀ (j:Nat) (out:List (List Int)),j≤b.length→TabFrom a b out i j→∃ L,Tab a b L∧Ev (fun k=>bookplateref18_lengths.l1 k a b out (i:Int) ((j:Int) - 1)) L
 |0,out,_,h=>by {
 obtain ⟨L,hT,hE⟩:=next out h
 refine ⟨L,hT,Ev.step (g:=fun k=>bookplateref18_lengths.j2 k a b out (i:Int) (((0:Nat):Int) - 1) false) (fun k=> ?_) (Ev.step (g:=fun k=>bookplateref18_lengths.l0 k a b out ((i:Int) - 1)) (fun k=> ?_) hE)⟩
 {
 rw [bookplateref18_lengths.l1,if_neg (by omega)]
 }
 {
 rw [bookplateref18_lengths.j2,if_neg (by decide),wrm i (by omega)]
 }
 }
 |j+1,out,hj,h=>by {
 have hl:=h.len
 have hr0:=h.row i (Nat.le_refl _) (by omega)
 have hr1:=h.row (i+1) (by omega) (by omega)
 have e10:=h.at_ (i+1) j (by omega) (by omega) (.inl (by omega))
 have e01:=h.at_ i (j+1) (by omega) hj (.inr ⟨rfl,by omega⟩)
 have s0:=lcs_small a b hn (i+1) (j+1)
 have hd:=drop_lcs a b hi (show j<b.length by omega)
 obtain ⟨out1,ho⟩:∃ o,o=out.set i ((out.getD i []).set j (mx ((out.getD (i+1) []).getD j 0) ((out.getD i []).getD (j+1) 0))):=⟨_,rfl⟩
 have hk:TabFrom a b out1 i (j+1):=by rw [ho];exact tab_keep h (by omega) (by omega) _
 have hq:(out1.getD i []).getD j 0=mx ((out.getD (i+1) []).getD j 0) ((out.getD i []).getD (j+1) 0):=by {
 rw [ho,getD_set _ _ _ _ _ (by omega),if_pos rfl,getD_set _ _ _ _ _ (by omega),if_pos rfl]
 }
 have f00:=hk.at_ (i+1) (j+1) (by omega) hj (.inl (by omega))
 have g0:=hk.row i (Nat.le_refl _) (by omega)
 have g1:=hk.row (i+1) (by omega) (by omega)
 have ej:(((j+1:Nat):Int) - 1)=(j:Int):=by omega
 have walk:∀ L:List (List Int),Ev (fun k=>if decide (a[i]=b[j])=true then bookplateref18_lengths.l1 k a b (out1.set i ((out1.getD i []).set j (mx ((out1.getD i []).getD j 0) (wrap64 (1+(out1.getD (i+1) []).getD (j+1) 0))))) (i:Int) ((j:Int) - 1) else bookplateref18_lengths.l1 k a b out1 (i:Int) ((j:Int) - 1)) L→Ev (fun k=>bookplateref18_lengths.l1 k a b out (i:Int) (((j+1:Nat):Int) - 1)) L:=fun L hE=>by {
 refine Ev.step (g:=fun k=>bookplateref18_lengths.j2 k a b out (i:Int) (j:Int) true) (fun k=> ?_) (Ev.step (g:=fun k=>(bookplateref12_SameField.f k (a[i]).f0 (a[i]).f1.f0 (a[i]).f1.f1 (a[i]).f2 (b[j]).f0 (b[j]).f1.f0 (b[j]).f1.f1 (b[j]).f2).bind fun t=>if t=true then bookplateref18_lengths.l1 k a b (out1.set i ((out1.getD i []).set j (mx ((out1.getD i []).getD j 0) (wrap64 (1+(out1.getD (i+1) []).getD (j+1) 0))))) (i:Int) ((j:Int) - 1) else bookplateref18_lengths.l1 k a b out1 (i:Int) ((j:Int) - 1)) (fun k=> ?_) (Ev.bind (refsame_eq _ _ (ha.get i hi)) hE))
 {
 rw [bookplateref18_lengths.l1,ej,if_pos (by omega),decide_eq_true (by omega)]
 }
 {
 rw [bookplateref18_lengths.j2,if_pos rfl,wr1 i (by omega),wr1 j (by omega),wrm j (by omega)]
 simp only [rdL,rdI,Int.toNat_natCast,Option.bind_some,←ho]
 rw [if_pos (by omega),if_pos (by omega),if_pos (by omega),if_pos (by omega),if_pos (by omega),if_pos (by omega),if_pos (by omega),if_pos (by omega),if_pos (by omega),if_pos (by omega),if_pos (by omega),rdF a i hi,rdF b j (by omega)]
 refine congrArg _ (funext fun t=> ?_)
 cases t with
 |true=>
  (
 simp only [if_true]
 rw [if_pos (by omega),if_pos (by omega)]
  )
 |false=>simp only [Bool.false_eq_true,if_false]
 }
 }
 by_cases hs:a[i]=b[j]
 {
 obtain ⟨L,hT,hE⟩:=reflen_inner a b ha hn hm i hi next j (out1.set i ((out1.getD i []).set j (lcs (a.drop i) (b.drop j):Int))) (by omega) (hk.put (by omega) (by omega) rfl)
 refine ⟨L,hT,walk L (Ev.pos (decide_eq_true hs) ?_)⟩
 have:mx ((out1.getD i []).getD j 0) (wrap64 (1+(out1.getD (i+1) []).getD (j+1) 0))=(lcs (a.drop i) (b.drop j):Int):=by {
 have g:=drop_same a b hi (show j<b.length by omega) hs
 rw [hq,f00,e10,e01,←g]
 unfold wrap64 mx
 split<;>split<;>omega
 }
 rw [this]
 exact hE
 }
 {
 obtain ⟨L,hT,hE⟩:=reflen_inner a b ha hn hm i hi next j out1 (by omega) (by
   rw [ho]
   refine h.put (by omega) (by omega) ?_
   rw [e10,e01,hd,if_neg hs]
   unfold mx
   omega)
 exact ⟨L,hT,walk L (Ev.neg (fun h=>hs (of_decide_eq_true h)) hE)⟩
 }
 }
theorem reflen_outer (a b:List Fd) (ha:Small a) (hn:a.length≤1000) (hm:b.length≤1000):∀ (i:Nat) (out:List (List Int)),i≤a.length→TabFrom a b out i 0→∃ L,Tab a b L∧Ev (fun k=>bookplateref18_lengths.l0 k a b out ((i:Int) - 1)) L
 |0,out,_,h=>⟨out,h,Ev.step (g:=fun _=>some out) (fun k=>by rw [bookplateref18_lengths.l0,if_neg (by omega)]) (Ev.pure _)⟩
 |i+1,out,hi,h=>by {
 have hl:=h.len
 obtain ⟨L,hT,hE⟩:=reflen_inner a b ha hn hm i (by omega) (fun out h=>reflen_outer a b ha hn hm i out (by omega) h) b.length _ (Nat.le_refl _) (h.new (by omega))
 refine ⟨L,hT,Ev.step (fun k=> ?_) hE⟩
 rw [show (((i+1:Nat):Int) - 1)=(i:Int) by omega,bookplateref18_lengths.l0,if_pos (by omega),wr1t b hm,if_pos (by omega),if_pos (by omega),if_pos (by omega),if_pos (by omega),Int.toNat_natCast,Int.toNat_natCast,wrm _ (by omega)]
 }
theorem reflengths_eq (a b:List Fd) (ha:Small a) (hn:a.length≤1000) (hm:b.length≤1000):∃ L,Tab a b L∧Ev (fun k=>bookplateref18_lengths.f k a b) L:=by
 obtain ⟨L,hT,hE⟩:=reflen_outer a b ha hn hm a.length _ (Nat.le_refl _) (TabFrom.last a b (List.replicate (a.length+1) []) (by simp))
 refine ⟨L,hT,Ev.ext (g:=fun k=>bookplateref18_lengths.l0 k a b (List.replicate (a.length+1) []) (a.length:Int)) (fun k=> ?_) (Ev.step (g:=fun k=>bookplateref18_lengths.l1 k a b ((List.replicate (a.length+1) []).set a.length (List.replicate (b.length+1) 0)) (a.length:Int) ((b.length:Int) - 1)) (fun k=> ?_) (Ev.step (g:=fun k=>bookplateref18_lengths.j2 k a b ((List.replicate (a.length+1) []).set a.length (List.replicate (b.length+1) 0)) (a.length:Int) ((b.length:Int) - 1) false) (fun k=> ?_) (Ev.step (fun k=> ?_) hE)))⟩
 {
 unfold bookplateref18_lengths.f
 rw [wr1t a hn,if_pos (by omega),if_pos (by omega),Int.toNat_natCast]
 }
 {
 rw [bookplateref18_lengths.l0,if_pos (by omega),wr1t b hm,if_pos (by omega),if_pos (by omega),if_pos (by omega),if_pos (by rw [List.length_replicate];omega),Int.toNat_natCast,Int.toNat_natCast,wrm _ (by omega)]
 }
 {
 rw [bookplateref18_lengths.l1,decide_eq_false (by omega)]
 split<;>rfl
 }
 {
 rw [bookplateref18_lengths.j2,if_neg (by decide),wrm _ (by omega)]
 }
end Go.Proofs.YtdlolaognnbhpaaDoor.Rec
