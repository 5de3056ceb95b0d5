/- A part of the proof of laws of this seat: PatchBack, PatchDiff, PatchLeast, PatchMetric. Conditions: none of our own. -/
import Derived.OrdersHeld
import Derived.Laws.BitsLemmas
import Derived.Test.YtdlolaognnbhpaaDoorK0
namespace Go.Proofs.YtdlolaognnbhpaaDoorW.PrintLast
section
variable {P : Program} {ops : Array Oper} {Q : Exit → Act → World → Prop} {md : Region.Mode} {S : World → Prop} {ds : List Nat}
def Region.reachB (md:Region.Mode) (ops:Array Oper) (i:Nat):Nat→Nat→Bool
 |0,_=>false
 |fuel+1,d=>match ops[d]? with
   |some o=>o.after.any fun e=>Region.binds md e && (e.on==i||Region.reachB md ops i fuel e.on)
   |none=>false
def Region.closedB (md:Region.Mode) (ops:Array Oper) (listed:Array Bool):Bool:=
 (List.range ops.size).all fun j=> !listed.getD j false||match ops[j]? with
 |some o=>o.after.all fun e=> !Region.binds md e||listed.getD e.on false
 |none=>true
def Region.lastB (md:Region.Mode) (ops:Array Oper) (listed:Array Bool) (ds:List Nat) (i:Nat):Bool:=
  ds.all fun d=>listed.getD d true||Region.reachB md ops i ops.size d
def ListedClosed (md:Region.Mode) (ops:Array Oper) (listed:Array Bool):Prop:=
  ∀ j oj,ops[j]?=some oj→listed.getD j false=true→∀ e∈oj.after,Region.binds md e=true→listed.getD e.on false=true
theorem Region.closedB_spec {listed:Array Bool} (h:Region.closedB md ops listed=true):ListedClosed md ops listed:=by
 intro j oj hj hl e he hb
 have hlt:j<ops.size:=(Array.getElem?_eq_some_iff.1 hj).1
 have h1:=List.all_eq_true.1 h j (List.mem_range.2 hlt)
 simp only [hl,hj,Bool.not_true,Bool.false_or] at h1
 have h2:=Array.all_eq_true_iff_forall_mem.1 h1 e he
 simpa [hb] using h2
theorem ListedClosed.set {listed:Array Bool} {i:Nat} (h:ListedClosed md ops listed) (hi:i∈Region.ready md ops listed):ListedClosed md ops (listed.setIfInBounds i true):=by
 obtain ⟨_,oi,hoi,hall⟩:=mem_ready.1 hi
 intro j oj hj hl e he hb
 by_cases hij:i=j
 {
 subst hij
 have:oj=oi:=Option.some.inj (hj.symm.trans hoi)
 subst this
 exact getD_set_true (hall e he hb)
 }
 {
 rw [getD_set_ne false hij] at hl
 exact getD_set_true (h j oj hj hl e he hb)
 }
theorem Region.reach_listed {listed:Array Bool} {i:Nat} (hc:ListedClosed md ops listed):∀ (fuel d:Nat),Region.reachB md ops i fuel d=true→listed.getD d false=true→listed.getD i false=true
 |0,_,h,_=>by simp [Region.reachB] at h
 |fuel+1,d,h,hl=>by {
 unfold Region.reachB at h
 cases ho:ops[d]? with
 |none=>rw [ho] at h;simp at h
 |some o=>
  (
 rw [ho] at h
 obtain ⟨e,he,h1⟩:=Array.any_eq_true'.1 h
 simp only [Bool.and_eq_true,Bool.or_eq_true,beq_iff_eq] at h1
 have hle:=hc d o ho hl e he h1.1
 rcases h1.2 with h2|h2
 {
 rw [←h2];exact hle
 }
 {
 exact Region.reach_listed hc fuel e.on h2 hle
 }
  )
 }
theorem Region.reach_not_ready {listed:Array Bool} {i d fuel:Nat} (hc:ListedClosed md ops listed) (hr:Region.reachB md ops i fuel d=true) (hun:listed.getD i true=false):d ∉ Region.ready md ops listed:=by
 intro hd
 obtain ⟨_,o,ho,hall⟩:=mem_ready.1 hd
 have hi:listed.getD i false=true:=by {
 cases fuel with
 |zero=>simp [Region.reachB] at hr
 |succ n=>
  (
 unfold Region.reachB at hr
 rw [ho] at hr
 obtain ⟨e,he,h1⟩:=Array.any_eq_true'.1 hr
 simp only [Bool.and_eq_true,Bool.or_eq_true,beq_iff_eq] at h1
 have hle:=hall e he h1.1
 rcases h1.2 with h2|h2
 {
 rw [←h2];exact hle
 }
 {
 exact Region.reach_listed hc n e.on h2 hle
 }
  )
 }
 rcases Nat.lt_or_ge i listed.size with h'|h'
 {
 simp [h'] at hun hi
 rw [hun] at hi
 cases hi
 }
 {
 simp [Array.getElem?_eq_none h'] at hun
 }
def wpAnyLast (P:Program) (md:Region.Mode) (ops:Array Oper) (Q:Exit→Act→World→Prop) (S:World→Prop) (ds:List Nat):Nat→Array Bool→Act→World→Prop
 |0,listed,a,w=>Region.ready md ops listed=[]∧Q .normal a w
 |fuel+1,listed,a,w=>
   (Region.ready md ops listed=[]→Q .normal a w)∧
   ∀ i∈Region.ready md ops listed,wpOp P ops Q i (fun a' w'=>(i ∉ ds→S w→S w')∧wpAnyLast P md ops Q S ds fuel (listed.setIfInBounds i true) a' w') a w
theorem wpAny_of_last:∀ (fuel:Nat) (listed:Array Bool) (a:Act) (w:World),wpAnyLast P md ops Q S ds fuel listed a w→wpAny P md ops Q fuel listed a w
 |0,_,_,_,h=>h
 |fuel+1,_,_,_,h=>⟨h.1,fun i hi=>wpOp_mono (fun a' w' h'=>wpAny_of_last fuel _ a' w' h'.2) (h.2 i hi)⟩
theorem wpAnyLast_first {i:Nat} {oi:Oper} {v:Value} (hi:ops[i]?=some oi) (hsel:∀ (j:Nat) (o:Oper) cs b,ops[j]?=some o→o.op≠ .select cs b)
 (hQ:∀ c a w,Q (.panic c) (a.put oi.dst v) w→Q (.panic c) a w) (n:Nat):
 ∀ (fuel:Nat) (listed:Array Bool) (a:Act) (w:World),
 (∀ j oj,ops[j]?=some oj→j≠i→listed.getD j true=false→(∀ e∈oj.after,Region.binds md e=true→e.on≠i)→oi.apart ops oj=true)→
 ListedClosed md ops listed→(∀ d∈ds,listed.getD d true=false→Region.reachB md ops i n d=true)→
 i∈Region.ready md ops listed→YieldsIf P ops S oi v a→S w→
 wpAnyLast P md ops Q S ds fuel (listed.setIfInBounds i true) (a.put oi.dst v) w→wpAnyLast P md ops Q S ds (fuel+1) listed a w:=by
 intro fuel
 induction fuel with
 |zero=>
  (
 intro listed a w _ _ _ hr hy hS H
 refine ⟨fun h=>(by rw [h] at hr;cases hr),fun j hj=> ?_⟩
 by_cases hji:j=i
 {
 subst hji;exact hy.wpOp hi hS ⟨fun _ h=>h,H⟩
 }
 {
 have:=ready_mono hj hji
 rw [H.1] at this
 cases this
 }
  )
 |succ fuel ih=>
  (
 intro listed a w hfree hc hd hr hy hS H
 refine ⟨fun h=>(by rw [h] at hr;cases hr),fun j hj=> ?_⟩
 by_cases hji:j=i
 {
 subst hji;exact hy.wpOp hi hS ⟨fun _ h=>h,H⟩
 }
 {
 have h1:=H.2 j (ready_mono hj hji)
 obtain ⟨hjun,oj,hoj,hall⟩:=mem_ready.1 hj
 have hiun:=(mem_ready.1 hr).1
 have hnot:∀ e∈oj.after,Region.binds md e=true→e.on≠i:=fun e he hb heq=>by {
 have h1:=hall e he hb
 rw [heq] at h1
 rcases Nat.lt_or_ge i listed.size with h'|h'
 {
 simp [h'] at hiun h1;rw [hiun] at h1;cases h1
 }
 {
 simp [Array.getElem?_eq_none h'] at h1
 }
 }
 have hjd:j ∉ ds:=fun hm=>Region.reach_not_ready hc (hd j hm hjun) hiun hj
 have h2:=wpOp_putIf hoj (hfree j oj hoj hji hjun hnot) (fun cs b=>hsel i oi cs b hi) (fun cs b=>hsel j oj cs b hoj) hQ hy h1
 have hfree':∀ k ok,ops[k]?=some ok→k≠i→(listed.setIfInBounds j true).getD k true=false→
     (∀ e∈ok.after,Region.binds md e=true→e.on≠i)→oi.apart ops ok=true:=fun k ok hk hki hun hno=>by
   refine hfree k ok hk hki ?_ hno
   by_cases hjk:j=k
   · subst hjk;exact hjun
   · rw [getD_set_ne true hjk] at hun;exact hun
 have hd':∀ d∈ds,(listed.setIfInBounds j true).getD d true=false→Region.reachB md ops i n d=true:=fun d hm hun=>by {
 refine hd d hm ?_
 by_cases hjk:j=d
 {
 subst hjk;exact hjun
 }
 {
 rw [getD_set_ne true hjk] at hun;exact hun
 }
 }
 refine wpOp_mono (fun a' w' h3=>⟨h3.2.1,ih (listed.setIfInBounds j true) a' w' hfree' (hc.set hj) hd' (ready_mono hr (Ne.symm hji)) h3.1 (h3.2.1 hjd hS) ?_⟩) h2
 rw [Array.setIfInBounds_comm _ _ hji]
 exact h3.2.2
 }
  )
theorem wpAnyLast_any {i:Nat} {oi:Oper} {v:Value} (hi:ops[i]?=some oi) (hsel:∀ (j:Nat) (o:Oper) cs b,ops[j]?=some o→o.op≠ .select cs b)
 (hQ:∀ c a w,Q (.panic c) (a.put oi.dst v) w→Q (.panic c) a w):
 ∀ (fuel:Nat) (listed:Array Bool) (a:Act) (w:World),
 (∀ j oj,ops[j]?=some oj→j≠i→listed.getD j true=false→(∀ e∈oj.after,Region.binds md e=true→e.on≠i)→oi.apart ops oj=true)→
 i∈Region.ready md ops listed→Yields P ops oi v a→
 wpAnyLast P md ops Q S ds fuel (listed.setIfInBounds i true) (a.put oi.dst v) w→wpAnyLast P md ops Q S ds (fuel+1) listed a w:=by
 intro fuel
 induction fuel with
 |zero=>
  (
 intro listed a w _ hr hy H
 refine ⟨fun h=>(by rw [h] at hr;cases hr),fun j hj=> ?_⟩
 by_cases hji:j=i
 {
 subst hji;exact (hy.yieldsIf (S:=fun _=>True)).wpOp hi trivial ⟨fun _ h=>h,H⟩
 }
 {
 have:=ready_mono hj hji
 rw [H.1] at this
 cases this
 }
  )
 |succ fuel ih=>
  (
 intro listed a w hfree hr hy H
 refine ⟨fun h=>(by rw [h] at hr;cases hr),fun j hj=> ?_⟩
 by_cases hji:j=i
 {
 subst hji;exact (hy.yieldsIf (S:=fun _=>True)).wpOp hi trivial ⟨fun _ h=>h,H⟩
 }
 {
 have h1:=H.2 j (ready_mono hj hji)
 obtain ⟨hjun,oj,hoj,hall⟩:=mem_ready.1 hj
 have hiun:=(mem_ready.1 hr).1
 have hnot:∀ e∈oj.after,Region.binds md e=true→e.on≠i:=fun e he hb heq=>by {
 have h1:=hall e he hb
 rw [heq] at h1
 rcases Nat.lt_or_ge i listed.size with h'|h'
 {
 simp [h'] at hiun h1;rw [hiun] at h1;cases h1
 }
 {
 simp [Array.getElem?_eq_none h'] at h1
 }
 }
 have h2:=wpOp_put hoj (hfree j oj hoj hji hjun hnot) (fun cs b=>hsel i oi cs b hi) (fun cs b=>hsel j oj cs b hoj) hQ hy h1
 have hfree':∀ k ok,ops[k]?=some ok→k≠i→(listed.setIfInBounds j true).getD k true=false→
     (∀ e∈ok.after,Region.binds md e=true→e.on≠i)→oi.apart ops ok=true:=fun k ok hk hki hun hno=>by
   refine hfree k ok hk hki ?_ hno
   by_cases hjk:j=k
   · subst hjk;exact hjun
   · rw [getD_set_ne true hjk] at hun;exact hun
 refine wpOp_mono (fun a' w' h3=>⟨h3.2.1,ih (listed.setIfInBounds j true) a' w' hfree' (ready_mono hr (Ne.symm hji)) h3.1 ?_⟩) h2
 rw [Array.setIfInBounds_comm _ _ hji]
 exact h3.2.2
 }
  )
theorem wpAnyLast_take {i:Nat} {oi:Oper} {v:Value} {fuel:Nat} {listed:Array Bool} {a:Act} {w:World} (hi:ops[i]?=some oi)
    (hs:Region.noSelect ops=true) (hf:Region.free md ops listed i=true) (hr:(Region.ready md ops listed).contains i=true)
    (hc:Region.closedB md ops listed=true) (hl:Region.lastB md ops listed ds i=true)
    (hQ:∀ c a w,Q (.panic c) (a.put oi.dst v) w→Q (.panic c) a w) (hy:YieldsIf P ops S oi v a) (hS:S w)
    (h:wpAnyLast P md ops Q S ds fuel (listed.setIfInBounds i true) (a.put oi.dst v) w):wpAnyLast P md ops Q S ds (fuel+1) listed a w:=
  wpAnyLast_first hi (Region.noSelect_spec hs) hQ ops.size fuel listed a w (Region.free_spec hi hf) (Region.closedB_spec hc)
    (fun d hm hun=>by have:=List.all_eq_true.1 hl d hm;rw [hun] at this;simpa using this) (by simpa using hr) hy hS h
theorem wpAnyLast_all {rs:List Nat} {fuel:Nat} {listed:Array Bool} {a:Act} {w:World} (hr:Region.ready md ops listed=rs) (hne:rs≠[])
    (h:∀ i∈rs,wpOp P ops Q i (fun a' w'=>(i ∉ ds→S w→S w')∧wpAnyLast P md ops Q S ds fuel (listed.setIfInBounds i true) a' w') a w):wpAnyLast P md ops Q S ds (fuel+1) listed a w:=
  ⟨fun h0=>absurd (hr▸h0) hne,hr▸h⟩
theorem wpAnyLast_done {listed:Array Bool} {a:Act} {w:World} (hr:Region.ready md ops listed=[]) (h:Q .normal a w):
 ∀ fuel,wpAnyLast P md ops Q S ds fuel listed a w
 |0=>⟨hr,h⟩
 |_+1=>⟨fun _=>h,by rw [hr];simp⟩
theorem wp_region_last {id:Nat} {a:Act} {w:World} (hm:P.follows .mixedOrders=true)
    (h:wpAnyLast P .any ops Q S ds ops.size (Array.replicate ops.size false) a { w with drawn:=w.drawn+1 }):(Code.region id ops true).wp P Q a w:=
  wp_region_any hm (wpAny_of_last _ _ _ _ h)
end
section
variable {P : Program} {ops : Array Oper} {Q : Exit → Act → World → Prop} {md : Region.Mode} {S : World → Prop} {ds : List Nat}
def AllReadyL (P:Program) (md:Region.Mode) (ops:Array Oper) (Q:Exit→Act→World→Prop) (S:World→Prop) (ds:List Nat) (fuel:Nat) (listed:Array Bool) (a:Act) (w:World) (rs:List Nat):Prop:=
  ∀ i∈rs,wpOp P ops Q i (fun a' w'=>(i ∉ ds→S w→S w')∧wpAnyLast P md ops Q S ds fuel (listed.setIfInBounds i true) a' w') a w
theorem AllReadyL.nil {fuel:Nat} {listed:Array Bool} {a:Act} {w:World}:AllReadyL P md ops Q S ds fuel listed a w []:=fun _ h=>by cases h
theorem AllReadyL.cons {fuel:Nat} {listed:Array Bool} {a:Act} {w:World} {i:Nat} {o:Oper} {rs:List Nat} (ho:ops[i]?=some o) (hd:i ∉ ds)
    (h:∀ K':Act→World→Prop,Shut (∀ a w,S w→(S w→wpAnyLast P md ops Q S ds fuel (listed.setIfInBounds i true) a w)→K' a w)→if Region.wanted o (yielded ops a.tmps)=true then Oper.wp P o a w K' Q else K' (a.put o.dst undef) w)
    (hs:AllReadyL P md ops Q S ds fuel listed a w rs):AllReadyL P md ops Q S ds fuel listed a w (i::rs):=fun j hj=>by
  rcases List.mem_cons.1 hj with rfl|hj
  · exact wpOp_step ho (fun K' hK=>h K' (fun a w hS hW=>hK a w ⟨fun _ _=>hS,hW hS⟩))
  · exact hs j hj
theorem AllReadyL.cons_last {fuel:Nat} {listed:Array Bool} {a:Act} {w:World} {i:Nat} {o:Oper} {rs:List Nat} (ho:ops[i]?=some o) (hd:i∈ds)
    (h:∀ K':Act→World→Prop,Shut (∀ a w,wpAnyLast P md ops Q S ds fuel (listed.setIfInBounds i true) a w→K' a w)→if Region.wanted o (yielded ops a.tmps)=true then Oper.wp P o a w K' Q else K' (a.put o.dst undef) w)
    (hs:AllReadyL P md ops Q S ds fuel listed a w rs):AllReadyL P md ops Q S ds fuel listed a w (i::rs):=fun j hj=>by
  rcases List.mem_cons.1 hj with rfl|hj
  · exact wpOp_step ho (fun K' hK=>h K' (fun a w hW=>hK a w ⟨fun hn=>absurd hd hn,hW⟩))
  · exact hs j hj
theorem wpAnyLast_ready {rs:List Nat} {fuel:Nat} {listed:Array Bool} {a:Act} {w:World} (hr:Region.ready md ops listed=rs) (hne:rs≠[])
    (h:AllReadyL P md ops Q S ds fuel listed a w rs):wpAnyLast P md ops Q S ds (fuel+1) listed a w:=wpAnyLast_all hr hne h
theorem start_ {id n:Nat} {a:Act} {w:World} (l:Array Bool) (hm:P.follows .mixedOrders=true) (hn:ops.size=n) (hl:Array.replicate n false=l) (hS:S w.drew)
 (h:S w.drew→wpAnyLast P .any ops Q S ds n l a w.drew):(Code.region id ops true).wp P Q a w:=by
 subst hn
 subst hl
 exact wp_region_last hm (h hS)
def takeB (md:Region.Mode) (ops:Array Oper) (ds:List Nat) (l l':Array Bool) (i:Nat):Bool:=
  Region.noSelect ops && Region.free md ops l i && (Region.ready md ops l).contains i && Region.closedB md ops l && Region.lastB md ops l ds i && (l.setIfInBounds i true==l')
theorem take_ {i:Nat} {N:Option Tmp} {oi:Oper} {v:Value} {fuel:Nat} {l:Array Bool} {a:Act} {w:World} (l':Array Bool) (hi:ops[i]?=some oi) (hN:oi.dst=N) (hc:takeB md ops ds l l' i=true)
 (hQ:∀ c a w,Q (.panic c) (a.put oi.dst v) w→Q (.panic c) a w) (hy:YieldsIf P ops S oi v a) (hS:S w) {a':Act} (ha:a.put N v=a')
 (h:wpAnyLast P md ops Q S ds fuel l' a' w):wpAnyLast P md ops Q S ds (fuel+1) l a w:=by
 subst ha
 subst hN
 simp only [takeB,Bool.and_eq_true,beq_iff_eq] at hc
 obtain ⟨⟨⟨⟨⟨h1,h2⟩,h3⟩,h4⟩,h5⟩,h6⟩:=hc
 subst h6
 exact wpAnyLast_take hi h1 h2 h3 h4 h5 hQ hy hS h
def anyB (md:Region.Mode) (ops:Array Oper) (l l':Array Bool) (i:Nat):Bool:=
  Region.noSelect ops && Region.free md ops l i && (Region.ready md ops l).contains i && (l.setIfInBounds i true==l')
theorem pure_ {i:Nat} {N:Option Tmp} {oi:Oper} {v:Value} {fuel:Nat} {l:Array Bool} {a:Act} {w:World} (l':Array Bool) (hi:ops[i]?=some oi) (hN:oi.dst=N) (hc:anyB md ops l l' i=true)
 (hQ:∀ c a w,Q (.panic c) (a.put oi.dst v) w→Q (.panic c) a w) (hy:Yields P ops oi v a) {a':Act} (ha:a.put N v=a')
 (h:wpAnyLast P md ops Q S ds fuel l' a' w):wpAnyLast P md ops Q S ds (fuel+1) l a w:=by
 subst ha
 subst hN
 simp only [anyB,Bool.and_eq_true,beq_iff_eq] at hc
 obtain ⟨⟨⟨h1,h2⟩,h3⟩,h6⟩:=hc
 subst h6
 exact wpAnyLast_any hi (Region.noSelect_spec h1) hQ fuel l a w (Region.free_spec hi h2) (by simpa using h3) hy h
def readyB (md:Region.Mode) (ops:Array Oper) (l l':Array Bool) (i:Nat):Bool:=(Region.ready md ops l==[i]) && (l.setIfInBounds i true==l')
theorem one_ {i:Nat} {N:Option Tmp} {oi:Oper} {fuel:Nat} {l:Array Bool} {a:Act} {w:World} (l':Array Bool) (hi:ops[i]?=some oi) (hN:oi.dst=N) (hc:readyB md ops l l' i=true) (hd:i ∉ ds)
 (h:∀ K:Act→World→Prop,Shut (∀ a' w',S w'→(S w'→wpAnyLast P md ops Q S ds fuel l' a' w')→K a' w')→if Region.wanted oi (yielded ops a.tmps)=true then Oper.wp P oi a w K Q else K (a.put N undef) w):
 wpAnyLast P md ops Q S ds (fuel+1) l a w:=by
 subst hN
 simp only [readyB,Bool.and_eq_true,beq_iff_eq] at hc
 obtain ⟨h1,h2⟩:=hc
 subst h2
 exact wpAnyLast_ready h1 (by simp) (AllReadyL.cons hi hd (fun K hK=>h K hK) AllReadyL.nil)
theorem last_ {i:Nat} {N:Option Tmp} {oi:Oper} {fuel:Nat} {l:Array Bool} {a:Act} {w:World} (l':Array Bool) (hi:ops[i]?=some oi) (hN:oi.dst=N) (hc:readyB md ops l l' i=true) (hd:i∈ds)
 (h:∀ K:Act→World→Prop,Shut (∀ a' w',wpAnyLast P md ops Q S ds fuel l' a' w'→K a' w')→if Region.wanted oi (yielded ops a.tmps)=true then Oper.wp P oi a w K Q else K (a.put N undef) w):
 wpAnyLast P md ops Q S ds (fuel+1) l a w:=by
 subst hN
 simp only [readyB,Bool.and_eq_true,beq_iff_eq] at hc
 obtain ⟨h1,h2⟩:=hc
 subst h2
 exact wpAnyLast_ready h1 (by simp) (AllReadyL.cons_last hi hd (fun K hK=>h K hK) AllReadyL.nil)
theorem done_ {l:Array Bool} {a:Act} {w:World} {n:Nat} (hr:(Region.ready md ops l==[])=true) (h:Q .normal a w):wpAnyLast P md ops Q S ds n l a w:=wpAnyLast_done (by simpa using hr) h n
theorem two_ {i j:Nat} {Ni Nj:Option Tmp} {oi oj:Oper} {fuel:Nat} {l:Array Bool} {a:Act} {w:World} (li lj:Array Bool) (hi:ops[i]?=some oi) (hj:ops[j]?=some oj) (hNi:oi.dst=Ni) (hNj:oj.dst=Nj)
 (hc:(Region.ready md ops l==[i,j] && l.setIfInBounds i true==li && l.setIfInBounds j true==lj)=true) (hdi:i ∉ ds) (hdj:j ∉ ds)
 (h1:∀ K:Act→World→Prop,Shut (∀ a' w',S w'→(S w'→wpAnyLast P md ops Q S ds fuel li a' w')→K a' w')→if Region.wanted oi (yielded ops a.tmps)=true then Oper.wp P oi a w K Q else K (a.put Ni undef) w)
 (h2:∀ K:Act→World→Prop,Shut (∀ a' w',S w'→(S w'→wpAnyLast P md ops Q S ds fuel lj a' w')→K a' w')→if Region.wanted oj (yielded ops a.tmps)=true then Oper.wp P oj a w K Q else K (a.put Nj undef) w):
 wpAnyLast P md ops Q S ds (fuel+1) l a w:=by
 subst hNi
 subst hNj
 simp only [Bool.and_eq_true,beq_iff_eq] at hc
 obtain ⟨⟨h3,h4⟩,h5⟩:=hc
 subst h4
 subst h5
 exact wpAnyLast_ready h3 (by simp) (AllReadyL.cons hi hdi (fun K hK=>h1 K hK) (AllReadyL.cons hj hdj (fun K hK=>h2 K hK) AllReadyL.nil))
def putAll:Act→List (Tmp×Value)→Act
 |a,[]=>a
 |a,(n,v)::r=>putAll (a.put (some n) v) r
theorem join_ {σ:Type} {fuel:Nat} {l:Array Bool} {a:Act} {w:World} (fuel':Nat) (l':Array Bool) (ns:σ→List (Tmp×Value)) (F:σ→World→Prop)
    (hcont:∀ s w',F s w'→wpAnyLast P md ops Q S ds fuel' l' (putAll a (ns s)) w')
    (h:(∀ s w',F s w'→wpAnyLast P md ops Q S ds fuel' l' (putAll a (ns s)) w')→wpAnyLast P md ops Q S ds fuel l a w):wpAnyLast P md ops Q S ds fuel l a w:=h hcont
theorem norm_ {fuel:Nat} {l:Array Bool} {a a':Act} {w:World} (ha:a=a') (h:wpAnyLast P md ops Q S ds fuel l a' w):wpAnyLast P md ops Q S ds fuel l a w:=by
 subst ha
 exact h
theorem call_ {oi:Oper} {N:Option Tmp} {a:Act} {w:World} {K:Act→World→Prop} (f:FuncId) (args:Array Value) (hw:Region.wanted oi (yielded ops a.tmps)=true) (hN:oi.dst=N) (hrun:(execOp a.eval oi).run P w= .ok (.enter f args) w)
 (h:Calls P f args w fun e w'=>∃ v,e= .returned v∧K (a.put N v) w'):if Region.wanted oi (yielded ops a.tmps)=true then Oper.wp P oi a w K Q else K (a.put N undef) w:=by
 rw [if_pos hw]
 subst hN
 unfold Oper.wp
 rw [hrun,Oper.upon_enter]
 refine h.mono fun e w'' hh=> ?_
 obtain ⟨v,rfl,hk⟩:=hh
 exact hk
theorem enters_ {f : FuncId} {fn : Func} (hf : P.funcs[f]? = some fn) (hname : (fn.name == "runtime.NumGoroutine") = false) (hb : fn.body.isSome = true) (args : Array Value) (w : World) : (callFunc f args).run P w = .ok (.enter f args) w := by
 have h1 : fn.name ≠ "runtime.NumGoroutine" := by simpa using hname
 obtain ⟨c,hc⟩:=Option.isSome_iff_exists.1 hb
 simp [callFunc,hf,h1,hc]
theorem goes_ {oi : Oper} {N : Option Tmp} {a : Act} {w : World} {K : Act → World → Prop} {f : FuncId} {fn : Func} {as0 : Array Operand} {ts : Array TypeId} (hf : P.funcs[f]? = some fn) (hname : (fn.name == "runtime.NumGoroutine") = false) (hb : fn.body.isSome = true) (args : Array Value)
 (hw:Region.wanted oi (yielded ops a.tmps)=true) (hN:oi.dst=N) (hop:oi.op= .call { callee:= .value (.func f),args:=as0,argTypes:=ts }) (hargs:as0.map a.eval=args)
 (h:Calls P f args w fun e w'=>∃ v,e= .returned v∧K (a.put N v) w'):if Region.wanted oi (yielded ops a.tmps)=true then Oper.wp P oi a w K Q else K (a.put N undef) w:=by
 refine call_ f args hw hN ?_ h
 have he:=enters_ hf hname hb args w
 unfold execOp
 simp [hop,resolve,Deferred.ofValue,invoke,Act.eval,hargs,he]
theorem goesL_ {rest : List Oper} {oi : Oper} {a : Act} {w : World} (N : Option Tmp) (hd : oi.dst = N) (hg : oi.guard = none) {f : FuncId} {fn : Func} {as0 : Array Operand} {ts : Array TypeId} (hf : P.funcs[f]? = some fn) (hname : (fn.name == "runtime.NumGoroutine") = false) (hb : fn.body.isSome = true) (args : Array Value)
 (hop:oi.op= .call { callee:= .value (.func f),args:=as0,argTypes:=ts }) (hargs:as0.map a.eval=args)
 (h:Calls P f args w fun e w'=>∃ v,e= .returned v∧wpList P ops Q rest (a.put N v) w'):wpList P ops Q (oi::rest) a w:=by
 refine wpList_plain hg fun K hK=> ?_
 have he:=enters_ hf hname hb args w
 have hrun:(execOp a.eval oi).run P w= .ok (.enter f args) w:=by {
 unfold execOp
 simp [hop,resolve,Deferred.ofValue,invoke,Act.eval,hargs,he]
 }
 unfold Oper.wp
 rw [hrun,Oper.upon_enter]
 refine h.mono fun e w'' hh=> ?_
 obtain ⟨v,rfl,hk⟩:=hh
 subst hd
 exact hK _ _ hk
theorem value_ {oi:Oper} {N:Option Tmp} {a:Act} {w w1:World} {v:Value} {K:Act→World→Prop} (hw:Region.wanted oi (yielded ops a.tmps)=true) (hN:oi.dst=N) (hrun:(execOp a.eval oi).run P w= .ok (.value v) w1)
 (h:K (a.put N v) w1):if Region.wanted oi (yielded ops a.tmps)=true then Oper.wp P oi a w K Q else K (a.put N undef) w:=by
 rw [if_pos hw]
 subst hN
 unfold Oper.wp
 rw [hrun]
 exact h
theorem skip_ {oi:Oper} {a:Act} {w w1:World} {K:Act→World→Prop} (hw:Region.wanted oi (yielded ops a.tmps)=true) (hN:oi.dst=none) (hrun:(execOp a.eval oi).run P w= .ok .skip w1)
 (h:K a w1):if Region.wanted oi (yielded ops a.tmps)=true then Oper.wp P oi a w K Q else K (a.put none undef) w:=by
 rw [if_pos hw]
 unfold Oper.wp
 rw [hrun]
 show K (a.put oi.dst undef) w1
 rw [hN]
 exact h
theorem i64_w (n:Int):IntKind.i64.wrap n=Go.RowKit.wrap64 n:=by unfold Go.RowKit.wrap64;exact IntKind.wrap_i64 n
theorem i32_w (n:Int):IntKind.i32.wrap n=Go.RowKit.wrap32 n:=by unfold Go.RowKit.wrap32;exact IntKind.wrap_i32 n
end
end Go.Proofs.YtdlolaognnbhpaaDoorW.PrintLast
namespace Go.Proofs.YtdlolaognnbhpaaDoorW.PrintWords
open Go.RowKit
namespace Kd
def tag {α:Type} (f:Nat→Nat) (d:Kd α):Kd (α×Nat) where
  sz:=d.sz
  E:=d.E
  K:=fun w x cs=>d.K w x.1 cs
  M:=fun w base ok x cs=>d.M w base (fun k=>ok k∧f k=x.2) x.1 cs
  K_len:=fun h=>d.K_len h
  K_one:=fun h=>d.K_one h
  K_below:=fun hb h=>d.K_below hb h
  K_of_M:=fun h=>d.K_of_M h
  M_mono:=fun hok h=>d.M_mono (fun k hk=>⟨hok k hk.1,hk.2⟩) h
  M_bound:=fun h=>d.M_mono (fun _ hk=>⟨⟨hk.1.1,hk.2⟩,hk.1.2⟩) (d.M_bound h)
  M_move:=fun hm h=>d.M_move (fun k hk=>hm k hk.1) h
  M_lower:=fun hb h=>d.M_lower hb h
def bare {α:Type} (d:Kd α):Kd α where
  sz:=d.sz
  E:=d.E
  K:=d.K
  M:=fun w base _ x cs=>d.M w base (fun _=>False) x cs
  K_len:=fun h=>d.K_len h
  K_one:=fun h=>d.K_one h
  K_below:=fun hb h=>d.K_below hb h
  K_of_M:=fun h=>d.K_of_M h
  M_mono:=fun _ h=>h
  M_bound:=fun h=>h
  M_move:=fun _ h=>d.M_move (fun _ hk=>hk.elim) h
  M_lower:=fun hb h=>d.M_lower hb h
def raw (sz:Nat):Kd (List Value) where
  sz:=sz
  E:=[]
  K:=fun _ x cs=>cs=x∧cs.length=sz∧∀ u∈cs,u.oneCell'=true
  M:=fun _ _ _ x cs=>cs=x∧cs.length=sz∧∀ u∈cs,u.oneCell'=true
  K_len:=fun h=>h.2.1
  K_one:=fun h=>h.2.2
  K_below:=fun _ h=>h
  K_of_M:=fun h=>h
  M_mono:=fun _ h=>h
  M_bound:=fun h=>h
  M_move:=fun _ h=>h
  M_lower:=fun _ h=>h
def S {α:Type} (d:Kd α) (e:Nat) (w:World) (base:Nat) (ok:Nat→Prop) (v:Value) (xs:List α):Prop:=∃ f,(tag f d).R e w base ok v xs.zipIdx
section
variable {α β : Type} {d : Kd α} {d' : Kd β} {e e' : Nat} {w w1 W : World} {base b : Nat} {ok ok' okv oku : Nat → Prop} {u v : Value} {xs : List α} {ys : List β}
theorem zip_at {xs:List α} {j:Nat} {p:α} (h:xs[j]?=some p):xs.zipIdx[j]?=some (p,j):=by rw [List.getElem?_zipIdx,h,Nat.zero_add];rfl
theorem S_R (h:S d e w base ok v xs):d.R e w base ok v xs:=by
 obtain ⟨f,h0,inner,ho,hr⟩:=h
 rw [List.length_zipIdx] at ho
 exact ⟨h0,inner,ho,by have:=hr.1;rw [List.length_zipIdx] at this;exact this,fun j p hj=>d.M_mono (fun _ hk=>hk.1) (hr.2 j (p,j) (zip_at hj))⟩
theorem R_head {ad:Addr} {n cap:Nat} (h:d.R e w base ok (.slice (some ad) n cap) xs):∃ g,ad=⟨g,0,none⟩:=by
 obtain ⟨_,inner,ho,hr⟩:=h
 rcases ho.2 with ⟨hv,_⟩|⟨g,cap',cur,hv,_⟩
 {
 cases hv
 }
 {
 injection hv with ha _ _
 injection ha with ha
 exact ⟨g,ha⟩
 }
theorem R_getA {ad:Addr} {n cap:Nat} (h:d.R e W base ok (.slice (some ad) n cap) xs) (z:α) (i:Int) (h0:0≤i) (h1:i<n):
 ∃ c,c.length=d.sz∧d.M W base (fun k=>ok k∧some k≠(Value.slice (some ad) n cap).ownBlock) (xs.getD i.toNat z) c∧∀ j u,c[j]?=some u→W.cell? (ad.add (i.toNat * d.sz+j))=some u:=by
 obtain ⟨g,rfl⟩:=R_head h
 obtain ⟨c,hcl,hM,hcc,_⟩:=R_elem h z i h0 h1
 refine ⟨c,hcl,d.M_mono (fun k hk=>⟨hk.1,fun he=>hk.2 (by simpa [Value.ownBlock] using he)⟩) hM,fun j u hu=> ?_⟩
 rw [add_at,Nat.zero_add]
 exact hcc j u hu
theorem R_tight (hE:d.E=[]) (h:d.R e w base ok v xs):d.R e w base (fun k=>some k=v.ownBlock) v xs:=by
 obtain ⟨h0,inner,ho,hr⟩:=h
 refine ⟨fun k hk=>hk.symm,inner,ho,hr.imp_ (fun p c hp=>d.M_mono (fun k hk=> ?_) (d.M_bound hp))⟩
 obtain ⟨_,_,_,q,hq,_⟩:=hk
 rw [hE] at hq
 cases hq
theorem S_nil (d:Kd α) (e:Nat) (w:World) (base:Nat) (ok:Nat→Prop):S d e w base ok (.slice none 0 0) []:=⟨fun _=>0,R_nil _ _ _ _ _⟩
theorem S_mono (h:S d e w base ok v xs) (hok:∀ k,ok k→ok' k):S d e w base ok' v xs:=by
 obtain ⟨f,h⟩:=h
 exact ⟨f,R_mono h hok⟩
theorem S_bound (h:S d e w base ok v xs):S d e w base (fun k=>ok k∧base≤k∧k<w.heap.size∧∃ q,q∈e::d.E∧∃ cells,w.heap[k]?=some (.cells cells q (0,0))) v xs:=by
 obtain ⟨f,h⟩:=h
 exact ⟨f,R_bound h⟩
theorem S_move (h:S d e w base ok v xs) (hm:∀ k,ok k→w1.heap[k]?=w.heap[k]?):S d e w1 base ok v xs:=by
 obtain ⟨f,h⟩:=h
 exact ⟨f,R_move h hm⟩
theorem S_lower {base':Nat} (h:S d e w base ok v xs) (hb:base'≤base):S d e w base' ok v xs:=by
 obtain ⟨f,h⟩:=h
 exact ⟨f,R_lower h hb⟩
theorem S_step (h:S d e w base ok v xs) (hm:∀ k,ok k→k<w.heap.size→w1.heap[k]?=w.heap[k]?):S d e w1 base ok v xs:=
  S_mono (S_move (S_bound h) (fun k hk=>hm k hk.1 hk.2.2.1)) (fun _ hk=>hk.1)
theorem S_below (h:S d e w base ok v xs) (hb:Below w.heap.size w w1):S d e w1 base ok v xs:=S_step h (fun k _ hk=>hb.block k hk)
theorem S_alloc (h:S d e w base ok v xs) (o:Obj):S d e (w.alloc o) base ok v xs:=S_below h (below_alloc (Below.refl _ _) o)
theorem S_drew (h:S d e w base ok v xs):S d e w.drew base ok v xs:=S_below h (below_drew (Below.refl _ _))
theorem S_drewN (h:S d e w base ok v xs) (m:Nat):S d e (w.drewN m) base ok v xs:=S_below h (pw_below_drewN (Below.refl _ _) m)
theorem S_far (h:S d e w base ok v xs) {p:Addr} (hok:∀ k,ok k→k≠p.block) (u:Value):S d e (w.setCell p u) base ok v xs:=S_step h (fun k ho _=>Below.heap_setCell w p u k (hok k ho))
theorem S_typed (h:S d e w base ok v xs):∀ k,v.ownBlock=some k→∃ cells,w.heap[k]?=some (.cells cells e (0,0)):=R_typed (S_R h)
theorem S_lt (h:S d e w base ok v xs):∀ k,v.ownBlock=some k→k<w.heap.size:=R_lt (S_R h)
theorem S_base (h:S d e w base ok v xs):∀ k,v.ownBlock=some k→base≤k:=R_base (S_R h)
theorem S_elder' (h:S d e W base ok u xs) (hbase:∀ k,v.ownBlock=some k→W.heap.size≤k) (hb:Below W.heap.size W w1):S d e w1 base (fun k=>ok k∧some k≠v.ownBlock) u xs:=by
 obtain ⟨f,h⟩:=h
 exact ⟨f,R_elder' h hbase hb⟩
theorem S_new' (h:S d e w1 W.heap.size ok v xs) (hlt:∀ k,u.ownBlock=some k→k<W.heap.size):S d e w1 W.heap.size (fun k=>ok k∧some k≠u.ownBlock) v xs:=by
 obtain ⟨f,h⟩:=h
 exact ⟨f,R_new' h hlt⟩
theorem S_bare (h:(bare d).R e w base ok v xs):S d e w base ok v xs:=by
 obtain ⟨h0,inner,ho,hr⟩:=h
 refine ⟨fun _=>0,h0,inner,by rw [List.length_zipIdx];exact ho,by rw [List.length_zipIdx];exact hr.1,fun j p hj=> ?_⟩
 rw [List.getElem?_zipIdx,Nat.zero_add] at hj
 obtain ⟨x,hx,rfl⟩:=Option.map_eq_some_iff.1 hj
 exact d.M_mono (fun _ hk=>hk.elim) (hr.2 j x hx)
theorem R_tag {f f':Nat→Nat} {zs:List (α×Nat)} (h:(tag f d).R e w base ok v zs) (hf:∀ k,ok k→k<w.heap.size→f' k=f k):(tag f' d).R e w base ok v zs:=by
 obtain ⟨h0,inner,ho,hr⟩:=R_bound h
 exact ⟨fun k hk=>(h0 k hk).1,inner,ho,hr.1,fun j p hj=>d.M_mono (fun k hk=>⟨⟨hk.1.1.1,hk.1.2⟩,(hf k hk.1.1.1 hk.1.1.2.2.1).trans hk.2⟩) (hr.2 j p hj)⟩
end
section
variable {α β : Type} {d : Kd α} {d' : Kd β} {e e' g : Nat} {w w1 W : World} {base b : Nat} {ok ok' okv oku : Nat → Prop} {u v : Value} {xs : List α} {ys : List β}
theorem S_away (h:S d e w base ok v xs) (hok:∀ k,ok k→k≠g):some g≠v.ownBlock:=R_away (S_R h) hok
theorem S_form (h:S d e w base ok v xs) (hp:0<xs.length):∃ g cap,v= .slice (some ⟨g,0,none⟩) xs.length cap∧base≤g∧g<w.heap.size∧∃ cells,w.heap[g]?=some (.cells cells e (0,0)):=R_form (S_R h) hp
theorem S_slice (h:S d e w base ok v xs):∃ A c,v= .slice A xs.length c:=R_slice (S_R h)
theorem S_reads' {A:Option Addr} {n c:Nat} (h:S d e w base ok (.slice A n c) xs):n=xs.length∧n≤c∧d.C w A xs.length xs:=R_reads' (S_R h)
theorem S_get {ad:Addr} {n cap:Nat} (h:S d e W base ok (.slice (some ad) n cap) xs) (z:α) (i:Int) (h0:0≤i) (h1:i<n):
    ∃ c,c.length=d.sz∧d.M W base (fun k=>ok k∧some k≠(Value.slice (some ad) n cap).ownBlock) (xs.getD i.toNat z) c∧∀ j u,c[j]?=some u→W.cell? (ad.add (i.toNat * d.sz+j))=some u:=R_getA (S_R h) z i h0 h1
theorem S_elderB (h:S d e w base ok v xs) (a:Nat) (ha:w.heap.size≤a):S d e w base (fun k=>ok k∧k≠a) v xs:=S_mono (S_bound h) (fun k hk=>⟨hk.1,by have:=hk.2.2.1;omega⟩)
theorem zip_snoc (xs:List α) (p:α):(xs++[p]).zipIdx=xs.zipIdx++[(p,xs.length)]:=by rw [List.zipIdx_append];simp
end
section
open Classical in
theorem S_tag {α:Type} {d:Kd α} {e base:Nat} {okv:Nat→Prop} {w:World} {v:Value} {xs:List α} (h:S d e w base okv v xs) (m:Nat) (okp:Nat→Prop) (hap:∀ k,okp k→ ¬ okv k):∃ f,(∀ k,okp k→f k=m)∧(tag f d).R e w base okv v xs.zipIdx:=by
 obtain ⟨f,h⟩:=h
 exact ⟨fun k=>if okp k then m else f k,fun k hk=>if_pos hk,R_tag h (fun k hk _=>if_neg (fun h2=>hap k h2 hk))⟩
variable {P : Program} {ops : Array Oper} {rest : List Oper} {o : Oper} {a : Act} {Q : Exit → Act → World → Prop} {Kc : Act → World → Prop} {α : Type}
theorem S_append (d:Kd α) {w0 W:World} (base:Nat) (hgd:o.guard=none) (s x:Operand) (t e:TypeId) (z:Value) (bytes:Nat)
 (ho:o.op= .call { callee:= .builtin .append,args:=#[s,x],argTypes:=#[t,t] })
 (ht:P.underlying t=some (.slice e)) (hinfo:(P.info? e).map (fun i=>(i.zero,i.size,i.bytes))=some (some z,d.sz,bytes)) (hz:z.cells.size=d.sz) (hs0:0<d.sz) (hb0:0<bytes)
 (v:Value) (xs:List α) (p:α) (cs:List Value) (ok okp:Nat→Prop) (hs:a.eval s=v) (hx:a.eval x= .slice (some ⟨W.heap.size,0,none⟩) 1 1) (hp:d.M W base okp p cs) (hokp:∀ k,okp k→ok k∧some k≠v.ownBlock) (hfresh:∀ k,W.heap.size≤k→ok k)
 (HO:S d e W base (fun k=>ok k∧ ¬ okp k) v xs) (HB:Below base w0 W) (hbase:base≤W.heap.size) (hl:(xs.length+1) * bytes≤140737488355328)
 (h:∀ v1 w1,S d e w1 base ok v1 (xs++[p])→Below base w0 w1→W.grownBy w1 v.ownBlock→(v1.ownBlock=v.ownBlock∨∃ b,v1.ownBlock=some b∧W.heap.size≤b)→wpList P ops Q rest (a.put o.dst v1) w1):
 wpList P ops Q (o::rest) a (W.alloc (.cells cs.toArray e)):=by
 obtain ⟨f,hf,hR⟩:=S_tag HO xs.length okp (fun _ hk h2=>h2.2 hk)
 refine R_append (tag f d) base hgd s x t e z bytes ho ht hinfo hz hs0 hb0 v xs.zipIdx (p,xs.length) cs ok okp hs hx (d.M_mono (fun k hk=>⟨hk,hf k hk⟩) hp) hokp hfresh (R_mono hR (fun _ hk=>hk.1)) HB hbase (by rw [List.length_zipIdx];exact hl) ?_
 intro v1 w1 hr
 rw [←zip_snoc] at hr
 exact h v1 w1 ⟨f,hr⟩
theorem S_make (d:Kd α) {w0 W:World} (base e:Nat) (hgd:o.guard=none) {N:Tmp} (hd:o.dst=some N) (t:TypeId) (x y:Operand) (ho:o.op= .makeSlice t x y) (n:Int) (hx:a.eval x= .int .i64 n) (hy:a.eval y= .int .i64 n)
    (ht:P.underlying t=some (.slice e)) (z:Value) (bytes:Nat) (hinfo:(P.info? e).map (fun i=>(i.zero,i.size,i.bytes))=some (some z,d.sz,bytes)) (hz:z.cells.size=d.sz) (hs0:0<d.sz) (hb0:0<bytes)
    (z0:α) {ok okp:Nat→Prop} (hzero:d.M W base (fun _=>False) z0 z.cells.toList) (_hok:∀ k,okp k→ok k) (hfresh:ok W.heap.size) (h0:0≤n) (hl:n.toNat * bytes≤281474976710656) (HB:Below base w0 W) (hbase:base≤W.heap.size)
    (h:∀ v1 w1,S d e w1 base ok v1 (List.replicate n.toNat z0)→Below base w0 w1→W.grownBy w1 none→(∃ b,v1.ownBlock=some b∧W.heap.size≤b)→wpList P ops Q rest (a.put o.dst v1) w1):wpList P ops Q (o::rest) a W:=
  R_make (bare d) base e hgd hd t x y ho n hx hy ht z bytes hinfo hz hs0 hb0 z0 (ok:=ok) (okp:=ok) hzero (fun _ hk=>hk) hfresh h0 hl HB hbase (fun v1 w1 hr=>h v1 w1 (S_bare hr))
end
def gap {α:Type} (f:Nat→Nat) (d:Kd α) (i:Nat) (c:List Value):Kd (α×Nat) where
  sz:=d.sz
  E:=d.E
  K:=fun w x cs=>(x.2=i→cs=c∧cs.length=d.sz∧∀ u∈cs,u.oneCell'=true)∧(x.2≠i→d.K w x.1 cs)
  M:=fun w base ok x cs=>(x.2=i→cs=c∧cs.length=d.sz∧∀ u∈cs,u.oneCell'=true)∧(x.2≠i→d.M w base (fun k=>ok k∧f k=x.2) x.1 cs)
  K_len:=fun {w x cs} h=>by
    by_cases hx:x.2=i
    · exact (h.1 hx).2.1
    · exact d.K_len (h.2 hx)
  K_one:=fun {w x cs} h=>by
    by_cases hx:x.2=i
    · exact (h.1 hx).2.2
    · exact d.K_one (h.2 hx)
  K_below:=fun hb h=>⟨h.1,fun hx=>d.K_below hb (h.2 hx)⟩
  K_of_M:=fun h=>⟨h.1,fun hx=>d.K_of_M (h.2 hx)⟩
  M_mono:=fun hok h=>⟨h.1,fun hx=>d.M_mono (fun k hk=>⟨hok k hk.1,hk.2⟩) (h.2 hx)⟩
  M_bound:=fun h=>⟨h.1,fun hx=>d.M_mono (fun _ hk=>⟨⟨hk.1.1,hk.2⟩,hk.1.2⟩) (d.M_bound (h.2 hx))⟩
  M_move:=fun hm h=>⟨h.1,fun hx=>d.M_move (fun k hk=>hm k hk.1) (h.2 hx)⟩
  M_lower:=fun hb h=>⟨h.1,fun hx=>d.M_lower hb (h.2 hx)⟩
def H {α:Type} (d:Kd α) (e:Nat) (w:World) (base:Nat) (ok:Nat→Prop) (v:Value) (xs:List α) (i:Int) (oki:Nat→Prop) (c:List Value):Prop:=
  (∀ k,oki k→ok k)∧∃ f,(gap f d i.toNat c).R e w base (fun k=>ok k∧ ¬ oki k) v xs.zipIdx
section
variable {α β : Type} {d : Kd α} {e e' g n cap : Nat} {w w1 W : World} {base : Nat} {ok ok' oki okp : Nat → Prop} {u v : Value} {xs : List α} {i : Int} {c : List Value}
theorem S_lend (h:S d e W base ok (.slice (some ⟨g,0,none⟩) n cap) xs) (z:α) (i:Int) (h0:0≤i) (h1:i<n):
 ∃ (oki:Nat→Prop) (c:List Value),c.length=d.sz∧d.M W base oki (xs.getD i.toNat z) c∧(∀ j u,c[j]?=some u→W.cell? ⟨g,i.toNat * d.sz+j,none⟩=some u)∧(∀ k,oki k→ok k∧k≠g)∧H d e W base ok (.slice (some ⟨g,0,none⟩) n cap) xs i oki c:=by
 obtain ⟨f,hR⟩:=h
 have hn:=(R_reads' hR).1
 rw [List.length_zipIdx] at hn
 have hgo:some g=(Value.slice (some ⟨g,0,none⟩) n cap).ownBlock:=by simp [Value.ownBlock]
 obtain ⟨hok0,inner,ho,hr⟩:=hR
 have hil:i.toNat<xs.length:=by omega
 have hlen:inner.length=xs.length * d.sz:=by have:=hr.1;rw [List.length_zipIdx] at this;exact this
 have hseg:i.toNat * d.sz+d.sz≤inner.length:=by rw [hlen,←Nat.succ_mul];exact Nat.mul_le_mul_right _ hil
 have hM:=hr.2 i.toNat _ (zip_at (List.getElem?_eq_getElem hil))
 have hkg:∀ k,some k≠(Value.slice (some ⟨g,0,none⟩) n cap).ownBlock→k≠g:=fun k hk he=>hk (by rw [he];exact hgo)
 refine ⟨fun k=>(ok k∧k≠g)∧f k=i.toNat,(inner.drop (i.toNat * d.sz)).take d.sz,by rw [List.length_take,List.length_drop];omega,?_,fun j u hu=> ?_,fun k hk=>hk.1,fun k hk=>hk.1.1,f,fun k hk=>⟨hok0 k hk,fun h2=>h2.1.2 ?_⟩,inner,ho,hr.1,fun m p hm=> ?_⟩
 {
 rw [List.getD_eq_getElem?_getD,List.getElem?_eq_getElem hil]
 exact d.M_mono (fun k hk=>⟨⟨hk.1.1,hkg k hk.1.2⟩,hk.2⟩) hM
 }
 {
 rw [List.getElem?_take] at hu
 split at hu
 {
 rw [List.getElem?_drop] at hu
 have:=ho.cells (g:=g) hgo.symm _ u hu
 rwa [add_plain] at this
 }
 {
 cases hu
 }
 }
 {
 rw [←hgo] at hk;injection hk with hk;exact hk.symm
 }
 {
 have hold:=hr.2 m p hm
 have hp2:p.2=m:=by {
 rw [List.getElem?_zipIdx,Nat.zero_add] at hm
 obtain ⟨q,_,rfl⟩:=Option.map_eq_some_iff.1 hm
 rfl
 }
 refine ⟨fun hx=> ?_,fun hx=>d.M_mono (fun k hk=>⟨⟨⟨hk.1.1,fun h2=>hx ?_⟩,hk.1.2⟩,hk.2⟩) hold⟩
 {
 have hmi:m=i.toNat:=by omega
 subst hmi
 exact ⟨rfl,d.K_len (d.K_of_M hM),d.K_one (d.K_of_M hM)⟩
 }
 {
 rw [←hk.2];exact h2.2
 }
 }
open Classical in
theorem H_back (h:H d e w base ok v xs i oki c) {x':α} (hM:d.M w base okp x' c) (hok:∀ k,okp k→oki k):S d e w base ok v (xs.set i.toNat x'):=by
 obtain ⟨ho,f,h0,inner,hown,hr⟩:=h
 refine ⟨fun k=>if oki k then i.toNat else f k,fun k hk=>(h0 k hk).1,inner,by rw [List.length_zipIdx,List.length_set];rw [List.length_zipIdx] at hown;exact hown,by have:=hr.1;rw [List.length_zipIdx] at this;rw [List.length_zipIdx,List.length_set];exact this,fun m p hm=> ?_⟩
 rw [List.getElem?_zipIdx,Nat.zero_add] at hm
 obtain ⟨q,hq,rfl⟩:=Option.map_eq_some_iff.1 hm
 have hml:m<xs.length:=by {
 have:=(List.getElem?_eq_some_iff.1 hq).1
 rwa [List.length_set] at this
 }
 by_cases hmi:m=i.toNat
 {
 subst hmi
 rw [List.getElem?_set_self hml] at hq
 injection hq with hq
 subst hq
 have hc:=((hr.2 i.toNat _ (zip_at (List.getElem?_eq_getElem hml))).1 rfl).1
 show d.M w base _ x' ((inner.drop (i.toNat * d.sz)).take d.sz)
 rw [show (inner.drop (i.toNat * d.sz)).take d.sz=c from hc]
 exact d.M_mono (fun k hk=>⟨⟨ho k (hok k hk),fun he=>(h0 k he.symm).2 (hok k hk)⟩,if_pos (hok k hk)⟩) hM
 }
 {
 rw [List.getElem?_set_ne (Ne.symm hmi)] at hq
 exact d.M_mono (fun k hk=>⟨⟨hk.1.1.1,hk.1.2⟩,(if_neg hk.1.1.2).trans hk.2⟩) ((hr.2 m (q,m) (zip_at hq)).2 hmi)
 }
theorem H_step (h:H d e w base ok v xs i oki c) (hm:∀ k,ok k→ ¬ oki k→k<w.heap.size→w1.heap[k]?=w.heap[k]?):H d e w1 base ok v xs i oki c:=by
 obtain ⟨ho,f,h⟩:=h
 exact ⟨ho,f,R_step h (fun k hk hlt=>hm k hk.1 hk.2 hlt)⟩
theorem H_grown (h:H d e w base ok v xs i oki c) {row:Option Nat} (hg:w.grownBy w1 row) (hrow:∀ k,row=some k→oki k):H d e w1 base ok v xs i oki c:=
  H_step h (fun k _ hn hlt=>hg.block k hlt (fun he=>hn (hrow k he.symm)))
theorem H_more {okg:Nat→Prop} (h:H d e w base (fun k=>ok k∧ ¬ okg k) v xs i oki c) (hg:∀ k,okg k→ok k):H d e w base ok v xs i (fun k=>oki k∨okg k) c:=by
 obtain ⟨ho,f,h⟩:=h
 exact ⟨fun k hk=>hk.elim (fun h2=>(ho k h2).1) (hg k),f,R_mono h (fun k hk=>⟨hk.1.1,fun h2=>h2.elim hk.2 hk.1.2⟩)⟩
theorem S_borrow {ad:Addr} (h:S d e W base ok (.slice (some ad) n cap) xs) (z:α) (i:Int) (h0:0≤i) (h1:i<n):
 ∃ (oki:Nat→Prop) (c:List Value),c.length=d.sz∧d.M W base oki (xs.getD i.toNat z) c∧(∀ j u,c[j]?=some u→W.cell? (ad.add (i.toNat * d.sz+j))=some u)∧(∀ k,oki k→ok k∧some k≠(Value.slice (some ad) n cap).ownBlock)∧
 ∀ {w1:World} {row:Option Nat} {x':α},W.grownBy w1 row→(∀ k,row=some k→oki k)→d.M w1 base oki x' c→S d e w1 base ok (.slice (some ad) n cap) (xs.set i.toNat x'):=by
 obtain ⟨g,rfl⟩:=R_head (S_R h)
 obtain ⟨oki,c,hcl,hM,hcc,hoki,hH⟩:=S_lend h z i h0 h1
 refine ⟨oki,c,hcl,hM,fun j u hu=> ?_,fun k hk=>⟨(hoki k hk).1,fun he=>(hoki k hk).2 ?_⟩,fun hg hrow hM1=>H_back (H_grown hH hg hrow) hM1 (fun _ hk=>hk)⟩
 {
 rw [add_at,Nat.zero_add]
 exact hcc j u hu
 }
 {
 simpa [Value.ownBlock] using he
 }
theorem S_elem (h:S d e W base ok (.slice (some ⟨g,0,none⟩) n cap) xs) (z:α) (i:Int) (h0:0≤i) (h1:i<n):
 ∃ (oki:Nat→Prop) (c:List Value),c.length=d.sz∧d.M W base oki (xs.getD i.toNat z) c∧(∀ j u,c[j]?=some u→W.cell? ⟨g,i.toNat * d.sz+j,none⟩=some u)∧(∀ j,W.frozen? ⟨g,i.toNat * d.sz+j,none⟩=false)∧(∀ k,oki k→ok k∧k≠g)∧H d e W base ok (.slice (some ⟨g,0,none⟩) n cap) xs i oki c:=by
 obtain ⟨_,_,_,_,hfr⟩:=R_elem (S_R h) z i h0 h1
 obtain ⟨oki,c,hcl,hM,hcc,hoki,hH⟩:=S_lend h z i h0 h1
 exact ⟨oki,c,hcl,hM,hcc,hfr,hoki,hH⟩
theorem H_raw (h:H d e W base ok (.slice (some ⟨g,0,none⟩) n cap) xs i oki c) (h0:0≤i) (h1:i<n):
 ∃ rows:List (List Value),rows.length=xs.length∧(raw d.sz).R e W base (fun _=>True) (.slice (some ⟨g,0,none⟩) n cap) rows∧c.length=d.sz∧(∀ u∈c,u.oneCell'=true)∧(∀ j u,c[j]?=some u→W.cell? ⟨g,i.toNat * d.sz+j,none⟩=some u)∧
 ∀ w1 c',W.grownBy w1 (some g)→(raw d.sz).R e w1 base (fun _=>True) (.slice (some ⟨g,0,none⟩) n cap) (rows.set i.toNat c')→H d e w1 base ok (.slice (some ⟨g,0,none⟩) n cap) xs i oki c':=by
 obtain ⟨hoo,f,hR⟩:=h
 have hn:=(R_reads' hR).1
 rw [List.length_zipIdx] at hn
 have hgo:some g=(Value.slice (some ⟨g,0,none⟩) n cap).ownBlock:=by simp [Value.ownBlock]
 obtain ⟨hok0,inner,ho,hr⟩:=hR
 have hil:i.toNat<xs.length:=by omega
 have hlen:inner.length=xs.length * d.sz:=by have:=hr.1;rw [List.length_zipIdx] at this;exact this
 have hkg:∀ k,some k≠(Value.slice (some ⟨g,0,none⟩) n cap).ownBlock→k≠g:=fun k hk he=>hk (by rw [he];exact hgo)
 have hci:=(hr.2 i.toNat _ (zip_at (List.getElem?_eq_getElem hil))).1 rfl
 rw [hci.1] at hci
 have hc:=((hr.2 i.toNat _ (zip_at (List.getElem?_eq_getElem hil))).1 rfl).1
 refine ⟨(List.range xs.length).map fun j=>(inner.drop (j * d.sz)).take d.sz,by rw [List.length_map,List.length_range],⟨fun _ _=>trivial,inner,?_,?_,fun j p hj=> ?_⟩,hci.2.1,hci.2.2,fun j u hu=> ?_,fun w1 c' hg hraw=> ?_⟩
 {
 rw [List.length_map,List.length_range];rw [List.length_zipIdx] at ho;exact ho
 }
 {
 rw [List.length_map,List.length_range];exact hlen
 }
 {
 rw [List.getElem?_map] at hj
 obtain ⟨j',hj',rfl⟩:=Option.map_eq_some_iff.1 hj
 obtain ⟨hl,he⟩:=List.getElem?_eq_some_iff.1 hj'
 rw [List.getElem_range] at he
 subst he
 rw [List.length_range] at hl
 have hm:=(gap f d i.toNat c).K_of_M (hr.2 j _ (zip_at (List.getElem?_eq_getElem hl)))
 exact ⟨rfl,(gap f d i.toNat c).K_len hm,(gap f d i.toNat c).K_one hm⟩
 }
 {
 rw [←hc,List.getElem?_take] at hu
 split at hu
 {
 rw [List.getElem?_drop] at hu
 have:=ho.cells (g:=g) hgo.symm _ u hu
 rwa [add_plain] at this
 }
 {
 cases hu
 }
 }
 {
 obtain ⟨_,inner',ho',hr'⟩:=hraw
 have hl':inner'.length=xs.length * d.sz:=by have:=hr'.1;rw [List.length_set,List.length_map,List.length_range] at this;exact this
 rw [List.length_set,List.length_map,List.length_range] at ho'
 refine ⟨hoo,f,hok0,inner',by rw [List.length_zipIdx];exact ho',by rw [List.length_zipIdx];exact hl',fun m p hm=> ?_⟩
 rw [List.getElem?_zipIdx,Nat.zero_add] at hm
 obtain ⟨q,hq,rfl⟩:=Option.map_eq_some_iff.1 hm
 have hml:m<xs.length:=(List.getElem?_eq_some_iff.1 hq).1
 have hold:=hr.2 m (q,m) (zip_at hq)
 refine ⟨fun hx=> ?_,fun hx=> ?_⟩
 {
 have hx':m=i.toNat:=hx
 subst hx'
 exact hr'.2 i.toNat c' (List.getElem?_set_self (by rw [List.length_map,List.length_range];exact hml))
 }
 {
 have hx':m≠i.toNat:=hx
 have hcm:=(hr'.2 m ((inner.drop (m * d.sz)).take d.sz) (by
   rw [List.getElem?_set_ne (Ne.symm hx'),List.getElem?_map,List.getElem?_eq_getElem (by rw [List.length_range];exact hml),List.getElem_range]
   rfl)).1
 show d.M w1 base _ q ((inner'.drop (m * d.sz)).take d.sz)
 rw [show (inner'.drop (m * d.sz)).take d.sz=_ from hcm]
 exact d.M_mono (fun k hk=>hk.1) (d.M_move (w1:=w1) (fun k hk=>hg.block k hk.2.2.1 (fun he=>hkg k hk.1.1.2 (by injection he))) (d.M_bound (hold.2 hx)))
 }
 }
theorem H_seg (h:H d e W base ok (.slice (some ⟨g,0,none⟩) n cap) xs i oki c) (h0:0≤i) (h1:i<n) {seg:List Value} {j:Nat} (hj:j+seg.length≤d.sz) (hone:∀ q∈seg,q.oneCell'=true):
 H d e (W.setCells g (i.toNat * d.sz+j) seg) base ok (.slice (some ⟨g,0,none⟩) n cap) xs i oki (c.take j++seg++c.drop (j+seg.length))∧W.grownBy (W.setCells g (i.toNat * d.sz+j) seg) (some g):=by
 obtain ⟨rows,_,hraw,hcl,hco,hcc,hback⟩:=H_raw h h0 h1
 obtain ⟨h2,h3⟩:=R_seg hraw i h0 h1 (c:=c) (seg:=seg) (j:=j) (x':=c.take j++seg++c.drop (j+seg.length)) (okp:=fun _=>False) hcl hcc hj
   ⟨rfl,by
     show (c.take j++seg++c.drop (j+seg.length)).length=d.sz
     simp only [List.length_append,List.length_take,List.length_drop];omega,fun u hu=>by
     rcases List.mem_append.1 hu with hu|hu
     · rcases List.mem_append.1 hu with hu|hu
       · exact hco u (List.mem_of_mem_take hu)
       · exact hone u hu
     · exact hco u (List.mem_of_mem_drop hu)⟩ (fun _ hk=>hk.elim)
 exact ⟨hback _ _ h3 h2,h3⟩
theorem S_seg {okg:Nat→Prop} (hH:H d e W base (fun k=>ok k∧ ¬ okg k) (.slice (some ⟨g,0,none⟩) n cap) xs i oki c) (h0:0≤i) (h1:i<n) {seg:List Value} {j:Nat} (hj:j+seg.length≤d.sz)
 {x':α} (hM:d.M W base okp x' (c.take j++seg++c.drop (j+seg.length))) (hokp:∀ k,okp k→oki k∨okg k) (hg:∀ k,okg k→ok k∧k≠g):
 S d e (W.setCells g (i.toNat * d.sz+j) seg) base ok (.slice (some ⟨g,0,none⟩) n cap) (xs.set i.toNat x')∧W.grownBy (W.setCells g (i.toNat * d.sz+j) seg) (some g):=by
 have hne:∀ k,oki k∨okg k→k≠g:=by {
 intro k hk he
 subst he
 rcases hk with hk|hk
 {
 obtain ⟨_,f,hR⟩:=hH
 exact (hR.1 k (by simp [Value.ownBlock])).2 hk
 }
 {
 exact (hg k hk).2 rfl
 }
 }
 obtain ⟨h2,h3⟩:=H_seg (H_more hH (fun k hk=>(hg k hk).1)) h0 h1 hj (fun q hq=>d.K_one (d.K_of_M hM) q (List.mem_append_left _ (List.mem_append_right _ hq)))
 exact ⟨H_back h2 (M_step hM (fun k hk hlt=>h3.block k hlt (fun he=>hne k (hokp k hk) (by injection he)))) hokp,h3⟩
end
section
variable {P : Program} {ops : Array Oper} {rest : List Oper} {o : Oper} {a : Act} {Q : Exit → Act → World → Prop} {α : Type}
end
end Kd
end Go.Proofs.YtdlolaognnbhpaaDoorW.PrintWords
namespace Go.Proofs.YtdlolaognnbhpaaDoorW.PrintWords
open Go.RowKit
namespace Kd
structure Heap {α:Type} (d:Kd α):Prop where
 K:∀ {w w1:World} {x:α} {cs:List Value},(∀ k,k<w.heap.size→w1.heap[k]?=w.heap[k]?)→d.K w x cs→d.K w1 x cs
theorem cell_heap {w w1:World} (hb:∀ k,k<w.heap.size→w1.heap[k]?=w.heap[k]?) {a:Addr} {v:Value} (h:w.cell? a=some v):w1.cell? a=some v:=by
 have:=hb a.block (World.block_lt_of_cell? w a h)
 simpa [World.cell?,this] using h
theorem Heap.C {α:Type} {d:Kd α} (hd:Heap d) {w w1:World} {A:Option Addr} {n:Nat} {xs:List α} (hb:∀ k,k<w.heap.size→w1.heap[k]?=w.heap[k]?) (h:d.C w A n xs):d.C w1 A n xs:=
  ⟨h.1,h.2.1,fun hn=>by
    obtain ⟨ad,e,hc⟩:=h.2.2 hn
    refine ⟨ad,e,fun j p hj=> ?_⟩
    obtain ⟨c,hs,hr,hcell⟩:=hc j p hj
    exact ⟨c,hs,hd.K hb hr,fun i u hu=>cell_heap hb (hcell i u hu)⟩⟩
theorem heap_int (k:IntKind):Heap (Kd.int k):=⟨fun _ h=>h⟩
theorem heap_string:Heap Kd.string:=⟨fun _ h=>h⟩
theorem heap_slice {α:Type} {d:Kd α} (e:Nat) (hd:Heap d):Heap (slice e d):=⟨by
  rintro w w1 x cs hb ⟨A,c,rfl,hl,hr⟩
  exact ⟨A,c,rfl,hl,hd.C hb hr⟩⟩
theorem heap_pair {α β:Type} {a:Kd α} {b:Kd β} (ha:Heap a) (hb':Heap b):Heap (pair a b):=⟨by
  rintro w w1 x cs hb ⟨c0,c1,rfl,h0,h1⟩
  exact ⟨c0,c1,rfl,ha.K hb h0,hb'.K hb h1⟩⟩
theorem heap_iso {α β:Type} {d:Kd α} (f:β→α) (hd:Heap d):Heap (iso d f):=⟨fun hb h=>hd.K hb h⟩
section
variable {α : Type} {d : Kd α} {e base g n c : Nat} {ok : Nat → Prop} {w w0 W : World} {A : Option Addr} {xs : List α}
end
end Kd
end Go.Proofs.YtdlolaognnbhpaaDoorW.PrintWords
namespace Go.Proofs.YtdlolaognnbhpaaDoorW.PrintWords
open Go.RowKit
def Kept (w W:World) (S:Nat→Prop):Prop:=w.heap.size≤W.heap.size∧∀ i,i<w.heap.size→ ¬ S i→W.heap[i]?=w.heap[i]?
section
variable {w W W2 : World} {S S2 S' : Nat → Prop}
theorem Kept.refl (w:World) (S:Nat→Prop):Kept w w S:=⟨Nat.le_refl _,fun _ _ _=>rfl⟩
theorem Kept.of_below (h:Below w.heap.size w W) (S:Nat→Prop):Kept w W S:=⟨h.size,fun i hi _=>h.block i hi⟩
theorem Kept.mono (h:Kept w W S) (hs:∀ k,S k→S' k):Kept w W S':=⟨h.1,fun i hi hn=>h.2 i hi (fun hk=>hn (hs i hk))⟩
theorem Kept.then_ (h:Kept w W S) (k:Kept W W2 S2) (hs:∀ k,S2 k→S k∨w.heap.size≤k):Kept w W2 S:=
  ⟨Nat.le_trans h.1 k.1,fun i hi hn=>(k.2 i (Nat.lt_of_lt_of_le hi h.1) (fun h2=>(hs i h2).elim hn (fun h3=>by omega))).trans (h.2 i hi hn)⟩
theorem Kept.below (h:Kept w W S) (hb:Below W.heap.size W W2):Kept w W2 S:=h.then_ (Kept.of_below hb (fun _=>False)) (fun _ hk=>hk.elim)
theorem Kept.alloc (h:Kept w W S) (o:Obj):Kept w (W.alloc o) S:=h.below (below_alloc (Below.refl _ _) o)
theorem Kept.drew (h:Kept w W S):Kept w W.drew S:=h
theorem Kept.drewN (h:Kept w W S) (m:Nat):Kept w (W.drewN m) S:=h
theorem Kept.setCell (h:Kept w W S) {p:Addr} (hp:S p.block∨w.heap.size≤p.block) (u:Value):Kept w (W.setCell p u) S:=
  h.then_ (S2:=fun k=>k=p.block) ⟨by simp [World.setCell],fun i _ hn=>Below.heap_setCell W p u i hn⟩ (fun k hk=>by rw [hk];exact hp)
theorem Kept.keep {g:Nat} (h:KeepBut w W g none) (k:Kept W W2 S2) (hs:∀ k,S2 k→w.heap.size≤k):KeepBut w W2 g none:=
  ⟨Nat.le_trans h.1 k.1,fun i hi hg hr=>(k.2 i (Nat.lt_of_lt_of_le hi h.1) (fun h2=>by have:=hs i h2;omega)).trans (h.2 i hi hg hr)⟩
end
namespace Kd
section
variable {α : Type} {d : Kd α} {e base n c : Nat} {ok oki S S2 : Nat → Prop} {w w0 W W1 W2 : World} {v : Value} {A : Option Addr} {xs : List α} {i : Int} {cs : List Value}
end
end Kd
end Go.Proofs.YtdlolaognnbhpaaDoorW.PrintWords
namespace Go.Proofs.YtdlolaognnbhpaaDoorW.PrintWords
open Go.RowKit
def Foot (P:World→Prop) (W:World) (ok:Nat→Prop):Prop:=∀ W':World,(∀ k,ok k→k<W.heap.size→W'.heap[k]?=W.heap[k]?)→P W'
theorem heap_lt {W W1:World} {k:Nat} (h:W1.heap[k]?=W.heap[k]?) (hlt:k<W.heap.size):k<W1.heap.size:=by
 rw [Array.getElem?_eq_getElem hlt] at h
 exact (Array.getElem?_eq_some_iff.1 h).1
namespace Foot
variable {P Q : World → Prop} {W W1 : World} {ok ok' : Nat → Prop}
theorem now (h:Foot P W ok):P W:=h W (fun _ _ _=>rfl)
theorem mono (h:Foot P W ok) (hok:∀ k,ok k→ok' k):Foot P W ok':=fun W' hW=>h W' (fun k hk hlt=>hW k (hok k hk) hlt)
theorem bound (h:Foot P W ok):Foot P W (fun k=>ok k∧k<W.heap.size):=fun W' hW=>h W' (fun k hk hlt=>hW k ⟨hk,hlt⟩ hlt)
theorem step (h:Foot P W ok) (hm:∀ k,ok k→k<W.heap.size→W1.heap[k]?=W.heap[k]?):Foot P W1 ok:=fun W' hW=>h W' (fun k hk hlt=>(hW k hk (heap_lt (hm k hk hlt) hlt)).trans (hm k hk hlt))
theorem imp (h:Foot P W ok) (hi:∀ W',P W'→Q W'):Foot Q W ok:=fun W' hW=>hi W' (h W' hW)
theorem old (h:Foot P W ok) (hb:Below W.heap.size W W1):Foot P W1 (fun k=>ok k∧k<W.heap.size):=(h.bound).step (fun k _ hlt=>hb.block k hlt)
end Foot
namespace Kd
def F {α:Type} (d:Kd α) (W:World) (ok:Nat→Prop) (A:Option Addr) (n:Nat) (xs:List α):Prop:=Foot (fun W=>d.C W A n xs) W ok
def FK {α:Type} (d:Kd α) (W:World) (ok:Nat→Prop) (x:α) (c:List Value):Prop:=Foot (fun W=>d.K W x c) W ok
section
variable {α β : Type} {d : Kd α} {e base n n' cc g N : Nat} {ok ok' okp S : Nat → Prop} {w w0 w1 W W1 : World} {A A' : Option Addr} {u v v1 : Value} {xs : List α} {xs' : List β} {d' : Kd β} {x : α} {c : List Value}
theorem F_now (h:F d W ok A n xs):d.C W A n xs:=Foot.now h
theorem F_mono (h:F d W ok A n xs) (hok:∀ k,ok k→ok' k):F d W ok' A n xs:=Foot.mono h hok
theorem F_bound (h:F d W ok A n xs):F d W (fun k=>ok k∧k<W.heap.size) A n xs:=Foot.bound h
theorem F_step (h:F d W ok A n xs) (hm:∀ k,ok k→k<W.heap.size→W1.heap[k]?=W.heap[k]?):F d W1 ok A n xs:=Foot.step h hm
theorem F_below (h:F d W ok A n xs) (hb:Below W.heap.size W W1):F d W1 ok A n xs:=F_step h (fun k _ hlt=>hb.block k hlt)
theorem F_alloc (h:F d W ok A n xs) (o:Obj):F d (W.alloc o) ok A n xs:=F_below h (below_alloc (Below.refl _ _) o)
theorem F_drew (h:F d W ok A n xs):F d W.drew ok A n xs:=F_below h (below_drew (Below.refl _ _))
theorem F_drewN (h:F d W ok A n xs) (m:Nat):F d (W.drewN m) ok A n xs:=F_below h (pw_below_drewN (Below.refl _ _) m)
theorem F_far (h:F d W ok A n xs) {p:Addr} (hok:∀ k,ok k→k≠p.block) (u:Value):F d (W.setCell p u) ok A n xs:=F_step h (fun k hk _=>Below.heap_setCell W p u k (hok k hk))
theorem F_nil (d:Kd α) (W:World) (ok:Nat→Prop):F d W ok none ([]:List α).length []:=fun W' _=>C_nil d W'
theorem F_elder' (h:F d W ok A n xs) (hbase:∀ k,v.ownBlock=some k→W.heap.size≤k) (hb:Below W.heap.size W W1):F d W1 (fun k=>ok k∧some k≠v.ownBlock) A n xs:=
  F_mono (Foot.old h hb) (fun k hk=>⟨hk.1,fun he=>by have:=hbase k he.symm;have:=hk.2;omega⟩)
theorem F_elderB (h:F d W ok A n xs) (a:Nat) (ha:W.heap.size≤a):F d W (fun k=>ok k∧k≠a) A n xs:=F_mono (F_bound h) (fun k hk=>⟨hk.1,by have:=hk.2;omega⟩)
theorem F_after (h:F d W (fun k=>ok k∧some k≠v.ownBlock) A n xs) (hg:W.grownBy W1 v.ownBlock) (hat:v1.ownBlock=v.ownBlock∨∃ b,v1.ownBlock=some b∧W.heap.size≤b):F d W1 (fun k=>ok k∧some k≠v1.ownBlock) A n xs:=by
 refine F_mono (Foot.step (F_bound h) (fun k hk hlt=>hg.block k hlt hk.1.2)) (fun k hk=>⟨hk.1.1,?_⟩)
 rcases hat with hat|⟨b,hb,hle⟩
 {
 rw [hat];exact hk.1.2
 }
 {
 rw [hb]
 intro he
 injection he with he
 have:=hk.2
 omega
 }
theorem C_F (hd:Heap d) (h:d.C w A n xs):F d w (fun k=>k<w.heap.size) A n xs:=fun _ hW=>hd.C (fun k hlt=>hW k hlt hlt) h
theorem R_F (h:d.R e W base ok (.slice A n cc) xs):F d W ok A n xs:=fun W' hW=>by
  have h2:=R_reads' (R_step h hW)
  rw [h2.1]
  exact h2.2.2
theorem FK_now (h:FK d W ok x c):d.K W x c:=Foot.now h
theorem FK_mono (h:FK d W ok x c) (hok:∀ k,ok k→ok' k):FK d W ok' x c:=Foot.mono h hok
theorem FK_bound (h:FK d W ok x c):FK d W (fun k=>ok k∧k<W.heap.size) x c:=Foot.bound h
theorem FK_step (h:FK d W ok x c) (hm:∀ k,ok k→k<W.heap.size→W1.heap[k]?=W.heap[k]?):FK d W1 ok x c:=Foot.step h hm
theorem FK_of_M (h:d.M W base ok x c):FK d W ok x c:=fun _ hW=>d.K_of_M (M_step h hW)
theorem emptied (W:World) (g:Nat):∃ W':World,(∀ k,k≠g→W'.heap[k]?=W.heap[k]?)∧∀ a:Addr,a.block=g→W'.cell? a=none:=by
 refine ⟨{ W with heap:=W.heap.setIfInBounds g (.cells #[] 0) },fun k hk=>by simp [Ne.symm hk],fun a ha=> ?_⟩
 subst ha
 by_cases hlt:a.block<W.heap.size
 {
 simp [World.cell?,hlt]
 }
 {
 simp [World.cell?,hlt]
 }
end
end Kd
end Go.Proofs.YtdlolaognnbhpaaDoorW.PrintWords
