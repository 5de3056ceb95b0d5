/- A part of the proof of laws of this seat: PatchBack, PatchDiff, PatchLeast, PatchMetric. Conditions: none of our own. -/
import Derived.ChangeArms
import Derived.ChangeSlices
import Derived.SizedLaws
import Derived.WideShapes
import Derived.Test.YtdlolaognnbhpaaDoorK0
namespace Go.Proofs.YtdlolaognnbhpaaDoor
open Go.RowKit Go.Proofs.YtdlolaognnbhpaaDoorW.PrintWords
def Opens (P:Program) (t:TypeId) {α:Type} (d:Kd α) (ok:α→Prop):Prop:=
  ∀ (H:Type) (enc:TypeId×Value→H) (W:World) (fuel:Nat) (cs:List Value) (x:DataW H×List MemPlace),
    DataW.trod enc P W 0 (fun _=>true) true fuel t cs=some x→(∀ n∈x.1.weights P t,n≤reachBytes)→∃ y,d.K W y cs∧ok y
namespace Opens
variable {P : Program} {t : TypeId}
theorem mono {α:Type} {d:Kd α} {ok ok':α→Prop} (h:Opens P t d ok) (k:∀ y,ok y→ok' y):Opens P t d ok':=fun H enc W fuel cs x hx hw=>by
  obtain ⟨y,h1,h2⟩:=h H enc W fuel cs x hx hw
  exact ⟨y,h1,k y h2⟩
theorem int {k:IntKind} (ht:P.underlying t=some (.int k)):Opens P t (Kd.int k) (fun n=>(Lit.int k n).wf=true):=fun H enc W fuel cs x hx _=>by
  obtain ⟨n,rfl,_,hn⟩:=DataW.trod_int ht hx
  exact ⟨n,rfl,hn⟩
theorem string (ht:P.underlying t=some .string):Opens P t Kd.string (fun s=>s.size≤140737488351232):=fun H enc W fuel cs x hx hw=>by
  obtain ⟨s,rfl,rfl,_⟩:=DataW.trod_string ht hx
  refine ⟨s,rfl,?_⟩
  have:=hw s.data.toList.length (by simp [DataW.weights])
  rw [Array.length_toList] at this
  exact this
theorem weights_all {H:Type} {e:TypeId} {n:Nat}:∀ {ds:List (DataW H)} {d:DataW H},d∈ds→n∈d.weights P e→n∈DataW.weightsAll P e ds
 |d0::ds,d,hd,hn=>by {
 rw [DataW.weightsAll,List.mem_append]
 rcases List.mem_cons.1 hd with rfl|hd
 {
 exact .inl hn
 }
 {
 exact .inr (weights_all hd hn)
 }
 }
theorem choose_list {α:Type} {Q:Nat→α→Prop}:∀ n,(∀ i,i<n→∃ y,Q i y)→∃ l:List α,l.length=n∧∀ i y,l[i]?=some y→Q i y
 |0,_=>⟨[],rfl,fun i y h=>by simp at h⟩
 |n+1,h=>by {
 obtain ⟨l,hl,hq⟩:=choose_list n (fun i hi=>h i (by omega))
 obtain ⟨y,hy⟩:=h n (by omega)
 refine ⟨l++[y],by simp [hl],fun i z hz=> ?_⟩
 rcases Nat.lt_or_ge i n with hi|hi
 {
 rw [List.getElem?_append_left (by omega)] at hz
 exact hq i z hz
 }
 {
 have:i=n:=by {
 have:=(List.getElem?_eq_some_iff.1 hz).1
 rw [List.length_append,List.length_singleton] at this
 omega
 }
 subst this
 rw [List.getElem?_append_right (by omega),hl,Nat.sub_self] at hz
 simp only [List.getElem?_cons_zero,Option.some.injEq] at hz
 subst hz
 exact hy
 }
 }
theorem slice {α:Type} {d:Kd α} {ok:α→Prop} {e:TypeId} {B:Nat} (ht:P.underlying t=some (.slice e)) (he:Opens P e d ok) (hc:P.cellsOf e=d.sz) (hB:P.bytesOf e=B):
    Opens P t (Kd.slice e d) (fun l=>l.length * B≤140737488351232∧∀ y∈l,ok y):=fun H enc W fuel cs x hx hw=>by
  rcases DataW.trod_slice ht hx with ⟨rfl,rfl⟩|⟨a,len,cap,elems,rest,n,_,rfl,rfl,hb,hl,hm,hlen,hel,_,_⟩
  · refine ⟨[],⟨none,0,rfl,Nat.le_refl _,rfl,by simp,fun h=>absurd h (by simp)⟩,by simp,fun y hy=>by simp at hy⟩
  · have each:∀ i,i<len→∃ y,ok y∧∃ c,c.length=d.sz∧d.K W y c∧∀ j u,c[j]?=some u→W.cell? (a.add (i * d.sz+j))=some u:=by
      intro i hi
      have h1:=hel i hi
      rw [List.getElem?_eq_getElem (by omega),Option.bind_eq_some_iff] at h1
      obtain ⟨c,hcs,hy⟩:=h1
      obtain ⟨_,hcl,hcell⟩:=World.cells?_some hcs
      obtain ⟨y,hK,hok⟩:=he H enc W n c _ hy (fun m hm=>by
        refine hw m ?_
        simp only [DataW.weights,ht,List.mem_cons,List.mem_append]
        exact .inr (.inl (weights_all (List.mem_map.2 ⟨_,List.getElem_mem (by omega),rfl⟩) hm)))
      refine ⟨y,hok,c,by rw [hcl,hc],hK,fun j u hu=> ?_⟩
      have hj:j<P.cellsOf e:=by
        have:=(List.getElem?_eq_some_iff.1 hu).1
        omega
      have h2:=hcell j (by omega)
      rw [hu] at h2
      have ha:(a.add (i * P.cellsOf e)).add j=a.add (i * d.sz+j):=by
        rw [hc]
        unfold Addr.add
        by_cases h1:i * d.sz=0<;>by_cases h2:j=0<;>simp [h1,h2,Nat.add_assoc]<;>omega
      rw [←ha]
      exact h2
    obtain ⟨l,hll,hq⟩:=choose_list len each
    refine ⟨l,⟨some a,cap,by rw [hll],by omega,rfl,by simp only [maxLen] at hm;omega,fun hp=>⟨a,rfl,fun j p hp=> ?_⟩⟩,?_,fun y hy=> ?_⟩
    · obtain ⟨_,c,h1,h2,h3⟩:=hq j p hp
      exact ⟨c,h1,h2,h3⟩
    · have:=hw ((elems.length+rest.length) * P.bytesOf e) (by simp [DataW.weights,ht])
      have h2:l.length * B≤(elems.length+rest.length) * P.bytesOf e:=by
        rw [hB]
        exact Nat.mul_le_mul_right _ (by omega)
      simp only [reachBytes] at this
      omega
    · obtain ⟨i,hi⟩:=List.getElem?_of_mem hy
      exact (hq i y hi).1
def Line (P:Program) (fs:List Field) (o:Nat) {α:Type} (d:Kd α) (ok:α→Prop):Prop:=
  ∀ (H:Type) (enc:TypeId×Value→H) (W:World) (fuel:Nat) (cs:List Value) (xs:List (DataW H×List MemPlace)),cs.length=o+d.sz→xs.length=fs.length→
    (∀ (i:Nat) (f:Field),fs[i]?=some f→DataW.trod enc P W 0 (fun _=>true) true fuel f.type ((cs.drop f.offset).take (P.cellsOf f.type))=xs[i]?)→
    (∀ n∈DataW.weightsEach P (fs.map (·.type)) (xs.map (·.1)),n≤reachBytes)→∃ y,d.K W y (cs.drop o)∧ok y
theorem one {α:Type} {d:Kd α} {ok:α→Prop} {f:Field} {o:Nat} (h:Opens P f.type d ok) (ho:f.offset=o) (hc:P.cellsOf f.type=d.sz):Line P [f] o d ok:=fun H enc W fuel cs xs hl hx hg hw=>by
  obtain ⟨x,rfl⟩:∃ x,xs=[x]:=by
    match xs,hx with
    |[x],_=>exact ⟨x,rfl⟩
  have h1:=hg 0 f rfl
  rw [ho,hc,List.take_of_length_le (by rw [List.length_drop];omega)] at h1
  exact h H enc W fuel _ x h1 (fun n hn=>hw n (by simp [DataW.weightsEach,hn]))
theorem more {α β:Type} {a:Kd α} {b:Kd β} {oka:α→Prop} {okb:β→Prop} {f:Field} {fs:List Field} {o:Nat} (h:Opens P f.type a oka) (ho:f.offset=o) (hc:P.cellsOf f.type=a.sz) (hr:Line P fs (o+a.sz) b okb):
    Line P (f::fs) o (Kd.pair a b) (fun y=>oka y.1∧okb y.2):=fun H enc W fuel cs xs hl hx hg hw=>by
  obtain ⟨x,r,rfl⟩:∃ x r,xs=x::r:=by
    match xs,hx with
    |x::r,_=>exact ⟨x,r,rfl⟩
  have hsz:(Kd.pair a b).sz=a.sz+b.sz:=rfl
  have h1:=hg 0 f rfl
  rw [ho,hc] at h1
  obtain ⟨y,hK,hok⟩:=h H enc W fuel _ x h1 (fun n hn=>hw n (by simp [DataW.weightsEach,hn]))
  obtain ⟨z,hK2,hok2⟩:=hr H enc W fuel cs r (by omega) (by simpa using hx) (fun i g hi=>by
    have:=hg (i+1) g (by simpa using hi)
    simpa using this) (fun n hn=>hw n (by simp [DataW.weightsEach,hn]))
  refine ⟨(y,z),⟨(cs.drop o).take a.sz,cs.drop (o+a.sz),?_,hK,hK2⟩,hok,hok2⟩
  rw [←List.drop_drop,List.take_append_drop]
theorem struct {α:Type} {d:Kd α} {ok:α→Prop} {fs:Array Field} (ht:P.underlying t=some (.struct fs)) (hc:P.cellsOf t=d.sz) {l:List Field} (hl:fs.toList=l) (h:Line P l 0 d ok):Opens P t d ok:=fun H enc W fuel cs x hx hw=>by
  subst hl
  obtain ⟨xs,n,_,rfl,hlen,hxl,hg⟩:=DataW.trod_struct ht hx
  obtain ⟨y,hK,hok⟩:=h H enc W n cs xs (by omega) (by simpa using hxl) (fun i f hf=>hg i f (by simpa using hf)) (fun n hn=>hw n (by simpa [DataW.weights,ht] using hn))
  exact ⟨y,by simpa using hK,hok⟩
theorem trod_array {H:Type} {enc:TypeId×Value→H} {w:World} {base:Nat} {spare:Nat→Bool} {held:Bool} {fuel:Nat} {cs:List Value} {x:DataW H×List MemPlace} {n:Nat} {e:TypeId} (ht:P.underlying t=some (.array n e)) (h:DataW.trod enc P w base spare held fuel t cs=some x):
 ∃ (xs:List (DataW H×List MemPlace)) (k:Nat),fuel=k+1∧x=(.agg (xs.map (·.1)),xs.flatMap (·.2))∧cs.length=P.cellsOf t∧xs.length=n∧
 ∀ i,i<n→DataW.trod enc P w base spare held k e ((cs.drop (i * P.cellsOf e)).take (P.cellsOf e))=xs[i]?:=by
 cases fuel with
 |zero=>simp [DataW.trod] at h
 |succ k=>
  (
 unfold DataW.trod at h
 rw [ht] at h
 split at h<;>simp_all
 obtain ⟨hl,xs,hp,hd⟩:=h
 exact ⟨xs,hd.symm,by simpa using mapM_some_length hp,fun i hi=>mapM_some_get hp i i (by rw [List.getElem?_range hi])⟩
  )
theorem arr2 {α:Type} {d:Kd α} {ok:α→Prop} {e:TypeId} (ht:P.underlying t=some (.array 2 e)) (he:Opens P e d ok) (hc:P.cellsOf e=d.sz) (hc2:P.cellsOf t=d.sz+d.sz):Opens P t (Kd.pair d d) (fun y=>ok y.1∧ok y.2):=fun H enc W fuel cs x hx hw=>by
  obtain ⟨xs,k,_,rfl,hlen,hxl,hg⟩:=trod_array ht hx
  obtain ⟨a,b,rfl⟩:∃ a b,xs=[a,b]:=by
    match xs,hxl with
    |[a,b],_=>exact ⟨a,b,rfl⟩
  have hw':∀ n,n∈a.1.weights P e∨n∈b.1.weights P e→n≤reachBytes:=fun n hn=>hw n (by simpa [DataW.weights,ht,DataW.weightsAll] using hn)
  have h0:=hg 0 (by omega)
  have h1:=hg 1 (by omega)
  rw [hc,Nat.zero_mul,List.drop_zero] at h0
  rw [hc,Nat.one_mul,List.take_of_length_le (by rw [List.length_drop];omega)] at h1
  obtain ⟨y,hK,hok⟩:=he H enc W k _ a h0 (fun n hn=>hw' n (.inl hn))
  obtain ⟨z,hK2,hok2⟩:=he H enc W k _ b h1 (fun n hn=>hw' n (.inr hn))
  exact ⟨(y,z),⟨_,_,(List.take_append_drop d.sz cs).symm,hK,hK2⟩,hok,hok2⟩
theorem iso {α β:Type} {d:Kd α} {ok:α→Prop} (f:β→α) (g:α→β) (hfg:∀ x,f (g x)=x) (h:Opens P t d ok):Opens P t (Kd.iso d f) (fun y=>ok (f y)):=fun H enc W fuel cs x hx hw=>by
  obtain ⟨y,h1,h2⟩:=h H enc W fuel cs x hx hw
  refine ⟨g y,?_,?_⟩
  · show d.K W (f (g y)) cs
    rw [hfg]
    exact h1
  · show ok (f (g y))
    rw [hfg]
    exact h2
theorem arg {α:Type} {d:Kd α} {ok:α→Prop} (h:Opens P t d ok) {H:Type} {enc:TypeId×Value→H} {W:World} {v:Value} {x:DataW H} {ps:List MemPlace} {ts:List TypeId} {ds:List (DataW H)} {j:Nat}
 (hsz:(DataW.weightsEach P ts ds).all (· ≤reachBytes)=true) (ht:ts[j]?=some t) (hd:ds[j]?=some x) (hx:DataW.Trod enc P W 0 (fun _=>true) true t v x ps):∃ y,d.K W y v.cells.toList∧ok y:=by
 obtain ⟨fuel,hf⟩:=hx
 refine h H enc W fuel _ _ hf (fun n hn=> ?_)
 have:=List.all_eq_true.1 hsz n (DataW.weights_mem_each ht hd n hn)
 simpa using this
end Opens
end Go.Proofs.YtdlolaognnbhpaaDoor
