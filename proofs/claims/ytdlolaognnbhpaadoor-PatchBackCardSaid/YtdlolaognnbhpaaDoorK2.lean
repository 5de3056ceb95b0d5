/- A part of the proof of laws of this seat: PatchBack, PatchDiff, PatchLeast, PatchMetric. Conditions: none of our own. -/
import Derived.Shelf.Strings.Trim
import Derived.Shelf.Small.Utf8
import Derived.Shelf.Small.Strs
import Derived.Shelf.Strings.Search1
import Derived.Shelf.Unicode.Decode
import Derived.Shelf.Strings.Runes
import Derived.Shelf.Strings.AsciiSet
import Derived.Shelf.Unicode.DecodeSlow
import Derived.Shelf.Unicode.DecodeAny
import Derived.Shelf.Unicode.DecodeLast
import Derived.Test.YtdlolaognnbhpaaDoorProg
import Derived.Laws.Runes
import GoSem.ClaimSeven
import Derived.Test.YtdlolaognnbhpaaDoorK1
namespace Go.Proofs.YtdlolaognnbhpaaDoorW.PrintWords
open Go.RowKit
namespace Kd
def chunks (sz:Nat) (n:Nat) (inner:List Value):List (List Value):=(List.range n).map fun j=>(inner.drop (j * sz)).take sz
theorem chunks_length (sz n:Nat) (inner:List Value):(chunks sz n inner).length=n:=by simp [chunks]
theorem chunks_at {sz n:Nat} {inner:List Value} {j:Nat} (hj:j<n):(chunks sz n inner)[j]?=some ((inner.drop (j * sz)).take sz):=by simp [chunks,hj]
theorem chunks_get {sz n:Nat} {inner:List Value} {j:Nat} {c:List Value} (h:(chunks sz n inner)[j]?=some c):c=(inner.drop (j * sz)).take sz:=by
 have hj:j<n:=by have:=(List.getElem?_eq_some_iff.1 h).1;rwa [chunks_length] at this
 rw [chunks_at hj] at h
 injection h with h
 exact h.symm
theorem reps_raw {α:Type} {Rr:α→List Value→Prop} {sz:Nat} {xs:List α} {inner:List Value} (h:Reps Rr sz xs inner) (hR:∀ x c,Rr x c→c.length=sz∧∀ u∈c,u.oneCell'=true):Reps (fun x cs=>cs=x∧cs.length=sz∧∀ u∈cs,u.oneCell'=true) sz (chunks sz xs.length inner) inner:=by
 refine ⟨by rw [chunks_length];exact h.1,fun j p hj=> ?_⟩
 have hjl:j<xs.length:=by have:=(List.getElem?_eq_some_iff.1 hj).1;rwa [chunks_length] at this
 have hp:=chunks_get hj
 exact ⟨hp.symm,hR _ _ (h.2 j _ (List.getElem?_eq_getElem hjl))⟩
section
variable {α : Type} {d : Kd α} {e base n cc g : Nat} {ok ok' okp S : Nat → Prop} {w w1 W W1 : World} {A : Option Addr} {u v v1 : Value} {xs : List α} {x : α} {c : List Value}
theorem F_get (h:F d W ok A n xs) (z:α) (i:Int) (h0:0≤i) (h1:i<n):
 ∃ ad c,A=some ad∧c.length=d.sz∧FK d W ok (xs.getD i.toNat z) c∧(∀ j u,c[j]?=some u→W.cell? (ad.add (i.toNat * d.sz+j))=some u)∧(0<d.sz→ok ad.block):=by
 obtain ⟨ad,c,rfl,hcl,hK,hcc⟩:=C_get (F_now h) z i h0 h1
 have hin:0<d.sz→ok ad.block:=by {
 intro hs
 by_cases hk:ok ad.block
 {
 exact hk
 }
 {
 obtain ⟨W',h2,h3⟩:=emptied W ad.block
 obtain ⟨ad',c',he,hcl',_,hcc'⟩:=C_get (h W' (fun k hk' _=>h2 k (fun e=>hk (e▸hk')))) z i h0 h1
 injection he with he
 subst he
 have h4:=hcc' 0 _ (List.getElem?_eq_getElem (by omega))
 rw [h3 _ (add_block _ _)] at h4
 cases h4
 }
 }
 refine ⟨ad,c,rfl,hcl,fun W' hW=> ?_,hcc,hin⟩
 obtain ⟨ad',c',he,hcl',hK',hcc'⟩:=C_get (h W' hW) z i h0 h1
 injection he with he
 subst he
 have hc:c=c':=by {
 apply List.ext_getElem?
 intro j
 by_cases hj:j<d.sz
 {
 have hb:W'.heap[ad.block]?=W.heap[ad.block]?:=by {
 have h5:=hcc j _ (List.getElem?_eq_getElem (by omega))
 have h6:=World.block_lt_of_cell? W _ h5
 rw [add_block] at h6
 exact hW _ (hin (by omega)) h6
 }
 have h5:=hcc j _ (List.getElem?_eq_getElem (by omega))
 have h6:=hcc' j _ (List.getElem?_eq_getElem (by omega))
 have h7:W'.cell? (ad.add (i.toNat * d.sz+j))=W.cell? (ad.add (i.toNat * d.sz+j)):=by simp [World.cell?,add_block,hb]
 rw [h7,h5] at h6
 rw [List.getElem?_eq_getElem (by omega),List.getElem?_eq_getElem (by omega)]
 exact h6
 }
 {
 rw [List.getElem?_eq_none (by omega),List.getElem?_eq_none (by omega)]
 }
 }
 rw [hc]
 exact hK'
theorem F_rows (h:F d W ok A n xs):ReadsRow (fun x c=>FK d W ok x c) d.sz W A n xs:=by
 obtain ⟨hl,hm,hn⟩:=F_now h
 refine ⟨hl,hm,fun hp=> ?_⟩
 obtain ⟨ad,rfl,_⟩:=hn hp
 refine ⟨ad,rfl,fun j p hj=> ?_⟩
 obtain ⟨hjl,hjp⟩:=List.getElem?_eq_some_iff.1 hj
 obtain ⟨ad',c,he,hcl,hK,hcc,_⟩:=F_get h p (j:Int) (by omega) (by omega)
 injection he with he
 subst he
 simp only [Int.toNat_natCast] at hK hcc
 rw [List.getD_eq_getElem?_getD,hj] at hK
 exact ⟨c,hcl,hK,hcc⟩
def N {α:Type} (d:Kd α) (e:Nat) (w:World) (base:Nat) (ok:Nat→Prop) (v:Value) (xs:List α):Prop:=
  (∀ k,v.ownBlock=some k→ok k)∧∃ rows:List (List Value),rows.length=xs.length∧(raw d.sz).R e w base (fun k=>some k=v.ownBlock) v rows∧∀ (j:Nat) (x:α) (c:List Value),xs[j]?=some x→rows[j]?=some c→FK d w (fun k=>ok k∧some k≠v.ownBlock) x c
theorem raw_tight {sz:Nat} {rows:List (List Value)} (h:(raw sz).R e w base ok v rows):(raw sz).R e w base (fun k=>some k=v.ownBlock) v rows:=R_tight rfl h
theorem raw_any {sz:Nat} {rows:List (List Value)} (h:(raw sz).R e w base ok v rows):(raw sz).R e w base (fun _=>True) v rows:=R_mono h (fun _ _=>trivial)
theorem R_N (h:d.R e w base ok v xs):N d e w base ok v xs:=by
 obtain ⟨h0,inner,ho,hr⟩:=h
 refine ⟨h0,chunks d.sz xs.length inner,chunks_length _ _ _,⟨fun k hk=>hk.symm,inner,by rw [chunks_length];exact ho,reps_raw hr (fun x c hp=>⟨d.K_len (d.K_of_M hp),d.K_one (d.K_of_M hp)⟩)⟩,fun j x c hx hc=> ?_⟩
 rw [chunks_get hc]
 exact FK_of_M (hr.2 j x hx)
theorem S_N (h:Kd.S d e w base ok v xs):N d e w base ok v xs:=R_N (S_R h)
theorem N_nil (d:Kd α) (e:Nat) (w:World) (base:Nat) (ok:Nat→Prop):N d e w base ok (.slice none 0 0) []:=R_N (R_nil _ _ _ _ _)
theorem N_mono (h:N d e w base ok v xs) (hok:∀ k,ok k→ok' k):N d e w base ok' v xs:=by
 obtain ⟨h0,rows,hl,hR,hf⟩:=h
 exact ⟨fun k hk=>hok k (h0 k hk),rows,hl,hR,fun j x c hx hc=>FK_mono (hf j x c hx hc) (fun k hk=>⟨hok k hk.1,hk.2⟩)⟩
theorem N_lt (h:N d e w base ok v xs):∀ k,v.ownBlock=some k→k<w.heap.size:=by
 obtain ⟨_,rows,_,hR,_⟩:=h
 exact R_lt hR
theorem N_base (h:N d e w base ok v xs):∀ k,v.ownBlock=some k→base≤k:=by
 obtain ⟨_,rows,_,hR,_⟩:=h
 exact R_base hR
theorem N_typed (h:N d e w base ok v xs):∀ k,v.ownBlock=some k→∃ cells,w.heap[k]?=some (.cells cells e (0,0)):=by
 obtain ⟨_,rows,_,hR,_⟩:=h
 exact R_typed hR
theorem N_ne (h:N d e w base ok v xs) {t:Nat} {cells:Array Value} (hb:w.heap[g]?=some (.cells cells t (0,0))) (ht:e≠t):some g≠v.ownBlock:=by
 obtain ⟨_,rows,_,hR,_⟩:=h
 exact R_ne hR hb ht
theorem N_bound (h:N d e w base ok v xs):N d e w base (fun k=>ok k∧k<w.heap.size) v xs:=by
 have hlt:=N_lt h
 obtain ⟨h0,rows,hl,hR,hf⟩:=h
 exact ⟨fun k hk=>⟨h0 k hk,hlt k hk⟩,rows,hl,hR,fun j x c hx hc=>FK_mono (FK_bound (hf j x c hx hc)) (fun k hk=>⟨⟨hk.1.1,hk.2⟩,hk.1.2⟩)⟩
theorem N_lower {base':Nat} (h:N d e w base ok v xs) (hb:base'≤base):N d e w base' ok v xs:=by
 obtain ⟨h0,rows,hl,hR,hf⟩:=h
 exact ⟨h0,rows,hl,R_lower hR hb,hf⟩
theorem N_step (h:N d e w base ok v xs) (hm:∀ k,ok k→k<w.heap.size→w1.heap[k]?=w.heap[k]?):N d e w1 base ok v xs:=by
 obtain ⟨h0,rows,hl,hR,hf⟩:=h
 exact ⟨h0,rows,hl,R_step hR (fun k hk hlt=>hm k (h0 k hk.symm) hlt),fun j x c hx hc=>FK_step (hf j x c hx hc) (fun k hk hlt=>hm k hk.1 hlt)⟩
theorem N_below (h:N d e w base ok v xs) (hb:Below w.heap.size w w1):N d e w1 base ok v xs:=N_step h (fun k _ hk=>hb.block k hk)
theorem N_alloc (h:N d e w base ok v xs) (o:Obj):N d e (w.alloc o) base ok v xs:=N_below h (below_alloc (Below.refl _ _) o)
theorem N_drew (h:N d e w base ok v xs):N d e w.drew base ok v xs:=N_below h (below_drew (Below.refl _ _))
theorem N_drewN (h:N d e w base ok v xs) (m:Nat):N d e (w.drewN m) base ok v xs:=N_below h (pw_below_drewN (Below.refl _ _) m)
theorem N_far (h:N d e w base ok v xs) {p:Addr} (hok:∀ k,ok k→k≠p.block) (u:Value):N d e (w.setCell p u) base ok v xs:=N_step h (fun k ho _=>Below.heap_setCell w p u k (hok k ho))
theorem N_elder' (h:N d e W base ok v xs) (hbase:∀ k,u.ownBlock=some k→W.heap.size≤k) (hb:Below W.heap.size W w1):N d e w1 base (fun k=>ok k∧some k≠u.ownBlock) v xs:=
  N_mono (N_below (N_bound h) hb) (fun k hk=>⟨hk.1,fun he=>by have:=hbase k he.symm;have:=hk.2;omega⟩)
theorem N_elderB (h:N d e w base ok v xs) (a:Nat) (ha:w.heap.size≤a):N d e w base (fun k=>ok k∧k≠a) v xs:=N_mono (N_bound h) (fun k hk=>⟨hk.1,by have:=hk.2;omega⟩)
theorem N_after (h:N d e W base (fun k=>ok k∧some k≠u.ownBlock) v xs) {u1:Value} (hg:W.grownBy w1 u.ownBlock) (hat:u1.ownBlock=u.ownBlock∨∃ b,u1.ownBlock=some b∧W.heap.size≤b):N d e w1 base (fun k=>ok k∧some k≠u1.ownBlock) v xs:=by
 refine N_mono (N_step (N_bound h) (fun k hk hlt=>hg.block k hlt hk.1.2)) (fun k hk=>⟨hk.1.1,?_⟩)
 rcases hat with hat|⟨b,hb,hle⟩
 {
 rw [hat];exact hk.1.2
 }
 {
 rw [hb]
 intro he
 injection he with he
 have:=hk.2
 omega
 }
theorem N_slice (h:N d e w base ok v xs):∃ A c,v= .slice A xs.length c:=by
 obtain ⟨_,rows,hl,hR,_⟩:=h
 obtain ⟨A,c,he⟩:=R_slice hR
 exact ⟨A,c,by rw [he,hl]⟩
theorem N_reads' {n c:Nat} (h:N d e w base ok (.slice A n c) xs):n=xs.length∧n≤c∧d.C w A xs.length xs:=by
 obtain ⟨_,rows,hl,hR,hf⟩:=h
 obtain ⟨hn,hc,hC⟩:=R_reads' hR
 refine ⟨by omega,hc,?_⟩
 rw [hl] at hC
 refine ⟨rfl,hC.2.1,fun hp=> ?_⟩
 obtain ⟨ad,he,hcell⟩:=hC.2.2 hp
 refine ⟨ad,he,fun j p hj=> ?_⟩
 have hjl:j<rows.length:=by have:=(List.getElem?_eq_some_iff.1 hj).1;omega
 obtain ⟨c',hcl,hK,hcc⟩:=hcell j _ (List.getElem?_eq_getElem hjl)
 have hk:=FK_now (hf j p _ hj (List.getElem?_eq_getElem hjl))
 refine ⟨c',hcl,?_,hcc⟩
 rw [show c'=rows[j] from hK.1]
 exact hk
theorem N_F {n:Nat} (h:N d e w base ok (.slice A n cc) xs):F d w ok A n xs:=fun W' hW=>by
  have h2:=N_reads' (N_step h hW)
  rw [h2.1]
  exact h2.2.2
theorem N_elem {n cap:Nat} (h:N d e W base ok (.slice (some ⟨g,0,none⟩) n cap) xs) (z:α) (i:Int) (h0:0≤i) (h1:i<n):
 ∃ c,c.length=d.sz∧FK d W (fun k=>ok k∧k≠g) (xs.getD i.toNat z) c∧(∀ j u,c[j]?=some u→W.cell? ⟨g,i.toNat * d.sz+j,none⟩=some u)∧∀ j,W.frozen? ⟨g,i.toNat * d.sz+j,none⟩=false:=by
 obtain ⟨_,rows,hl,hR,hf⟩:=h
 have hn:=(R_reads' hR).1
 obtain ⟨c,hcl,hM,hcc,hfr⟩:=R_elem hR [] i h0 h1
 have hil:i.toNat<rows.length:=by omega
 have hil':i.toNat<xs.length:=by omega
 have hc:c=rows[i.toNat]:=by {
 have h2:=hM.1
 rwa [List.getD_eq_getElem?_getD,List.getElem?_eq_getElem hil] at h2
 }
 refine ⟨c,hcl,?_,hcc,hfr⟩
 rw [List.getD_eq_getElem?_getD,List.getElem?_eq_getElem hil']
 exact FK_mono (hf _ _ _ (List.getElem?_eq_getElem hil') (by rw [hc];exact List.getElem?_eq_getElem hil)) (fun k hk=>⟨hk.1,fun he=>hk.2 (by rw [he];simp [Value.ownBlock])⟩)
theorem N_get {ad:Addr} {n cap:Nat} (h:N d e W base ok (.slice (some ad) n cap) xs) (z:α) (i:Int) (h0:0≤i) (h1:i<n):
 ∃ c,c.length=d.sz∧FK d W (fun k=>ok k∧some k≠(Value.slice (some ad) n cap).ownBlock) (xs.getD i.toNat z) c∧∀ j u,c[j]?=some u→W.cell? (ad.add (i.toNat * d.sz+j))=some u:=by
 obtain ⟨g,rfl⟩:∃ g,ad=⟨g,0,none⟩:=by {
 obtain ⟨_,rows,_,hR,_⟩:=h
 exact R_head hR
 }
 obtain ⟨c,hcl,hM,hcc,_⟩:=N_elem h z i h0 h1
 refine ⟨c,hcl,FK_mono hM (fun k hk=>⟨hk.1,fun he=>hk.2 (by simpa [Value.ownBlock] using he)⟩),fun j u hu=> ?_⟩
 rw [add_at,Nat.zero_add]
 exact hcc j u hu
end
end Kd
end Go.Proofs.YtdlolaognnbhpaaDoorW.PrintWords
namespace Go.Proofs.YtdlolaognnbhpaaDoorW.PrintWords
open Go.RowKit
namespace Kd
section
variable {α : Type} {d : Kd α} {e base n cap g : Nat} {ok ok' okp : Nat → Prop} {w w1 W : World} {v v1 : Value} {xs ys : List α}
theorem N_appended {rows news:List (List Value)} (h0:∀ k,v.ownBlock=some k→ok k) (hl:rows.length=xs.length) (hf:∀ (j:Nat) (x:α) (c:List Value),xs[j]?=some x→rows[j]?=some c→FK d W (fun k=>ok k∧some k≠v.ownBlock) x c)
 (hl2:news.length=ys.length) (hf2:∀ (j:Nat) (x:α) (c:List Value),ys[j]?=some x→news[j]?=some c→FK d W okp x c) (hokp:∀ k,okp k→ok k∧some k≠v.ownBlock) (hfresh:∀ k,W.heap.size≤k→ok k)
 (hR:(raw d.sz).R e w1 base (fun _=>True) v1 (rows++news)) (hg:W.grownBy w1 v.ownBlock) (hat:v1.ownBlock=v.ownBlock∨∃ b,v1.ownBlock=some b∧W.heap.size≤b):N d e w1 base ok v1 (xs++ys):=by
 have hne:∀ k,some k≠v.ownBlock→k<W.heap.size→some k≠v1.ownBlock:=by {
 intro k hk hlt
 rcases hat with hat|⟨b,hb,hle⟩
 {
 rw [hat];exact hk
 }
 {
 rw [hb]
 intro he
 injection he with he
 omega
 }
 }
 have step:∀ {x:α} {c:List Value} {o:Nat→Prop},FK d W o x c→(∀ k,o k→ok k∧some k≠v.ownBlock)→FK d w1 (fun k=>ok k∧some k≠v1.ownBlock) x c:=by {
 intro x c o hq ho
 exact FK_mono (FK_step (FK_bound hq) (fun k hk hlt=>hg.block k hlt (ho k hk.1).2)) (fun k hk=>⟨(ho k hk.1).1,hne k (ho k hk.1).2 hk.2⟩)
 }
 refine ⟨fun k hk=> ?_,rows++news,by rw [List.length_append,List.length_append,hl,hl2],raw_tight hR,fun j x c hx hc=> ?_⟩
 {
 rcases hat with hat|⟨b,hb,hle⟩
 {
 exact h0 k (hat▸hk)
 }
 {
 rw [hb] at hk
 injection hk with hk
 exact hfresh k (by omega)
 }
 }
 {
 rcases Nat.lt_or_ge j xs.length with hlt|hge
 {
 rw [List.getElem?_append_left hlt] at hx
 rw [List.getElem?_append_left (by omega)] at hc
 exact step (hf j x c hx hc) (fun _ hk=>hk)
 }
 {
 rw [List.getElem?_append_right hge] at hx
 rw [List.getElem?_append_right (by omega),hl] at hc
 exact step (hf2 _ x c hx hc) hokp
 }
 }
theorem FK_raw {x:α} {c:List Value} (h:FK d W ok x c):c=c∧c.length=d.sz∧∀ u∈c,u.oneCell'=true:=⟨rfl,d.K_len (FK_now h),d.K_one (FK_now h)⟩
theorem N_made {rows:List (List Value)} (hR:(raw d.sz).R e w1 base (fun k=>k=W.heap.size) v1 rows) (hg:W.grownBy w1 none) (hat:∃ b,v1.ownBlock=some b∧W.heap.size≤b) (hl:rows.length=xs.length) (hf:∀ (j:Nat) (x:α) (c:List Value),xs[j]?=some x→rows[j]?=some c→FK d W okp x c)
 (hok:∀ k,okp k→ok k) (hfresh:ok W.heap.size):N d e w1 base ok v1 xs:=by
 obtain ⟨b,hb,hle⟩:=hat
 refine ⟨fun k hk=>by rw [hR.1 k hk];exact hfresh,rows,hl,raw_tight hR,fun j x c hx hc=> ?_⟩
 refine FK_mono (FK_step (FK_bound (hf j x c hx hc)) (fun k hk hlt=>hg.block k hlt (by simp))) (fun k hk=>⟨hok k hk.1,fun he=> ?_⟩)
 rw [hb] at he
 injection he with he
 have:=hk.2
 omega
theorem reads_raw {Rr:α→List Value→Prop} {sz m:Nat} {A:Option Addr} (h:ReadsRow Rr sz W A m ys) (hR:∀ x c,Rr x c→c.length=sz∧∀ u∈c,u.oneCell'=true):
 ∃ news:List (List Value),news.length=ys.length∧ReadsRow (fun x cs=>cs=x∧cs.length=sz∧∀ u∈cs,u.oneCell'=true) sz W A m news∧∀ (j:Nat) (x:α) (c:List Value),ys[j]?=some x→news[j]?=some c→Rr x c:=by
 rcases Nat.eq_zero_or_pos m with h0|hp
 {
 have hy:ys=[]:=List.eq_nil_of_length_eq_zero (h.1.trans h0)
 subst hy
 exact ⟨[],rfl,⟨h0▸rfl,h.2.1,fun hp=>by omega⟩,fun j x c hx=>by simp at hx⟩
 }
 {
 obtain ⟨ad,rfl,_⟩:=h.2.2 hp
 obtain ⟨inner,hr,hc⟩:=ReadsRow.inner_ h
 refine ⟨chunks sz ys.length inner,chunks_length _ _ _,⟨by rw [chunks_length];exact h.1,h.2.1,fun _=>⟨ad,rfl,fun j p hj=> ?_⟩⟩,fun j x c hx hcc=> ?_⟩
 {
 have hjl:j<ys.length:=by have:=(List.getElem?_eq_some_iff.1 hj).1;rwa [chunks_length] at this
 have hpe:=chunks_get hj
 have hq:=hR _ _ (hr.2 j _ (List.getElem?_eq_getElem hjl))
 rw [←hpe] at hq
 refine ⟨p,hq.1,⟨rfl,hq⟩,fun i u hu=> ?_⟩
 have hu2:inner[j * sz+i]?=some u:=by {
 rw [hpe,List.getElem?_take] at hu
 split at hu
 {
 rw [List.getElem?_drop] at hu
 exact hu
 }
 {
 cases hu
 }
 }
 exact hc _ u hu2
 }
 {
 rw [chunks_get hcc]
 exact hr.2 j x hx
 }
 }
end
section
variable {P : Program} {ops : Array Oper} {rest : List Oper} {o : Oper} {a : Act} {Q : Exit → Act → World → Prop} {Kc : Act → World → Prop} {α : Type}
theorem N_append (d:Kd α) {w0 W:World} (base:Nat) (hgd:o.guard=none) (s x:Operand) (t e:TypeId) (z:Value) (bytes:Nat)
 (ho:o.op= .call { callee:= .builtin .append,args:=#[s,x],argTypes:=#[t,t] })
 (ht:P.underlying t=some (.slice e)) (hinfo:(P.info? e).map (fun i=>(i.zero,i.size,i.bytes))=some (some z,d.sz,bytes)) (hz:z.cells.size=d.sz) (hs0:0<d.sz) (hb0:0<bytes)
 (v:Value) (xs:List α) (p:α) (cs:List Value) (ok okp:Nat→Prop) (hs:a.eval s=v) (hx:a.eval x= .slice (some ⟨W.heap.size,0,none⟩) 1 1) (hp:FK d W okp p cs) (hokp:∀ k,okp k→ok k∧some k≠v.ownBlock) (hfresh:∀ k,W.heap.size≤k→ok k)
 (HO:N d e W base ok v xs) (HB:Below base w0 W) (hbase:base≤W.heap.size) (hl:(xs.length+1) * bytes≤140737488355328)
 (h:∀ v1 w1,N d e w1 base ok v1 (xs++[p])→Below base w0 w1→W.grownBy w1 v.ownBlock→(v1.ownBlock=v.ownBlock∨∃ b,v1.ownBlock=some b∧W.heap.size≤b)→wpList P ops Q rest (a.put o.dst v1) w1):
 wpList P ops Q (o::rest) a (W.alloc (.cells cs.toArray e)):=by
 obtain ⟨h0,rows,hlr,hR,hf⟩:=HO
 refine R_append (raw d.sz) base hgd s x t e z bytes ho ht hinfo hz hs0 hb0 v rows cs cs (fun _=>True) (fun _=>False) hs hx (FK_raw hp) (fun _ hk=>hk.elim) (fun _ _=>trivial) (raw_any hR) HB hbase (by rw [hlr];exact hl) ?_
 intro v1 w1 hr hb hg hat
 exact h v1 w1 (N_appended h0 hlr hf (ys:=[p]) (news:=[cs]) rfl (fun j y c hy hc=>by
   rcases j with _|j
   · simp only [List.getElem?_cons_zero,Option.some.injEq] at hy hc
     rw [←hy,←hc];exact hp
   · simp at hy) hokp hfresh hr hg hat) hb hg hat
theorem N_append_rows (d:Kd α) {w0 W:World} (base:Nat) (hgd:o.guard=none) (s x:Operand) (t e:TypeId) (z:Value) (bytes:Nat)
 (ho:o.op= .call { callee:= .builtin .append,args:=#[s,x],argTypes:=#[t,t] })
 (ht:P.underlying t=some (.slice e)) (hinfo:(P.info? e).map (fun i=>(i.zero,i.size,i.bytes))=some (some z,d.sz,bytes)) (hz:z.cells.size=d.sz) (hs0:0<d.sz) (hb0:0<bytes)
 (v:Value) (xs ys:List α) (A:Option Addr) (m c:Nat) (ok okp:Nat→Prop) (hs:a.eval s=v) (hx:a.eval x= .slice A m c)
 (HO:N d e W base ok v xs) (HR:F d W okp A m ys) (hokp:∀ k,okp k→ok k∧some k≠v.ownBlock) (hfresh:∀ k,W.heap.size≤k→ok k)
 (HB:Below base w0 W) (hbase:base≤W.heap.size) (hl:(xs.length+m) * bytes≤140737488355328)
 (h:∀ v1 w1,N d e w1 base ok v1 (xs++ys)→Below base w0 w1→W.grownBy w1 v.ownBlock→(v1.ownBlock=v.ownBlock∨∃ b,v1.ownBlock=some b∧W.heap.size≤b)→wpList P ops Q rest (a.put o.dst v1) w1):
 wpList P ops Q (o::rest) a W:=by
 obtain ⟨h0,rows,hlr,hR,hf⟩:=HO
 obtain ⟨news,hnl,hnr,hnf⟩:=reads_raw (F_rows HR) (fun y c hk=>⟨d.K_len (FK_now hk),d.K_one (FK_now hk)⟩)
 refine R_append_rows (raw d.sz) base hgd s x t e z bytes ho ht hinfo hz hs0 hb0 v rows news A m c (fun _=>True) (fun _=>False) hs hx (raw_any hR) hnr (fun _ _ hk=>hk) (fun _ hk=>hk.elim) (fun _ _=>trivial) HB hbase (by rw [hlr];exact hl) ?_
 intro v1 w1 hr hb hg hat
 exact h v1 w1 (N_appended h0 hlr hf hnl hnf hokp hfresh hr hg hat) hb hg hat
theorem N_append_rows_step (d:Kd α) {w0 W:World} (base:Nat) (hw:Region.wanted o (yielded ops a.tmps)=true) (s x:Operand) (t e:TypeId) (z:Value) (bytes:Nat)
 (ho:o.op= .call { callee:= .builtin .append,args:=#[s,x],argTypes:=#[t,t] })
 (ht:P.underlying t=some (.slice e)) (hinfo:(P.info? e).map (fun i=>(i.zero,i.size,i.bytes))=some (some z,d.sz,bytes)) (hz:z.cells.size=d.sz) (hs0:0<d.sz) (hb0:0<bytes)
 (v:Value) (xs ys:List α) (A:Option Addr) (m c:Nat) (ok okp:Nat→Prop) (hs:a.eval s=v) (hx:a.eval x= .slice A m c)
 (HO:N d e W base ok v xs) (HR:F d W okp A m ys) (hokp:∀ k,okp k→ok k∧some k≠v.ownBlock) (hfresh:∀ k,W.heap.size≤k→ok k)
 (HB:Below base w0 W) (hbase:base≤W.heap.size) (hl:(xs.length+m) * bytes≤140737488355328)
 (h:∀ v1 w1,N d e w1 base ok v1 (xs++ys)→Below base w0 w1→W.grownBy w1 v.ownBlock→(v1.ownBlock=v.ownBlock∨∃ b,v1.ownBlock=some b∧W.heap.size≤b)→Kc (a.put o.dst v1) w1):
 if Region.wanted o (yielded ops a.tmps)=true then Oper.wp P o a W Kc Q else Kc (a.put o.dst undef) W:=by
 obtain ⟨h0,rows,hlr,hR,hf⟩:=HO
 obtain ⟨news,hnl,hnr,hnf⟩:=reads_raw (F_rows HR) (fun y c hk=>⟨d.K_len (FK_now hk),d.K_one (FK_now hk)⟩)
 refine R_append_rows_step (raw d.sz) base hw s x t e z bytes ho ht hinfo hz hs0 hb0 v rows news A m c (fun _=>True) (fun _=>False) hs hx (raw_any hR) hnr (fun _ _ hk=>hk) (fun _ hk=>hk.elim) (fun _ _=>trivial) HB hbase (by rw [hlr];exact hl) ?_
 intro v1 w1 hr hb hg hat
 exact h v1 w1 (N_appended h0 hlr hf hnl hnf hokp hfresh hr hg hat) hb hg hat
theorem N_lit (d:Kd α) {w0 W:World} (base e:Nat) (hgd:o.guard=none) {N':Tmp} (_hd:o.dst=some N') {xs:List α} {inner:List Value} {ok okp:Nat→Prop}
 (hrun:(execOp a.eval o).run P W= .ok (.value (.slice (some ⟨W.heap.size,0,none⟩) xs.length xs.length)) (W.alloc (.cells inner.toArray e)))
 (hrep:Reps (FK d W okp) d.sz xs inner) (hok:∀ k,okp k→ok k) (hfresh:ok W.heap.size) (HB:Below base w0 W) (hbase:base≤W.heap.size) (hm:xs.length≤9223372036854775807)
 (h:∀ v1 w1,N d e w1 base ok v1 xs→Below base w0 w1→W.grownBy w1 none→(∃ b,v1.ownBlock=some b∧W.heap.size≤b)→wpList P ops Q rest (a.put o.dst v1) w1):
 wpList P ops Q (o::rest) a W:=by
 refine R_lit (raw d.sz) base e hgd _hd (xs:=chunks d.sz xs.length inner) (inner:=inner) (ok:=fun k=>k=W.heap.size) (okp:=fun _=>False) (by rw [chunks_length];exact hrun) (reps_raw hrep (fun y c hk=>⟨d.K_len (FK_now hk),d.K_one (FK_now hk)⟩)) (fun _ hk=>hk.elim) rfl HB hbase (by rw [chunks_length];exact hm) ?_
 intro v1 w1 hr hb hg hat
 exact h v1 w1 (N_made hr hg hat (chunks_length _ _ _) (fun j y c hy hc=>by rw [chunks_get hc];exact hrep.2 j y hy) hok hfresh) hb hg hat
end
end Kd
end Go.Proofs.YtdlolaognnbhpaaDoorW.PrintWords
namespace Go.Proofs.YtdlolaognnbhpaaDoorW.PrintMore
open Go.RowKit Go.Proofs.YtdlolaognnbhpaaDoorW.PrintWords
namespace Kd
open Go.Proofs.YtdlolaognnbhpaaDoorW.PrintWords.Kd
end Kd
namespace Kd
open Go.Proofs.YtdlolaognnbhpaaDoorW.PrintWords.Kd
section
variable {α : Type} {d : Kd α} {e base g N : Nat} {ok : Nat → Prop} {W w1 : World} {u v : Value} {xs : List α}
end
end Kd
theorem max2_int (k k':IntKind) (x y:Int):Builtin.max2 (.int k x) (.int k' y)=pure (.int k (if x<y then y else x)):=by simp only [Builtin.max2,gt_iff_lt]
theorem min2_int (k k':IntKind) (x y:Int):Builtin.min2 (.int k x) (.int k' y)=pure (.int k (if y<x then y else x)):=by simp only [Builtin.min2]
theorem max_two (ats:Array TypeId) (ty:TypeId) (a b:Value):Builtin.max_ ats ty #[a,b]=(Builtin.max2 a b>>=fun s=>pure s):=by simp only [Builtin.max_,List.foldlM_cons,List.foldlM_nil]
theorem min_two (ats:Array TypeId) (ty:TypeId) (a b:Value):Builtin.min_ ats ty #[a,b]=(Builtin.min2 a b>>=fun s=>pure s):=by simp only [Builtin.min_,List.foldlM_cons,List.foldlM_nil]
theorem max_three (ats:Array TypeId) (ty:TypeId) (a b c:Value):Builtin.max_ ats ty #[a,b,c]=(Builtin.max2 a b>>=fun s=>Builtin.max2 s c>>=fun s=>pure s):=by simp only [Builtin.max_,List.foldlM_cons,List.foldlM_nil]
theorem min_three (ats:Array TypeId) (ty:TypeId) (a b c:Value):Builtin.min_ ats ty #[a,b,c]=(Builtin.min2 a b>>=fun s=>Builtin.min2 s c>>=fun s=>pure s):=by simp only [Builtin.min_,List.foldlM_cons,List.foldlM_nil]
theorem max_four (ats:Array TypeId) (ty:TypeId) (a b c d:Value):Builtin.max_ ats ty #[a,b,c,d]=(Builtin.max2 a b>>=fun s=>Builtin.max2 s c>>=fun s=>Builtin.max2 s d>>=fun s=>pure s):=by simp only [Builtin.max_,List.foldlM_cons,List.foldlM_nil]
theorem min_four (ats:Array TypeId) (ty:TypeId) (a b c d:Value):Builtin.min_ ats ty #[a,b,c,d]=(Builtin.min2 a b>>=fun s=>Builtin.min2 s c>>=fun s=>Builtin.min2 s d>>=fun s=>pure s):=by simp only [Builtin.min_,List.foldlM_cons,List.foldlM_nil]
end Go.Proofs.YtdlolaognnbhpaaDoorW.PrintMore
namespace Go.Proofs.YtdlolaognnbhpaaDoorW.PrintWords
open Go.RowKit
section
variable {P : Program} {ops : Array Oper} {rest : List Oper} {o : Oper} {a : Act} {Q : Exit → Act → World → Prop} {W : World}
theorem gate_callee {f:FuncId} {as0:Array Operand} {ts:Array TypeId} (_ho:o.op= .call { callee:= .value (.func f),args:=as0,argTypes:=ts }) (h:wpList P ops Q (o::rest) a W):wpList P ops Q (o::rest) a W:=h
theorem gate_builtin {b:Builtin} {xs:Array Operand} {ts:Array TypeId} (_ho:o.op= .call { callee:= .builtin b,args:=xs,argTypes:=ts }) (h:wpList P ops Q (o::rest) a W):wpList P ops Q (o::rest) a W:=h
end
def mx (a b:Int):Int:=if a<b then b else a
namespace Kd
section
variable {α : Type} {d : Kd α} {e base : Nat} {ok : Nat → Prop} {W w1 : World} {v : Value} {xs : List α}
end
section
variable {α : Type} {d : Kd α} {e base g n cap : Nat} {ok oki okp : Nat → Prop} {W : World} {xs : List α} {i : Int} {c : List Value}
end
section
variable {α : Type} {d : Kd α} {e base b b' g N : Nat} {ok ok1 : Nat → Prop} {W W2 w1 : World} {u v : Value} {xs ys : List α} {S : Nat → Prop}
end
end Kd
end Go.Proofs.YtdlolaognnbhpaaDoorW.PrintWords
namespace Go.Proofs.YtdlolaognnbhpaaDoorW.PrintWords
open Go.RowKit
namespace Kd
def V {α:Type} (d:Kd α) (_e:Nat) (W:World) (_base:Nat) (ok:Nat→Prop) (v:Value) (xs:List α):Prop:=∃ A c,v= .slice A xs.length c∧xs.length≤c∧F d W ok A xs.length xs
section
variable {α β : Type} {d : Kd α} {e base base' n m c g N' lo hi : Nat} {ok ok' S : Nat → Prop} {w W w1 : World} {A : Option Addr} {ad : Addr} {u v v1 : Value} {xs : List α}
theorem V_map (h:V d e W base ok v xs) (hF:∀ A,F d W ok A xs.length xs→F d w1 ok' A xs.length xs):V d e w1 base' ok' v xs:=by
 obtain ⟨A,c,hv,hl,hf⟩:=h
 exact ⟨A,c,hv,hl,hF A hf⟩
theorem V_mk (hl:xs.length≤c) (hf:F d W ok A xs.length xs):V d e W base ok (.slice A xs.length c) xs:=⟨A,c,rfl,hl,hf⟩
theorem V_slice (h:V d e W base ok v xs):∃ A c,v= .slice A xs.length c:=by
 obtain ⟨A,c,hv,_⟩:=h
 exact ⟨A,c,hv⟩
theorem V_at (h:V d e W base ok (.slice A n c) xs):n=xs.length∧n≤c∧F d W ok A xs.length xs:=by
 obtain ⟨A',c',hv,hl,hf⟩:=h
 injection hv with ha hn hc
 subst ha;subst hc
 exact ⟨hn,by rw [hn];exact hl,hf⟩
theorem V_reads' (h:V d e W base ok (.slice A n c) xs):n=xs.length∧n≤c∧d.C W A xs.length xs:=⟨(V_at h).1,(V_at h).2.1,F_now (V_at h).2.2⟩
theorem V_F (h:V d e W base ok (.slice A n c) xs):F d W ok A n xs:=by
 obtain ⟨hn,_,hf⟩:=V_at h
 rw [hn]
 exact hf
theorem V_nil (d:Kd α) (e:Nat) (W:World) (base:Nat) (ok:Nat→Prop):V d e W base ok (.slice none 0 0) []:=⟨none,0,rfl,Nat.le_refl _,F_nil d W ok⟩
theorem R_V (h:d.R e W base ok v xs):V d e W base' ok v xs:=by
 obtain ⟨A,c,rfl⟩:=R_slice h
 exact ⟨A,c,rfl,(R_reads' h).2.1,R_F h⟩
theorem S_V (h:Kd.S d e W base ok v xs):V d e W base' ok v xs:=R_V (S_R h)
theorem N_V (h:N d e W base ok v xs):V d e W base' ok v xs:=by
 obtain ⟨A,c,rfl⟩:=N_slice h
 exact ⟨A,c,rfl,(N_reads' h).2.1,N_F h⟩
theorem V_mono (h:V d e W base ok v xs) (hok:∀ k,ok k→ok' k):V d e W base ok' v xs:=V_map h (fun _ hf=>F_mono hf hok)
theorem V_lower (h:V d e W base ok v xs) (_:base'≤base):V d e W base' ok v xs:=h
theorem V_below (h:V d e W base ok v xs) (hb:Below W.heap.size W w1):V d e w1 base ok v xs:=V_map h (fun _ hf=>F_below hf hb)
theorem V_alloc (h:V d e W base ok v xs) (o:Obj):V d e (W.alloc o) base ok v xs:=V_map h (fun _ hf=>F_alloc hf o)
theorem V_drew (h:V d e W base ok v xs):V d e W.drew base ok v xs:=V_map h (fun _ hf=>F_drew hf)
theorem V_drewN (h:V d e W base ok v xs) (m:Nat):V d e (W.drewN m) base ok v xs:=V_map h (fun _ hf=>F_drewN hf m)
theorem V_far (h:V d e W base ok v xs) {p:Addr} (hok:∀ k,ok k→k≠p.block) (u:Value):V d e (W.setCell p u) base ok v xs:=V_map h (fun _ hf=>F_far hf hok u)
theorem V_after (h:V d e W base (fun k=>ok k∧some k≠u.ownBlock) v xs) (hg:W.grownBy w1 u.ownBlock) (hat:v1.ownBlock=u.ownBlock∨∃ b,v1.ownBlock=some b∧W.heap.size≤b):V d e w1 base (fun k=>ok k∧some k≠v1.ownBlock) v xs:=V_map h (fun _ hf=>F_after hf hg hat)
theorem V_afterv (h:V d e W base (fun k=>ok k∧some k≠v.ownBlock) u xs) (hg:W.grownBy w1 v.ownBlock) (hat:v1.ownBlock=v.ownBlock∨∃ b,v1.ownBlock=some b∧W.heap.size≤b):V d e w1 base (fun k=>ok k∧some k≠v1.ownBlock) u xs:=V_after h hg hat
theorem N_afterv (h:N d e W base (fun k=>ok k∧some k≠v.ownBlock) u xs) (hg:W.grownBy w1 v.ownBlock) (hat:v1.ownBlock=v.ownBlock∨∃ b,v1.ownBlock=some b∧W.heap.size≤b):N d e w1 base (fun k=>ok k∧some k≠v1.ownBlock) u xs:=N_after h hg hat
theorem V_elder' (h:V d e W base ok v xs) (hbase:∀ k,u.ownBlock=some k→W.heap.size≤k) (hb:Below W.heap.size W w1):V d e w1 base (fun k=>ok k∧some k≠u.ownBlock) v xs:=V_map h (fun _ hf=>F_elder' hf hbase hb)
theorem V_elderB (h:V d e W base ok v xs) (a:Nat) (ha:W.heap.size≤a):V d e W base (fun k=>ok k∧k≠a) v xs:=V_map h (fun _ hf=>F_elderB hf a ha)
theorem V_get (h:V d e W base ok (.slice (some ad) n c) xs) (z:α) (i:Int) (h0:0≤i) (h1:i<n):
 ∃ cs,cs.length=d.sz∧FK d W ok (xs.getD i.toNat z) cs∧∀ j u,cs[j]?=some u→W.cell? (ad.add (i.toNat * d.sz+j))=some u:=by
 obtain ⟨ad',cs,he,hcl,hK,hcc,_⟩:=F_get (V_F h) z i h0 h1
 injection he with he
 subst he
 exact ⟨cs,hcl,hK,hcc⟩
end
end Kd
end Go.Proofs.YtdlolaognnbhpaaDoorW.PrintWords
namespace Go.Proofs
open Go.Shelf
def Tryd.lays160_ren:Go.Shelf.Ren:=⟨fun|160=>63|232=>69|231=>68|227=>70|234=>72|233=>71|236=>74|235=>73|228=>79|271=>81|151=>80|197=>66|120=>87|152=>86|260=>77|137=>90|119=>91|224=>92|225=>93|217=>94|266=>95|n=>n,fun|9=>9|4=>4|3=>3|5=>5|117=>95|116=>94|0=>0|124=>98|21=>21|105=>89|46=>103|119=>104|139=>107|138=>106|n=>n,fun|3=>0|4=>1|n=>n⟩
theorem Tryd.lays160:Go.Proofs.Lays.n160 Tryd.prog Tryd.lays160_ren:={
  mixed:=by kernel_rfl
  f119:=Tryd.func91.trans (congrArg some (by kernel_rfl))
  f120:=Tryd.func87.trans (congrArg some (by kernel_rfl))
  f137:=Tryd.func90.trans (congrArg some (by kernel_rfl))
  f151:=Tryd.func80.trans (congrArg some (by kernel_rfl))
  f152:=Tryd.func86.trans (congrArg some (by kernel_rfl))
  f160:=Tryd.func63.trans (congrArg some (by kernel_rfl))
  f197:=Tryd.func66.trans (congrArg some (by kernel_rfl))
  f217:=Tryd.func94.trans (congrArg some (by kernel_rfl))
  f224:=Tryd.func92.trans (congrArg some (by kernel_rfl))
  f225:=Tryd.func93.trans (congrArg some (by kernel_rfl))
  f227:=Tryd.func70.trans (congrArg some (by kernel_rfl))
  f228:=Tryd.func79.trans (congrArg some (by kernel_rfl))
  f231:=Tryd.func68.trans (congrArg some (by kernel_rfl))
  f232:=Tryd.func69.trans (congrArg some (by kernel_rfl))
  f233:=Tryd.func71.trans (congrArg some (by kernel_rfl))
  f234:=Tryd.func72.trans (congrArg some (by kernel_rfl))
  f235:=Tryd.func73.trans (congrArg some (by kernel_rfl))
  f236:=Tryd.func74.trans (congrArg some (by kernel_rfl))
  f260:=Tryd.func77.trans (congrArg some (by kernel_rfl))
  f266:=Tryd.func95.trans (congrArg some (by kernel_rfl))
  f271:=Tryd.func81.trans (congrArg some (by kernel_rfl))
  t0:=Tryd.underlying0
  a0:=Tryd.isAgg0
  z0:=Tryd.sizeOf0
  v0:=Tryd.zeroValue0
  t3:=Tryd.underlying3
  a3:=Tryd.isAgg3
  z3:=Tryd.sizeOf3
  v3:=Tryd.zeroValue3
  t4:=Tryd.underlying4
  a4:=Tryd.isAgg4
  z4:=Tryd.sizeOf4
  v4:=Tryd.zeroValue4
  t5:=Tryd.underlying5
  a5:=Tryd.isAgg5
  z5:=Tryd.sizeOf5
  v5:=Tryd.zeroValue5
  t9:=Tryd.underlying9
  a9:=Tryd.isAgg9
  z9:=Tryd.sizeOf9
  v9:=Tryd.zeroValue9
  t21:=Tryd.underlying21
  a21:=Tryd.isAgg21
  z21:=Tryd.sizeOf21
  v21:=Tryd.zeroValue21
  t46:=Tryd.underlying103
  a46:=Tryd.isAgg103
  z46:=Tryd.sizeOf103
  v46:=Tryd.zeroValue103
  t105:=Tryd.underlying89
  a105:=Tryd.isAgg89
  z105:=Tryd.sizeOf89
  v105:=Tryd.zeroValue89
  t116:=Tryd.underlying94
  a116:=Tryd.isAgg94
  z116:=Tryd.sizeOf94
  t117:=Tryd.underlying95
  a117:=Tryd.isAgg95
  z117:=Tryd.sizeOf95
  v117:=Tryd.zeroValue95
  t119:=Tryd.underlying104
  a119:=Tryd.isAgg104
  z119:=Tryd.sizeOf104
  t124:=Tryd.underlying98
  a124:=Tryd.isAgg98
  z124:=Tryd.sizeOf98
  v124:=Tryd.zeroValue98
  t138:=Tryd.underlying106
  a138:=Tryd.isAgg106
  z138:=Tryd.sizeOf106
  v138:=Tryd.zeroValue106
  t139:=Tryd.underlying107
  a139:=Tryd.isAgg107
  z139:=Tryd.sizeOf107
  v139:=Tryd.zeroValue107
  g3:=by kernel_rfl
  g4:=by kernel_rfl }
open Go.RowKit in
theorem Tryd.strings_Trim_one (s:ByteArray) (c:UInt8) (hc:c.toNat<128) (w:World) (hs:s.size≤9223372036854775807):
    Calls Tryd.prog 63 #[.string s,.string ⟨#[c]⟩] w fun e w'=>e= .returned (.string ⟨(Lib.trimB s.data.toList c).toArray⟩)∧(w'=w∨w'=w.drew):=Any.strings_Trim_one Tryd.lays160 s c hc w hs
def Tryd.lays119_ren:Go.Shelf.Ren:=⟨fun|119=>91|n=>n,fun|21=>21|4=>4|n=>n,fun|n=>n⟩
theorem Tryd.lays119:Go.Proofs.Lays.n119 Tryd.prog Tryd.lays119_ren:={
  mixed:=by kernel_rfl
  f119:=Tryd.func91.trans (congrArg some (by kernel_rfl))
  t4:=Tryd.underlying4
  a4:=Tryd.isAgg4
  z4:=Tryd.sizeOf4
  v4:=Tryd.zeroValue4
  t21:=Tryd.underlying21
  a21:=Tryd.isAgg21
  z21:=Tryd.sizeOf21
  v21:=Tryd.zeroValue21 }
theorem Tryd.utf8_ValidRune (r:Int) (w:World):
    Calls Tryd.prog 91 #[.int .i32 r] w fun e w'=>e= .returned (.bool (Lib.validRune r))∧w'=w:=Any.utf8_ValidRune Tryd.lays119 r w
def Tryd.lays137_ren:Go.Shelf.Ren:=⟨fun|137=>90|217=>94|266=>95|n=>n,fun|9=>9|5=>5|3=>3|n=>n,fun|n=>n⟩
theorem Tryd.lays137:Go.Proofs.Lays.n137 Tryd.prog Tryd.lays137_ren:={
  mixed:=by kernel_rfl
  f137:=Tryd.func90.trans (congrArg some (by kernel_rfl))
  f217:=Tryd.func94.trans (congrArg some (by kernel_rfl))
  f266:=Tryd.func95.trans (congrArg some (by kernel_rfl))
  t3:=Tryd.underlying3
  a3:=Tryd.isAgg3
  z3:=Tryd.sizeOf3
  v3:=Tryd.zeroValue3
  t5:=Tryd.underlying5
  a5:=Tryd.isAgg5
  z5:=Tryd.sizeOf5
  v5:=Tryd.zeroValue5
  t9:=Tryd.underlying9
  a9:=Tryd.isAgg9
  z9:=Tryd.sizeOf9
  v9:=Tryd.zeroValue9 }
open Go.RowKit in
theorem Tryd.strings_IndexByte (s:ByteArray) (c:Int) (w:World):
    Calls Tryd.prog 90 #[.string s,.int .u8 c] w fun e w'=>e= .returned (.int .i64 (Lib.indexByte s.data.toList c.toNat.toUInt8))∧w'=w:=Any.strings_IndexByte Tryd.lays137 s c w
def Tryd.lays224_ren:Go.Shelf.Ren:=⟨fun|224=>92|n=>n,fun|3=>3|n=>n,fun|n=>n⟩
theorem Tryd.lays224:Go.Proofs.Lays.n224 Tryd.prog Tryd.lays224_ren:={
  mixed:=by kernel_rfl
  f224:=Tryd.func92.trans (congrArg some (by kernel_rfl))
  t3:=Tryd.underlying3
  a3:=Tryd.isAgg3
  z3:=Tryd.sizeOf3
  v3:=Tryd.zeroValue3 }
open Go.RowKit Go.Lib in
theorem Tryd.bytealg_Cutover (n:Int) (h0:0≤n) (h1:n<4611686018427387904) (w:World):
    Calls Tryd.prog 92 #[.int .i64 n] w fun e w'=>e= .returned (.int .i64 ((n+16) / 8))∧w'=w:=Any.bytealg_Cutover Tryd.lays224 n h0 h1 w
def Tryd.lays197_ren:Go.Shelf.Ren:=⟨fun|197=>66|260=>77|n=>n,fun|9=>9|21=>21|3=>3|4=>4|5=>5|105=>89|119=>104|0=>0|46=>103|139=>107|138=>106|n=>n,fun|3=>0|4=>1|n=>n⟩
theorem Tryd.lays197:Go.Proofs.Lays.n197 Tryd.prog Tryd.lays197_ren:={
  mixed:=by kernel_rfl
  f197:=Tryd.func66.trans (congrArg some (by kernel_rfl))
  f260:=Tryd.func77.trans (congrArg some (by kernel_rfl))
  t0:=Tryd.underlying0
  a0:=Tryd.isAgg0
  z0:=Tryd.sizeOf0
  v0:=Tryd.zeroValue0
  t3:=Tryd.underlying3
  a3:=Tryd.isAgg3
  z3:=Tryd.sizeOf3
  v3:=Tryd.zeroValue3
  t4:=Tryd.underlying4
  a4:=Tryd.isAgg4
  z4:=Tryd.sizeOf4
  v4:=Tryd.zeroValue4
  t5:=Tryd.underlying5
  a5:=Tryd.isAgg5
  z5:=Tryd.sizeOf5
  v5:=Tryd.zeroValue5
  t9:=Tryd.underlying9
  a9:=Tryd.isAgg9
  z9:=Tryd.sizeOf9
  v9:=Tryd.zeroValue9
  t21:=Tryd.underlying21
  a21:=Tryd.isAgg21
  z21:=Tryd.sizeOf21
  v21:=Tryd.zeroValue21
  t46:=Tryd.underlying103
  a46:=Tryd.isAgg103
  z46:=Tryd.sizeOf103
  v46:=Tryd.zeroValue103
  t105:=Tryd.underlying89
  a105:=Tryd.isAgg89
  z105:=Tryd.sizeOf89
  v105:=Tryd.zeroValue89
  t119:=Tryd.underlying104
  a119:=Tryd.isAgg104
  z119:=Tryd.sizeOf104
  t138:=Tryd.underlying106
  a138:=Tryd.isAgg106
  z138:=Tryd.sizeOf106
  v138:=Tryd.zeroValue106
  t139:=Tryd.underlying107
  a139:=Tryd.isAgg107
  z139:=Tryd.sizeOf107
  v139:=Tryd.zeroValue107
  g3:=by kernel_rfl
  g4:=by kernel_rfl }
def Tryd.lays152_ren:Go.Shelf.Ren:=⟨fun|152=>86|137=>90|119=>91|224=>92|225=>93|217=>94|266=>95|n=>n,fun|9=>9|21=>21|3=>3|4=>4|5=>5|0=>0|46=>103|n=>n,fun|n=>n⟩
theorem Tryd.lays152:Go.Proofs.Lays.n152 Tryd.prog Tryd.lays152_ren:={
  mixed:=by kernel_rfl
  f119:=Tryd.func91.trans (congrArg some (by kernel_rfl))
  f137:=Tryd.func90.trans (congrArg some (by kernel_rfl))
  f152:=Tryd.func86.trans (congrArg some (by kernel_rfl))
  f217:=Tryd.func94.trans (congrArg some (by kernel_rfl))
  f224:=Tryd.func92.trans (congrArg some (by kernel_rfl))
  f225:=Tryd.func93.trans (congrArg some (by kernel_rfl))
  f266:=Tryd.func95.trans (congrArg some (by kernel_rfl))
  t0:=Tryd.underlying0
  a0:=Tryd.isAgg0
  z0:=Tryd.sizeOf0
  v0:=Tryd.zeroValue0
  t3:=Tryd.underlying3
  a3:=Tryd.isAgg3
  z3:=Tryd.sizeOf3
  v3:=Tryd.zeroValue3
  t4:=Tryd.underlying4
  a4:=Tryd.isAgg4
  z4:=Tryd.sizeOf4
  v4:=Tryd.zeroValue4
  t5:=Tryd.underlying5
  a5:=Tryd.isAgg5
  z5:=Tryd.sizeOf5
  v5:=Tryd.zeroValue5
  t9:=Tryd.underlying9
  a9:=Tryd.isAgg9
  z9:=Tryd.sizeOf9
  v9:=Tryd.zeroValue9
  t21:=Tryd.underlying21
  a21:=Tryd.isAgg21
  z21:=Tryd.sizeOf21
  v21:=Tryd.zeroValue21
  t46:=Tryd.underlying103
  a46:=Tryd.isAgg103
  z46:=Tryd.sizeOf103
  v46:=Tryd.zeroValue103 }
open Go.RowKit Go.Lib in
theorem Tryd.strings_IndexRune_ascii (s:ByteArray) (r:Int) (w:World) (h0:0≤r) (h1:r<128):
    Calls Tryd.prog 86 #[.string s,.int .i32 r] w fun e w'=>e= .returned (.int .i64 (Lib.indexByte s.data.toList r.toNat.toUInt8))∧w'=w:=Any.strings_IndexRune_ascii Tryd.lays152 s r w h0 h1
def Tryd.lays260_ren:Go.Shelf.Ren:=⟨fun|260=>77|n=>n,fun|9=>9|21=>21|3=>3|4=>4|5=>5|119=>104|0=>0|46=>103|139=>107|138=>106|n=>n,fun|3=>0|4=>1|n=>n⟩
theorem Tryd.lays260:Go.Proofs.Lays.n260 Tryd.prog Tryd.lays260_ren:={
  mixed:=by kernel_rfl
  f260:=Tryd.func77.trans (congrArg some (by kernel_rfl))
  t0:=Tryd.underlying0
  a0:=Tryd.isAgg0
  z0:=Tryd.sizeOf0
  v0:=Tryd.zeroValue0
  t3:=Tryd.underlying3
  a3:=Tryd.isAgg3
  z3:=Tryd.sizeOf3
  v3:=Tryd.zeroValue3
  t4:=Tryd.underlying4
  a4:=Tryd.isAgg4
  z4:=Tryd.sizeOf4
  v4:=Tryd.zeroValue4
  t5:=Tryd.underlying5
  a5:=Tryd.isAgg5
  z5:=Tryd.sizeOf5
  v5:=Tryd.zeroValue5
  t9:=Tryd.underlying9
  a9:=Tryd.isAgg9
  z9:=Tryd.sizeOf9
  v9:=Tryd.zeroValue9
  t21:=Tryd.underlying21
  a21:=Tryd.isAgg21
  z21:=Tryd.sizeOf21
  v21:=Tryd.zeroValue21
  t46:=Tryd.underlying103
  a46:=Tryd.isAgg103
  z46:=Tryd.sizeOf103
  v46:=Tryd.zeroValue103
  t119:=Tryd.underlying104
  a119:=Tryd.isAgg104
  z119:=Tryd.sizeOf104
  t138:=Tryd.underlying106
  a138:=Tryd.isAgg106
  z138:=Tryd.sizeOf106
  v138:=Tryd.zeroValue106
  t139:=Tryd.underlying107
  a139:=Tryd.isAgg107
  z139:=Tryd.sizeOf107
  v139:=Tryd.zeroValue107
  g3:=by kernel_rfl
  g4:=by kernel_rfl }
open Go.RowKit Go.Lib in
theorem Tryd.utf8_DecodeRuneInString (s:ByteArray) (w:World) (hT:Lib.Utf8Tabs 0 1 w):
    Calls Tryd.prog 66 #[.string s] w fun e w'=>e= .returned (.tuple #[.int .i32 (Lib.decodeGo s).1,.int .i64 (Lib.decodeGo s).2])∧Below w.heap.size w w':=Any.utf8_DecodeRuneInString Tryd.lays197 s w hT
end Go.Proofs
namespace Go.Proofs.YtdlolaognnbhpaaDoor
open Go.RowKit Go.Proofs.YtdlolaognnbhpaaDoorW.PrintWords Go.Proofs.YtdlolaognnbhpaaDoorW
def PTabs (w:World):Prop:=Lib.Utf8Tabs 0 1 w
theorem PTabs.step {w w':World} (h:PTabs w) (hb:Below w.heap.size w w'):PTabs w':=Utf8Tabs_below h hb
theorem PTabs.here {w:World} (h:PTabs w):Lib.Utf8Tabs 0 1 w:=h
namespace Aid
def ix2 (i a b:Int):Int:=if i=0 then a else b
theorem no_standin {P:Program} {ps:Array TypeId} (h:(ps.toList.all fun t=> !(P.wantsStandIn t))=true) {j:Nat} {t:TypeId} (ht:ps[j]?=some t):P.wantsStandIn t=false:=by
 have hm:t∈ps.toList:=by {
 rw [Array.mem_toList_iff]
 exact Array.mem_of_getElem? ht
 }
 have:=List.all_eq_true.1 h t hm
 simpa using this
section
variable {P : Program} {ops : Array Oper} {rest : List Oper} {o : Oper} {a : Act} {W : World} {Q : Exit → Act → World → Prop}
theorem R_slice {α:Type} {d:Kd α} {e base:Nat} {ok:Nat→Prop} {w:World} {v:Value} {xs:List α} (h:d.R e w base ok v xs):∃ A n c,v= .slice A n c:=by
 obtain ⟨_,inner,ho,_⟩:=h
 rcases ho.2 with ⟨h,_⟩|⟨g,cap,_,h,_⟩
 {
 exact ⟨_,_,_,h⟩
 }
 {
 exact ⟨_,_,_,h⟩
 }
theorem R_make0 {α:Type} (d:Kd α) {w0 W:World} (base e:Nat) (hgd:o.guard=none) {N:Tmp} (_hd:o.dst=some N) (t:TypeId) (x y:Operand) (ho:o.op= .makeSlice t x y) (n:Int) (hx:a.eval x= .int .i64 0) (hy:a.eval y= .int .i64 n)
 (ht:P.underlying t=some (.slice e)) (z:Value) (bytes:Nat) (hinfo:(P.info? e).map (fun i=>(i.zero,i.size,i.bytes))=some (some z,d.sz,bytes)) (hb0:0<bytes)
 {ok:Nat→Prop} (hfresh:ok W.heap.size) (h0:0≤n) (hl:n.toNat * bytes≤281474976710656) (HB:Below base w0 W) (hbase:base≤W.heap.size)
 (h:∀ v1 w1,d.R e w1 base ok v1 []→Below base w0 w1→W.grownBy w1 none→(∃ b,v1.ownBlock=some b∧W.heap.size≤b)→wpList P ops Q rest (a.put o.dst v1) w1):wpList P ops Q (o::rest) a W:=by
 obtain ⟨m,rfl⟩:=Int.eq_ofNat_of_zero_le h0
 simp only [Int.toNat_natCast] at hl
 obtain ⟨i0,hi,hzz⟩:=Option.map_eq_some_iff.1 hinfo
 simp only [Prod.mk.injEq] at hzz
 obtain ⟨hz0,hz1,hz2⟩:=hzz
 have hm:m≤281474976710656:=Nat.le_trans (Nat.le_mul_of_pos_right _ hb0) hl
 obtain ⟨w',hr,hown,hg⟩:=run_make_own (P:=P) (w:=W) base t e i0 z d.sz ht hi hz0 hz1 .i64 .i64 m (by rw [hz2,Nat.mul_comm];exact hl) (by unfold maxLen;omega) hbase
 refine Kd.event_run (v:= .slice (some ⟨W.heap.size,0,none⟩) 0 m) (w1:=w') hgd ?_ (h _ _ ⟨fun k hk=> ?_,[],hown,Reps.none _ _⟩ ?_ hg ⟨W.heap.size,by simp [Value.ownBlock],Nat.le_refl _⟩)
 {
 simp [execOp,ho,hx,hy,hr]
 }
 {
 have:W.heap.size=k:=by simpa [Value.ownBlock] using hk
 subst this
 exact hfresh
 }
 {
 exact HB.grown hg hbase (fun k hk=>by cases hk)
 }
theorem gate_calleeT {f:FuncId} {c:Operand} {xs:Array Operand} {ts:Array TypeId} (_ho:o.op= .call { callee:= .value c,args:=xs,argTypes:=ts }) (_hc:a.eval c= .func (.func f) #[] #[]) (h:wpList P ops Q (o::rest) a W):wpList P ops Q (o::rest) a W:=h
theorem goesT_ {oi : Oper} {a : Act} {w : World} (N : Option Tmp) (hd : oi.dst = N) (hg : oi.guard = none) {f : FuncId} {fn : Func} {c : Operand} {xs : Array Operand} {ts : Array TypeId} (hf : P.funcs[f]? = some fn) (hname : (fn.name == "runtime.NumGoroutine") = false) (hb : fn.body.isSome = true) (args : Array Value) (hc : a.eval c = .func (.func f) #[] #[])
 (hop:oi.op= .call { callee:= .value c,args:=xs,argTypes:=ts }) (hargs:xs.map a.eval=args)
 (h:Calls P f args w fun e w'=>∃ v,e= .returned v∧wpList P ops Q rest (a.put N v) w'):wpList P ops Q (oi::rest) a w:=by
 refine wpList_plain hg fun K hK=> ?_
 have he:=PrintLast.enters_ hf hname hb args w
 have hrun:(execOp a.eval oi).run P w= .ok (.enter f args) w:=by {
 unfold execOp
 simp [hop,resolve,Deferred.ofValue,invoke,hargs,hc,he]
 }
 unfold Oper.wp
 rw [hrun,Oper.upon_enter]
 refine h.mono fun e w'' hh=> ?_
 obtain ⟨v,rfl,hk⟩:=hh
 subst hd
 exact hK _ _ hk
end
end Aid
end Go.Proofs.YtdlolaognnbhpaaDoor
