/- A part of the proof of laws of this seat: PatchBack, PatchDiff, PatchLeast, PatchMetric. Conditions: none of our own. -/
import Derived.Test.YtdlolaognnbhpaaDoorK5
import Derived.Test.YtdlolaognnbhpaaDoorK8
namespace Go.Proofs.YtdlolaognnbhpaaDoor.Pr
open Go.RowKit Go.Proofs.YtdlolaognnbhpaaDoorW.PrintWords Go.Proofs.YtdlolaognnbhpaaDoorW.PrintLast Go.Proofs.YtdlolaognnbhpaaDoorW.PrintMore
noncomputable section
attribute [local go_sem] max2_int min2_int max_two min_two max_three min_three max_four min_four
set_option linter.unusedVariables false
set_option linter.unusedSimpArgs false
section
attribute [local go_sem] Oper.semAt_some
def patch_edits.at_ (k:Nat) (a b:List S50) (i j:Int):Option Bool:=
  if i<a.length then (if j<b.length then patch_same.f k (rd_T50 a i).f0 (rd_T50 a i).f1.f0 (rd_T50 a i).f1.f1 (rd_T50 a i).f2 (rd_T50 b j).f0 (rd_T50 b j).f1.f0 (rd_T50 b j).f1.f1 (rd_T50 b j).f2 else some false) else some false
def patch_edits.left_ (a b:List S50) (L:List (List Int)) (i j:Int):Bool:=
  decide (i<a.length) && (decide (j=b.length)||decide (rd (L.getD i.toNat []) (j+1)≤rd (L.getD (i+1).toNat []) j))
def patch_edits.out_ (acc:List S53) (x:S53):List S53:=if 0<x.f1.length+x.f2.length then acc++[x] else acc
def patch_edits.go (k:Nat) (a b:List S50) (L:List (List Int)):Nat→List S53→S53→Int→Int→Option (List S53)
 |0,_,_,_,_=>none
 |n+1,acc,x,i,j=>
   if i<a.length∨j<b.length then
     (patch_edits.at_ k a b i j).bind fun t=>
       if t=true then patch_edits.go k a b L n (patch_edits.out_ acc x) ⟨i+1,[],[]⟩ (i+1) (j+1)
       else if patch_edits.left_ a b L i j=true then (patch_own.f k [rd_T50 a i]).bind fun o=>if o.length≤1 then patch_edits.go k a b L n acc ⟨x.f0,x.f1++o,x.f2⟩ (i+1) j else none
       else (patch_own.f k [rd_T50 b j]).bind fun o=>if o.length≤1 then patch_edits.go k a b L n acc ⟨x.f0,x.f1,x.f2++o⟩ i (j+1) else none
   else some (patch_edits.out_ acc x)
def patch_edits.Yields (l base:Nat) (Z:Nat→Prop) (T0:Nat) (J:Nat→List S53→World→Prop):Prop:=
  ∀ (T:Nat) (acc:List S53) (x:S53) (vO vN:Value) (W:World),J T acc W→T0≤T→T≤W.heap.size→acc.length≤10000→
    k53.M W base (fun k=>T≤k) x [.int .i64 x.f0,vO,vN]→
    YieldAt Fence.wide 2 Tryd.prog l #[.agg #[.int .i64 x.f0,vO,vN]] W fun e W'=>e= .returned (.bool true)∧J W'.heap.size (acc++[x]) W'∧Below base W W'∧∀ k,k<T0→ ¬ Z k→W'.heap[k]?=W.heap[k]?
theorem patch_edits.row_L {w:World} {base:Nat} {ok:Nat→Prop} {v:Value} {L:List (List Int)} (h:Kd.R (Kd.slice 3 (Kd.int .i64)) 72 w base ok v L) (i:Int) (h0:0≤i) (h1:i<(L.length:Int)):
 ∃ ad c,v= .slice (some ad) L.length c∧∃ A c',w.cell? (ad.add i.toNat)=some (.slice A (L.getD i.toNat []).length c')∧(Kd.int .i64).C w A (L.getD i.toNat []).length (L.getD i.toNat []):=by
 obtain ⟨A,c,rfl,hl,hC⟩:=Kd.R_reads h
 obtain ⟨ad,cs,rfl,_,hK,hc⟩:=Kd.C_get hC ([]:List Int) i h0 h1
 obtain ⟨A',c',rfl,_,hC'⟩:=hK
 refine ⟨ad,c,rfl,A',c',?_,hC'⟩
 have:=hc 0 _ rfl
 rwa [show i.toNat * (Kd.slice 3 (Kd.int .i64)).sz+0=i.toNat from by show i.toNat * 1+0=i.toNat;omega] at this
structure patch_edits.EI (w0:World) (S gx ga gb:Nat) (A0 A1:Option Addr) (c0 c1:Nat) (a b:List S50) (L:List (List Int)) (v4:Value) (J:Nat→List S53→World→Prop) (T:Nat) (acc:List S53) (x:S53) (vO vN:Value) (wr:World):Prop where
 hT0:gx<T
 hT:T≤wr.heap.size
 hJ:J T acc wr
 hx:wr.heap[gx]?=some (.cells #[.int .i64 x.f0,vO,vN] 53 (0,0))
 hO:k50.R 50 wr w0.heap.size (fun k=>T≤k∧some k≠vN.ownBlock) vO x.f1
 hN:k50.R 50 wr w0.heap.size (fun k=>T≤k∧some k≠vO.ownBlock) vN x.f2
 hga:wr.heap[ga]?=some (.cells #[.slice A0 a.length c0] 22 (0,0))
 hgb:wr.heap[gb]?=some (.cells #[.slice A1 b.length c1] 22 (0,0))
 hL:(Kd.slice 3 (Kd.int .i64)).R 72 wr w0.heap.size (fun k=>S≤k∧k<gx) v4 L
 hB:Below w0.heap.size w0 wr
theorem patch_edits.cut_one (A:Option Addr) (l:List S50) (c:Nat) (i:Int) (h0:0≤i) (h1:i<(l.length:Int)) (hc:l.length≤c):
 ∃ (A':Option Addr) (c':Nat),(∀ W:World,(Instr.slice 22 (.slice A l.length c) (some (.int .i64 i)) (some (.int .i64 (i+1))) none).run Tryd.prog W= .ok (.slice A' 1 c') W)∧1≤c'∧∀ w,Kd.C k50 w A l.length l→Kd.C k50 w A' 1 [rd_T50 l i]:=by
 obtain ⟨i0,hi,_,hsz,_⟩:=info_parts info50
 refine ⟨if c=i.toNat then A else A.map (·.add (i.toNat * 4)),c - i.toNat,fun W=> ?_,?_,fun w h=> ?_⟩
 {
 rw [cut_mid (P:=Tryd.prog) 22 50 .i64 .i64 Tryd.underlying22 hi 4 hsz A l.length c i (i+1) h0 (by omega) (by omega) hc W,show (i+1).toNat - i.toNat=1 by omega]
 }
 {
 omega
 }
 {
 have h2:=Kd.C_mid (lo:=i.toNat) (hi:=(i+1).toNat) h (by omega) (by omega) hc
 have e:(l.take (i+1).toNat).drop i.toNat=[rd_T50 l i]:=by {
 have hlt:i.toNat<l.length:=by omega
 rw [show (i+1).toNat=i.toNat+1 by omega,List.take_succ_eq_append_getElem hlt,List.drop_append_of_le_length (by rw [List.length_take];omega),List.drop_eq_nil_of_le (by rw [List.length_take];omega),List.nil_append]
 unfold rd_T50
 rw [List.getD_eq_getElem?_getD,List.getElem?_eq_getElem hlt]
 rfl
 }
 rw [e] at h2
 exact h2
 }
namespace patch_edits.EI
section
variable {w0 : World} {S gx ga gb T : Nat} {A0 A1 : Option Addr} {c0 c1 : Nat} {a b : List S50} {L : List (List Int)} {v4 : Value} {J : Nat → List S53 → World → Prop} {acc : List S53} {x : S53} {vO vN : Value} {wr : World} {Z : Nat → Prop}
theorem kept (h:patch_edits.EI w0 S gx ga gb A0 A1 c0 c1 a b L v4 J T acc x vO vN wr) (hg:ga<S∧gb<S∧S≤gx∧ ¬ Z ga∧ ¬ Z gb) (hZ:∀ k,Z k→w0.heap.size≤k∧k<S) {W':World} (hk:∀ k,k<gx→ ¬ Z k→W'.heap[k]?=wr.heap[k]?):
    W'.heap[ga]?=some (.cells #[.slice A0 a.length c0] 22 (0,0))∧W'.heap[gb]?=some (.cells #[.slice A1 b.length c1] 22 (0,0))∧(Kd.slice 3 (Kd.int .i64)).R 72 W' w0.heap.size (fun k=>S≤k∧k<gx) v4 L:=
  ⟨(hk ga (by omega) hg.2.2.2.1).trans h.hga,(hk gb (by omega) hg.2.2.2.2).trans h.hgb,Kd.R_step h.hL (fun k ho _=>hk k ho.2 (fun hz=>by have:=(hZ k hz).2;omega))⟩
theorem reset (h:patch_edits.EI w0 S gx ga gb A0 A1 c0 c1 a b L v4 J T acc x vO vN wr) (hg:ga<S∧gb<S∧S≤gx∧ ¬ Z ga∧ ¬ Z gb) (hZ:∀ k,Z k→w0.heap.size≤k∧k<S) {W':World} {T':Nat} {acc':List S53} {o0 o1 o2:Value} (hT':gx<T') (hTs:T'≤W'.heap.size) (hJ':J T' acc' W')
 (hJJ:∀ T acc W1 W2,J T acc W1→(∀ k,k<T→k≠gx→W2.heap[k]?=W1.heap[k]?)→J T acc W2) (hx:W'.heap[gx]?=some (.cells #[o0,o1,o2] 53 (0,0))) (hk:∀ k,k<gx→ ¬ Z k→W'.heap[k]?=wr.heap[k]?) (hB:Below w0.heap.size w0 W') (hb:w0.heap.size≤gx) (z:Int):
 patch_edits.EI w0 S gx ga gb A0 A1 c0 c1 a b L v4 J T' acc' ⟨z,[],[]⟩ (.slice none 0 0) (.slice none 0 0) (((W'.setCell ⟨gx,0,none⟩ (.int .i64 z)).setCell ⟨gx,1,none⟩ (.slice none 0 0)).setCell ⟨gx,2,none⟩ (.slice none 0 0)):=by
 have hfar:∀ k,k≠gx→(((W'.setCell ⟨gx,0,none⟩ (.int .i64 z)).setCell ⟨gx,1,none⟩ (.slice none 0 0)).setCell ⟨gx,2,none⟩ (.slice none 0 0)).heap[k]?=W'.heap[k]?:=fun k hne=>(Below.heap_setCell _ ⟨gx,2,none⟩ _ k hne).trans ((Below.heap_setCell _ ⟨gx,1,none⟩ _ k hne).trans (Below.heap_setCell _ ⟨gx,0,none⟩ _ k hne))
 obtain ⟨h1,h2,h3⟩:=h.kept hg hZ (W':=(((W'.setCell ⟨gx,0,none⟩ (.int .i64 z)).setCell ⟨gx,1,none⟩ (.slice none 0 0)).setCell ⟨gx,2,none⟩ (.slice none 0 0))) (fun k hk1 hk2=>(hfar k (by omega)).trans (hk k hk1 hk2))
 exact ⟨hT',by simpa using hTs,hJJ _ _ _ _ hJ' (fun k _ hne=>hfar k hne),blk_put (blk_put (blk_put hx 0 _ rfl) 1 _ rfl) 2 _ rfl,Kd.R_nil _ _ _ _ _,Kd.R_nil _ _ _ _ _,h1,h2,h3,((hB.setCell hb _).setCell hb _).setCell hb _⟩
theorem old (h:patch_edits.EI w0 S gx ga gb A0 A1 c0 c1 a b L v4 J T acc x vO vN wr) (hg:ga<S∧gb<S∧S≤gx∧ ¬ Z ga∧ ¬ Z gb) (hZ:∀ k,Z k→w0.heap.size≤k∧k<S)
 (hJJ:∀ T acc W1 W2,J T acc W1→(∀ k,k<T→k≠gx→W2.heap[k]?=W1.heap[k]?)→J T acc W2) {w8 w9:World} (h8:Below wr.heap.size wr w8) (v1:Value) (y:List S50) (hv:k50.R 50 w9 w0.heap.size (fun k=>T≤k∧some k≠vN.ownBlock) v1 y) (hB:Below w0.heap.size w0 w9) (hgr:w8.grownBy w9 vO.ownBlock)
 (hat:v1.ownBlock=vO.ownBlock∨∃ b,v1.ownBlock=some b∧w8.heap.size≤b) (hb:w0.heap.size≤gx):
 patch_edits.EI w0 S gx ga gb A0 A1 c0 c1 a b L v4 J T acc ⟨x.f0,y,x.f2⟩ v1 vN (w9.setCell ⟨gx,1,none⟩ v1):=by
 have hT0:=h.hT0
 have hT:=h.hT
 have hT8:T≤w8.heap.size:=Nat.le_trans hT h8.size
 have hown:∀ k,vO.ownBlock=some k→T≤k:=fun k hk=>(h.hO.1 k hk).1
 have hlow:∀ k,k<T→w9.heap[k]?=wr.heap[k]?:=fun k hk=>(hgr.block k (by omega) (fun e=>by have:=hown k e.symm;omega)).trans (h8.block k (by omega))
 obtain ⟨h1,h2,h3⟩:=h.kept hg hZ (W':=w9.setCell ⟨gx,1,none⟩ v1) (fun k hk _=>(Below.heap_setCell _ ⟨gx,1,none⟩ _ k (by show k≠gx;omega)).trans (hlow k (by omega)))
 have hgs:=hgr.size
 refine ⟨hT0,by rw [World.size_setCell];omega,hJJ _ _ _ _ h.hJ (fun k hk hne=>(Below.heap_setCell _ ⟨gx,1,none⟩ _ k hne).trans (hlow k hk)),blk_put ((hlow gx hT0).trans h.hx) 1 _ rfl,?_,?_,h1,h2,h3,hB.setCell hb _⟩
 {
 exact Kd.R_far hv (fun k hk=>by show k≠gx;omega) _
 }
 {
 refine Kd.R_far (Kd.R_mono (Kd.R_grown (Kd.R_below (Kd.R_bound h.hN) h8) hgr (fun k hk=>hk.1.2)) (fun k hk=>⟨hk.1.1,fun e=> ?_⟩)) (fun k hk=>by show k≠gx;omega) _
 rcases hat with hat|⟨b,hat,hle⟩
 {
 exact hk.1.2 (e.trans hat)
 }
 {
 rw [hat] at e
 injection e with e
 have:=hk.2.2.1
 have:=h8.size
 omega
 }
 }
theorem new (h:patch_edits.EI w0 S gx ga gb A0 A1 c0 c1 a b L v4 J T acc x vO vN wr) (hg:ga<S∧gb<S∧S≤gx∧ ¬ Z ga∧ ¬ Z gb) (hZ:∀ k,Z k→w0.heap.size≤k∧k<S)
 (hJJ:∀ T acc W1 W2,J T acc W1→(∀ k,k<T→k≠gx→W2.heap[k]?=W1.heap[k]?)→J T acc W2) {w8 w9:World} (h8:Below wr.heap.size wr w8) (v1:Value) (y:List S50) (hv:k50.R 50 w9 w0.heap.size (fun k=>T≤k∧some k≠vO.ownBlock) v1 y) (hB:Below w0.heap.size w0 w9) (hgr:w8.grownBy w9 vN.ownBlock)
 (hat:v1.ownBlock=vN.ownBlock∨∃ b,v1.ownBlock=some b∧w8.heap.size≤b) (hb:w0.heap.size≤gx):
 patch_edits.EI w0 S gx ga gb A0 A1 c0 c1 a b L v4 J T acc ⟨x.f0,x.f1,y⟩ vO v1 (w9.setCell ⟨gx,2,none⟩ v1):=by
 have hT0:=h.hT0
 have hT:=h.hT
 have hT8:T≤w8.heap.size:=Nat.le_trans hT h8.size
 have hown:∀ k,vN.ownBlock=some k→T≤k:=fun k hk=>(h.hN.1 k hk).1
 have hlow:∀ k,k<T→w9.heap[k]?=wr.heap[k]?:=fun k hk=>(hgr.block k (by omega) (fun e=>by have:=hown k e.symm;omega)).trans (h8.block k (by omega))
 obtain ⟨h1,h2,h3⟩:=h.kept hg hZ (W':=w9.setCell ⟨gx,2,none⟩ v1) (fun k hk _=>(Below.heap_setCell _ ⟨gx,2,none⟩ _ k (by show k≠gx;omega)).trans (hlow k (by omega)))
 have hgs:=hgr.size
 refine ⟨hT0,by rw [World.size_setCell];omega,hJJ _ _ _ _ h.hJ (fun k hk hne=>(Below.heap_setCell _ ⟨gx,2,none⟩ _ k hne).trans (hlow k hk)),blk_put ((hlow gx hT0).trans h.hx) 2 _ rfl,?_,?_,h1,h2,h3,hB.setCell hb _⟩
 {
 refine Kd.R_far (Kd.R_mono (Kd.R_grown (Kd.R_below (Kd.R_bound h.hO) h8) hgr (fun k hk=>hk.1.2)) (fun k hk=>⟨hk.1.1,fun e=> ?_⟩)) (fun k hk=>by show k≠gx;omega) _
 rcases hat with hat|⟨b,hat,hle⟩
 {
 exact hk.1.2 (e.trans hat)
 }
 {
 rw [hat] at e
 injection e with e
 have:=hk.2.2.1
 have:=h8.size
 omega
 }
 }
 {
 exact Kd.R_far hv (fun k hk=>by show k≠gx;omega) _
 }
end
end patch_edits.EI
end
section
attribute [local go_sem] Oper.semAt_some
set_option maxHeartbeats 8000000 in
set_option maxRecDepth 100000 in
theorem patch_edits.iter (k n:Nat) (l base:Nat) (w0:World) (Z:Nat→Prop) (J:Nat→Nat→List S53→World→Prop) (A0 A1:Option Addr) (c0 c1:Nat) (a b:List S50) (r:List S53) (ga gb:Nat) (W:World)
 (hr0:Kd.C k50 w0 A0 a.length a) (hc0:a.length≤c0) (hr1:Kd.C k50 w0 A1 b.length b) (hc1:b.length≤c1) (hB:Below w0.heap.size w0 W) (hbase:base=w0.heap.size)
 (hga:W.heap[ga]?=some (.cells #[.slice A0 a.length c0] 22 (0,0))) (hgb:W.heap[gb]?=some (.cells #[.slice A1 b.length c1] 22 (0,0))) (hza: ¬ Z ga) (hzb: ¬ Z gb) (hZ:∀ k,Z k→base≤k∧k<W.heap.size)
 (hY:∀ T0,W.heap.size≤T0→patch_edits.Yields l base Z T0 (J T0))
 (hJ:∀ T0 T acc W1 W2 gx,J T0 T acc W1→W.heap.size≤gx→gx<T0→(∀ k,k<T→k≠gx→W2.heap[k]?=W1.heap[k]?)→J T0 T acc W2)
 (hJ0:∀ T0 W1,W.heap.size≤T0→(∀ k,k<W.heap.size→W1.heap[k]?=W.heap[k]?)→J T0 T0 [] W1)
 (hsa:a.length≤1000) (hsb:b.length≤1000) {L:List (List Int)} (hL:patch_lengths.f k a b=some L) (hL1:L.length=a.length+1) (hL2:∀ i:Nat,i≤a.length→(L.getD i []).length=b.length+1) (hgo:patch_edits.go k a b L n [] ⟨0,[],[]⟩ 0 0=some r):
 CallsIn Fence.wide 3 Tryd.prog 36 #[.func (.yield l) #[] #[],.pointer (some ⟨ga,0,none⟩),.pointer (some ⟨gb,0,none⟩)] W fun e W'=>(∃ v,e= .returned v)∧(∃ T0 T,J T0 T r W')∧Below base w0 W':=by
 subst hbase
 have HR0:=Aside0.mk hr0
 have HR1:=Aside0.mk hr1
 have HC0:=Aside0.mk hc0
 have HC1:=Aside0.mk hc1
 have HB:=Aside0.mk hB
 have HLL:=Aside0.mk hL
 have HL1:=Aside0.mk hL1
 have HL2:=Aside0.mk hL2
 have HG:=Aside0.mk hgo
 have HYY:=Aside0.mk hY
 have HJJ:=Aside0.mk hJ
 have HJ0:=Aside0.mk hJ0
 have HZ:=Aside0.mk hZ
 have HGA:=Aside0.mk hga
 have HGB:=Aside0.mk hgb
 clear hr0 hr1 hc0 hc1 hB hL hL1 hL2 hgo hY hJ hJ0 hZ
 have ca:W.cell? ⟨ga,0,none⟩=some (.slice A0 a.length c0):=(blk_cell hga 0).trans rfl
 have cb:W.cell? ⟨gb,0,none⟩=some (.slice A1 b.length c1):=(blk_cell hgb 0).trans rfl
 clear hga hgb
 refine callsIn_of_wp Tryd.func36 rfl trivial ?_ rfl
 simp only [Tryd.ntmps36,List.size_toArray,List.length_cons,List.length_nil,Nat.reduceAdd,Nat.reduceSub,Array.replicate_succ,Array.replicate_zero,List.push_toArray,List.append_toArray,List.nil_append,List.cons_append]
 gi_wp2_with (refine ⟨trivial,?_⟩;gi_at_call 37;refine (callsIn_wide.2 ((patch_lengths.calls k _ _ a _ _ b L _ (Kd.C_below HR0.out HB.out) HC0.out (Kd.C_below HR1.out HB.out) HC1.out HLL.out))).mono ?_;rintro e w1 ⟨v4,rfl,ho4,hb1⟩)
 have HB1:=Aside0.mk (below_then HB.out HB.out.size hb1)
 have HO4:=Aside0.mk (Kd.R_mono (Kd.R_bound (Kd.S_R ho4)) (ok':=fun k=>W.heap.size≤k∧k<w1.heap.size) (fun k hk=>⟨hk.2.1,hk.2.2.1⟩))
 have HBW:=Aside0.mk hb1
 clear ho4 hb1 ca cb
 obtain ⟨gx,hgx⟩:∃ g,g=w1.heap.size:=⟨_,rfl⟩
 have HEI:patch_edits.EI w0 W.heap.size gx ga gb A0 A1 c0 c1 a b L v4 (J (gx+1)) (gx+1) [] ⟨0,[],[]⟩ (.slice none 0 0) (.slice none 0 0) (w1.alloc (.cells #[.int .i64 0,.slice none 0 0,.slice none 0 0] 53)):=by {
 have hs:=HBW.out.size
 refine ⟨by omega,by rw [World.size_alloc];omega,?_,?_,Kd.R_nil _ _ _ _ _,Kd.R_nil _ _ _ _ _,?_,?_,?_,HB1.out.alloc HB1.out.size _⟩
 {
 exact HJ0.out _ _ (by omega) (fun k hk=>((below_alloc (Below.refl _ w1) _).block k (by omega)).trans (HBW.out.block k hk))
 }
 {
 rw [hgx];exact heap_alloc_new _ _
 }
 {
 exact ((below_alloc (Below.refl _ w1) _).block ga (by have:=(Array.getElem?_eq_some_iff.1 HGA.out).1;omega)).trans ((HBW.out.block ga (Array.getElem?_eq_some_iff.1 HGA.out).1).trans HGA.out)
 }
 {
 exact ((below_alloc (Below.refl _ w1) _).block gb (by have:=(Array.getElem?_eq_some_iff.1 HGB.out).1;omega)).trans ((HBW.out.block gb (Array.getElem?_eq_some_iff.1 HGB.out).1).trans HGB.out)
 }
 {
 rw [hgx]
 exact Kd.R_below (Kd.R_lower HO4.out HB.out.size) (below_alloc (Below.refl _ w1) _)
 }
 }
 have HX:=Aside0.mk HEI
 have HGG:Aside0 (ga<W.heap.size∧gb<W.heap.size∧W.heap.size≤gx∧ ¬ Z ga∧ ¬ Z gb):=⟨(Array.getElem?_eq_some_iff.1 HGA.out).1,(Array.getElem?_eq_some_iff.1 HGB.out).1,by have:=HBW.out.size;omega,hza,hzb⟩
 have HJX:Aside0 (∀ T acc W1 W2,J (gx+1) T acc W1→(∀ k,k<T→k≠gx→W2.heap[k]?=W1.heap[k]?)→J (gx+1) T acc W2):=⟨fun T acc W1 W2 h1 h2=>HJJ.out _ _ _ _ _ gx h1 (by have:=HBW.out.size;omega) (by omega) h2⟩
 have HBS:Aside0 (w0.heap.size≤gx):=⟨by have:=HBW.out.size;have:=HB.out.size;omega⟩
 clear hza hzb
 have HS:Aside0 (W.heap.size≤gx):=⟨by have:=HBW.out.size;omega⟩
 clear HEI HB1 HO4 HBW HJ0 HGA HGB HB
 rw [←hgx]
 clear hgx
 gi_loopw [6,7] (fun v6 v7 wr=>∃ (n T:Nat) (acc:List S53) (x:S53) (i j:Int) (vO vN:Value),v6= .int .i64 i∧v7= .int .i64 j∧0≤i∧i≤a.length∧0≤j∧j≤b.length∧Aside0 (patch_edits.go k a b L n acc x i j=some r)∧Aside0 ((x.f1.length:Int)≤i∧(x.f2.length:Int)≤j∧(acc.length:Int)≤i)∧Aside0 (patch_edits.EI w0 W.heap.size gx ga gb A0 A1 c0 c1 a b L v4 (J (gx+1)) T acc x vO vN wr)) (fun v6 v7 _=>(a.length - (RowKit.intOf v6).toNat)+(b.length - (RowKit.intOf v7).toNat))
 case atStart=>exact ⟨n,gx+1,[],⟨0,[],[]⟩,0,0,_,_,rfl,rfl,by omega,by omega,by omega,by omega,HG,⟨by simp⟩,HX⟩
 case round=>
  (
 clear HX HG
 obtain ⟨n,T,acc,x,i,j,vO,vN,rfl,rfl,hi0,hi1,hj0,hj1,HG,HM,HX⟩:=hrel
 have BKA:=Aside0.mk HX.out.hga
 have BKB:=Aside0.mk HX.out.hgb
 have BKX:=Aside0.mk HX.out.hx
 have ca:wr.cell? ⟨ga,0,none⟩=some (.slice A0 a.length c0):=(blk_cell BKA.out 0).trans rfl
 have cb:wr.cell? ⟨gb,0,none⟩=some (.slice A1 b.length c1):=(blk_cell BKB.out 0).trans rfl
 have cx0:wr.cell? ⟨gx,0,none⟩=some (.int .i64 x.f0):=(blk_cell BKX.out 0).trans rfl
 have cx1:wr.cell? ⟨gx,1,none⟩=some vO:=(blk_cell BKX.out 1).trans rfl
 have cx2:wr.cell? ⟨gx,2,none⟩=some vN:=(blk_cell BKX.out 2).trans rfl
 cases n with
 |zero=>exact absurd HG.out (by simp [patch_edits.go])
 |succ n=>
  (
 have HG1:=HG.out
 clear HG
 simp only [patch_edits.go] at HG1
 by_cases hi:i<a.length
 {
 by_cases hj:j<b.length
 {
 rw [if_pos (.inl hi)] at HG1
 have HG:=Aside0.mk HG1
 clear HG1
 have di:decide (i<(a.length:Int))=true:=decide_eq_true hi
 have dj:decide (j<(b.length:Int))=true:=decide_eq_true hj
 obtain ⟨t,hAt,HG1⟩:=Option.bind_eq_some_iff.1 HG.out
 have HT:Aside0 (patch_same.f k (rd_T50 a i).f0 (rd_T50 a i).f1.f0 (rd_T50 a i).f1.f1 (rd_T50 a i).f2 (rd_T50 b j).f0 (rd_T50 b j).f1.f0 (rd_T50 b j).f1.f1 (rd_T50 b j).f2=some t):=⟨by rw [patch_edits.at_,if_pos hi,if_pos hj] at hAt;exact hAt⟩
 have HG2:=Aside0.mk HG1
 clear HG HG1 hAt
 obtain ⟨ad0,A3,c3,rfl,hx0,hx1,hx2,hx3,hl3,hr3⟩:=at_T50 (Kd.C_below HR0.out HX.out.hB) i hi0 hi
 obtain ⟨ad1,B3,d3,rfl,hy0,hy1,hy2,hy3,hm3,hs3⟩:=at_T50 (Kd.C_below HR1.out HX.out.hB) j hj0 hj
 have HL3:=Aside0.mk hl3
 have HR3:=Aside0.mk hr3
 have HM3:=Aside0.mk hm3
 have HS3:=Aside0.mk hs3
 clear hl3 hr3 hm3 hs3
 gi_wp2
 refine wpIn_wide.2 ?_
 go_region_held3 (fun w'=>w'.cell? ⟨ga,0,none⟩=some (.slice (some ad0) a.length c0)∧w'.cell? ⟨gb,0,none⟩=some (.slice (some ad1) b.length c1)∧w'.cell? (ad0.add (i.toNat * 4))=some (.string (rd_T50 a i).f0)∧w'.cell? ⟨(ad0.add (i.toNat * 4)).block,(ad0.add (i.toNat * 4)).off+1,none⟩=some (.int .u8 (rd_T50 a i).f1.f0)∧w'.cell? ⟨(ad0.add (i.toNat * 4)).block,(ad0.add (i.toNat * 4)).off+2,none⟩=some (.int .u8 (rd_T50 a i).f1.f1)∧w'.cell? ⟨(ad0.add (i.toNat * 4)).block,(ad0.add (i.toNat * 4)).off+3,none⟩=some (.slice A3 (rd_T50 a i).f2.length c3)∧w'.cell? (ad1.add (j.toNat * 4))=some (.string (rd_T50 b j).f0)∧w'.cell? ⟨(ad1.add (j.toNat * 4)).block,(ad1.add (j.toNat * 4)).off+1,none⟩=some (.int .u8 (rd_T50 b j).f1.f0)∧w'.cell? ⟨(ad1.add (j.toNat * 4)).block,(ad1.add (j.toNat * 4)).off+2,none⟩=some (.int .u8 (rd_T50 b j).f1.f1)∧w'.cell? ⟨(ad1.add (j.toNat * 4)).block,(ad1.add (j.toNat * 4)).off+3,none⟩=some (.slice B3 (rd_T50 b j).f2.length d3)) (first|go_keep|(go_split_ands;exact ⟨pw_cell_below hb5 (by assumption),pw_cell_below hb5 (by assumption),pw_cell_below hb5 (by assumption),pw_cell_below hb5 (by assumption),pw_cell_below hb5 (by assumption),pw_cell_below hb5 (by assumption),pw_cell_below hb5 (by assumption),pw_cell_below hb5 (by assumption),pw_cell_below hb5 (by assumption),pw_cell_below hb5 (by assumption)⟩)) ((go_at_call 38;refine (patch_same.calls k _ _ _ _ _ _ _ _ _ _ _ _ t _ (Kd.C_drew HR3.out) HL3.out (Kd.C_drew HS3.out) HM3.out HT.out).mono ?_;rintro e w5 ⟨rfl,hb5⟩))
 rename_i hHeld_
 clear hHeld_
 cases t with
 |true=>
  (
 clear hx0 hx1 hx2 hx3 hy0 hy1 hy2 hy3
 have HB5:Aside0 (Below wr.heap.size wr w5):=⟨(below_drew (Below.refl _ wr)).trans (by simpa using hb5)⟩
 clear hb5 ca cb cx0 cx1 cx2
 have ca:=(blk_cell (blk_below BKA.out HB5.out) 0).trans (show (#[_]:Array Value)[0]?=some _ from rfl)
 have cb:=(blk_cell (blk_below BKB.out HB5.out) 0).trans (show (#[_]:Array Value)[0]?=some _ from rfl)
 have cx0:=(blk_cell (blk_below BKX.out HB5.out) 0).trans (show (#[_,_,_]:Array Value)[0]?=some _ from rfl)
 have cx1:=(blk_cell (blk_below BKX.out HB5.out) 1).trans (show (#[_,_,_]:Array Value)[1]?=some _ from rfl)
 have cx2:=(blk_cell (blk_below BKX.out HB5.out) 2).trans (show (#[_,_,_]:Array Value)[2]?=some _ from rfl)
 have HJ5:Aside0 (J (gx+1) T acc w5):=⟨HJX.out _ _ _ _ HX.out.hJ (fun k hk _=>HB5.out.block k (Nat.lt_of_lt_of_le hk HX.out.hT))⟩
 have HM5:Aside0 (k53.M w5 w0.heap.size (fun k=>T≤k) x [.int .i64 x.f0,vO,vN]):=⟨⟨[.int .i64 x.f0],[vO,vN],rfl,rfl,[vO],[vN],rfl,⟨vO,rfl,Kd.R_below (Kd.R_mono HX.out.hO (fun k hk=>hk.1)) HB5.out⟩,⟨vN,rfl,Kd.R_below (Kd.R_mono HX.out.hN (fun k hk=>hk.1)) HB5.out⟩⟩⟩
 have hq:=HM.out
 obtain ⟨fn_,tmps_,assign_,body_,hy,hR⟩:=HYY.out (gx+1) (by have:=HS.out;omega) T acc x vO vN w5 HJ5.out HX.out.hT0 (Nat.le_trans HX.out.hT HB5.out.size) (by omega) HM5.out
 have hl1:x.f1.length≤1000:=by omega
 have hl2:x.f2.length≤1000:=by omega
 clear hq
 obtain ⟨AO,cO,rfl⟩:∃ A c,vO= .slice A x.f1.length c:=by obtain ⟨A,c,h,_⟩:=Kd.R_reads HX.out.hO;exact ⟨A,c,h⟩
 obtain ⟨AN,cN,rfl⟩:∃ A c,vN= .slice A x.f2.length c:=by obtain ⟨A,c,h,_⟩:=Kd.R_reads HX.out.hN;exact ⟨A,c,h⟩
 by_cases hz:0<x.f1.length+x.f2.length
 {
 have hz1:(0:Int)<(x.f1.length:Int)+(x.f2.length:Int):=by omega
 have hz2:decide ((0:Int)<(x.f1.length:Int)+(x.f2.length:Int))=true:=decide_eq_true hz1
 have HZZ:=Aside0.mk hz
 gi_wp2
 refine hR.mono ?_
 rintro e W7 ⟨rfl,hJ7,hB7,hK7⟩
 have HJ7:=Aside0.mk hJ7
 have HB7:=Aside0.mk hB7
 have HK7:=Aside0.mk hK7
 have BKX7:=Aside0.mk ((hK7 gx (by omega) (fun h=>by have:=(HZ.out gx h).2;have:=HS.out;omega)).trans (blk_below BKX.out HB5.out))
 clear hR hy hJ7 hB7 hK7 cx0 cx1 cx2 hz hz1 hz2
 have cx0:W7.cell? ⟨gx,0,none⟩=some (.int .i64 x.f0):=(blk_cell BKX7.out 0).trans rfl
 have cx1:W7.cell? ⟨gx,1,none⟩=some (.slice AO x.f1.length cO):=(blk_cell BKX7.out 1).trans rfl
 have cx2:W7.cell? ⟨gx,2,none⟩=some (.slice AN x.f2.length cN):=(blk_cell BKX7.out 2).trans rfl
 have cf0:=blk_frozen BKX7.out 0
 have cf1:=blk_frozen BKX7.out 1
 have cf2:=blk_frozen BKX7.out 2
 gi_wp2
 refine ⟨⟨n,W7.heap.size,patch_edits.out_ acc x,⟨i+1,[],[]⟩,i+1,j+1,.slice none 0 0,.slice none 0 0,rfl,rfl,by omega,by omega,by omega,by omega,⟨by have h:=HG2.out;first|(rw [if_pos rfl] at h;exact h)|(rw [if_pos trivial] at h;exact h)⟩,⟨by have:=HM.out;refine ⟨by simp only [List.length_nil];omega,by simp only [List.length_nil];omega,?_⟩;unfold patch_edits.out_;split;(rw [List.length_append,List.length_singleton];omega);omega⟩,⟨?_⟩⟩,by simp [RowKit.intOf];omega⟩
 exact HX.out.reset HGG.out HZ.out (T':=W7.heap.size) (by have:=blk_lt BKX7.out;omega) (Nat.le_refl _) (by unfold patch_edits.out_;rw [if_pos HZZ.out];exact HJ7.out) HJX.out BKX7.out (fun k hk hz=>(HK7.out k (by omega) hz).trans (HB5.out.block k (by have:=HX.out.hT0;have:=HX.out.hT;omega))) ((HX.out.hB.trans (HB5.out.mono HX.out.hB.size)).trans HB7.out) HBS.out _
 }
 {
 have hz1: ¬ (0:Int)<(x.f1.length:Int)+(x.f2.length:Int):=by omega
 have hz2:decide ((0:Int)<(x.f1.length:Int)+(x.f2.length:Int))=false:=decide_eq_false hz1
 have HZZ:=Aside0.mk hz
 clear hR hy
 have BKX5:=Aside0.mk (blk_below BKX.out HB5.out)
 have cf0:=blk_frozen BKX5.out 0
 have cf1:=blk_frozen BKX5.out 1
 have cf2:=blk_frozen BKX5.out 2
 clear hz1 hz
 gi_wp2
 refine ⟨fun _ h=>(by cases h),?_⟩
 gi_wp2
 refine ⟨⟨n,T,patch_edits.out_ acc x,⟨i+1,[],[]⟩,i+1,j+1,.slice none 0 0,.slice none 0 0,rfl,rfl,by omega,by omega,by omega,by omega,⟨by have h:=HG2.out;first|(rw [if_pos rfl] at h;exact h)|(rw [if_pos trivial] at h;exact h)⟩,⟨by have:=HM.out;refine ⟨by simp only [List.length_nil];omega,by simp only [List.length_nil];omega,?_⟩;unfold patch_edits.out_;split;(rw [List.length_append,List.length_singleton];omega);omega⟩,⟨?_⟩⟩,by simp [RowKit.intOf];omega⟩
 exact HX.out.reset HGG.out HZ.out (T':=T) HX.out.hT0 (Nat.le_trans HX.out.hT HB5.out.size) (by unfold patch_edits.out_;rw [if_neg HZZ.out];exact HJ5.out) HJX.out BKX5.out (fun k hk hz=>HB5.out.block k (by have:=HX.out.hT0;have:=HX.out.hT;omega)) (HX.out.hB.trans (HB5.out.mono HX.out.hB.size)) HBS.out _
 }
  )
 |false=>
  (
 clear hx0 hx1 hx2 hx3 hy0 hy1 hy2 hy3
 have HB5:Aside0 (Below wr.heap.size wr w5):=⟨(below_drew (Below.refl _ wr)).trans (by simpa using hb5)⟩
 clear hb5 ca cb cx0 cx1 cx2
 have ca:=(blk_cell (blk_below BKA.out HB5.out) 0).trans (show (#[_]:Array Value)[0]?=some _ from rfl)
 have cb:=(blk_cell (blk_below BKB.out HB5.out) 0).trans (show (#[_]:Array Value)[0]?=some _ from rfl)
 have cx0:=(blk_cell (blk_below BKX.out HB5.out) 0).trans (show (#[_,_,_]:Array Value)[0]?=some _ from rfl)
 have cx1:=(blk_cell (blk_below BKX.out HB5.out) 1).trans (show (#[_,_,_]:Array Value)[1]?=some _ from rfl)
 have cx2:=(blk_cell (blk_below BKX.out HB5.out) 2).trans (show (#[_,_,_]:Array Value)[2]?=some _ from rfl)
 obtain ⟨R0,hR0⟩:∃ R,R=L.getD i.toNat []:=⟨_,rfl⟩
 obtain ⟨R1,hR1⟩:∃ R,R=L.getD (i+1).toNat []:=⟨_,rfl⟩
 have hn0:R0.length=b.length+1:=by rw [hR0];exact HL2.out i.toNat (by omega)
 have hn1:R1.length=b.length+1:=by rw [hR1];exact HL2.out (i+1).toNat (by omega)
 have hLl:=HL1.out
 obtain ⟨adL,cL,rfl,P0,p0,hrow0,hC0⟩:=patch_edits.row_L (Kd.R_below HX.out.hL HB5.out) i hi0 (by omega)
 obtain ⟨adM,cM,eLM,P1,p1,hrow1,hC1⟩:=patch_edits.row_L (Kd.R_below HX.out.hL HB5.out) (i+1) (by omega) (by omega)
 injection eLM with e1 e2 e3
 injection e1 with e1
 subst e1
 rw [←hR0] at hrow0 hC0
 rw [←hR1] at hrow1 hC1
 obtain ⟨ai0,rfl,hin0⟩:=Kd.at_int hC0 (j+1) (by omega) (by omega)
 obtain ⟨ai1,rfl,hin1⟩:=Kd.at_int hC1 j (by omega) (by omega)
 have HG3:Aside0 ((if decide (rd R0 (j+1)≤rd R1 j)=true then (patch_own.f k [rd_T50 a i]).bind fun o=>if o.length≤1 then patch_edits.go k a b L n acc ⟨x.f0,x.f1++o,x.f2⟩ (i+1) j else none else (patch_own.f k [rd_T50 b j]).bind fun o=>if o.length≤1 then patch_edits.go k a b L n acc ⟨x.f0,x.f1,x.f2++o⟩ i (j+1) else none)=some r):=⟨by
   have h:=HG2.out
   rw [if_neg (by decide)] at h
   unfold patch_edits.left_ at h
   rw [decide_eq_true hi,decide_eq_false (show ¬ j=(b.length:Int) by omega),Bool.false_or,Bool.true_and,←hR0,←hR1] at h
   exact h⟩
 clear HG2 hC0 hC1 e2 e3
 have hb0:(0:Int)≤i+1:=by omega
 have hb1:i+1<(L.length:Int):=by omega
 have hb2:i<(L.length:Int):=by omega
 have hb3:j<(R1.length:Int):=by omega
 have hb4:(0:Int)≤j+1:=by omega
 have hb5:j+1<(R0.length:Int):=by omega
 have hje:(j==(b.length:Int))=false:=by simp;omega
 have hw1:IntKind.i64.wrap (i+1)=i+1:=IntWalk.i64_in _ (by omega)
 have hw2:IntKind.i64.wrap (j+1)=j+1:=IntWalk.i64_in _ (by omega)
 have di:decide (i<(a.length:Int))=true:=decide_eq_true hi
 clear hR0 hR1 hn0 hn1 hLl
 have HG3:=HG3.out
 generalize hq:decide (rd R0 (j+1)≤rd R1 j)=q at HG3
 have HG3:=Aside0.mk HG3
 cases q with
 |true=>
  (
 have HG4:Aside0 (((patch_own.f k [rd_T50 a i]).bind fun o=>if o.length≤1 then patch_edits.go k a b L n acc ⟨x.f0,x.f1++o,x.f2⟩ (i+1) j else none)=some r):=⟨by have h:=HG3.out;rw [if_pos rfl] at h;exact h⟩
 clear HG3
 gi_wp2
 refine wpIn_wide.2 ?_
 go_region_held3 (fun w'=>w'.cell? ⟨ga,0,none⟩=some (.slice (some ad0) a.length c0)∧w'.cell? ⟨gb,0,none⟩=some (.slice (some ad1) b.length c1)∧w'.cell? (adL.add (i+1).toNat)=some (.slice (some ai1) R1.length p1)∧w'.cell? (ai1.add j.toNat)=some (.int .i64 (rd R1 j))∧w'.cell? (adL.add i.toNat)=some (.slice (some ai0) R0.length p0)∧w'.cell? (ai0.add (j+1).toNat)=some (.int .i64 (rd R0 (j+1)))) (go_keep) (fail)
 clear hrow0 hrow1 hin0 hin1 hb0 hb1 hb2 hb3 hb4 hb5 hje hw1 hw2 hq di ca cb cx0 cx1 cx2
 have HB7:Aside0 (Below wr.heap.size wr w5.drew):=⟨below_drew HB5.out⟩
 generalize w5.drew=w7 at HB7⊢
 have ca:=(blk_cell (blk_below BKA.out HB7.out) 0).trans (show (#[_]:Array Value)[0]?=some _ from rfl)
 have cb:=(blk_cell (blk_below BKB.out HB7.out) 0).trans (show (#[_]:Array Value)[0]?=some _ from rfl)
 have cx0:=(blk_cell (blk_below BKX.out HB7.out) 0).trans (show (#[_,_,_]:Array Value)[0]?=some _ from rfl)
 have cx1:=(blk_cell (blk_below BKX.out HB7.out) 1).trans (show (#[_,_,_]:Array Value)[1]?=some _ from rfl)
 have cx2:=(blk_cell (blk_below BKX.out HB7.out) 2).trans (show (#[_,_,_]:Array Value)[2]?=some _ from rfl)
 obtain ⟨AO,cO,rfl⟩:∃ A c,vO= .slice A x.f1.length c:=by obtain ⟨A,c,h,_⟩:=Kd.R_reads HX.out.hO;exact ⟨A,c,h⟩
 obtain ⟨AN,cN,rfl⟩:∃ A c,vN= .slice A x.f2.length c:=by obtain ⟨A,c,h,_⟩:=Kd.R_reads HX.out.hN;exact ⟨A,c,h⟩
 obtain ⟨o,hO,HGb⟩:=Option.bind_eq_some_iff.1 HG4.out
 have HOO:=Aside0.mk hO
 clear hO HG4
 by_cases ho1:o.length≤1
 {
 rw [if_pos ho1] at HGb
 have HG5:=Aside0.mk HGb
 have HO1:=Aside0.mk ho1
 clear HGb ho1
 obtain ⟨A_,c_,hcut,hcc,hCC⟩:=patch_edits.cut_one (some ad0) a c0 i (by omega) hi HC0.out
 have HCC:=Aside0.mk hCC
 have HCL:=Aside0.mk hcc
 clear hCC hcc
 have HQO:Aside0 (∀ k,(.slice AO x.f1.length cO:Value).ownBlock=some k→T≤k∧k<wr.heap.size):=⟨fun k hk=>⟨((Kd.R_bound HX.out.hO).1 k hk).1.1,((Kd.R_bound HX.out.hO).1 k hk).2.2.1⟩⟩
 have HQN:Aside0 (∀ k,(.slice AN x.f2.length cN:Value).ownBlock=some k→T≤k∧k<wr.heap.size):=⟨fun k hk=>⟨((Kd.R_bound HX.out.hN).1 k hk).1.1,((Kd.R_bound HX.out.hN).1 k hk).2.2.1⟩⟩
 have HTT:Aside0 (T≤wr.heap.size∧wr.heap.size≤w7.heap.size∧w0.heap.size≤wr.heap.size):=⟨HX.out.hT,HB7.out.size,HX.out.hB.size⟩
 have hT0:=HX.out.hT0
 have HI:=Aside0.mk hi
 have hq:=HM.out
 have hl1:x.f1.length≤1000:=by omega
 clear hq
 have hw1:IntKind.i64.wrap (i+1)=i+1:=IntWalk.i64_in _ (by omega)
 gi_wp2
 refine wpIn_wide.2 ?_
 refine start_ (n:=11) (S:=fun w'=>w'.cell? ⟨ga,0,none⟩=some (.slice (some ad0) a.length c0)∧w'.cell? ⟨gx,1,none⟩=some (.slice AO x.f1.length cO)) (ds:=[10]) #[false,false,false,false,false,false,false,false,false,false,false] (by kernel_rfl) rfl rfl ⟨ca,cx1⟩ (fun hHeld=> ?_)
 have HB6:Aside0 (Below wr.heap.size wr w7.drew):=⟨below_drew HB7.out⟩
 have HTT:Aside0 (T≤wr.heap.size∧wr.heap.size≤w7.drew.heap.size∧w0.heap.size≤wr.heap.size):=⟨HX.out.hT,HB6.out.size,HX.out.hB.size⟩
 clear HB7 ca cb cx0 cx1 cx2
 generalize w7.drew=w6 at HB6 HTT hHeld⊢
 refine pK_ (i:=0) (N:=some 105) ?_
 refine pK_ (i:=3) (N:=some 108) ?_
 refine pK_ (i:=4) (N:=some 109) ?_
 refine pK_ (i:=5) (N:=some 110) ?_
 refine tK_ (i:=1) (N:=some 106) hHeld ?_
 refine tK_ (i:=2) (N:=some 107) hHeld ?_
 refine pK_ (i:=6) (N:=some 111) ?_
 refine one_ (i:=7) (N:=some 112) #[true,true,true,true,true,true,true,true,false,false,false] rfl rfl (by kernel_rfl) (by decide) (fun K hK=> ?_)
 refine goes_ Tryd.func34 (by kernel_rfl) rfl #[.slice A_ 1 c_] (by rfl) rfl rfl (by (try simp only [List.map_toArray,List.map_cons,List.map_nil]);first|done|rfl) ?_
 refine (patch_own.calls k A_ c_ [rd_T50 a i] o _ (HCC.out _ (Kd.C_below HR0.out (HX.out.hB.trans (HB6.out.mono HX.out.hB.size)))) HCL.out HOO.out).mono ?_
 rintro e w8 ⟨vo,rfl,ho8,hb8⟩
 refine ⟨_,rfl,?_⟩
 obtain ⟨Ao,co,rfl⟩:∃ A c,vo= .slice A o.length c:=by obtain ⟨A,c,h,_⟩:=Kd.R_reads (Kd.S_R ho8);exact ⟨A,c,h⟩
 have HB8:=Aside0.mk (HB6.out.trans (hb8.mono HB6.out.size))
 have HS8:=Aside0.mk hb8.size
 have HO8:=Aside0.mk ho8
 clear ho8
 refine hK.out _ _ ⟨pw_cell_below hb8 hHeld.1,pw_cell_below hb8 hHeld.2⟩ (fun hHeld=> ?_)
 clear hK K
 refine norm_ (a':=?_) ?_ ?_
 rotate_left
 {
 show Act.put _ (some 112) _=_
 simp only [Act.put,List.setIfInBounds_toArray,List.set_cons_zero,List.set_cons_succ,i64_w,i32_w]
 rfl
 }
 clear hb8
 refine one_ (i:=8) (N:=some 113) #[true,true,true,true,true,true,true,true,true,false,false] rfl rfl (by kernel_rfl) (by decide) (fun K hK=> ?_)
 refine Kd.R_append_rows_step k50 (Rr:=fun x cs=>k50.M w8 w0.heap.size (fun k=>w6.heap.size≤k∧k<w8.heap.size) x cs) (w0:=w0) w0.heap.size (by rfl) (.tmp 106) (.tmp 112) 22 50 (.agg #[(.string ⟨#[]⟩),(.int .u8 0),(.int .u8 0),(.slice none 0 0)]) 48 rfl Tryd.underlying22 info50 rfl (by decide) (by omega) (.slice AO x.f1.length cO) x.f1 o Ao o.length co (fun k=>T≤k∧some k≠(.slice AN x.f2.length cN:Value).ownBlock) (fun k=>w6.heap.size≤k∧k<w8.heap.size) rfl rfl (Kd.R_below HX.out.hO HB8.out) ?aR (fun _ _ h=>h) ?aP ?aF (HX.out.hB.trans (HB8.out.mono HX.out.hB.size)) (by have:=HTT.out;have:=HS8.out;omega) (by have:=HO1.out;omega) ?_
 (case aR=>have h2:=Kd.R_mono (Kd.R_bound (Kd.S_R HO8.out)) (ok':=fun k=>w6.heap.size≤k∧k<w8.heap.size) (fun k hk=>⟨hk.2.1,hk.2.2.1⟩);have h3:=Kd.R_lower h2 (base':=w0.heap.size) (by have:=HTT.out;omega);obtain ⟨A,c,h,_,hr⟩:=OwnRow.reads h3.2;injection h with h4 h5 h6;subst h4;exact hr.imp_ (Below.refl _ _) (fun _ _ hp=>k50.M_mono (fun k hk=>hk.1) hp))
 (case aP=>exact fun k hk=>⟨⟨by have:=HTT.out;omega,fun e=>by have:=HQN.out k e.symm;have:=HTT.out;omega⟩,fun e=>by have:=HQO.out k e.symm;have:=HTT.out;omega⟩)
 (case aF=>exact fun k hk=>⟨by have:=HTT.out;have:=HS8.out;omega,fun e=>by have:=HQN.out k e.symm;have:=HTT.out;have:=HS8.out;omega⟩)
 intro v1 w9 hv9 hB9 hgr hat
 obtain ⟨A9,n9,c9,rfl⟩:=Aid.R_slice hv9
 have BX9:=blk_grown (blk_below BKX.out HB8.out) hgr (fun e=>by have:=HQO.out _ e.symm;omega)
 have BG9:=blk_grown (blk_below BKA.out HB8.out) hgr (fun e=>by have:=HQO.out _ e.symm;have:=HGG.out;omega)
 refine hK.out _ _ ⟨(blk_cell BG9 0).trans rfl,(blk_cell BX9 1).trans rfl⟩ (fun hHeld=> ?_)
 clear hK K
 refine norm_ (a':=?_) ?_ ?_
 rotate_left
 {
 show Act.put _ (some 113) _=_
 simp only [Act.put,List.setIfInBounds_toArray,List.set_cons_zero,List.set_cons_succ,i64_w,i32_w]
 rfl
 }
 have cx9:w9.cell? ⟨gx,1,none⟩=some (.slice AO x.f1.length cO):=(blk_cell BX9 1).trans rfl
 have cf9:=blk_frozen BX9 1
 have HV9:=Aside0.mk hv9
 have HB9:=Aside0.mk hB9
 have HGR:=Aside0.mk hgr
 have HAT:=Aside0.mk hat
 clear hv9 hB9 hgr hat BX9 BG9 hHeld
 refine pK_ (i:=9) (N:=some 114) ?_
 refine last_ (i:=10) (N:=none) #[true,true,true,true,true,true,true,true,true,true,true] rfl rfl (by kernel_rfl) (by decide) (fun K hK=> ?_)
 refine skip_ (w1:=?_) (by rfl) rfl ?_ ?_
 rotate_left
 {
 go_simp
 rfl
 }
 refine hK.out _ _ ?_
 clear hK K
 refine done_ (by kernel_rfl) ?_
 clear HOO HO8 HCC hcut cx9 cf9
 gi_wp2
 refine ⟨⟨n,T,acc,⟨x.f0,x.f1++o,x.f2⟩,i+1,j,.slice A9 n9 c9,.slice AN x.f2.length cN,rfl,rfl,by omega,by have:=HI.out;omega,by omega,by have:=HI.out;omega,HG5,⟨by have:=HM.out;have:=HO1.out;simp only [List.length_append];omega⟩,⟨?_⟩⟩,by have:=HI.out;simp [RowKit.intOf];omega⟩
 exact HX.out.old HGG.out HZ.out HJX.out HB8.out (.slice A9 n9 c9) _ HV9.out HB9.out HGR.out HAT.out HBS.out
 }
 {
 rw [if_neg ho1] at HGb
 cases HGb
 }
  )
 |false=>
  (
 have HG4:Aside0 (((patch_own.f k [rd_T50 b j]).bind fun o=>if o.length≤1 then patch_edits.go k a b L n acc ⟨x.f0,x.f1,x.f2++o⟩ i (j+1) else none)=some r):=⟨by have h:=HG3.out;rw [if_neg (by decide)] at h;exact h⟩
 clear HG3
 gi_wp2
 refine wpIn_wide.2 ?_
 go_region_held3 (fun w'=>w'.cell? ⟨ga,0,none⟩=some (.slice (some ad0) a.length c0)∧w'.cell? ⟨gb,0,none⟩=some (.slice (some ad1) b.length c1)∧w'.cell? (adL.add (i+1).toNat)=some (.slice (some ai1) R1.length p1)∧w'.cell? (ai1.add j.toNat)=some (.int .i64 (rd R1 j))∧w'.cell? (adL.add i.toNat)=some (.slice (some ai0) R0.length p0)∧w'.cell? (ai0.add (j+1).toNat)=some (.int .i64 (rd R0 (j+1)))) (go_keep) (fail)
 clear hrow0 hrow1 hin0 hin1 hb0 hb1 hb2 hb3 hb4 hb5 hje hw1 hw2 hq di ca cb cx0 cx1 cx2
 have HB7:Aside0 (Below wr.heap.size wr w5.drew):=⟨below_drew HB5.out⟩
 generalize w5.drew=w7 at HB7⊢
 have ca:=(blk_cell (blk_below BKA.out HB7.out) 0).trans (show (#[_]:Array Value)[0]?=some _ from rfl)
 have cb:=(blk_cell (blk_below BKB.out HB7.out) 0).trans (show (#[_]:Array Value)[0]?=some _ from rfl)
 have cx0:=(blk_cell (blk_below BKX.out HB7.out) 0).trans (show (#[_,_,_]:Array Value)[0]?=some _ from rfl)
 have cx1:=(blk_cell (blk_below BKX.out HB7.out) 1).trans (show (#[_,_,_]:Array Value)[1]?=some _ from rfl)
 have cx2:=(blk_cell (blk_below BKX.out HB7.out) 2).trans (show (#[_,_,_]:Array Value)[2]?=some _ from rfl)
 obtain ⟨AO,cO,rfl⟩:∃ A c,vO= .slice A x.f1.length c:=by obtain ⟨A,c,h,_⟩:=Kd.R_reads HX.out.hO;exact ⟨A,c,h⟩
 obtain ⟨AN,cN,rfl⟩:∃ A c,vN= .slice A x.f2.length c:=by obtain ⟨A,c,h,_⟩:=Kd.R_reads HX.out.hN;exact ⟨A,c,h⟩
 obtain ⟨o,hO,HGb⟩:=Option.bind_eq_some_iff.1 HG4.out
 have HOO:=Aside0.mk hO
 clear hO HG4
 by_cases ho1:o.length≤1
 {
 rw [if_pos ho1] at HGb
 have HG5:=Aside0.mk HGb
 have HO1:=Aside0.mk ho1
 clear HGb ho1
 obtain ⟨A_,c_,hcut,hcc,hCC⟩:=patch_edits.cut_one (some ad1) b c1 j (by omega) hj HC1.out
 have HCC:=Aside0.mk hCC
 have HCL:=Aside0.mk hcc
 clear hCC hcc
 have HQO:Aside0 (∀ k,(.slice AO x.f1.length cO:Value).ownBlock=some k→T≤k∧k<wr.heap.size):=⟨fun k hk=>⟨((Kd.R_bound HX.out.hO).1 k hk).1.1,((Kd.R_bound HX.out.hO).1 k hk).2.2.1⟩⟩
 have HQN:Aside0 (∀ k,(.slice AN x.f2.length cN:Value).ownBlock=some k→T≤k∧k<wr.heap.size):=⟨fun k hk=>⟨((Kd.R_bound HX.out.hN).1 k hk).1.1,((Kd.R_bound HX.out.hN).1 k hk).2.2.1⟩⟩
 have HTT:Aside0 (T≤wr.heap.size∧wr.heap.size≤w7.heap.size∧w0.heap.size≤wr.heap.size):=⟨HX.out.hT,HB7.out.size,HX.out.hB.size⟩
 have hT0:=HX.out.hT0
 have HI:=Aside0.mk hj
 have hq:=HM.out
 have hl2:x.f2.length≤1000:=by omega
 clear hq
 have hw1:IntKind.i64.wrap (j+1)=j+1:=IntWalk.i64_in _ (by omega)
 gi_wp2
 refine wpIn_wide.2 ?_
 refine start_ (n:=11) (S:=fun w'=>w'.cell? ⟨gb,0,none⟩=some (.slice (some ad1) b.length c1)∧w'.cell? ⟨gx,2,none⟩=some (.slice AN x.f2.length cN)) (ds:=[10]) #[false,false,false,false,false,false,false,false,false,false,false] (by kernel_rfl) rfl rfl ⟨cb,cx2⟩ (fun hHeld=> ?_)
 have HB6:Aside0 (Below wr.heap.size wr w7.drew):=⟨below_drew HB7.out⟩
 have HTT:Aside0 (T≤wr.heap.size∧wr.heap.size≤w7.drew.heap.size∧w0.heap.size≤wr.heap.size):=⟨HX.out.hT,HB6.out.size,HX.out.hB.size⟩
 clear HB7 ca cb cx0 cx1 cx2
 generalize w7.drew=w6 at HB6 HTT hHeld⊢
 refine pK_ (i:=0) (N:=some 21) ?_
 refine pK_ (i:=3) (N:=some 24) ?_
 refine pK_ (i:=4) (N:=some 25) ?_
 refine pK_ (i:=5) (N:=some 26) ?_
 refine tK_ (i:=1) (N:=some 22) hHeld ?_
 refine tK_ (i:=2) (N:=some 23) hHeld ?_
 refine pK_ (i:=6) (N:=some 27) ?_
 refine one_ (i:=7) (N:=some 28) #[true,true,true,true,true,true,true,true,false,false,false] rfl rfl (by kernel_rfl) (by decide) (fun K hK=> ?_)
 refine goes_ Tryd.func34 (by kernel_rfl) rfl #[.slice A_ 1 c_] (by rfl) rfl rfl (by (try simp only [List.map_toArray,List.map_cons,List.map_nil]);first|done|rfl) ?_
 refine (patch_own.calls k A_ c_ [rd_T50 b j] o _ (HCC.out _ (Kd.C_below HR1.out (HX.out.hB.trans (HB6.out.mono HX.out.hB.size)))) HCL.out HOO.out).mono ?_
 rintro e w8 ⟨vo,rfl,ho8,hb8⟩
 refine ⟨_,rfl,?_⟩
 obtain ⟨Ao,co,rfl⟩:∃ A c,vo= .slice A o.length c:=by obtain ⟨A,c,h,_⟩:=Kd.R_reads (Kd.S_R ho8);exact ⟨A,c,h⟩
 have HB8:=Aside0.mk (HB6.out.trans (hb8.mono HB6.out.size))
 have HS8:=Aside0.mk hb8.size
 have HO8:=Aside0.mk ho8
 clear ho8
 refine hK.out _ _ ⟨pw_cell_below hb8 hHeld.1,pw_cell_below hb8 hHeld.2⟩ (fun hHeld=> ?_)
 clear hK K
 refine norm_ (a':=?_) ?_ ?_
 rotate_left
 {
 show Act.put _ (some 28) _=_
 simp only [Act.put,List.setIfInBounds_toArray,List.set_cons_zero,List.set_cons_succ,i64_w,i32_w]
 rfl
 }
 clear hb8
 refine one_ (i:=8) (N:=some 29) #[true,true,true,true,true,true,true,true,true,false,false] rfl rfl (by kernel_rfl) (by decide) (fun K hK=> ?_)
 refine Kd.R_append_rows_step k50 (Rr:=fun x cs=>k50.M w8 w0.heap.size (fun k=>w6.heap.size≤k∧k<w8.heap.size) x cs) (w0:=w0) w0.heap.size (by rfl) (.tmp 22) (.tmp 28) 22 50 (.agg #[(.string ⟨#[]⟩),(.int .u8 0),(.int .u8 0),(.slice none 0 0)]) 48 rfl Tryd.underlying22 info50 rfl (by decide) (by omega) (.slice AN x.f2.length cN) x.f2 o Ao o.length co (fun k=>T≤k∧some k≠(.slice AO x.f1.length cO:Value).ownBlock) (fun k=>w6.heap.size≤k∧k<w8.heap.size) rfl rfl (Kd.R_below HX.out.hN HB8.out) ?aR (fun _ _ h=>h) ?aP ?aF (HX.out.hB.trans (HB8.out.mono HX.out.hB.size)) (by have:=HTT.out;have:=HS8.out;omega) (by have:=HO1.out;omega) ?_
 (case aR=>have h2:=Kd.R_mono (Kd.R_bound (Kd.S_R HO8.out)) (ok':=fun k=>w6.heap.size≤k∧k<w8.heap.size) (fun k hk=>⟨hk.2.1,hk.2.2.1⟩);have h3:=Kd.R_lower h2 (base':=w0.heap.size) (by have:=HTT.out;omega);obtain ⟨A,c,h,_,hr⟩:=OwnRow.reads h3.2;injection h with h4 h5 h6;subst h4;exact hr.imp_ (Below.refl _ _) (fun _ _ hp=>k50.M_mono (fun k hk=>hk.1) hp))
 (case aP=>exact fun k hk=>⟨⟨by have:=HTT.out;omega,fun e=>by have:=HQO.out k e.symm;have:=HTT.out;omega⟩,fun e=>by have:=HQN.out k e.symm;have:=HTT.out;omega⟩)
 (case aF=>exact fun k hk=>⟨by have:=HTT.out;have:=HS8.out;omega,fun e=>by have:=HQO.out k e.symm;have:=HTT.out;have:=HS8.out;omega⟩)
 intro v1 w9 hv9 hB9 hgr hat
 obtain ⟨A9,n9,c9,rfl⟩:=Aid.R_slice hv9
 have BX9:=blk_grown (blk_below BKX.out HB8.out) hgr (fun e=>by have:=HQN.out _ e.symm;omega)
 have BG9:=blk_grown (blk_below BKB.out HB8.out) hgr (fun e=>by have:=HQN.out _ e.symm;have:=HGG.out;omega)
 refine hK.out _ _ ⟨(blk_cell BG9 0).trans rfl,(blk_cell BX9 2).trans rfl⟩ (fun hHeld=> ?_)
 clear hK K
 refine norm_ (a':=?_) ?_ ?_
 rotate_left
 {
 show Act.put _ (some 29) _=_
 simp only [Act.put,List.setIfInBounds_toArray,List.set_cons_zero,List.set_cons_succ,i64_w,i32_w]
 rfl
 }
 have cx9:w9.cell? ⟨gx,2,none⟩=some (.slice AN x.f2.length cN):=(blk_cell BX9 2).trans rfl
 have cf9:=blk_frozen BX9 2
 have HV9:=Aside0.mk hv9
 have HB9:=Aside0.mk hB9
 have HGR:=Aside0.mk hgr
 have HAT:=Aside0.mk hat
 clear hv9 hB9 hgr hat BX9 BG9 hHeld
 refine pK_ (i:=9) (N:=some 30) ?_
 refine last_ (i:=10) (N:=none) #[true,true,true,true,true,true,true,true,true,true,true] rfl rfl (by kernel_rfl) (by decide) (fun K hK=> ?_)
 refine skip_ (w1:=?_) (by rfl) rfl ?_ ?_
 rotate_left
 {
 go_simp
 rfl
 }
 refine hK.out _ _ ?_
 clear hK K
 refine done_ (by kernel_rfl) ?_
 clear HOO HO8 HCC hcut cx9 cf9
 gi_wp2
 refine ⟨⟨n,T,acc,⟨x.f0,x.f1,x.f2++o⟩,i,j+1,.slice AO x.f1.length cO,.slice A9 n9 c9,rfl,rfl,by omega,by have:=HI.out;omega,by omega,by have:=HI.out;omega,HG5,⟨by have:=HM.out;have:=HO1.out;simp only [List.length_append];omega⟩,⟨?_⟩⟩,by have:=HI.out;simp [RowKit.intOf];omega⟩
 exact HX.out.new HGG.out HZ.out HJX.out HB8.out (.slice A9 n9 c9) _ HV9.out HB9.out HGR.out HAT.out HBS.out
 }
 {
 rw [if_neg ho1] at HGb
 cases HGb
 }
  )
  )
 }
 {
 rw [if_pos (.inl hi)] at HG1
 have di:decide (i<(a.length:Int))=true:=decide_eq_true hi
 have dj:decide (j<(b.length:Int))=false:=decide_eq_false hj
 have hje:j=(b.length:Int):=by omega
 have hje2:(j==(b.length:Int))=true:=by rw [hje];simp
 have HG4:Aside0 (((patch_own.f k [rd_T50 a i]).bind fun o=>if o.length≤1 then patch_edits.go k a b L n acc ⟨x.f0,x.f1++o,x.f2⟩ (i+1) j else none)=some r):=⟨by
   rw [patch_edits.at_,if_pos hi,if_neg hj,Option.bind_some,if_neg (by decide),if_pos (by unfold patch_edits.left_;rw [di,decide_eq_true hje];rfl)] at HG1
   exact HG1⟩
 clear HG1 hje
 gi_wp2
 refine wpIn_wide.2 ?_
 go_quiet (fail)
 revert nq
 intro n1
 gi_wp2
 refine wpIn_wide.2 ?_
 go_quiet (fail)
 revert nq
 intro n2
 have HB5:Aside0 (Below wr.heap.size wr ((wr.drewN n1).drewN n2)):=⟨pw_below_drewN (pw_below_drewN (Below.refl _ wr) _) _⟩
 generalize (wr.drewN n1).drewN n2=w5 at HB5⊢
 clear ca cb cx0 cx1 cx2
 have ca:=(blk_cell (blk_below BKA.out HB5.out) 0).trans (show (#[_]:Array Value)[0]?=some _ from rfl)
 have cb:=(blk_cell (blk_below BKB.out HB5.out) 0).trans (show (#[_]:Array Value)[0]?=some _ from rfl)
 have cx0:=(blk_cell (blk_below BKX.out HB5.out) 0).trans (show (#[_,_,_]:Array Value)[0]?=some _ from rfl)
 have cx1:=(blk_cell (blk_below BKX.out HB5.out) 1).trans (show (#[_,_,_]:Array Value)[1]?=some _ from rfl)
 have cx2:=(blk_cell (blk_below BKX.out HB5.out) 2).trans (show (#[_,_,_]:Array Value)[2]?=some _ from rfl)
 obtain ⟨AO,cO,rfl⟩:∃ A c,vO= .slice A x.f1.length c:=by obtain ⟨A,c,h,_⟩:=Kd.R_reads HX.out.hO;exact ⟨A,c,h⟩
 obtain ⟨AN,cN,rfl⟩:∃ A c,vN= .slice A x.f2.length c:=by obtain ⟨A,c,h,_⟩:=Kd.R_reads HX.out.hN;exact ⟨A,c,h⟩
 obtain ⟨o,hO,HGb⟩:=Option.bind_eq_some_iff.1 HG4.out
 have HOO:=Aside0.mk hO
 clear hO HG4
 by_cases ho1:o.length≤1
 {
 rw [if_pos ho1] at HGb
 have HG5:=Aside0.mk HGb
 have HO1:=Aside0.mk ho1
 clear HGb ho1
 obtain ⟨A_,c_,hcut,hcc,hCC⟩:=patch_edits.cut_one A0 a c0 i (by omega) hi HC0.out
 have HCC:=Aside0.mk hCC
 have HCL:=Aside0.mk hcc
 clear hCC hcc
 have HQO:Aside0 (∀ k,(.slice AO x.f1.length cO:Value).ownBlock=some k→T≤k∧k<wr.heap.size):=⟨fun k hk=>⟨((Kd.R_bound HX.out.hO).1 k hk).1.1,((Kd.R_bound HX.out.hO).1 k hk).2.2.1⟩⟩
 have HQN:Aside0 (∀ k,(.slice AN x.f2.length cN:Value).ownBlock=some k→T≤k∧k<wr.heap.size):=⟨fun k hk=>⟨((Kd.R_bound HX.out.hN).1 k hk).1.1,((Kd.R_bound HX.out.hN).1 k hk).2.2.1⟩⟩
 have HTT:Aside0 (T≤wr.heap.size∧wr.heap.size≤w5.heap.size∧w0.heap.size≤wr.heap.size):=⟨HX.out.hT,HB5.out.size,HX.out.hB.size⟩
 have hT0:=HX.out.hT0
 have HI:=Aside0.mk hi
 have hq:=HM.out
 have hl1:x.f1.length≤1000:=by omega
 clear hq
 have hw1:IntKind.i64.wrap (i+1)=i+1:=IntWalk.i64_in _ (by omega)
 gi_wp2
 refine wpIn_wide.2 ?_
 refine start_ (n:=11) (S:=fun w'=>w'.cell? ⟨ga,0,none⟩=some (.slice A0 a.length c0)∧w'.cell? ⟨gx,1,none⟩=some (.slice AO x.f1.length cO)) (ds:=[10]) #[false,false,false,false,false,false,false,false,false,false,false] (by kernel_rfl) rfl rfl ⟨ca,cx1⟩ (fun hHeld=> ?_)
 have HB6:Aside0 (Below wr.heap.size wr w5.drew):=⟨below_drew HB5.out⟩
 have HTT:Aside0 (T≤wr.heap.size∧wr.heap.size≤w5.drew.heap.size∧w0.heap.size≤wr.heap.size):=⟨HX.out.hT,HB6.out.size,HX.out.hB.size⟩
 clear HB5 ca cb cx0 cx1 cx2
 generalize w5.drew=w6 at HB6 HTT hHeld⊢
 refine pK_ (i:=0) (N:=some 105) ?_
 refine pK_ (i:=3) (N:=some 108) ?_
 refine pK_ (i:=4) (N:=some 109) ?_
 refine pK_ (i:=5) (N:=some 110) ?_
 refine tK_ (i:=1) (N:=some 106) hHeld ?_
 refine tK_ (i:=2) (N:=some 107) hHeld ?_
 refine pK_ (i:=6) (N:=some 111) ?_
 refine one_ (i:=7) (N:=some 112) #[true,true,true,true,true,true,true,true,false,false,false] rfl rfl (by kernel_rfl) (by decide) (fun K hK=> ?_)
 refine goes_ Tryd.func34 (by kernel_rfl) rfl #[.slice A_ 1 c_] (by rfl) rfl rfl (by (try simp only [List.map_toArray,List.map_cons,List.map_nil]);first|done|rfl) ?_
 refine (patch_own.calls k A_ c_ [rd_T50 a i] o _ (HCC.out _ (Kd.C_below HR0.out (HX.out.hB.trans (HB6.out.mono HX.out.hB.size)))) HCL.out HOO.out).mono ?_
 rintro e w8 ⟨vo,rfl,ho8,hb8⟩
 refine ⟨_,rfl,?_⟩
 obtain ⟨Ao,co,rfl⟩:∃ A c,vo= .slice A o.length c:=by obtain ⟨A,c,h,_⟩:=Kd.R_reads (Kd.S_R ho8);exact ⟨A,c,h⟩
 have HB8:=Aside0.mk (HB6.out.trans (hb8.mono HB6.out.size))
 have HS8:=Aside0.mk hb8.size
 have HO8:=Aside0.mk ho8
 clear ho8
 refine hK.out _ _ ⟨pw_cell_below hb8 hHeld.1,pw_cell_below hb8 hHeld.2⟩ (fun hHeld=> ?_)
 clear hK K
 refine norm_ (a':=?_) ?_ ?_
 rotate_left
 {
 show Act.put _ (some 112) _=_
 simp only [Act.put,List.setIfInBounds_toArray,List.set_cons_zero,List.set_cons_succ,i64_w,i32_w]
 rfl
 }
 clear hb8
 refine one_ (i:=8) (N:=some 113) #[true,true,true,true,true,true,true,true,true,false,false] rfl rfl (by kernel_rfl) (by decide) (fun K hK=> ?_)
 refine Kd.R_append_rows_step k50 (Rr:=fun x cs=>k50.M w8 w0.heap.size (fun k=>w6.heap.size≤k∧k<w8.heap.size) x cs) (w0:=w0) w0.heap.size (by rfl) (.tmp 106) (.tmp 112) 22 50 (.agg #[(.string ⟨#[]⟩),(.int .u8 0),(.int .u8 0),(.slice none 0 0)]) 48 rfl Tryd.underlying22 info50 rfl (by decide) (by omega) (.slice AO x.f1.length cO) x.f1 o Ao o.length co (fun k=>T≤k∧some k≠(.slice AN x.f2.length cN:Value).ownBlock) (fun k=>w6.heap.size≤k∧k<w8.heap.size) rfl rfl (Kd.R_below HX.out.hO HB8.out) ?aR (fun _ _ h=>h) ?aP ?aF (HX.out.hB.trans (HB8.out.mono HX.out.hB.size)) (by have:=HTT.out;have:=HS8.out;omega) (by have:=HO1.out;omega) ?_
 (case aR=>have h2:=Kd.R_mono (Kd.R_bound (Kd.S_R HO8.out)) (ok':=fun k=>w6.heap.size≤k∧k<w8.heap.size) (fun k hk=>⟨hk.2.1,hk.2.2.1⟩);have h3:=Kd.R_lower h2 (base':=w0.heap.size) (by have:=HTT.out;omega);obtain ⟨A,c,h,_,hr⟩:=OwnRow.reads h3.2;injection h with h4 h5 h6;subst h4;exact hr.imp_ (Below.refl _ _) (fun _ _ hp=>k50.M_mono (fun k hk=>hk.1) hp))
 (case aP=>exact fun k hk=>⟨⟨by have:=HTT.out;omega,fun e=>by have:=HQN.out k e.symm;have:=HTT.out;omega⟩,fun e=>by have:=HQO.out k e.symm;have:=HTT.out;omega⟩)
 (case aF=>exact fun k hk=>⟨by have:=HTT.out;have:=HS8.out;omega,fun e=>by have:=HQN.out k e.symm;have:=HTT.out;have:=HS8.out;omega⟩)
 intro v1 w9 hv9 hB9 hgr hat
 obtain ⟨A9,n9,c9,rfl⟩:=Aid.R_slice hv9
 have BX9:=blk_grown (blk_below BKX.out HB8.out) hgr (fun e=>by have:=HQO.out _ e.symm;omega)
 have BG9:=blk_grown (blk_below BKA.out HB8.out) hgr (fun e=>by have:=HQO.out _ e.symm;have:=HGG.out;omega)
 refine hK.out _ _ ⟨(blk_cell BG9 0).trans rfl,(blk_cell BX9 1).trans rfl⟩ (fun hHeld=> ?_)
 clear hK K
 refine norm_ (a':=?_) ?_ ?_
 rotate_left
 {
 show Act.put _ (some 113) _=_
 simp only [Act.put,List.setIfInBounds_toArray,List.set_cons_zero,List.set_cons_succ,i64_w,i32_w]
 rfl
 }
 have cx9:w9.cell? ⟨gx,1,none⟩=some (.slice AO x.f1.length cO):=(blk_cell BX9 1).trans rfl
 have cf9:=blk_frozen BX9 1
 have HV9:=Aside0.mk hv9
 have HB9:=Aside0.mk hB9
 have HGR:=Aside0.mk hgr
 have HAT:=Aside0.mk hat
 clear hv9 hB9 hgr hat BX9 BG9 hHeld
 refine pK_ (i:=9) (N:=some 114) ?_
 refine last_ (i:=10) (N:=none) #[true,true,true,true,true,true,true,true,true,true,true] rfl rfl (by kernel_rfl) (by decide) (fun K hK=> ?_)
 refine skip_ (w1:=?_) (by rfl) rfl ?_ ?_
 rotate_left
 {
 go_simp
 rfl
 }
 refine hK.out _ _ ?_
 clear hK K
 refine done_ (by kernel_rfl) ?_
 clear HOO HO8 HCC hcut cx9 cf9
 gi_wp2
 refine ⟨⟨n,T,acc,⟨x.f0,x.f1++o,x.f2⟩,i+1,j,.slice A9 n9 c9,.slice AN x.f2.length cN,rfl,rfl,by omega,by have:=HI.out;omega,by omega,by have:=HI.out;omega,HG5,⟨by have:=HM.out;have:=HO1.out;simp only [List.length_append];omega⟩,⟨?_⟩⟩,by have:=HI.out;simp [RowKit.intOf];omega⟩
 exact HX.out.old HGG.out HZ.out HJX.out HB8.out (.slice A9 n9 c9) _ HV9.out HB9.out HGR.out HAT.out HBS.out
 }
 {
 rw [if_neg ho1] at HGb
 cases HGb
 }
 }
 }
 {
 by_cases hj:j<b.length
 {
 rw [if_pos (.inr hj)] at HG1
 have di:decide (i<(a.length:Int))=false:=decide_eq_false hi
 have dj:decide (j<(b.length:Int))=true:=decide_eq_true hj
 have HG4:Aside0 (((patch_own.f k [rd_T50 b j]).bind fun o=>if o.length≤1 then patch_edits.go k a b L n acc ⟨x.f0,x.f1,x.f2++o⟩ i (j+1) else none)=some r):=⟨by
   rw [patch_edits.at_,if_neg hi,Option.bind_some,if_neg (by decide),if_neg (by unfold patch_edits.left_;rw [di];simp)] at HG1
   exact HG1⟩
 clear HG1
 gi_wp2
 refine wpIn_wide.2 ?_
 go_quiet (fail)
 revert nq
 intro n1
 gi_wp2
 refine wpIn_wide.2 ?_
 go_quiet (fail)
 revert nq
 intro n2
 have HB5:Aside0 (Below wr.heap.size wr ((wr.drewN n1).drewN n2)):=⟨pw_below_drewN (pw_below_drewN (Below.refl _ wr) _) _⟩
 generalize (wr.drewN n1).drewN n2=w5 at HB5⊢
 clear ca cb cx0 cx1 cx2
 have ca:=(blk_cell (blk_below BKA.out HB5.out) 0).trans (show (#[_]:Array Value)[0]?=some _ from rfl)
 have cb:=(blk_cell (blk_below BKB.out HB5.out) 0).trans (show (#[_]:Array Value)[0]?=some _ from rfl)
 have cx0:=(blk_cell (blk_below BKX.out HB5.out) 0).trans (show (#[_,_,_]:Array Value)[0]?=some _ from rfl)
 have cx1:=(blk_cell (blk_below BKX.out HB5.out) 1).trans (show (#[_,_,_]:Array Value)[1]?=some _ from rfl)
 have cx2:=(blk_cell (blk_below BKX.out HB5.out) 2).trans (show (#[_,_,_]:Array Value)[2]?=some _ from rfl)
 obtain ⟨AO,cO,rfl⟩:∃ A c,vO= .slice A x.f1.length c:=by obtain ⟨A,c,h,_⟩:=Kd.R_reads HX.out.hO;exact ⟨A,c,h⟩
 obtain ⟨AN,cN,rfl⟩:∃ A c,vN= .slice A x.f2.length c:=by obtain ⟨A,c,h,_⟩:=Kd.R_reads HX.out.hN;exact ⟨A,c,h⟩
 obtain ⟨o,hO,HGb⟩:=Option.bind_eq_some_iff.1 HG4.out
 have HOO:=Aside0.mk hO
 clear hO HG4
 by_cases ho1:o.length≤1
 {
 rw [if_pos ho1] at HGb
 have HG5:=Aside0.mk HGb
 have HO1:=Aside0.mk ho1
 clear HGb ho1
 obtain ⟨A_,c_,hcut,hcc,hCC⟩:=patch_edits.cut_one A1 b c1 j (by omega) hj HC1.out
 have HCC:=Aside0.mk hCC
 have HCL:=Aside0.mk hcc
 clear hCC hcc
 have HQO:Aside0 (∀ k,(.slice AO x.f1.length cO:Value).ownBlock=some k→T≤k∧k<wr.heap.size):=⟨fun k hk=>⟨((Kd.R_bound HX.out.hO).1 k hk).1.1,((Kd.R_bound HX.out.hO).1 k hk).2.2.1⟩⟩
 have HQN:Aside0 (∀ k,(.slice AN x.f2.length cN:Value).ownBlock=some k→T≤k∧k<wr.heap.size):=⟨fun k hk=>⟨((Kd.R_bound HX.out.hN).1 k hk).1.1,((Kd.R_bound HX.out.hN).1 k hk).2.2.1⟩⟩
 have HTT:Aside0 (T≤wr.heap.size∧wr.heap.size≤w5.heap.size∧w0.heap.size≤wr.heap.size):=⟨HX.out.hT,HB5.out.size,HX.out.hB.size⟩
 have hT0:=HX.out.hT0
 have HI:=Aside0.mk hj
 have hq:=HM.out
 have hl2:x.f2.length≤1000:=by omega
 clear hq
 have hw1:IntKind.i64.wrap (j+1)=j+1:=IntWalk.i64_in _ (by omega)
 gi_wp2
 refine wpIn_wide.2 ?_
 refine start_ (n:=11) (S:=fun w'=>w'.cell? ⟨gb,0,none⟩=some (.slice A1 b.length c1)∧w'.cell? ⟨gx,2,none⟩=some (.slice AN x.f2.length cN)) (ds:=[10]) #[false,false,false,false,false,false,false,false,false,false,false] (by kernel_rfl) rfl rfl ⟨cb,cx2⟩ (fun hHeld=> ?_)
 have HB6:Aside0 (Below wr.heap.size wr w5.drew):=⟨below_drew HB5.out⟩
 have HTT:Aside0 (T≤wr.heap.size∧wr.heap.size≤w5.drew.heap.size∧w0.heap.size≤wr.heap.size):=⟨HX.out.hT,HB6.out.size,HX.out.hB.size⟩
 clear HB5 ca cb cx0 cx1 cx2
 generalize w5.drew=w6 at HB6 HTT hHeld⊢
 refine pK_ (i:=0) (N:=some 21) ?_
 refine pK_ (i:=3) (N:=some 24) ?_
 refine pK_ (i:=4) (N:=some 25) ?_
 refine pK_ (i:=5) (N:=some 26) ?_
 refine tK_ (i:=1) (N:=some 22) hHeld ?_
 refine tK_ (i:=2) (N:=some 23) hHeld ?_
 refine pK_ (i:=6) (N:=some 27) ?_
 refine one_ (i:=7) (N:=some 28) #[true,true,true,true,true,true,true,true,false,false,false] rfl rfl (by kernel_rfl) (by decide) (fun K hK=> ?_)
 refine goes_ Tryd.func34 (by kernel_rfl) rfl #[.slice A_ 1 c_] (by rfl) rfl rfl (by (try simp only [List.map_toArray,List.map_cons,List.map_nil]);first|done|rfl) ?_
 refine (patch_own.calls k A_ c_ [rd_T50 b j] o _ (HCC.out _ (Kd.C_below HR1.out (HX.out.hB.trans (HB6.out.mono HX.out.hB.size)))) HCL.out HOO.out).mono ?_
 rintro e w8 ⟨vo,rfl,ho8,hb8⟩
 refine ⟨_,rfl,?_⟩
 obtain ⟨Ao,co,rfl⟩:∃ A c,vo= .slice A o.length c:=by obtain ⟨A,c,h,_⟩:=Kd.R_reads (Kd.S_R ho8);exact ⟨A,c,h⟩
 have HB8:=Aside0.mk (HB6.out.trans (hb8.mono HB6.out.size))
 have HS8:=Aside0.mk hb8.size
 have HO8:=Aside0.mk ho8
 clear ho8
 refine hK.out _ _ ⟨pw_cell_below hb8 hHeld.1,pw_cell_below hb8 hHeld.2⟩ (fun hHeld=> ?_)
 clear hK K
 refine norm_ (a':=?_) ?_ ?_
 rotate_left
 {
 show Act.put _ (some 28) _=_
 simp only [Act.put,List.setIfInBounds_toArray,List.set_cons_zero,List.set_cons_succ,i64_w,i32_w]
 rfl
 }
 clear hb8
 refine one_ (i:=8) (N:=some 29) #[true,true,true,true,true,true,true,true,true,false,false] rfl rfl (by kernel_rfl) (by decide) (fun K hK=> ?_)
 refine Kd.R_append_rows_step k50 (Rr:=fun x cs=>k50.M w8 w0.heap.size (fun k=>w6.heap.size≤k∧k<w8.heap.size) x cs) (w0:=w0) w0.heap.size (by rfl) (.tmp 22) (.tmp 28) 22 50 (.agg #[(.string ⟨#[]⟩),(.int .u8 0),(.int .u8 0),(.slice none 0 0)]) 48 rfl Tryd.underlying22 info50 rfl (by decide) (by omega) (.slice AN x.f2.length cN) x.f2 o Ao o.length co (fun k=>T≤k∧some k≠(.slice AO x.f1.length cO:Value).ownBlock) (fun k=>w6.heap.size≤k∧k<w8.heap.size) rfl rfl (Kd.R_below HX.out.hN HB8.out) ?aR (fun _ _ h=>h) ?aP ?aF (HX.out.hB.trans (HB8.out.mono HX.out.hB.size)) (by have:=HTT.out;have:=HS8.out;omega) (by have:=HO1.out;omega) ?_
 (case aR=>have h2:=Kd.R_mono (Kd.R_bound (Kd.S_R HO8.out)) (ok':=fun k=>w6.heap.size≤k∧k<w8.heap.size) (fun k hk=>⟨hk.2.1,hk.2.2.1⟩);have h3:=Kd.R_lower h2 (base':=w0.heap.size) (by have:=HTT.out;omega);obtain ⟨A,c,h,_,hr⟩:=OwnRow.reads h3.2;injection h with h4 h5 h6;subst h4;exact hr.imp_ (Below.refl _ _) (fun _ _ hp=>k50.M_mono (fun k hk=>hk.1) hp))
 (case aP=>exact fun k hk=>⟨⟨by have:=HTT.out;omega,fun e=>by have:=HQO.out k e.symm;have:=HTT.out;omega⟩,fun e=>by have:=HQN.out k e.symm;have:=HTT.out;omega⟩)
 (case aF=>exact fun k hk=>⟨by have:=HTT.out;have:=HS8.out;omega,fun e=>by have:=HQO.out k e.symm;have:=HTT.out;have:=HS8.out;omega⟩)
 intro v1 w9 hv9 hB9 hgr hat
 obtain ⟨A9,n9,c9,rfl⟩:=Aid.R_slice hv9
 have BX9:=blk_grown (blk_below BKX.out HB8.out) hgr (fun e=>by have:=HQN.out _ e.symm;omega)
 have BG9:=blk_grown (blk_below BKB.out HB8.out) hgr (fun e=>by have:=HQN.out _ e.symm;have:=HGG.out;omega)
 refine hK.out _ _ ⟨(blk_cell BG9 0).trans rfl,(blk_cell BX9 2).trans rfl⟩ (fun hHeld=> ?_)
 clear hK K
 refine norm_ (a':=?_) ?_ ?_
 rotate_left
 {
 show Act.put _ (some 29) _=_
 simp only [Act.put,List.setIfInBounds_toArray,List.set_cons_zero,List.set_cons_succ,i64_w,i32_w]
 rfl
 }
 have cx9:w9.cell? ⟨gx,2,none⟩=some (.slice AN x.f2.length cN):=(blk_cell BX9 2).trans rfl
 have cf9:=blk_frozen BX9 2
 have HV9:=Aside0.mk hv9
 have HB9:=Aside0.mk hB9
 have HGR:=Aside0.mk hgr
 have HAT:=Aside0.mk hat
 clear hv9 hB9 hgr hat BX9 BG9 hHeld
 refine pK_ (i:=9) (N:=some 30) ?_
 refine last_ (i:=10) (N:=none) #[true,true,true,true,true,true,true,true,true,true,true] rfl rfl (by kernel_rfl) (by decide) (fun K hK=> ?_)
 refine skip_ (w1:=?_) (by rfl) rfl ?_ ?_
 rotate_left
 {
 go_simp
 rfl
 }
 refine hK.out _ _ ?_
 clear hK K
 refine done_ (by kernel_rfl) ?_
 clear HOO HO8 HCC hcut cx9 cf9
 gi_wp2
 refine ⟨⟨n,T,acc,⟨x.f0,x.f1,x.f2++o⟩,i,j+1,.slice AO x.f1.length cO,.slice A9 n9 c9,rfl,rfl,by omega,by have:=HI.out;omega,by omega,by have:=HI.out;omega,HG5,⟨by have:=HM.out;have:=HO1.out;simp only [List.length_append];omega⟩,⟨?_⟩⟩,by have:=HI.out;simp [RowKit.intOf];omega⟩
 exact HX.out.new HGG.out HZ.out HJX.out HB8.out (.slice A9 n9 c9) _ HV9.out HB9.out HGR.out HAT.out HBS.out
 }
 {
 rw [if_neg ho1] at HGb
 cases HGb
 }
 }
 {
 rw [if_neg (by omega)] at HG1
 obtain rfl:=Option.some.inj HG1
 clear HG1
 have di:decide (i<(a.length:Int))=false:=decide_eq_false hi
 have dj:decide (j<(b.length:Int))=false:=decide_eq_false hj
 have HM5:Aside0 (k53.M wr w0.heap.size (fun k=>T≤k) x [.int .i64 x.f0,vO,vN]):=⟨⟨[.int .i64 x.f0],[vO,vN],rfl,rfl,[vO],[vN],rfl,⟨vO,rfl,Kd.R_mono HX.out.hO (fun k hk=>hk.1)⟩,⟨vN,rfl,Kd.R_mono HX.out.hN (fun k hk=>hk.1)⟩⟩⟩
 have hq:=HM.out
 obtain ⟨fn_,tmps_,assign_,body_,hy,hR⟩:=HYY.out (gx+1) (by have:=HS.out;omega) T acc x vO vN wr HX.out.hJ HX.out.hT0 HX.out.hT (by omega) HM5.out
 have hl1:x.f1.length≤1000:=by omega
 have hl2:x.f2.length≤1000:=by omega
 clear hq
 obtain ⟨AO,cO,rfl⟩:∃ A c,vO= .slice A x.f1.length c:=by obtain ⟨A,c,h,_⟩:=Kd.R_reads HX.out.hO;exact ⟨A,c,h⟩
 obtain ⟨AN,cN,rfl⟩:∃ A c,vN= .slice A x.f2.length c:=by obtain ⟨A,c,h,_⟩:=Kd.R_reads HX.out.hN;exact ⟨A,c,h⟩
 by_cases hz:0<x.f1.length+x.f2.length
 {
 have hz1:(0:Int)<(x.f1.length:Int)+(x.f2.length:Int):=by omega
 have hz2:decide ((0:Int)<(x.f1.length:Int)+(x.f2.length:Int))=true:=decide_eq_true hz1
 have HZZ:=Aside0.mk hz
 gi_wp2
 refine hR.mono ?_
 rintro e W7 ⟨rfl,hJ7,hB7,hK7⟩
 gi_wp2
 go_end0
 exact ⟨⟨_,rfl⟩,⟨gx+1,W7.heap.size,by unfold patch_edits.out_;rw [if_pos HZZ.out];exact hJ7⟩,HX.out.hB.trans hB7⟩
 }
 {
 have hz1: ¬ (0:Int)<(x.f1.length:Int)+(x.f2.length:Int):=by omega
 have hz2:decide ((0:Int)<(x.f1.length:Int)+(x.f2.length:Int))=false:=decide_eq_false hz1
 have HZZ:=Aside0.mk hz
 clear hR hy hz1 hz
 gi_wp2
 go_end0
 exact ⟨⟨_,rfl⟩,⟨gx+1,T,by unfold patch_edits.out_;rw [if_neg HZZ.out];exact HX.out.hJ⟩,HX.out.hB⟩
 }
 }
 }
  )
  )
end
section
attribute [local go_sem] Oper.semAt_some
def patch_Diff.end_ (k:Nat) (a b:List S50) (L:List (List Int)):Option (List S53×Int):=
  if L.length=a.length+1∧(∀ i:Nat,i≤a.length→(L.getD i []).length=b.length+1) then (patch_edits.go k a b L k [] ⟨0,[],[]⟩ 0 0).bind fun r=>some (r,0) else none
def patch_Diff.f (k:Nat) (a0:Int) (a:List S50) (b0:Int) (b:List S50):Option (List S53×Int):=
  (record_Valid.f k a0 a).bind fun va=>if va=true then (record_Valid.f k b0 b).bind fun vb=>if vb=true then if a0=b0 then (if a.length≤1000∧b.length≤1000 then (patch_lengths.f k a b).bind fun L=>patch_Diff.end_ k a b L else none) else some ([],13) else some ([],1) else some ([],1)
def patch_Diff.J (l D Bo S0:Nat) (rec:Loop) (base T0 T:Nat) (acc:List S53) (W:World):Prop:=
  W.heap[l]?=some (.loop rec)∧W.heap[D]?=some (.deferred (some []))∧(S0≤T0∧T0≤T)∧∃ v,W.heap[Bo]?=some (.cells #[v] 27 (0,0))∧k53.R 53 W base (fun k=>T0≤k∧k<T) v acc
theorem below_putObj {B:Nat} {w W:World} (h:Below B w W) (hB:B≤W.heap.size) {l:Nat} (hl:B≤l) (o:Obj):Below B w (W.putObj l o):=
  h.grown (grownBy_putObj' W l o) hB (fun k e=>by cases e;exact hl)
theorem patch_Diff.edits_ (A0 A1:Option Addr) (n0 c0 n1 c1:Nat) (w:World):
 Calls Tryd.prog 24 #[.slice A0 n0 c0,.slice A1 n1 c1] w fun e w'=>e= .returned (.func (.func 36) #[] #[.pointer (some ⟨w.heap.size,0,none⟩),.pointer (some ⟨w.heap.size+1,0,none⟩)])∧w'=(w.alloc (.cells #[.slice A0 n0 c0] 22)).alloc (.cells #[.slice A1 n1 c1] 22):=by
 go_enter Tryd.func24,Tryd.ntmps24
 go_wp2
 go_ret
 exact ⟨rfl,rfl⟩
theorem patch_Diff.range {g:Operand} {p:Tmp} {assign body:Code} {Q:Exit→Act→World→Prop} {a:Act} {W5:World} (k n:Nat) (w0:World) (A0 A1:Option Addr) (c0 c1:Nat) (la lb:List S50) (r:List S53) (ga gb Bo:Nat)
 (hg:a.eval g= .func (.func 36) #[] #[.pointer (some ⟨ga,0,none⟩),.pointer (some ⟨gb,0,none⟩)])
 (hr0:Kd.C k50 w0 A0 la.length la) (hc0:la.length≤c0) (hr1:Kd.C k50 w0 A1 lb.length lb) (hc1:lb.length≤c1) (hB:Below w0.heap.size w0 W5)
 (hga:W5.heap[ga]?=some (.cells #[.slice A0 la.length c0] 22 (0,0))) (hgb:W5.heap[gb]?=some (.cells #[.slice A1 lb.length c1] 22 (0,0))) (hbo:W5.heap[Bo]?=some (.cells #[.slice none 0 0] 27 (0,0))) (hne:ga≠Bo∧gb≠Bo) (hb0:w0.heap.size≤Bo)
 (hsa:la.length≤1000) (hsb:lb.length≤1000) {L:List (List Int)} (hL:patch_lengths.f k la lb=some L) (hL1:L.length=la.length+1) (hL2:∀ i:Nat,i≤la.length→(L.getD i []).length=lb.length+1) (hgo:patch_edits.go k la lb L n [] ⟨0,[],[]⟩ 0 0=some r)
 (hround:∀ (rec:Loop) (T0 T:Nat) (acc:List S53) (x:S53) (vO vN:Value) (W:World),rec.state= .ready→rec.pending=none→patch_Diff.J (W5.heap.size+1) W5.heap.size Bo (W5.heap.size+2) rec w0.heap.size T0 T acc W→T≤W.heap.size→acc.length≤10000→k53.M W w0.heap.size (fun k=>T≤k) x [.int .i64 x.f0,vO,vN]→
 assign.wpIn (Fence.wide.inRound (W5.heap.size+1)) 2 Tryd.prog (Exit.then (fun a₁ w₁=>∃ w₂,(Instr.beginRound (W5.heap.size+1)).run Tryd.prog w₁= .ok () w₂∧body.wpIn (Fence.wide.inRound (W5.heap.size+1)) 2 Tryd.prog (roundPost Tryd.prog (W5.heap.size+1) fun e W'=>e= .returned (.bool true)∧patch_Diff.J (W5.heap.size+1) W5.heap.size Bo (W5.heap.size+2) rec w0.heap.size T0 W'.heap.size (acc++[x]) W'∧Below w0.heap.size W W'∧∀ k,k<T0→ ¬ (k=W5.heap.size+1∨k=Bo)→W'.heap[k]?=W.heap[k]?) a₁ w₂) (fun _ _ _=>False))
 { tmps:=a.tmps.setIfInBounds p (.agg #[.int .i64 x.f0,vO,vN]),defers:=[] } W)
 (hdone:∀ (v:Value) (W7:World),W7.heap[Bo]?=some (.cells #[v] 27 (0,0))→k53.R 53 W7 w0.heap.size (fun k=>W5.heap.size+2≤k) v r→Below w0.heap.size w0 W7→W7.heap[W5.heap.size]?=some (.deferred (some []))→Q .normal { a with defers:={ target:= .collected W5.heap.size,args:=#[] }::a.defers } W7):
 (Code.rangeFunc g #[p] assign body).wpIn Fence.wide 4 Tryd.prog Q a W5:=by
 refine wpIn_rangeFunc ?_
 intro fn hfn
 obtain ⟨rec,hrec⟩:∃ rec:Loop,rec={ state:= .ready,pending:=none,fn:=fn,tmps:=a.tmps,params:=#[p],assign:=assign,body:=body,defers:=W5.heap.size }:=⟨_,rfl⟩
 obtain ⟨W6,hW6⟩:∃ W6,(W5.alloc (.deferred (some []))).alloc (.loop rec)=W6:=⟨_,rfl⟩
 have hL6:W6.heap[W5.heap.size+1]?=some (.loop rec):=by {
 rw [←hW6];have:=World.alloc_heap_new (W5.alloc (.deferred (some []))) (.loop rec);rwa [World.size_alloc] at this
 }
 have hK6:W6.heap[W5.heap.size]?=some (.deferred (some [])):=by {
 rw [←hW6];exact (Below.heap_alloc _ _ _ (by simp)).trans (World.alloc_heap_new W5 _)
 }
 have hs6:W6.heap.size=W5.heap.size+2:=by rw [←hW6];simp
 have hb6:Below W5.heap.size W5 W6:=by rw [←hW6];exact ((Below.refl _ W5).alloc (Nat.le_refl _) _).alloc (by simp) _
 have hlo:=blk_lt hbo
 have hla:=blk_lt hga
 have hlb:=blk_lt hgb
 refine ⟨W5.heap.size+1,[{ target:= .collected W5.heap.size,args:=#[] }],W6,{ target:= .fn (.func 36) #[.pointer (some ⟨ga,0,none⟩),.pointer (some ⟨gb,0,none⟩)],args:=#[.func (.yield (W5.heap.size+1)) #[] #[]] },W6,36,
   #[.func (.yield (W5.heap.size + 1)) #[] #[]] ++ #[.pointer (some ⟨ga, 0, none⟩), .pointer (some ⟨gb, 0, none⟩)], W6, ?_, ?_, fun _ _ => trivial, ?_, (fun h => by cases h), ?_⟩
 {
 rw [←hW6,hrec];exact run_enterLoop_outer _ _ _ _ _
 }
 {
 simp only [resolve,hg]
 simp [go_sem]
 }
 {
 simp [invoke,go_sem,enters_of Tryd.func36 (by kernel_rfl) rfl]
 }
 {
 refine (patch_edits.iter k n (W5.heap.size+1) w0.heap.size w0 (fun k=>k=W5.heap.size+1∨k=Bo) (fun T0 T acc W=>patch_Diff.J (W5.heap.size+1) W5.heap.size Bo (W5.heap.size+2) rec w0.heap.size T0 T acc W) A0 A1 c0 c1 la lb r ga gb W6 hr0 hc0 hr1 hc1 (hB.trans (hb6.mono hB.size)) rfl
   (blk_below hga hb6) (blk_below hgb hb6) (by omega) (by omega) (fun k hk=>by have:=hB.size;omega) ?_ ?_ ?_ hsa hsb hL hL1 hL2 hgo).mono ?_
 {
 intro T0 hT0 T acc x vO vN W hJ h1 h2 h3 hM
 have hy:=run_yield (P:=Tryd.prog) (args:=#[.agg #[.int .i64 x.f0,vO,vN]]) hJ.1 (by rw [hrec];rfl)
 have h4:=hround rec T0 T acc x vO vN W (by rw [hrec]) (by rw [hrec]) hJ h2 h3 hM
 have hy2:(Instr.yield (W5.heap.size+1) #[.agg #[.int .i64 x.f0,vO,vN]]).run Tryd.prog W= .ok (.round (W5.heap.size+1) fn (a.tmps.setIfInBounds p (.agg #[.int .i64 x.f0,vO,vN])) assign body) W:=by rw [hy,hrec];simp
 exact ⟨_,_,_,_,hy2,roundIn_of_wpIn trivial h4⟩
 }
 {
 rintro T0 T acc W1 W2 gx ⟨j1,j2,j3,v,j4,j5⟩ h1 h2 h3
 exact ⟨(h3 _ (by omega) (by omega)).trans j1,(h3 _ (by omega) (by omega)).trans j2,j3,v,(h3 _ (by omega) (by omega)).trans j4,Kd.R_step j5 (fun k hk _=>h3 k hk.2 (by omega))⟩
 }
 {
 intro T0 W1 h1 h2
 exact ⟨(h2 _ (by omega)).trans hL6,(h2 _ (by omega)).trans hK6,⟨by omega,Nat.le_refl _⟩,_,(h2 _ (by omega)).trans (blk_below hbo hb6),Kd.R_nil _ _ _ _ _⟩
 }
 {
 rintro e W7 ⟨⟨v,rfl⟩,⟨T0,T,j1,j2,j3,v,j4,j5⟩,hB7⟩
 have hl7:=(Array.getElem?_eq_some_iff.1 j1).1
 refine ⟨none,_,by have:=run_endLoop (P:=Tryd.prog) j1 (by rw [hrec];simp);rw [hrec] at this;exact this,?_⟩
 refine hdone v _ ((World.putObj_heap_other (by omega)).trans j4) (Kd.R_mono (Kd.R_step j5 (fun k hk _=>World.putObj_heap_other (by omega))) (fun k hk=>by omega)) (below_putObj hB7 hB7.size (by have:=hB.size;omega) _) ((World.putObj_heap_other (by omega)).trans j2)
 }
 }
set_option maxHeartbeats 8000000 in
set_option maxRecDepth 100000 in
theorem patch_Diff.calls (k:Nat) (a0_0:Int) (A0_1:Option Addr) (c0_1:Nat) (l0_1:List (S50)) (a1_0:Int) (A1_1:Option Addr) (c1_1:Nat) (l1_1:List (S50)) (r1:List (S53)) (r2:Int) (w:World) (hT:PTabs w) (hr0_1:Kd.C k50 w A0_1 l0_1.length l0_1) (hc0_1:l0_1.length≤c0_1) (hr1_1:Kd.C k50 w A1_1 l1_1.length l1_1) (hc1_1:l1_1.length≤c1_1) (h:patch_Diff.f k a0_0 l0_1 a1_0 l1_1=some (r1,r2)):
 Calls Tryd.prog 9 #[.agg #[.int .i64 a0_0,.slice A0_1 l0_1.length c0_1],.agg #[.int .i64 a1_0,.slice A1_1 l1_1.length c1_1]] w fun e w'=>∃ v0_:Value,e= .returned (.tuple #[v0_,.int .i64 r2])∧Kd.R k53 53 w' w.heap.size (fun _=>True) v0_ r1∧Below w.heap.size w w':=by
 have HT:=Aside0.mk hT
 have HR0:=Aside0.mk hr0_1
 have HR1:=Aside0.mk hr1_1
 have HC0:=Aside0.mk hc0_1
 have HC1:=Aside0.mk hc1_1
 have HB0:Aside0 (Below w.heap.size w ((w.alloc (.cells #[.int .i64 a0_0,.slice A0_1 l0_1.length c0_1] 24)).alloc (.cells #[.int .i64 a1_0,.slice A1_1 l1_1.length c1_1] 24))):=⟨below_alloc (below_alloc (Below.refl _ w) _) _⟩
 have BA0:Aside0 (((w.alloc (.cells #[.int .i64 a0_0,.slice A0_1 l0_1.length c0_1] 24)).alloc (.cells #[.int .i64 a1_0,.slice A1_1 l1_1.length c1_1] 24)).heap[w.heap.size]?=some (.cells #[.int .i64 a0_0,.slice A0_1 l0_1.length c0_1] 24 (0,0))):=⟨blk_alloc (blk_new w _) _⟩
 have BB0:Aside0 (((w.alloc (.cells #[.int .i64 a0_0,.slice A0_1 l0_1.length c0_1] 24)).alloc (.cells #[.int .i64 a1_0,.slice A1_1 l1_1.length c1_1] 24)).heap[w.heap.size+1]?=some (.cells #[.int .i64 a1_0,.slice A1_1 l1_1.length c1_1] 24 (0,0))):=⟨by have:=blk_new (w.alloc (.cells #[.int .i64 a0_0,.slice A0_1 l0_1.length c0_1] 24)) (.cells #[.int .i64 a1_0,.slice A1_1 l1_1.length c1_1] 24);rwa [World.size_alloc] at this⟩
 clear hT hr0_1 hr1_1 hc0_1 hc1_1
 unfold patch_Diff.f at h
 obtain ⟨va,hva,h⟩:=Option.bind_eq_some_iff.1 h
 have HVA:=Aside0.mk hva
 have HH:=Aside0.mk h
 clear hva h
 refine (callsIn_wide (n:=4)).1 (callsIn_of_wp_marks Tryd.func9 rfl trivial ?_ rfl)
 simp only [Tryd.ntmps9,List.size_toArray,List.length_cons,List.length_nil,Nat.reduceAdd,Nat.reduceSub,Array.replicate_succ,Array.replicate_zero,List.push_toArray,List.append_toArray,List.nil_append,List.cons_append]
 gi_wp2
 generalize (w.alloc (.cells #[.int .i64 a0_0,.slice A0_1 l0_1.length c0_1] 24)).alloc (.cells #[.int .i64 a1_0,.slice A1_1 l1_1.length c1_1] 24)=w1 at HB0 BA0 BB0⊢
 refine ⟨trivial,?_⟩
 refine (callsIn_wide.2 (record_Valid.calls k _ _ _ _ va _ (PTabs.step HT.out HB0.out) (Kd.C_below HR0.out HB0.out) HC0.out HVA.out)).mono ?_
 rintro e w3 ⟨rfl,hb3⟩
 have HB3:=Aside0.mk (HB0.out.trans (hb3.mono HB0.out.size))
 have BA3:=Aside0.mk (blk_below BA0.out hb3)
 have BB3:=Aside0.mk (blk_below BB0.out hb3)
 clear hb3 BA0 BB0 HB0 HVA
 have cb0:w3.cell? ⟨w.heap.size+1,0,none⟩=some (.int .i64 a1_0):=(blk_cell BB3.out 0).trans rfl
 have cb1:w3.cell? ⟨w.heap.size+1,1,none⟩=some (.slice A1_1 l1_1.length c1_1):=(blk_cell BB3.out 1).trans rfl
 cases va with
 |false=>
  (
 have h:=HH.out
 rw [if_neg (by decide)] at h
 obtain ⟨rfl,rfl⟩:=Prod.mk.inj (Option.some.inj h)
 clear h HH
 gi_wp2
 refine ⟨trivial,?_⟩
 gi_wp2
 exact ⟨.tuple #[.slice none 0 0,.int .i64 1],by simp [results,Tryd.results9,go_sem],_,rfl,Kd.R_nil _ _ _ _ _,HB3.out⟩
  )
 |true=>
  (
 have h:=HH.out
 rw [if_pos rfl] at h
 obtain ⟨vb,hvb,h⟩:=Option.bind_eq_some_iff.1 h
 have HVB:=Aside0.mk hvb
 have HH2:=Aside0.mk h
 clear hvb h HH
 gi_wp2
 refine ⟨trivial,?_⟩
 refine (callsIn_wide.2 (record_Valid.calls k _ _ _ _ vb _ (PTabs.step HT.out HB3.out) (Kd.C_below HR1.out HB3.out) HC1.out HVB.out)).mono ?_
 rintro e w4 ⟨rfl,hb4⟩
 have HB4:=Aside0.mk (HB3.out.trans (hb4.mono HB3.out.size))
 have BA4:=Aside0.mk (blk_below BA3.out hb4)
 have BB4:=Aside0.mk (blk_below BB3.out hb4)
 clear hb4 BA3 BB3 HB3 HVB cb0 cb1
 have ca0:w4.cell? ⟨w.heap.size,0,none⟩=some (.int .i64 a0_0):=(blk_cell BA4.out 0).trans rfl
 have ca1:w4.cell? ⟨w.heap.size,1,none⟩=some (.slice A0_1 l0_1.length c0_1):=(blk_cell BA4.out 1).trans rfl
 have cb0:w4.cell? ⟨w.heap.size+1,0,none⟩=some (.int .i64 a1_0):=(blk_cell BB4.out 0).trans rfl
 have cb1:w4.cell? ⟨w.heap.size+1,1,none⟩=some (.slice A1_1 l1_1.length c1_1):=(blk_cell BB4.out 1).trans rfl
 cases vb with
 |false=>
  (
 have h:=HH2.out
 rw [if_neg (by decide)] at h
 obtain ⟨rfl,rfl⟩:=Prod.mk.inj (Option.some.inj h)
 clear h HH2
 gi_wp2
 exact ⟨.tuple #[.slice none 0 0,.int .i64 1],by simp [results,Tryd.results9,go_sem],_,rfl,Kd.R_nil _ _ _ _ _,HB4.out⟩
  )
 |true=>
  (
 have h:=HH2.out
 rw [if_pos rfl] at h
 have HH3:=Aside0.mk h
 clear h HH2
 by_cases hid:a0_0=a1_0
 {
 subst hid
 have h:=HH3.out
 rw [if_pos rfl] at h
 have HH4:=Aside0.mk h
 clear h HH3
 have hs1:=blk_lt BB4.out
 have ca2:(w4.alloc (.cells #[.slice none 0 0] 27)).cell? ⟨w.heap.size,1,none⟩=some (.slice A0_1 l0_1.length c0_1):=(blk_cell (blk_alloc BA4.out _) 1).trans rfl
 have cb2:(w4.alloc (.cells #[.slice none 0 0] 27)).cell? ⟨w.heap.size+1,1,none⟩=some (.slice A1_1 l1_1.length c1_1):=(blk_cell (blk_alloc BB4.out _) 1).trans rfl
 gi_wp2_with (refine ⟨trivial,?_⟩;gi_at_call 24;refine (callsIn_wide.2 (patch_Diff.edits_ _ _ _ _ _ _ _)).mono ?_;rintro e w5 ⟨rfl,rfl⟩)
 have h:=HH4.out
 by_cases hsz:l0_1.length≤1000∧l1_1.length≤1000
 {
 rw [if_pos hsz] at h
 obtain ⟨L,hL,h⟩:=Option.bind_eq_some_iff.1 h
 unfold patch_Diff.end_ at h
 by_cases hLL:L.length=l0_1.length+1∧(∀ i:Nat,i≤l0_1.length→(L.getD i []).length=l1_1.length+1)
 {
 rw [if_pos hLL] at h
 obtain ⟨r,hgo,h⟩:=Option.bind_eq_some_iff.1 h
 obtain ⟨rfl,rfl⟩:=Prod.mk.inj (Option.some.inj h)
 clear h HH4
 obtain ⟨W5,hW5⟩:∃ W5,((w4.alloc (.cells #[.slice none 0 0] 27)).alloc (.cells #[.slice A0_1 l0_1.length c0_1] 22)).alloc (.cells #[.slice A1_1 l1_1.length c1_1] 22)=W5:=⟨_,rfl⟩
 have hBo:=blk_alloc (blk_alloc (blk_new w4 (.cells #[.slice none 0 0] 27)) (.cells #[.slice A0_1 l0_1.length c0_1] 22)) (.cells #[.slice A1_1 l1_1.length c1_1] 22)
 have hGa:=blk_alloc (blk_new (w4.alloc (.cells #[.slice none 0 0] 27)) (.cells #[.slice A0_1 l0_1.length c0_1] 22)) (.cells #[.slice A1_1 l1_1.length c1_1] 22)
 have hGb:=blk_new ((w4.alloc (.cells #[.slice none 0 0] 27)).alloc (.cells #[.slice A0_1 l0_1.length c0_1] 22)) (.cells #[.slice A1_1 l1_1.length c1_1] 22)
 have hB5:Below w.heap.size w W5:=by rw [←hW5];exact below_alloc (below_alloc (below_alloc HB4.out _) _) _
 have hs5:W5.heap.size=w4.heap.size+3:=by rw [←hW5];simp
 rw [hW5] at hBo hGa hGb⊢
 simp only [World.size_alloc] at hGa hGb
 have HB5:=Aside0.mk hB5
 have HS5:=Aside0.mk hs5
 have HBO:=Aside0.mk hBo
 have HSW:=Aside0.mk (show w.heap.size≤w4.heap.size from HB4.out.size)
 clear hB5 hs5 ca0 ca1 ca2 cb0 cb1 cb2 hs1 BA4 BB4 HT hW5
 generalize w4.heap.size=Bo at HS5 HBO HSW hBo hGa hGb⊢
 refine patch_Diff.range k k w A0_1 A1_1 c0_1 c1_1 l0_1 l1_1 r (Bo+1) (Bo+1+1) Bo rfl HR0.out HC0.out HR1.out HC1.out HB5.out hGa hGb hBo (by omega) HSW.out hsz.1 hsz.2 hL hLL.1 hLL.2 hgo ?round ?done
 case done=>
  (
 clear hBo hGa hGb hL hLL hgo
 intro v W7 h1 h2 h3 h4
 have c7:W7.cell? ⟨Bo,0,none⟩=some v:=(blk_cell h1 0).trans rfl
 have H2:=Aside0.mk h2
 have H3:=Aside0.mk h3
 have H4:=Aside0.mk h4
 clear h1 h2 h3 h4
 gi_wp2
 refine ⟨by simp,.inl ⟨_,_,rfl,run_takeDeferred H4.out,?_⟩⟩
 have hlo:=HS5.out
 have hsw:=HSW.out
 exact ⟨.tuple #[v,.int .i64 0],by simp [results,Tryd.results9,go_sem],_,rfl,Kd.R_step (Kd.R_mono H2.out (ok':=fun k=>W5.heap.size+2≤k) (fun _ h=>h)) (fun k hk _=>World.putObj_heap_other (by omega))|>fun h=>Kd.R_mono h (fun _ _=>trivial),below_putObj H3.out H3.out.size (by omega) _⟩
  )
 case round=>
  (
 clear hBo hGa hGb hL hLL hgo
 rintro rec T0 T acc x vO vN W hst hpe ⟨j1,j2,j3,v,j4,j5⟩ hTW hacc hM
 have HST:=Aside0.mk hst
 have J1:=Aside0.mk j1
 have J2:=Aside0.mk j2
 have J3:=Aside0.mk j3
 have J4:=Aside0.mk j4
 have J5:=Aside0.mk j5
 have HM:=Aside0.mk hM
 have HPE:=Aside0.mk hpe
 clear hst hpe j1 j2 j3 j4 j5 hM
 obtain ⟨_,_,e_,g1,g2⟩:=k53_openM HM.out
 obtain ⟨e1_,e2_⟩:vO=_∧vN=_:=by simpa using e_
 subst e1_
 subst e2_
 obtain ⟨AO,nO,cO,rfl⟩:=Aid.R_slice g1
 obtain ⟨AN,nN,cN,rfl⟩:=Aid.R_slice g2
 obtain ⟨Av,nv,cv,rfl⟩:=Aid.R_slice J5.out
 clear g1 g2 e_
 gi_wp2
 obtain ⟨rb,hrb⟩:∃ rb:Loop,rb={ rec with state:= .busy }:=⟨_,rfl⟩
 refine ⟨_,run_beginRound (blk_alloc J1.out _) HST.out,?_⟩
 rw [←hrb]
 obtain ⟨W2,hW2⟩:∃ W2,(W.alloc (.cells #[.int .i64 x.f0,.slice AO nO cO,.slice AN nN cN] 53)).putObj (W5.heap.size+1) (.loop rb)=W2:=⟨_,rfl⟩
 have hs2:W2.heap.size=W.heap.size+1:=by rw [←hW2];simp
 have hlW:=blk_lt J1.out
 have hk2:∀ k,k<W.heap.size→k≠W5.heap.size+1→W2.heap[k]?=W.heap[k]?:=fun k h1 h2=>by rw [←hW2];exact (World.putObj_heap_other h2).trans (Below.heap_alloc W _ k h1)
 have hx2:W2.heap[W.heap.size]?=some (.cells #[.int .i64 x.f0,.slice AO nO cO,.slice AN nN cN] 53 (0,0)):=by rw [←hW2];exact (World.putObj_heap_other (by omega)).trans (blk_new W _)
 have hl2:W2.heap[W5.heap.size+1]?=some (.loop rb):=by rw [←hW2];exact World.putObj_heap_same (by simp;omega)
 have hbW:=blk_lt J4.out
 have hsz:=HS5.out
 have hws:=HSW.out
 have hB2:Below w.heap.size W W2:=by rw [←hW2];exact below_putObj ((Below.refl _ W).alloc (by omega) _) (by simp;omega) (by omega) _
 have ho2:=(hk2 Bo hbW (by omega)).trans J4.out
 rw [hW2]
 clear hW2
 have c0:W2.cell? ⟨Bo,0,none⟩=some (.slice Av nv cv):=(blk_cell ho2 0).trans rfl
 have x0:W2.cell? ⟨W.heap.size,0,none⟩=some (.int .i64 x.f0):=(blk_cell hx2 0).trans rfl
 have x1:W2.cell? ⟨W.heap.size,1,none⟩=some (.slice AO nO cO):=(blk_cell hx2 1).trans rfl
 have x2:W2.cell? ⟨W.heap.size,2,none⟩=some (.slice AN nN cN):=(blk_cell hx2 2).trans rfl
 have hR2:=Kd.R_step J5.out (w1:=W2) (fun k hk hlt=>hk2 k hlt (by have:=J3.out;omega))
 have hM2:=k53.M_mono (fun _ hk=>hk.1) (k53.M_move (w1:=W2) (fun k hk=>hk2 k hk.2.2.1 (by have:=J3.out;have:=hk.1;omega)) (k53.M_bound HM.out))
 obtain ⟨hq0,inner,hown,hrep⟩:=hR2
 obtain ⟨i0,hi,hz0,hz1,hz2⟩:=info_parts info53
 have HK2:=Aside0.mk hk2
 have HX2:=Aside0.mk hx2
 have HL2:=Aside0.mk hl2
 have HB2:=Aside0.mk hB2
 have HO2:=Aside0.mk ho2
 have HM2:=Aside0.mk hM2
 have HQ0:=Aside0.mk hq0
 have HOW:=Aside0.mk hown
 have HRE:=Aside0.mk hrep
 have HRB:=Aside0.mk hrb
 have HS2:=Aside0.mk hs2
 clear hk2 hx2 hl2 hB2 ho2 hM2 hq0 hown hrep hrb hs2
 gi_wp2_with (gi_at_builtin;go_loud (refine wpListIn_append_own_at _ rfl _ _ 27 rfl w.heap.size 53 i0 _ 3 56 Tryd.underlying27 hi hz0 hz1 hz2 rfl (by decide) (.slice Av nv cv) acc.length inner rfl (HOW.out.alloc _) ⟨W2.heap.size,0,none⟩ 1 1 [.int .i64 x.f0,.slice AO nO cO,.slice AN nN cN] rfl rfl (World.news_of_block (cs:=#[.int .i64 x.f0,.slice AO nO cO,.slice AN nN cN]) (t:=53) (fr:=(0,0)) (blk_new W2 _)) (by simp [Value.oneCell']) (by simp only [maxLen];omega) (by omega) (by rw [World.size_alloc];have:=HS2.out;omega) ?_);intro v' w4 hown' hgrow _ hat;obtain ⟨A',c',rfl⟩:=own_slice hown';have ho4:=blk_grown (blk_alloc HO2.out _) hgrow (fun e=>by have:=HQ0.out _ e.symm;have:=J3.out;omega);have c4:w4.cell? ⟨Bo,0,none⟩=some (.slice Av nv cv):=(blk_cell ho4 0).trans rfl;have f4:=blk_frozen ho4 0;have HO4:=Aside0.mk ho4;have HOWN:=Aside0.mk hown';have HGR:=Aside0.mk hgrow;have HAT:=Aside0.mk hat;clear ho4 hown' hgrow hat)
 have hJ3:=J3.out
 have hss:=HS2.out
 have hg1:=HGR.out.size
 simp only [World.size_alloc] at hg1
 have hown0:∀ k,(Value.slice Av nv cv).ownBlock=some k→T0≤k∧k<T:=HQ0.out
 have hk4:∀ k,k<W2.heap.size→some k≠(Value.slice Av nv cv).ownBlock→w4.heap[k]?=W2.heap[k]?:=fun k h1 h2=>(HGR.out.block k (by simp;omega) h2).trans (Below.heap_alloc W2 _ k h1)
 have hlow:∀ k,k<T0→w4.heap[k]?=W2.heap[k]?:=fun k h=>hk4 k (by omega) (fun e=>by have:=hown0 k e.symm;omega)
 have hown1:∀ k,(Value.slice A' (acc.length+1) c').ownBlock=some k→T0≤k∧((Value.slice Av nv cv).ownBlock=some k∨W2.heap.size≤k):=fun k hk=>by {
 rcases HAT.out with h|h
 {
 exact ⟨(hown0 k (h.symm.trans hk)).1,.inl (h.symm.trans hk)⟩
 }
 {
 rw [h] at hk
 injection hk with hk
 simp at hk
 exact ⟨by omega,.inr (by omega)⟩
 }
 }
 obtain ⟨W6,hW6⟩:∃ W6,(w4.setCell ⟨Bo,0,none⟩ (.slice A' (acc.length+1) c')).putObj (Bo+3+1) (.loop rec)=W6:=⟨_,rfl⟩
 have hs6:W6.heap.size=w4.heap.size:=by rw [←hW6];simp
 have hk6:∀ k,k≠Bo→k≠Bo+3+1→W6.heap[k]?=w4.heap[k]?:=fun k h1 h2=>by rw [←hW6];exact (World.putObj_heap_other h2).trans (Below.heap_setCell _ ⟨Bo,0,none⟩ _ k h1)
 have hl4:(w4.setCell ⟨Bo,0,none⟩ (.slice A' (acc.length+1) c')).heap[Bo+3+1]?=some (.loop rb):=(Below.heap_setCell _ ⟨Bo,0,none⟩ _ _ (by show Bo+3+1≠Bo;omega)).trans ((hlow _ (by omega)).trans (by have:=HL2.out;rw [HS5.out] at this;exact this))
 have hmv:∀ (y:S53) (cs:List Value) (ok:Nat→Prop),(∀ k,ok k→T0≤k∧some k≠(Value.slice Av nv cv).ownBlock)→k53.M W2 w.heap.size ok y cs→k53.M W6 w.heap.size (fun k=>(T0≤k∧k<W6.heap.size)∧some k≠(Value.slice A' (acc.length+1) c').ownBlock) y cs:=fun y cs ok hok hM=>by {
 refine k53.M_mono ?_ (k53.M_move (w1:=W6) ?_ (k53.M_bound hM))
 {
 intro k hk
 refine ⟨⟨(hok k hk.1).1,by have:=hk.2.2.1;omega⟩,fun e=> ?_⟩
 rcases (hown1 k e.symm).2 with h|h
 {
 exact (hok k hk.1).2 h.symm
 }
 {
 have:=hk.2.2.1;omega
 }
 }
 {
 intro k hk
 have:=hok k hk.1
 exact (hk6 k (by omega) (by omega)).trans (hk4 k hk.2.2.1 this.2)
 }
 }
 refine ⟨.bool true,W6,?_,rfl,⟨?_,?_,⟨by omega,by omega⟩,.slice A' (acc.length+1) c',?_,fun k hk=>⟨(hown1 k hk).1,by have:=own_lt HOWN.out k hk;omega⟩,inner++[.int .i64 x.f0,.slice AO nO cO,.slice AN nN cN],?_,?_⟩,?_,?_⟩
 {
 have h:=run_endRound (P:=Tryd.prog) none hl4
 have e:({ rb with state:= .ready,pending:=none }:Loop)=rec:=by {
 rw [HRB.out]
 have h1:=HST.out
 have h2:=HPE.out
 cases rec
 simp_all
 }
 rw [←hW6]
 simp only [Option.isNone_none,if_true] at h
 rw [e] at h
 exact h
 }
 {
 rw [←hW6]
 exact World.putObj_heap_same (by simp;omega)
 }
 {
 exact (hk6 _ (by omega) (by omega)).trans ((hlow _ (by omega)).trans ((HK2.out _ (by omega) (by omega)).trans (by have:=J2.out;rw [HS5.out] at this;exact this)))
 }
 {
 rw [←hW6]
 exact (World.putObj_heap_other (by omega)).trans (blk_put HO4.out 0 _ rfl)
 }
 {
 rw [List.length_append,List.length_singleton]
 exact own_move HOWN.out (fun k hk=>by have:=(hown1 k hk).1;exact hk6 k (by omega) (by omega))
 }
 {
 refine Reps.snoc (HRE.out.imp_ (fun _ _ hp=>hmv _ _ _ (fun k hk=>⟨hk.1.1,hk.2⟩) hp)) (hmv _ _ _ (fun k hk=>⟨by omega,fun e=>by have:=hown0 k e.symm;omega⟩) HM2.out) rfl
 }
 {
 rw [←hW6]
 exact below_putObj ((((HB2.out.alloc (by omega) _).grown HGR.out (by simp;omega) (fun k hk=>by have:=hown0 k hk;omega))).setCell (by show w.heap.size≤Bo;omega) _) (by simp;omega) (by omega) _
 }
 {
 intro k h1 h2 h3
 exact (hk6 k h3 h2).trans ((hlow k h1).trans (HK2.out k (by omega) (by omega)))
 }
  )
 }
 {
 rw [if_neg hLL] at h
 cases h
 }
 }
 {
 rw [if_neg hsz] at h
 cases h
 }
 }
 {
 have h:=HH3.out
 rw [if_neg hid] at h
 obtain ⟨rfl,rfl⟩:=Prod.mk.inj (Option.some.inj h)
 clear h HH3
 have hne:(a0_0==a1_0)=false:=by simpa using hid
 have hne2:(a0_0 !=a1_0)=true:=by simpa using hid
 gi_wp2
 exact ⟨.tuple #[.slice none 0 0,.int .i64 13],by simp [results,Tryd.results9,go_sem],_,rfl,Kd.R_nil _ _ _ _ _,HB4.out⟩
 }
  )
  )
end
end
end Go.Proofs.YtdlolaognnbhpaaDoor.Pr
