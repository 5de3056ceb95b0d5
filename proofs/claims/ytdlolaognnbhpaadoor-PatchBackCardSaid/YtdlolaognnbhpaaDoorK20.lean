/- A part of the proof of laws of this seat: PatchBack, PatchDiff, PatchLeast, PatchMetric. Conditions: none of our own. -/
import Derived.Test.YtdlolaognnbhpaaDoorK9
import Derived.Test.YtdlolaognnbhpaaDoorK18
import Derived.Test.YtdlolaognnbhpaaDoorK19
namespace Go.Proofs.YtdlolaognnbhpaaDoor.Pr
open Go.RowKit Go.Proofs.YtdlolaognnbhpaaDoorW.PrintWords Go.Proofs.YtdlolaognnbhpaaDoorW.PrintLast Go.Proofs.YtdlolaognnbhpaaDoorW.PrintMore
noncomputable section
attribute [local go_sem] max2_int min2_int max_two min_two max_three min_three max_four min_four
set_option linter.unusedVariables false
set_option linter.unusedSimpArgs false
def bookplateref18_Edits.at_ (k:Nat) (a b:List S50) (i j:Int):Option Bool:=
  if i<a.length then (if j<b.length then bookplateref12_SameField.f k (rd_T50 a i).f0 (rd_T50 a i).f1.f0 (rd_T50 a i).f1.f1 (rd_T50 a i).f2 (rd_T50 b j).f0 (rd_T50 b j).f1.f0 (rd_T50 b j).f1.f1 (rd_T50 b j).f2 else some false) else some false
def bookplateref18_Edits.copy_ (x:S50):Option S50:=(bookplateref12_CopyField.f x.f0 x.f1.f0 x.f1.f1 x.f2).bind fun r=>some ⟨r.1,⟨r.2.1,r.2.2.1⟩,r.2.2.2⟩
def bookplateref18_Edits.new_ (o:Option S60) (i:Int):S60:=match o with|some x=>x|none=>⟨i,[],[]⟩
def bookplateref18_Edits.go (k:Nat) (a b:List S50) (L:List (List Int)):Nat→List S60→Option S60→Int→Int→Option (List S60)
 |0,_,_,_,_=>none
 |n+1,acc,o,i,j=>
   if i<a.length∨j<b.length then
     (bookplateref18_Edits.at_ k a b i j).bind fun t=>
       if t=true then bookplateref18_Edits.go k a b L n (acc++o.toList) none (i+1) (j+1)
       else if patch_edits.left_ a b L i j=true then (bookplateref18_Edits.copy_ (rd_T50 a i)).bind fun y=>bookplateref18_Edits.go k a b L n acc (some ⟨(bookplateref18_Edits.new_ o i).f0,(bookplateref18_Edits.new_ o i).f1++[y],(bookplateref18_Edits.new_ o i).f2⟩) (i+1) j
       else (bookplateref18_Edits.copy_ (rd_T50 b j)).bind fun y=>bookplateref18_Edits.go k a b L n acc (some ⟨(bookplateref18_Edits.new_ o i).f0,(bookplateref18_Edits.new_ o i).f1,(bookplateref18_Edits.new_ o i).f2++[y]⟩) i (j+1)
   else some (acc++o.toList)
def bookplateref18_Edits.f (k:Nat) (a b:List S50):Option (List S60):=
  if a.length≤1000∧b.length≤1000 then (bookplateref18_lengths.f k a b).bind fun L=>if L.length=a.length+1∧(∀ i:Nat,i≤a.length→(L.getD i []).length=b.length+1) then bookplateref18_Edits.go k a b L k [] none 0 0 else none else none
def bookplateref18_Edits.RI (w:World) (S1:Nat) (acc:List S60) (o:Option S60) (v6:Value) (wr:World):Prop:=
 match o with
 |none=>k60.R 60 wr w.heap.size (fun k=>S1≤k) v6 acc
 |some x=>∃ (T:Nat) (g c:Nat) (inner:List Value) (vO vN:Value),v6= .slice (some ⟨g,0,none⟩) (acc.length+1) c∧S1≤g∧g<T∧T≤wr.heap.size∧wr.ownsRow w.heap.size 60 3 v6 (acc.length+1) (inner++[.int .i64 x.f0,vO,vN])∧Reps (k60.M wr w.heap.size (fun k=>S1≤k∧k<T∧k≠g)) 3 acc inner∧
     k50.R 50 wr w.heap.size (fun k=>T≤k∧some k≠vN.ownBlock) vO x.f1∧k50.R 50 wr w.heap.size (fun k=>T≤k∧some k≠vO.ownBlock) vN x.f2
namespace bookplateref18_Edits.RI
section
variable {w wr w1 : World} {S1 : Nat} {acc : List S60} {o : Option S60} {v6 : Value}
theorem below (h:bookplateref18_Edits.RI w S1 acc o v6 wr) (hb:Below wr.heap.size wr w1):bookplateref18_Edits.RI w S1 acc o v6 w1:=by
 cases o with
 |none=>exact Kd.R_below h hb
 |some x=>
  (
 obtain ⟨T,g,c,inner,vO,vN,h1,h2,h3,h4,h5,h6,h7,h8⟩:=h
 exact ⟨T,g,c,inner,vO,vN,h1,h2,h3,Nat.le_trans h4 hb.size,pw_own_below h5 hb,h6.imp_ (fun _ _ hp=>Kd.M_below hp hb),Kd.R_below h7 hb,Kd.R_below h8 hb⟩
  )
theorem close (h:bookplateref18_Edits.RI w S1 acc o v6 wr):bookplateref18_Edits.RI w S1 (acc++o.toList) none v6 wr:=by
 cases o with
 |none=>simpa using h
 |some x=>
  (
 obtain ⟨T,g,c,inner,vO,vN,rfl,h2,h3,h4,h5,h6,h7,h8⟩:=h
 refine ⟨fun k hk=>by have:g=k:=(by simpa [Value.ownBlock] using hk);omega,inner++[.int .i64 x.f0,vO,vN],?_,Reps.snoc (h6.imp_ (fun _ _ hp=>k60.M_mono (fun k hk=>⟨hk.1,fun e=>hk.2.2 (by simpa [Value.ownBlock] using e)⟩) hp)) (k60_mkM _ _ _ x (Kd.R_mono h7 (fun k hk=>⟨by omega,fun e=>by have:k=g:=(by simpa [Value.ownBlock] using e);omega⟩)) (Kd.R_mono h8 (fun k hk=>⟨by omega,fun e=>by have:k=g:=(by simpa [Value.ownBlock] using e);omega⟩))) rfl⟩
 simp only [Option.toList,List.length_append,List.length_singleton]
 exact h5
  )
theorem slice_ (h:bookplateref18_Edits.RI w S1 acc o v6 wr):∃ A c,v6= .slice A (acc.length+o.toList.length) c:=by
 obtain ⟨A,c,h,_⟩:=Kd.R_reads (close h)
 exact ⟨A,c,by rw [h,List.length_append]⟩
theorem open_ {W W1:World} {v1:Value} {i:Int} {inner:List Value} (hW:Below wr.heap.size wr W) (hS:S1≤wr.heap.size) (hq:∀ k,v6.ownBlock=some k→S1≤k) (hrep:Reps (k60.M wr w.heap.size (fun k=>S1≤k∧some k≠v6.ownBlock)) 3 acc inner) (hown:W1.ownsRow w.heap.size 60 3 v1 (acc.length+1) (inner++[.int .i64 i,.slice none 0 0,.slice none 0 0])) (hg:W.grownBy W1 v6.ownBlock)
 (hat:v1.ownBlock=v6.ownBlock∨v1.ownBlock=some W.heap.size):bookplateref18_Edits.RI w S1 acc (some ⟨i,[],[]⟩) v1 W1:=by
 obtain ⟨g,c,rfl,_,hlt⟩:=hown.form (by omega)
 have hws:=hW.size
 have hown1:(Value.slice (some ⟨g,0,none⟩) (acc.length+1) c).ownBlock=some g:=rfl
 have hg1:S1≤g∧(v6.ownBlock=some g∨g=W.heap.size):=by {
 rcases hat with h|h
 {
 exact ⟨hq g (h.symm.trans hown1),.inl (h.symm.trans hown1)⟩
 }
 {
 rw [hown1] at h
 injection h with h
 exact ⟨by omega,.inr h⟩
 }
 }
 refine ⟨W1.heap.size,g,c,inner,_,_,rfl,hg1.1,hlt,Nat.le_refl _,hown,hrep.imp_ (fun _ _ hp=> ?_),Kd.R_nil _ _ _ _ _,Kd.R_nil _ _ _ _ _⟩
 refine k60.M_mono ?_ (k60.M_move (w1:=W1) ?_ (k60.M_bound hp))
 {
 intro k hk
 have h1:=hk.2.2.1
 have h2:=hg.size
 refine ⟨hk.1.1,by omega,fun e=> ?_⟩
 subst e
 rcases hg1.2 with h|h
 {
 exact hk.1.2 h.symm
 }
 {
 omega
 }
 }
 {
 intro k hk
 exact (hg.block k (Nat.lt_of_lt_of_le hk.2.2.1 hW.size) hk.1.2).trans (hW.block k hk.2.2.1)
 }
theorem old {T g c:Nat} {inner:List Value} {vO vN:Value} {x:S60} (h2:S1≤g) (h3:g<T) (h4:T≤wr.heap.size) (h5:wr.ownsRow w.heap.size 60 3 (.slice (some ⟨g,0,none⟩) (acc.length+1) c) (acc.length+1) (inner++[.int .i64 x.f0,vO,vN])) (h6:Reps (k60.M wr w.heap.size (fun k=>S1≤k∧k<T∧k≠g)) 3 acc inner)
 (h7:k50.R 50 wr w.heap.size (fun k=>T≤k∧some k≠vN.ownBlock) vO x.f1) (h8:k50.R 50 wr w.heap.size (fun k=>T≤k∧some k≠vO.ownBlock) vN x.f2) {w8 w9:World} (hb:Below wr.heap.size wr w8) (v1:Value) (y:List S50) (hv:k50.R 50 w9 w.heap.size (fun k=>T≤k∧some k≠vN.ownBlock) v1 y) (hgr:w8.grownBy w9 vO.ownBlock)
 (hat:v1.ownBlock=vO.ownBlock∨∃ b,v1.ownBlock=some b∧w8.heap.size≤b):bookplateref18_Edits.RI w S1 acc (some ⟨x.f0,y,x.f2⟩) (.slice (some ⟨g,0,none⟩) (acc.length+1) c) (w9.setCell ⟨g,acc.length * 3+1,none⟩ v1):=by
 have hown:∀ k,vO.ownBlock=some k→T≤k:=fun k hk=>(h7.1 k hk).1
 have hs:=hb.size
 have hs2:=hgr.size
 have hlow:∀ k,k<T→w9.heap[k]?=wr.heap[k]?:=fun k hk=>(hgr.block k (by omega) (fun e=>by have:=hown k e.symm;omega)).trans (hb.block k (by omega))
 have hil:inner.length=acc.length * 3:=h6.1
 have ho9:w9.ownsRow w.heap.size 60 3 (.slice (some ⟨g,0,none⟩) (acc.length+1) c) (acc.length+1) (inner++[.int .i64 x.f0,vO,vN]):=own_move h5 (fun k hk=>by
   have:g=k:=(by simpa [Value.ownBlock] using hk)
   exact hlow k (by omega))
 have hst:=ho9.stored (acc.length * 3+1) v1
 rw [List.set_append_right _ _ (by omega),show acc.length * 3+1 - inner.length=1 by omega] at hst
 refine ⟨T,g,c,inner,v1,vN,rfl,h2,h3,by rw [World.size_setCell];omega,hst.1,h6.imp_ (fun _ _ hp=> ?_),?_,?_⟩
 {
 exact k60.M_move (fun k hk=>(Below.heap_setCell _ ⟨g,acc.length * 3+1,none⟩ _ k hk.2.2).trans (hlow k hk.2.1)) hp
 }
 {
 exact Kd.R_far hv (fun k hk=>by show k≠g;omega) _
 }
 {
 refine Kd.R_far (Kd.R_mono (Kd.R_grown (Kd.R_below (Kd.R_bound h8) hb) hgr (fun k hk=>hk.1.2)) (fun k hk=>⟨hk.1.1,fun e=> ?_⟩)) (fun k hk=>by show k≠g;omega) _
 rcases hat with hat|⟨b,hat,hle⟩
 {
 exact hk.1.2 (e.trans hat)
 }
 {
 rw [hat] at e
 injection e with e
 have:=hk.2.2.1
 omega
 }
 }
theorem new {T g c:Nat} {inner:List Value} {vO vN:Value} {x:S60} (h2:S1≤g) (h3:g<T) (h4:T≤wr.heap.size) (h5:wr.ownsRow w.heap.size 60 3 (.slice (some ⟨g,0,none⟩) (acc.length+1) c) (acc.length+1) (inner++[.int .i64 x.f0,vO,vN])) (h6:Reps (k60.M wr w.heap.size (fun k=>S1≤k∧k<T∧k≠g)) 3 acc inner)
 (h7:k50.R 50 wr w.heap.size (fun k=>T≤k∧some k≠vN.ownBlock) vO x.f1) (h8:k50.R 50 wr w.heap.size (fun k=>T≤k∧some k≠vO.ownBlock) vN x.f2) {w8 w9:World} (hb:Below wr.heap.size wr w8) (v1:Value) (y:List S50) (hv:k50.R 50 w9 w.heap.size (fun k=>T≤k∧some k≠vO.ownBlock) v1 y) (hgr:w8.grownBy w9 vN.ownBlock)
 (hat:v1.ownBlock=vN.ownBlock∨∃ b,v1.ownBlock=some b∧w8.heap.size≤b):bookplateref18_Edits.RI w S1 acc (some ⟨x.f0,x.f1,y⟩) (.slice (some ⟨g,0,none⟩) (acc.length+1) c) (w9.setCell ⟨g,acc.length * 3+2,none⟩ v1):=by
 have hown:∀ k,vN.ownBlock=some k→T≤k:=fun k hk=>(h8.1 k hk).1
 have hs:=hb.size
 have hs2:=hgr.size
 have hlow:∀ k,k<T→w9.heap[k]?=wr.heap[k]?:=fun k hk=>(hgr.block k (by omega) (fun e=>by have:=hown k e.symm;omega)).trans (hb.block k (by omega))
 have hil:inner.length=acc.length * 3:=h6.1
 have ho9:w9.ownsRow w.heap.size 60 3 (.slice (some ⟨g,0,none⟩) (acc.length+1) c) (acc.length+1) (inner++[.int .i64 x.f0,vO,vN]):=own_move h5 (fun k hk=>by
   have:g=k:=(by simpa [Value.ownBlock] using hk)
   exact hlow k (by omega))
 have hst:=ho9.stored (acc.length * 3+2) v1
 rw [List.set_append_right _ _ (by omega),show acc.length * 3+2 - inner.length=2 by omega] at hst
 refine ⟨T,g,c,inner,vO,v1,rfl,h2,h3,by rw [World.size_setCell];omega,hst.1,h6.imp_ (fun _ _ hp=> ?_),?_,?_⟩
 {
 exact k60.M_move (fun k hk=>(Below.heap_setCell _ ⟨g,acc.length * 3+2,none⟩ _ k hk.2.2).trans (hlow k hk.2.1)) hp
 }
 {
 refine Kd.R_far (Kd.R_mono (Kd.R_grown (Kd.R_below (Kd.R_bound h7) hb) hgr (fun k hk=>hk.1.2)) (fun k hk=>⟨hk.1.1,fun e=> ?_⟩)) (fun k hk=>by show k≠g;omega) _
 rcases hat with hat|⟨b,hat,hle⟩
 {
 exact hk.1.2 (e.trans hat)
 }
 {
 rw [hat] at e
 injection e with e
 have:=hk.2.2.1
 omega
 }
 }
 {
 exact Kd.R_far hv (fun k hk=>by show k≠g;omega) _
 }
theorem idx (g n c:Nat):∀ W:World,(Instr.indexAt 31 (.slice (some ⟨g,0,none⟩) (n+1) c) (.int .i64 (n:Int))).run Tryd.prog W= .ok (.pointer (some ⟨g,n * 3,none⟩)) W:=by
 intro W
 have hel:Program.elem Tryd.prog 31=60:=by simp [Program.elem,Tryd.underlying31]
 have hu:Tryd.prog.underlying 31=some (.slice (Program.elem Tryd.prog 31)):=by rw [hel];exact Tryd.underlying31
 obtain ⟨i0,hi,_,hsz,_⟩:=info_parts info60
 rw [run_indexAt_slice (h:=hu),if_pos (by omega),hel]
 simp [sizeOf,typeInfo,hi,hsz,Result.andThen,add_plain]
theorem facts {x:S60} (h:bookplateref18_Edits.RI w S1 acc (some x) v6 wr):∃ (T g c:Nat) (inner:List Value) (vO vN:Value),v6= .slice (some ⟨g,0,none⟩) (acc.length+1) c∧S1≤g∧g<T∧T≤wr.heap.size∧wr.ownsRow w.heap.size 60 3 (.slice (some ⟨g,0,none⟩) (acc.length+1) c) (acc.length+1) (inner++[.int .i64 x.f0,vO,vN])∧Reps (k60.M wr w.heap.size (fun k=>S1≤k∧k<T∧k≠g)) 3 acc inner∧
 k50.R 50 wr w.heap.size (fun k=>T≤k∧some k≠vN.ownBlock) vO x.f1∧k50.R 50 wr w.heap.size (fun k=>T≤k∧some k≠vO.ownBlock) vN x.f2∧Aside0 (∀ k,vO.ownBlock=some k→T≤k∧k<wr.heap.size)∧Aside0 (∀ k,vN.ownBlock=some k→T≤k∧k<wr.heap.size)∧
 wr.cell? ⟨g,acc.length * 3+1,none⟩=some vO∧wr.cell? ⟨g,acc.length * 3+2,none⟩=some vN∧∀ q,wr.frozen? ⟨g,q,none⟩=false:=by
 obtain ⟨T,g,c,inner,vO,vN,rfl,h2,h3,h4,h5,h6,h7,h8⟩:=h
 have hil:inner.length=acc.length * 3:=h6.1
 have hog:=h5.cells (g:=g) rfl
 refine ⟨T,g,c,inner,vO,vN,rfl,h2,h3,h4,h5,h6,h7,h8,⟨fun k hk=>⟨((Kd.R_bound h7).1 k hk).1.1,((Kd.R_bound h7).1 k hk).2.2.1⟩⟩,⟨fun k hk=>⟨((Kd.R_bound h8).1 k hk).1.1,((Kd.R_bound h8).1 k hk).2.2.1⟩⟩,?_,?_,fun q=> ?_⟩
 {
 have:=hog (acc.length * 3+1) vO (by rw [List.getElem?_append_right (by omega),show acc.length * 3+1 - inner.length=1 by omega];rfl)
 rwa [add_plain] at this
 }
 {
 have:=hog (acc.length * 3+2) vN (by rw [List.getElem?_append_right (by omega),show acc.length * 3+2 - inner.length=2 by omega];rfl)
 rwa [add_plain] at this
 }
 {
 rcases h5.2 with ⟨e,_⟩|⟨g',cap',cur,e,_,hh,_⟩
 {
 cases e
 }
 {
 have:g=g':=by injection e with e;injection e with e;injection e
 subst this
 exact blk_frozen hh q
 }
 }
end
end bookplateref18_Edits.RI
set_option maxHeartbeats 8000000 in
set_option maxRecDepth 100000 in
theorem bookplateref18_Edits.calls (k:Nat) (A0:Option Addr) (c0:Nat) (a:List (S50)) (A1:Option Addr) (c1:Nat) (b:List (S50)) (r:List (S60)) (w:World) (hr0:Kd.C k50 w A0 a.length a) (hc0:a.length≤c0) (hr1:Kd.C k50 w A1 b.length b) (hc1:b.length≤c1) (h:bookplateref18_Edits.f k a b=some r):
 Calls Tryd.prog 25 #[.slice A0 a.length c0,.slice A1 b.length c1] w fun e w'=>∃ v0_:Value,e= .returned (v0_)∧Kd.R k60 60 w' w.heap.size (fun _=>True) v0_ r∧Below w.heap.size w w':=by
 unfold bookplateref18_Edits.f at h
 by_cases hsz:a.length≤1000∧b.length≤1000
 {
 rw [if_pos hsz] at h
 obtain ⟨L,hL,h⟩:=Option.bind_eq_some_iff.1 h
 by_cases hLL:L.length=a.length+1∧(∀ i:Nat,i≤a.length→(L.getD i []).length=b.length+1)
 {
 rw [if_pos hLL] at h
 obtain ⟨hsa,hsb⟩:=hsz
 have HR0:=Aside0.mk hr0
 have HR1:=Aside0.mk hr1
 have HC0:=Aside0.mk hc0
 have HC1:=Aside0.mk hc1
 have HLC:=Aside0.mk hL
 have HL1:=Aside0.mk hLL.1
 have HL2:=Aside0.mk hLL.2
 have HG:=Aside0.mk h
 clear hr0 hr1 hc0 hc1 hL hLL h
 go_enter Tryd.func25,Tryd.ntmps25
 go_wp2_with (go_at_call 39;refine (bookplateref18_lengths.calls k _ _ a _ _ b L _ HR0.out HC0.out HR1.out HC1.out HLC.out).mono ?_;rintro e w1 ⟨v5,rfl,ho5,hb1⟩)
 obtain ⟨S1,hS1⟩:∃ s,s=w1.heap.size:=⟨_,rfl⟩
 have HO5:Aside0 ((Kd.slice 3 (Kd.int .i64)).R 72 w1 w.heap.size (fun k=>k<S1) v5 L):=⟨Kd.R_mono (Kd.R_bound (Kd.S_R ho5)) (fun k hk=>by rw [hS1];exact hk.2.2.1)⟩
 have HB1:=Aside0.mk hb1
 have HS1:Aside0 (S1≤w1.heap.size∧w.heap.size≤S1):=⟨⟨by omega,by have:=hb1.size;omega⟩⟩
 clear ho5 hb1 hS1
 go_loopw [6,7,8,9] (fun v6 v7 v8 v9 wr=>∃ (n:Nat) (acc:List S60) (o:Option S60) (i j:Int),v7= .bool o.isSome∧v8= .int .i64 i∧v9= .int .i64 j∧0≤i∧i≤a.length∧0≤j∧j≤b.length∧Aside0 (bookplateref18_Edits.go k a b L n acc o i j=some r)∧Aside0 ((acc.length:Int)≤i∧∀ x,o=some x→(x.f1.length:Int)≤i∧(x.f2.length:Int)≤j)∧Aside0 (bookplateref18_Edits.RI w S1 acc o v6 wr)∧Aside0 ((Kd.slice 3 (Kd.int .i64)).R 72 wr w.heap.size (fun k=>k<S1) v5 L)∧Aside0 (Below w.heap.size w wr)∧Aside0 (S1≤wr.heap.size)) (fun _ _ v8 v9 _=>(a.length - (RowKit.intOf v8).toNat)+(b.length - (RowKit.intOf v9).toNat))
 case atStart=>exact ⟨k,[],none,0,0,rfl,rfl,rfl,by omega,by omega,by omega,by omega,HG,⟨by simp⟩,⟨Kd.R_nil _ _ _ _ _⟩,HO5,HB1,⟨HS1.out.1⟩⟩
 case round=>
  (
 clear HG HO5 HB1
 obtain ⟨n,acc,o,i,j,rfl,rfl,rfl,hi0,hi1,hj0,hj1,HG,HM,HX,HO5,HB,HSS⟩:=hrel
 cases n with
 |zero=>exact absurd HG.out (by simp [bookplateref18_Edits.go])
 |succ n=>
  (
 have HG1:=HG.out
 clear HG
 simp only [bookplateref18_Edits.go] at HG1
 by_cases hi:i<a.length
 {
 obtain ⟨ad0,A3,c3,rfl,hx0,hx1,hx2,hx3,hl3,hr3⟩:=at_T50 HR0.out i hi0 hi
 have HXA:=Aside0.mk (And.intro hx0 (And.intro hx1 (And.intro hx2 hx3)))
 have HL3:=Aside0.mk hl3
 have HR3:=Aside0.mk hr3
 clear hl3 hr3 hx0 hx1 hx2 hx3
 by_cases hj:j<b.length
 {
 obtain ⟨ad1,B3,d3,rfl,hy0,hy1,hy2,hy3,hm3,hs3⟩:=at_T50 HR1.out j hj0 hj
 have HYB:=Aside0.mk (And.intro hy0 (And.intro hy1 (And.intro hy2 hy3)))
 have HM3:=Aside0.mk hm3
 have HS3:=Aside0.mk hs3
 clear hm3 hs3
 have hx0:=pw_cell_below HB.out HXA.out.1
 have hx1:=pw_cell_below HB.out HXA.out.2.1
 have hx2:=pw_cell_below HB.out HXA.out.2.2.1
 have hx3:=pw_cell_below HB.out HXA.out.2.2.2
 have hy0:=pw_cell_below HB.out hy0
 have hy1:=pw_cell_below HB.out hy1
 have hy2:=pw_cell_below HB.out hy2
 have hy3:=pw_cell_below HB.out hy3
 rw [if_pos (.inl hi)] at HG1
 have di:decide (i<(a.length:Int))=true:=decide_eq_true hi
 have dj:decide (j<(b.length:Int))=true:=decide_eq_true hj
 obtain ⟨t,hAt,HG2_⟩:=Option.bind_eq_some_iff.1 HG1
 have HT:Aside0 (bookplateref12_SameField.f k (rd_T50 a i).f0 (rd_T50 a i).f1.f0 (rd_T50 a i).f1.f1 (rd_T50 a i).f2 (rd_T50 b j).f0 (rd_T50 b j).f1.f0 (rd_T50 b j).f1.f1 (rd_T50 b j).f2=some t):=⟨by rw [bookplateref18_Edits.at_,if_pos hi,if_pos hj] at hAt;exact hAt⟩
 have HG2:=Aside0.mk HG2_
 clear HG1 HG2_ hAt
 go_wp2
 go_region_held3 (fun w'=>w'.cell? (ad0.add (i.toNat * 4))=some (.string (rd_T50 a i).f0)∧w'.cell? ⟨(ad0.add (i.toNat * 4)).block,(ad0.add (i.toNat * 4)).off+1,none⟩=some (.int .u8 (rd_T50 a i).f1.f0)∧w'.cell? ⟨(ad0.add (i.toNat * 4)).block,(ad0.add (i.toNat * 4)).off+2,none⟩=some (.int .u8 (rd_T50 a i).f1.f1)∧w'.cell? ⟨(ad0.add (i.toNat * 4)).block,(ad0.add (i.toNat * 4)).off+3,none⟩=some (.slice A3 (rd_T50 a i).f2.length c3)∧w'.cell? (ad1.add (j.toNat * 4))=some (.string (rd_T50 b j).f0)∧w'.cell? ⟨(ad1.add (j.toNat * 4)).block,(ad1.add (j.toNat * 4)).off+1,none⟩=some (.int .u8 (rd_T50 b j).f1.f0)∧w'.cell? ⟨(ad1.add (j.toNat * 4)).block,(ad1.add (j.toNat * 4)).off+2,none⟩=some (.int .u8 (rd_T50 b j).f1.f1)∧w'.cell? ⟨(ad1.add (j.toNat * 4)).block,(ad1.add (j.toNat * 4)).off+3,none⟩=some (.slice B3 (rd_T50 b j).f2.length d3)) (first|go_keep|(go_split_ands;exact ⟨pw_cell_below hb5 (by assumption),pw_cell_below hb5 (by assumption),pw_cell_below hb5 (by assumption),pw_cell_below hb5 (by assumption),pw_cell_below hb5 (by assumption),pw_cell_below hb5 (by assumption),pw_cell_below hb5 (by assumption),pw_cell_below hb5 (by assumption)⟩)) ((go_at_call 40;refine (bookplateref12_SameField.calls k _ _ _ _ _ _ _ _ _ _ _ _ t _ (Kd.C_below HR3.out (below_drew HB.out)) HL3.out (Kd.C_below HS3.out (below_drew HB.out)) HM3.out HT.out).mono ?_;rintro e w5 ⟨rfl,hb5⟩))
 rename_i hHeld_
 clear hHeld_ hx0 hx1 hx2 hx3 hy0 hy1 hy2 hy3
 have HB5:Aside0 (Below wr.heap.size wr w5):=⟨(below_drew (Below.refl _ wr)).trans (by simpa using hb5)⟩
 clear hb5
 cases t with
 |true=>
  (
 have HG3:Aside0 (bookplateref18_Edits.go k a b L n (acc++o.toList) none (i+1) (j+1)=some r):=⟨by have h:=HG2.out;rw [if_pos rfl] at h;exact h⟩
 clear HG2
 go_wp2
 refine ⟨⟨n,acc++o.toList,none,i+1,j+1,rfl,rfl,rfl,by omega,by omega,by omega,by omega,HG3,⟨⟨by have:=HM.out;cases o with|none=>simp;omega|some x=>have:=this.2 x rfl;simp;omega,fun z hz=>by cases hz⟩⟩,⟨bookplateref18_Edits.RI.close (bookplateref18_Edits.RI.below HX.out HB5.out)⟩,⟨Kd.R_below HO5.out HB5.out⟩,⟨HB.out.trans (HB5.out.mono HB.out.size)⟩,⟨by have:=HSS.out;have:=HB5.out.size;omega⟩⟩,by simp [RowKit.intOf];omega⟩
  )
 |false=>
  (
 have hLl:=HL1.out
 obtain ⟨R0,hR0⟩:∃ R,R=L.getD i.toNat []:=⟨_,rfl⟩
 obtain ⟨R1,hR1⟩:∃ R,R=L.getD (i+1).toNat []:=⟨_,rfl⟩
 have hn0:R0.length=b.length+1:=by rw [hR0];exact HL2.out i.toNat (by omega)
 have hn1:R1.length=b.length+1:=by rw [hR1];exact HL2.out (i+1).toNat (by omega)
 clear hLl
 have HG3:(if decide (rd R0 (j+1)≤rd R1 j)=true then (bookplateref18_Edits.copy_ (rd_T50 a i)).bind fun y=>bookplateref18_Edits.go k a b L n acc (some ⟨(bookplateref18_Edits.new_ o i).f0,(bookplateref18_Edits.new_ o i).f1++[y],(bookplateref18_Edits.new_ o i).f2⟩) (i+1) j else (bookplateref18_Edits.copy_ (rd_T50 b j)).bind fun y=>bookplateref18_Edits.go k a b L n acc (some ⟨(bookplateref18_Edits.new_ o i).f0,(bookplateref18_Edits.new_ o i).f1,(bookplateref18_Edits.new_ o i).f2++[y]⟩) i (j+1))=some r:=by {
 have h:=HG2.out
 rw [if_neg (by decide)] at h
 unfold patch_edits.left_ at h
 rw [decide_eq_true hi,decide_eq_false (show ¬ j=(b.length:Int) by omega),Bool.false_or,Bool.true_and,←hR0,←hR1] at h
 exact h
 }
 clear HG2
 generalize hq:decide (rd R0 (j+1)≤rd R1 j)=q at HG3
 cases q with
 |true=>
  (
 have HG4:=Aside0.mk (show _ from (by rw [if_pos rfl] at HG3;exact HG3:((bookplateref18_Edits.copy_ (rd_T50 a i)).bind fun y=>bookplateref18_Edits.go k a b L n acc (some ⟨(bookplateref18_Edits.new_ o i).f0,(bookplateref18_Edits.new_ o i).f1++[y],(bookplateref18_Edits.new_ o i).f2⟩) (i+1) j)=some r))
 clear HG3
 cases o with
 |none=>
  (
 obtain ⟨hq_,inner_,hown,hrep⟩:=bookplateref18_Edits.RI.below HX.out HB5.out
 have HOW:=Aside0.mk hown
 have HRE:=Aside0.mk hrep
 have HQQ:=Aside0.mk hq_
 clear hown hrep hq_
 obtain ⟨x,HXN⟩:∃ x:S60,Aside0 (x=⟨i,[],[]⟩):=⟨_,⟨rfl⟩⟩
 obtain ⟨A6,n6,c6,rfl⟩:=Aid.R_slice (show Kd.R k60 60 wr w.heap.size _ _ acc from HX.out)
 obtain ⟨i0,hii,hz0,hz1,hz2⟩:=info_parts info60
 have hss:=HSS.out
 have hbs:=HB.out.size
 have hbs5:=HB5.out.size
 have hacc:=HM.out.1
 go_wp2_with (at_builtin;go_loud (refine wpList_append_own_at _ rfl _ _ 31 rfl w.heap.size 60 i0 _ 3 56 Tryd.underlying31 hii hz0 hz1 hz2 rfl (by decide) (.slice A6 n6 c6) acc.length inner_ rfl (HOW.out.alloc _) ⟨w5.heap.size,0,none⟩ 1 1 [.int .i64 i,.slice none 0 0,.slice none 0 0] rfl rfl (World.news_of_block (cs:=#[.int .i64 i,.slice none 0 0,.slice none 0 0]) (t:=60) (fr:=(0,0)) (blk_new w5 _)) (by simp [Value.oneCell']) (by simp only [maxLen];omega) (by omega) (by rw [World.size_alloc];omega) ?_;intro v1 w6 hown' hgrow _ hat;have hx6:=bookplateref18_Edits.RI.open_ (w:=w) (wr:=w5) (W:=w5.alloc (.cells #[.int .i64 i,.slice none 0 0,.slice none 0 0] 60)) (i:=i) (below_alloc (Below.refl _ w5) _) (Nat.le_trans hss hbs5) (fun k hk=>HQQ.out k hk) (HRE.out.imp_ (fun _ _ hp=>hp)) hown' hgrow hat;rw [←HXN.out] at hx6;have HX6:=Aside0.mk hx6;have HB6:Aside0 (Below w.heap.size w w6):=⟨(below_alloc (HB.out.trans (HB5.out.mono hbs)) _).grown hgrow (by rw [World.size_alloc];omega) (fun k hk=>own_base HOW.out k hk)⟩;have HO6:Aside0 ((Kd.slice 3 (Kd.int .i64)).R 72 w6 w.heap.size (fun k=>k<S1) v5 L):=⟨Kd.R_step (Kd.R_below HO5.out HB5.out) (fun k hk hlt=>(hgrow.block k (by rw [World.size_alloc];omega) (fun e=>by have:=HQQ.out k e.symm;omega)).trans (Below.heap_alloc w5 _ k hlt))⟩;clear hown' hgrow hat hx6 HX HO5 HB HB5 HQQ HOW HRE;obtain ⟨T,g,c,inner,vO,vN,rfl,hSg,hgT,hTW,hOW6,hRE6,h7,h8,HQvO,HQvN,hcO1,hcO2,hfz⟩:=bookplateref18_Edits.RI.facts HX6.out;clear HX6;have hS1w:=HS1.out;have hia:=bookplateref18_Edits.RI.idx g acc.length c))
 have HLE:Aside0 ((x.f1.length:Int)≤i∧(x.f2.length:Int)≤j):=⟨by rw [HXN.out];exact ⟨by simp;omega,by simp;omega⟩⟩
 have HG4:Aside0 (((bookplateref18_Edits.copy_ (rd_T50 a i)).bind fun y=>bookplateref18_Edits.go k a b L n acc (some ⟨x.f0,x.f1++[y],x.f2⟩) (i+1) j)=some r):=⟨by rw [HXN.out];exact HG4.out⟩
 obtain ⟨adL,cL,eL0,P0,p0,hrow0,hC0⟩:=patch_edits.row_L HO6.out i hi0 (by have:=HL1.out;omega)
 subst eL0
 obtain ⟨adM,cM,eLM,P1,p1,hrow1,hC1⟩:=patch_edits.row_L HO6.out (i+1) (by omega) (by have:=HL1.out;omega)
 injection eLM with e1 e2 e3
 injection e1 with e1
 subst e1
 rw [←hR0] at hrow0 hC0
 rw [←hR1] at hrow1 hC1
 obtain ⟨ai0,eP0,hin0⟩:=Kd.at_int hC0 (j+1) (by omega) (by omega)
 subst eP0
 obtain ⟨ai1,eP1,hin1⟩:=Kd.at_int hC1 j (by omega) (by omega)
 subst eP1
 clear hC0 hC1 e2 e3 hR0 hR1
 have hb0:(0:Int)≤i+1:=by omega
 have hb1:i+1<(L.length:Int):=by have:=HL1.out;omega
 have hb2:i<(L.length:Int):=by have:=HL1.out;omega
 have hb3:j<(R1.length:Int):=by omega
 have hb4:(0:Int)≤j+1:=by omega
 have hb5:j+1<(R0.length:Int):=by omega
 have hje:(j==(b.length:Int))=false:=by simp;omega
 have hw1:IntKind.i64.wrap (i+1)=i+1:=IntWalk.i64_in _ (by omega)
 have hw2:IntKind.i64.wrap (j+1)=j+1:=IntWalk.i64_in _ (by omega)
 clear hn0 hn1
 go_wp2
 go_region_held3 (fun w'=>w'.cell? (adL.add (i+1).toNat)=some (.slice (some ai1) R1.length p1)∧w'.cell? (ai1.add j.toNat)=some (.int .i64 (rd R1 j))∧w'.cell? (adL.add i.toNat)=some (.slice (some ai0) R0.length p0)∧w'.cell? (ai0.add (j+1).toNat)=some (.int .i64 (rd R0 (j+1)))) (go_keep) (fail)
 clear hrow0 hrow1 hin0 hin1 hb0 hb1 hb2 hb3 hb4 hb5 hje hw1 hw2 hq di dj
 have HB67:Aside0 (Below w6.heap.size w6 w6.drew):=⟨below_drew (Below.refl _ w6)⟩
 have HB7:Aside0 (Below w.heap.size w w6.drew):=⟨below_drew HB6.out⟩
 generalize w6.drew=w7 at HB67 HB7⊢
 clear hia
 have hcO:=hcO1
 have hfO:=hfz (acc.length * 3+1)
 have cO:=pw_cell_below HB67.out hcO
 obtain ⟨y,hy,HG5⟩:=Option.bind_eq_some_iff.1 HG4.out
 unfold bookplateref18_Edits.copy_ at hy
 obtain ⟨⟨r1,r2,r3,r4⟩,hcp,hy⟩:=Option.bind_eq_some_iff.1 hy
 have HY:Aside0 (y=⟨r1,⟨r2,r3⟩,r4⟩):=⟨(Option.some.inj hy).symm⟩
 have HCP:=Aside0.mk hcp
 have HG6:=Aside0.mk HG5
 clear hy hcp HG5 HG4
 go_wp2
 refine start_ (n:=15) (S:=fun w'=>w'.cell? ⟨g,acc.length * 3+1,none⟩=some vO∧w'.cell? (ad0.add (i.toNat * 4))=some (.string (rd_T50 a i).f0)∧w'.cell? ⟨(ad0.add (i.toNat * 4)).block,(ad0.add (i.toNat * 4)).off+1,none⟩=some (.int .u8 (rd_T50 a i).f1.f0)∧w'.cell? ⟨(ad0.add (i.toNat * 4)).block,(ad0.add (i.toNat * 4)).off+2,none⟩=some (.int .u8 (rd_T50 a i).f1.f1)∧w'.cell? ⟨(ad0.add (i.toNat * 4)).block,(ad0.add (i.toNat * 4)).off+3,none⟩=some (.slice A3 (rd_T50 a i).f2.length c3)) (ds:=[14]) #[false,false,false,false,false,false,false,false,false,false,false,false,false,false,false] (by kernel_rfl) rfl rfl ⟨cO,pw_cell_below HB7.out HXA.out.1,pw_cell_below HB7.out HXA.out.2.1,pw_cell_below HB7.out HXA.out.2.2.1,pw_cell_below HB7.out HXA.out.2.2.2⟩ (fun hHeld=> ?_)
 have HB8:Aside0 (Below w6.heap.size w6 w7.drew):=⟨below_drew HB67.out⟩
 have HW8:Aside0 (Below w.heap.size w w7.drew):=⟨below_drew HB7.out⟩
 clear HB7 HB67 cO
 generalize w7.drew=w8 at HB8 HW8 hHeld⊢
 refine pK_ (i:=0) (N:=some 90) ?_
 refine pK_ (i:=1) (N:=some 91) ?_
 refine pK_ (i:=2) (N:=some 92) ?_
 refine pK_ (i:=3) (N:=some 93) ?_
 refine pK_ (i:=5) (N:=some 95) ?_
 refine pK_ (i:=6) (N:=some 96) ?_
 refine pK_ (i:=7) (N:=some 97) ?_
 refine tK_ (i:=4) (N:=some 94) hHeld ?_
 refine tK_ (i:=8) (N:=some 98) hHeld ?_
 refine one_ (i:=9) (N:=some 99) #[true,true,true,true,true,true,true,true,true,true,false,false,false,false,false] rfl rfl (by kernel_rfl) (by decide) (fun K hK=> ?_)
 refine goes_ Tryd.func41 (by kernel_rfl) rfl #[.agg #[.string (rd_T50 a i).f0,.int .u8 (rd_T50 a i).f1.f0,.int .u8 (rd_T50 a i).f1.f1,.slice A3 (rd_T50 a i).f2.length c3]] (by rfl) rfl rfl (by (try simp only [List.map_toArray,List.map_cons,List.map_nil]);first|done|rfl) ?_
 refine (bookplateref12_CopyField.calls _ _ _ _ _ (rd_T50 a i).f2 r1 r2 r3 r4 _ (Kd.C_below HR3.out HW8.out) HL3.out HCP.out).mono ?_
 rintro e w9 ⟨v3,rfl,ho9,hb9⟩
 refine ⟨_,rfl,?_⟩
 obtain ⟨A9,n9,c9,rfl⟩:=Aid.R_slice ho9
 have HB9:=Aside0.mk (HB8.out.trans (hb9.mono HB8.out.size))
 have HW9:=Aside0.mk (HW8.out.trans (hb9.mono HW8.out.size))
 have HS9:=Aside0.mk hb9.size
 have HO9:=Aside0.mk ho9
 have hc9:=pw_cell_below hb9 hHeld.1
 clear ho9 hb9
 refine hK.out _ _ ⟨hc9,pw_cell_below HW9.out HXA.out.1,pw_cell_below HW9.out HXA.out.2.1,pw_cell_below HW9.out HXA.out.2.2.1,pw_cell_below HW9.out HXA.out.2.2.2⟩ (fun hHeld=> ?_)
 clear hK K
 refine norm_ (a':=?_) ?_ ?_
 rotate_left
 {
 show Act.put _ (some 99) _=_
 simp only [Act.put,List.setIfInBounds_toArray,List.set_cons_zero,List.set_cons_succ,i64_w,i32_w]
 rfl
 }
 clear hc9
 refine one_ (i:=10) (N:=some 100) #[true,true,true,true,true,true,true,true,true,true,true,false,false,false,false] rfl rfl (by kernel_rfl) (by decide) (fun K hK=> ?_)
 refine value_ (w1:=?_) (v:=?_) (by rfl) rfl ?_ ?_
 rotate_left 2
 {
 go_simp
 constructor
 {
 rfl
 }
 {
 rfl
 }
 }
 refine hK.out _ _ ⟨pw_cell_below (below_alloc (Below.refl _ _) _) hHeld.1,pw_cell_below (below_alloc HW9.out _) HXA.out.1,pw_cell_below (below_alloc HW9.out _) HXA.out.2.1,pw_cell_below (below_alloc HW9.out _) HXA.out.2.2.1,pw_cell_below (below_alloc HW9.out _) HXA.out.2.2.2⟩ (fun hHeld=> ?_)
 clear hK K
 refine norm_ (a':=?_) ?_ ?_
 rotate_left
 {
 show Act.put _ (some 100) _=_
 simp only [Act.put,List.setIfInBounds_toArray,List.set_cons_zero,List.set_cons_succ,i64_w,i32_w]
 rfl
 }
 refine one_ (i:=11) (N:=some 101) #[true,true,true,true,true,true,true,true,true,true,true,true,false,false,false] rfl rfl (by kernel_rfl) (by decide) (fun K hK=> ?_)
 refine Kd.R_append_step k50 (w0:=w) w.heap.size (by rfl) (.tmp 94) (.tmp 100) 22 50 (.agg #[(.string ⟨#[]⟩),(.int .u8 0),(.int .u8 0),(.slice none 0 0)]) 48 rfl Tryd.underlying22 info50 rfl (by decide) (by omega) vO x.f1 y [.string r1,.int .u8 r2,.int .u8 r3,.slice A9 n9 c9] (fun k=>T≤k∧some k≠vN.ownBlock) (fun k=>w8.heap.size≤k∧k<w9.heap.size) rfl rfl ?aM1 ?aP1 ?aF1 (Kd.R_below h7 HB9.out) HW9.out HW9.out.size (by have:=HLE.out;omega) ?_
 (case aM1=>have h2:=Kd.R_mono (Kd.R_bound HO9.out) (ok':=fun k=>w8.heap.size≤k∧k<w9.heap.size) (fun k hk=>⟨hk.2.1,hk.2.2.1⟩);rw [HY.out];exact k50_mkM _ _ _ ⟨r1,⟨r2,r3⟩,r4⟩ (Kd.R_lower h2 HW8.out.size))
 (case aP1=>exact fun k hk=>⟨⟨by have:=HB8.out.size;omega,fun e=>by have:=HQvN.out k e.symm;have:=HB8.out.size;omega⟩,fun e=>by have:=HQvO.out k e.symm;have:=HB8.out.size;omega⟩)
 (case aF1=>exact fun k hk=>⟨by have:=HB9.out.size;omega,fun e=>by have:=HQvN.out k e.symm;have:=HB9.out.size;omega⟩)
 intro v1 w10 hv hbw hgr hat
 obtain ⟨A10,n10,c10,rfl⟩:=Aid.R_slice hv
 have hog:w10.heap[g]?=w6.heap[g]?:=(hgr.block g (by have:=HB9.out.size;omega) (fun e=>by have:=HQvO.out g e.symm;omega)).trans (HB9.out.block g (by omega))
 have co10:w10.cell? ⟨g,acc.length * 3+1,none⟩=some vO:=(by have:=hcO;simp only [World.cell?,hog] at this⊢;exact this)
 have cf10:w10.frozen? ⟨g,acc.length * 3+1,none⟩=false:=(by have:=hfO;simp only [World.frozen?,hog] at this⊢;exact this)
 have HV10:=Aside0.mk hv
 have HW10:=Aside0.mk hbw
 have HGR:=Aside0.mk hgr
 have HAT:=Aside0.mk hat
 clear hv hgr hat hog
 refine hK.out _ _ ⟨co10,pw_cell_below hbw HXA.out.1,pw_cell_below hbw HXA.out.2.1,pw_cell_below hbw HXA.out.2.2.1,pw_cell_below hbw HXA.out.2.2.2⟩ (fun hHeld=> ?_)
 clear hK K
 refine norm_ (a':=?_) ?_ ?_
 rotate_left
 {
 show Act.put _ (some 101) _=_
 simp only [Act.put,List.setIfInBounds_toArray,List.set_cons_zero,List.set_cons_succ,i64_w,i32_w]
 rfl
 }
 clear hbw hHeld
 refine pK_ (i:=12) (N:=some 102) ?_
 refine pK_ (i:=13) (N:=some 103) ?_
 refine last_ (i:=14) (N:=none) #[true,true,true,true,true,true,true,true,true,true,true,true,true,true,true] rfl rfl (by kernel_rfl) (by decide) (fun K hK=> ?_)
 refine skip_ (w1:=?_) (by rfl) rfl ?_ ?_
 rotate_left
 {
 go_simp
 rfl
 }
 refine hK.out _ _ ?_
 clear hK K
 refine done_ (by kernel_rfl) ?_
 go_wp2
 refine ⟨⟨n,acc,some ⟨x.f0,x.f1++[y],x.f2⟩,i+1,j,rfl,rfl,rfl,by omega,by omega,by omega,by omega,HG6,⟨⟨by have:=HM.out.1;omega,fun z hz=>by have:=HLE.out;obtain rfl:=Option.some.inj hz;simp only [List.length_append,List.length_singleton];omega⟩⟩,⟨bookplateref18_Edits.RI.old hSg hgT hTW hOW6 hRE6 h7 h8 HB9.out _ _ HV10.out HGR.out HAT.out⟩,⟨Kd.R_far (Kd.R_step HO6.out (fun k hk hlt=>(HGR.out.block k (by have:=HB9.out.size;omega) (fun e=>by have:=HQvO.out k e.symm;omega)).trans (HB9.out.block k hlt))) (fun k hk=>by show k≠g;omega) _⟩,⟨HW10.out.setCell (by show w.heap.size≤g;have:=HS1.out;omega) _⟩,⟨by rw [World.size_setCell];have:=HGR.out.size;have:=HB9.out.size;omega⟩⟩,by simp [RowKit.intOf];omega⟩
  )
 |some x=>
  (
 have HX6:=Aside0.mk (bookplateref18_Edits.RI.below HX.out HB5.out)
 have HB6:=Aside0.mk (HB.out.trans (HB5.out.mono HB.out.size))
 have HO6:=Aside0.mk (Kd.R_below HO5.out HB5.out)
 have HLE:Aside0 ((x.f1.length:Int)≤i∧(x.f2.length:Int)≤j):=⟨HM.out.2 x rfl⟩
 have HG4:Aside0 (((bookplateref18_Edits.copy_ (rd_T50 a i)).bind fun y=>bookplateref18_Edits.go k a b L n acc (some ⟨x.f0,x.f1++[y],x.f2⟩) (i+1) j)=some r):=⟨HG4.out⟩
 clear HX HO5 HB HB5
 have hacc:=HM.out.1
 obtain ⟨T,g,c,inner,vO,vN,rfl,hSg,hgT,hTW,hOW6,hRE6,h7,h8,HQvO,HQvN,hcO1,hcO2,hfz⟩:=bookplateref18_Edits.RI.facts HX6.out
 clear HX6
 have hS1w:=HS1.out
 have hia:=bookplateref18_Edits.RI.idx g acc.length c
 obtain ⟨adL,cL,eL0,P0,p0,hrow0,hC0⟩:=patch_edits.row_L HO6.out i hi0 (by have:=HL1.out;omega)
 subst eL0
 obtain ⟨adM,cM,eLM,P1,p1,hrow1,hC1⟩:=patch_edits.row_L HO6.out (i+1) (by omega) (by have:=HL1.out;omega)
 injection eLM with e1 e2 e3
 injection e1 with e1
 subst e1
 rw [←hR0] at hrow0 hC0
 rw [←hR1] at hrow1 hC1
 obtain ⟨ai0,eP0,hin0⟩:=Kd.at_int hC0 (j+1) (by omega) (by omega)
 subst eP0
 obtain ⟨ai1,eP1,hin1⟩:=Kd.at_int hC1 j (by omega) (by omega)
 subst eP1
 clear hC0 hC1 e2 e3 hR0 hR1
 have hb0:(0:Int)≤i+1:=by omega
 have hb1:i+1<(L.length:Int):=by have:=HL1.out;omega
 have hb2:i<(L.length:Int):=by have:=HL1.out;omega
 have hb3:j<(R1.length:Int):=by omega
 have hb4:(0:Int)≤j+1:=by omega
 have hb5:j+1<(R0.length:Int):=by omega
 have hje:(j==(b.length:Int))=false:=by simp;omega
 have hw1:IntKind.i64.wrap (i+1)=i+1:=IntWalk.i64_in _ (by omega)
 have hw2:IntKind.i64.wrap (j+1)=j+1:=IntWalk.i64_in _ (by omega)
 clear hn0 hn1
 go_wp2
 go_region_held3 (fun w'=>w'.cell? (adL.add (i+1).toNat)=some (.slice (some ai1) R1.length p1)∧w'.cell? (ai1.add j.toNat)=some (.int .i64 (rd R1 j))∧w'.cell? (adL.add i.toNat)=some (.slice (some ai0) R0.length p0)∧w'.cell? (ai0.add (j+1).toNat)=some (.int .i64 (rd R0 (j+1)))) (go_keep) (fail)
 clear hrow0 hrow1 hin0 hin1 hb0 hb1 hb2 hb3 hb4 hb5 hje hw1 hw2 hq di dj
 have HB67:Aside0 (Below w5.heap.size w5 w5.drew):=⟨below_drew (Below.refl _ w5)⟩
 have HB7:Aside0 (Below w.heap.size w w5.drew):=⟨below_drew HB6.out⟩
 generalize w5.drew=w7 at HB67 HB7⊢
 clear hia
 have hcO:=hcO1
 have hfO:=hfz (acc.length * 3+1)
 have cO:=pw_cell_below HB67.out hcO
 obtain ⟨y,hy,HG5⟩:=Option.bind_eq_some_iff.1 HG4.out
 unfold bookplateref18_Edits.copy_ at hy
 obtain ⟨⟨r1,r2,r3,r4⟩,hcp,hy⟩:=Option.bind_eq_some_iff.1 hy
 have HY:Aside0 (y=⟨r1,⟨r2,r3⟩,r4⟩):=⟨(Option.some.inj hy).symm⟩
 have HCP:=Aside0.mk hcp
 have HG6:=Aside0.mk HG5
 clear hy hcp HG5 HG4
 go_wp2
 refine start_ (n:=15) (S:=fun w'=>w'.cell? ⟨g,acc.length * 3+1,none⟩=some vO∧w'.cell? (ad0.add (i.toNat * 4))=some (.string (rd_T50 a i).f0)∧w'.cell? ⟨(ad0.add (i.toNat * 4)).block,(ad0.add (i.toNat * 4)).off+1,none⟩=some (.int .u8 (rd_T50 a i).f1.f0)∧w'.cell? ⟨(ad0.add (i.toNat * 4)).block,(ad0.add (i.toNat * 4)).off+2,none⟩=some (.int .u8 (rd_T50 a i).f1.f1)∧w'.cell? ⟨(ad0.add (i.toNat * 4)).block,(ad0.add (i.toNat * 4)).off+3,none⟩=some (.slice A3 (rd_T50 a i).f2.length c3)) (ds:=[14]) #[false,false,false,false,false,false,false,false,false,false,false,false,false,false,false] (by kernel_rfl) rfl rfl ⟨cO,pw_cell_below HB7.out HXA.out.1,pw_cell_below HB7.out HXA.out.2.1,pw_cell_below HB7.out HXA.out.2.2.1,pw_cell_below HB7.out HXA.out.2.2.2⟩ (fun hHeld=> ?_)
 have HB8:Aside0 (Below w5.heap.size w5 w7.drew):=⟨below_drew HB67.out⟩
 have HW8:Aside0 (Below w.heap.size w w7.drew):=⟨below_drew HB7.out⟩
 clear HB7 HB67 cO
 generalize w7.drew=w8 at HB8 HW8 hHeld⊢
 refine pK_ (i:=0) (N:=some 90) ?_
 refine pK_ (i:=1) (N:=some 91) ?_
 refine pK_ (i:=2) (N:=some 92) ?_
 refine pK_ (i:=3) (N:=some 93) ?_
 refine pK_ (i:=5) (N:=some 95) ?_
 refine pK_ (i:=6) (N:=some 96) ?_
 refine pK_ (i:=7) (N:=some 97) ?_
 refine tK_ (i:=4) (N:=some 94) hHeld ?_
 refine tK_ (i:=8) (N:=some 98) hHeld ?_
 refine one_ (i:=9) (N:=some 99) #[true,true,true,true,true,true,true,true,true,true,false,false,false,false,false] rfl rfl (by kernel_rfl) (by decide) (fun K hK=> ?_)
 refine goes_ Tryd.func41 (by kernel_rfl) rfl #[.agg #[.string (rd_T50 a i).f0,.int .u8 (rd_T50 a i).f1.f0,.int .u8 (rd_T50 a i).f1.f1,.slice A3 (rd_T50 a i).f2.length c3]] (by rfl) rfl rfl (by (try simp only [List.map_toArray,List.map_cons,List.map_nil]);first|done|rfl) ?_
 refine (bookplateref12_CopyField.calls _ _ _ _ _ (rd_T50 a i).f2 r1 r2 r3 r4 _ (Kd.C_below HR3.out HW8.out) HL3.out HCP.out).mono ?_
 rintro e w9 ⟨v3,rfl,ho9,hb9⟩
 refine ⟨_,rfl,?_⟩
 obtain ⟨A9,n9,c9,rfl⟩:=Aid.R_slice ho9
 have HB9:=Aside0.mk (HB8.out.trans (hb9.mono HB8.out.size))
 have HW9:=Aside0.mk (HW8.out.trans (hb9.mono HW8.out.size))
 have HS9:=Aside0.mk hb9.size
 have HO9:=Aside0.mk ho9
 have hc9:=pw_cell_below hb9 hHeld.1
 clear ho9 hb9
 refine hK.out _ _ ⟨hc9,pw_cell_below HW9.out HXA.out.1,pw_cell_below HW9.out HXA.out.2.1,pw_cell_below HW9.out HXA.out.2.2.1,pw_cell_below HW9.out HXA.out.2.2.2⟩ (fun hHeld=> ?_)
 clear hK K
 refine norm_ (a':=?_) ?_ ?_
 rotate_left
 {
 show Act.put _ (some 99) _=_
 simp only [Act.put,List.setIfInBounds_toArray,List.set_cons_zero,List.set_cons_succ,i64_w,i32_w]
 rfl
 }
 clear hc9
 refine one_ (i:=10) (N:=some 100) #[true,true,true,true,true,true,true,true,true,true,true,false,false,false,false] rfl rfl (by kernel_rfl) (by decide) (fun K hK=> ?_)
 refine value_ (w1:=?_) (v:=?_) (by rfl) rfl ?_ ?_
 rotate_left 2
 {
 go_simp
 constructor
 {
 rfl
 }
 {
 rfl
 }
 }
 refine hK.out _ _ ⟨pw_cell_below (below_alloc (Below.refl _ _) _) hHeld.1,pw_cell_below (below_alloc HW9.out _) HXA.out.1,pw_cell_below (below_alloc HW9.out _) HXA.out.2.1,pw_cell_below (below_alloc HW9.out _) HXA.out.2.2.1,pw_cell_below (below_alloc HW9.out _) HXA.out.2.2.2⟩ (fun hHeld=> ?_)
 clear hK K
 refine norm_ (a':=?_) ?_ ?_
 rotate_left
 {
 show Act.put _ (some 100) _=_
 simp only [Act.put,List.setIfInBounds_toArray,List.set_cons_zero,List.set_cons_succ,i64_w,i32_w]
 rfl
 }
 refine one_ (i:=11) (N:=some 101) #[true,true,true,true,true,true,true,true,true,true,true,true,false,false,false] rfl rfl (by kernel_rfl) (by decide) (fun K hK=> ?_)
 refine Kd.R_append_step k50 (w0:=w) w.heap.size (by rfl) (.tmp 94) (.tmp 100) 22 50 (.agg #[(.string ⟨#[]⟩),(.int .u8 0),(.int .u8 0),(.slice none 0 0)]) 48 rfl Tryd.underlying22 info50 rfl (by decide) (by omega) vO x.f1 y [.string r1,.int .u8 r2,.int .u8 r3,.slice A9 n9 c9] (fun k=>T≤k∧some k≠vN.ownBlock) (fun k=>w8.heap.size≤k∧k<w9.heap.size) rfl rfl ?aM3 ?aP3 ?aF3 (Kd.R_below h7 HB9.out) HW9.out HW9.out.size (by have:=HLE.out;omega) ?_
 (case aM3=>have h2:=Kd.R_mono (Kd.R_bound HO9.out) (ok':=fun k=>w8.heap.size≤k∧k<w9.heap.size) (fun k hk=>⟨hk.2.1,hk.2.2.1⟩);rw [HY.out];exact k50_mkM _ _ _ ⟨r1,⟨r2,r3⟩,r4⟩ (Kd.R_lower h2 HW8.out.size))
 (case aP3=>exact fun k hk=>⟨⟨by have:=HB8.out.size;omega,fun e=>by have:=HQvN.out k e.symm;have:=HB8.out.size;omega⟩,fun e=>by have:=HQvO.out k e.symm;have:=HB8.out.size;omega⟩)
 (case aF3=>exact fun k hk=>⟨by have:=HB9.out.size;omega,fun e=>by have:=HQvN.out k e.symm;have:=HB9.out.size;omega⟩)
 intro v1 w10 hv hbw hgr hat
 obtain ⟨A10,n10,c10,rfl⟩:=Aid.R_slice hv
 have hog:w10.heap[g]?=w5.heap[g]?:=(hgr.block g (by have:=HB9.out.size;omega) (fun e=>by have:=HQvO.out g e.symm;omega)).trans (HB9.out.block g (by omega))
 have co10:w10.cell? ⟨g,acc.length * 3+1,none⟩=some vO:=(by have:=hcO;simp only [World.cell?,hog] at this⊢;exact this)
 have cf10:w10.frozen? ⟨g,acc.length * 3+1,none⟩=false:=(by have:=hfO;simp only [World.frozen?,hog] at this⊢;exact this)
 have HV10:=Aside0.mk hv
 have HW10:=Aside0.mk hbw
 have HGR:=Aside0.mk hgr
 have HAT:=Aside0.mk hat
 clear hv hgr hat hog
 refine hK.out _ _ ⟨co10,pw_cell_below hbw HXA.out.1,pw_cell_below hbw HXA.out.2.1,pw_cell_below hbw HXA.out.2.2.1,pw_cell_below hbw HXA.out.2.2.2⟩ (fun hHeld=> ?_)
 clear hK K
 refine norm_ (a':=?_) ?_ ?_
 rotate_left
 {
 show Act.put _ (some 101) _=_
 simp only [Act.put,List.setIfInBounds_toArray,List.set_cons_zero,List.set_cons_succ,i64_w,i32_w]
 rfl
 }
 clear hbw hHeld
 refine pK_ (i:=12) (N:=some 102) ?_
 refine pK_ (i:=13) (N:=some 103) ?_
 refine last_ (i:=14) (N:=none) #[true,true,true,true,true,true,true,true,true,true,true,true,true,true,true] rfl rfl (by kernel_rfl) (by decide) (fun K hK=> ?_)
 refine skip_ (w1:=?_) (by rfl) rfl ?_ ?_
 rotate_left
 {
 go_simp
 rfl
 }
 refine hK.out _ _ ?_
 clear hK K
 refine done_ (by kernel_rfl) ?_
 go_wp2
 refine ⟨⟨n,acc,some ⟨x.f0,x.f1++[y],x.f2⟩,i+1,j,rfl,rfl,rfl,by omega,by omega,by omega,by omega,HG6,⟨⟨by have:=HM.out.1;omega,fun z hz=>by have:=HLE.out;obtain rfl:=Option.some.inj hz;simp only [List.length_append,List.length_singleton];omega⟩⟩,⟨bookplateref18_Edits.RI.old hSg hgT hTW hOW6 hRE6 h7 h8 HB9.out _ _ HV10.out HGR.out HAT.out⟩,⟨Kd.R_far (Kd.R_step HO6.out (fun k hk hlt=>(HGR.out.block k (by have:=HB9.out.size;omega) (fun e=>by have:=HQvO.out k e.symm;omega)).trans (HB9.out.block k hlt))) (fun k hk=>by show k≠g;omega) _⟩,⟨HW10.out.setCell (by show w.heap.size≤g;have:=HS1.out;omega) _⟩,⟨by rw [World.size_setCell];have:=HGR.out.size;have:=HB9.out.size;omega⟩⟩,by simp [RowKit.intOf];omega⟩
  )
  )
 |false=>
  (
 have HG4:=Aside0.mk (show _ from (by rw [if_neg (by decide)] at HG3;exact HG3:((bookplateref18_Edits.copy_ (rd_T50 b j)).bind fun y=>bookplateref18_Edits.go k a b L n acc (some ⟨(bookplateref18_Edits.new_ o i).f0,(bookplateref18_Edits.new_ o i).f1,(bookplateref18_Edits.new_ o i).f2++[y]⟩) i (j+1))=some r))
 clear HG3
 cases o with
 |none=>
  (
 obtain ⟨hq_,inner_,hown,hrep⟩:=bookplateref18_Edits.RI.below HX.out HB5.out
 have HOW:=Aside0.mk hown
 have HRE:=Aside0.mk hrep
 have HQQ:=Aside0.mk hq_
 clear hown hrep hq_
 obtain ⟨x,HXN⟩:∃ x:S60,Aside0 (x=⟨i,[],[]⟩):=⟨_,⟨rfl⟩⟩
 obtain ⟨A6,n6,c6,rfl⟩:=Aid.R_slice (show Kd.R k60 60 wr w.heap.size _ _ acc from HX.out)
 obtain ⟨i0,hii,hz0,hz1,hz2⟩:=info_parts info60
 have hss:=HSS.out
 have hbs:=HB.out.size
 have hbs5:=HB5.out.size
 have hacc:=HM.out.1
 go_wp2_with (at_builtin;go_loud (refine wpList_append_own_at _ rfl _ _ 31 rfl w.heap.size 60 i0 _ 3 56 Tryd.underlying31 hii hz0 hz1 hz2 rfl (by decide) (.slice A6 n6 c6) acc.length inner_ rfl (HOW.out.alloc _) ⟨w5.heap.size,0,none⟩ 1 1 [.int .i64 i,.slice none 0 0,.slice none 0 0] rfl rfl (World.news_of_block (cs:=#[.int .i64 i,.slice none 0 0,.slice none 0 0]) (t:=60) (fr:=(0,0)) (blk_new w5 _)) (by simp [Value.oneCell']) (by simp only [maxLen];omega) (by omega) (by rw [World.size_alloc];omega) ?_;intro v1 w6 hown' hgrow _ hat;have hx6:=bookplateref18_Edits.RI.open_ (w:=w) (wr:=w5) (W:=w5.alloc (.cells #[.int .i64 i,.slice none 0 0,.slice none 0 0] 60)) (i:=i) (below_alloc (Below.refl _ w5) _) (Nat.le_trans hss hbs5) (fun k hk=>HQQ.out k hk) (HRE.out.imp_ (fun _ _ hp=>hp)) hown' hgrow hat;rw [←HXN.out] at hx6;have HX6:=Aside0.mk hx6;have HB6:Aside0 (Below w.heap.size w w6):=⟨(below_alloc (HB.out.trans (HB5.out.mono hbs)) _).grown hgrow (by rw [World.size_alloc];omega) (fun k hk=>own_base HOW.out k hk)⟩;have HO6:Aside0 ((Kd.slice 3 (Kd.int .i64)).R 72 w6 w.heap.size (fun k=>k<S1) v5 L):=⟨Kd.R_step (Kd.R_below HO5.out HB5.out) (fun k hk hlt=>(hgrow.block k (by rw [World.size_alloc];omega) (fun e=>by have:=HQQ.out k e.symm;omega)).trans (Below.heap_alloc w5 _ k hlt))⟩;clear hown' hgrow hat hx6 HX HO5 HB HB5 HQQ HOW HRE;obtain ⟨T,g,c,inner,vO,vN,rfl,hSg,hgT,hTW,hOW6,hRE6,h7,h8,HQvO,HQvN,hcO1,hcO2,hfz⟩:=bookplateref18_Edits.RI.facts HX6.out;clear HX6;have hS1w:=HS1.out;have hia:=bookplateref18_Edits.RI.idx g acc.length c))
 have HLE:Aside0 ((x.f1.length:Int)≤i∧(x.f2.length:Int)≤j):=⟨by rw [HXN.out];exact ⟨by simp;omega,by simp;omega⟩⟩
 have HG4:Aside0 (((bookplateref18_Edits.copy_ (rd_T50 b j)).bind fun y=>bookplateref18_Edits.go k a b L n acc (some ⟨x.f0,x.f1,x.f2++[y]⟩) i (j+1))=some r):=⟨by rw [HXN.out];exact HG4.out⟩
 obtain ⟨adL,cL,eL0,P0,p0,hrow0,hC0⟩:=patch_edits.row_L HO6.out i hi0 (by have:=HL1.out;omega)
 subst eL0
 obtain ⟨adM,cM,eLM,P1,p1,hrow1,hC1⟩:=patch_edits.row_L HO6.out (i+1) (by omega) (by have:=HL1.out;omega)
 injection eLM with e1 e2 e3
 injection e1 with e1
 subst e1
 rw [←hR0] at hrow0 hC0
 rw [←hR1] at hrow1 hC1
 obtain ⟨ai0,eP0,hin0⟩:=Kd.at_int hC0 (j+1) (by omega) (by omega)
 subst eP0
 obtain ⟨ai1,eP1,hin1⟩:=Kd.at_int hC1 j (by omega) (by omega)
 subst eP1
 clear hC0 hC1 e2 e3 hR0 hR1
 have hb0:(0:Int)≤i+1:=by omega
 have hb1:i+1<(L.length:Int):=by have:=HL1.out;omega
 have hb2:i<(L.length:Int):=by have:=HL1.out;omega
 have hb3:j<(R1.length:Int):=by omega
 have hb4:(0:Int)≤j+1:=by omega
 have hb5:j+1<(R0.length:Int):=by omega
 have hje:(j==(b.length:Int))=false:=by simp;omega
 have hw1:IntKind.i64.wrap (i+1)=i+1:=IntWalk.i64_in _ (by omega)
 have hw2:IntKind.i64.wrap (j+1)=j+1:=IntWalk.i64_in _ (by omega)
 clear hn0 hn1
 go_wp2
 go_region_held3 (fun w'=>w'.cell? (adL.add (i+1).toNat)=some (.slice (some ai1) R1.length p1)∧w'.cell? (ai1.add j.toNat)=some (.int .i64 (rd R1 j))∧w'.cell? (adL.add i.toNat)=some (.slice (some ai0) R0.length p0)∧w'.cell? (ai0.add (j+1).toNat)=some (.int .i64 (rd R0 (j+1)))) (go_keep) (fail)
 clear hrow0 hrow1 hin0 hin1 hb0 hb1 hb2 hb3 hb4 hb5 hje hw1 hw2 hq di dj
 have HB67:Aside0 (Below w6.heap.size w6 w6.drew):=⟨below_drew (Below.refl _ w6)⟩
 have HB7:Aside0 (Below w.heap.size w w6.drew):=⟨below_drew HB6.out⟩
 generalize w6.drew=w7 at HB67 HB7⊢
 clear hia
 have hcO:=hcO2
 have hfO:=hfz (acc.length * 3+2)
 have cO:=pw_cell_below HB67.out hcO
 obtain ⟨y,hy,HG5⟩:=Option.bind_eq_some_iff.1 HG4.out
 unfold bookplateref18_Edits.copy_ at hy
 obtain ⟨⟨r1,r2,r3,r4⟩,hcp,hy⟩:=Option.bind_eq_some_iff.1 hy
 have HY:Aside0 (y=⟨r1,⟨r2,r3⟩,r4⟩):=⟨(Option.some.inj hy).symm⟩
 have HCP:=Aside0.mk hcp
 have HG6:=Aside0.mk HG5
 clear hy hcp HG5 HG4
 go_wp2
 refine start_ (n:=15) (S:=fun w'=>w'.cell? ⟨g,acc.length * 3+2,none⟩=some vN∧w'.cell? (ad1.add (j.toNat * 4))=some (.string (rd_T50 b j).f0)∧w'.cell? ⟨(ad1.add (j.toNat * 4)).block,(ad1.add (j.toNat * 4)).off+1,none⟩=some (.int .u8 (rd_T50 b j).f1.f0)∧w'.cell? ⟨(ad1.add (j.toNat * 4)).block,(ad1.add (j.toNat * 4)).off+2,none⟩=some (.int .u8 (rd_T50 b j).f1.f1)∧w'.cell? ⟨(ad1.add (j.toNat * 4)).block,(ad1.add (j.toNat * 4)).off+3,none⟩=some (.slice B3 (rd_T50 b j).f2.length d3)) (ds:=[14]) #[false,false,false,false,false,false,false,false,false,false,false,false,false,false,false] (by kernel_rfl) rfl rfl ⟨cO,pw_cell_below HB7.out HYB.out.1,pw_cell_below HB7.out HYB.out.2.1,pw_cell_below HB7.out HYB.out.2.2.1,pw_cell_below HB7.out HYB.out.2.2.2⟩ (fun hHeld=> ?_)
 have HB8:Aside0 (Below w6.heap.size w6 w7.drew):=⟨below_drew HB67.out⟩
 have HW8:Aside0 (Below w.heap.size w w7.drew):=⟨below_drew HB7.out⟩
 clear HB7 HB67 cO
 generalize w7.drew=w8 at HB8 HW8 hHeld⊢
 refine pK_ (i:=0) (N:=some 106) ?_
 refine pK_ (i:=1) (N:=some 107) ?_
 refine pK_ (i:=2) (N:=some 108) ?_
 refine pK_ (i:=3) (N:=some 109) ?_
 refine pK_ (i:=5) (N:=some 111) ?_
 refine pK_ (i:=6) (N:=some 112) ?_
 refine pK_ (i:=7) (N:=some 113) ?_
 refine tK_ (i:=4) (N:=some 110) hHeld ?_
 refine tK_ (i:=8) (N:=some 114) hHeld ?_
 refine one_ (i:=9) (N:=some 115) #[true,true,true,true,true,true,true,true,true,true,false,false,false,false,false] rfl rfl (by kernel_rfl) (by decide) (fun K hK=> ?_)
 refine goes_ Tryd.func41 (by kernel_rfl) rfl #[.agg #[.string (rd_T50 b j).f0,.int .u8 (rd_T50 b j).f1.f0,.int .u8 (rd_T50 b j).f1.f1,.slice B3 (rd_T50 b j).f2.length d3]] (by rfl) rfl rfl (by (try simp only [List.map_toArray,List.map_cons,List.map_nil]);first|done|rfl) ?_
 refine (bookplateref12_CopyField.calls _ _ _ _ _ (rd_T50 b j).f2 r1 r2 r3 r4 _ (Kd.C_below HS3.out HW8.out) HM3.out HCP.out).mono ?_
 rintro e w9 ⟨v3,rfl,ho9,hb9⟩
 refine ⟨_,rfl,?_⟩
 obtain ⟨A9,n9,c9,rfl⟩:=Aid.R_slice ho9
 have HB9:=Aside0.mk (HB8.out.trans (hb9.mono HB8.out.size))
 have HW9:=Aside0.mk (HW8.out.trans (hb9.mono HW8.out.size))
 have HS9:=Aside0.mk hb9.size
 have HO9:=Aside0.mk ho9
 have hc9:=pw_cell_below hb9 hHeld.1
 clear ho9 hb9
 refine hK.out _ _ ⟨hc9,pw_cell_below HW9.out HYB.out.1,pw_cell_below HW9.out HYB.out.2.1,pw_cell_below HW9.out HYB.out.2.2.1,pw_cell_below HW9.out HYB.out.2.2.2⟩ (fun hHeld=> ?_)
 clear hK K
 refine norm_ (a':=?_) ?_ ?_
 rotate_left
 {
 show Act.put _ (some 115) _=_
 simp only [Act.put,List.setIfInBounds_toArray,List.set_cons_zero,List.set_cons_succ,i64_w,i32_w]
 rfl
 }
 clear hc9
 refine one_ (i:=10) (N:=some 116) #[true,true,true,true,true,true,true,true,true,true,true,false,false,false,false] rfl rfl (by kernel_rfl) (by decide) (fun K hK=> ?_)
 refine value_ (w1:=?_) (v:=?_) (by rfl) rfl ?_ ?_
 rotate_left 2
 {
 go_simp
 constructor
 {
 rfl
 }
 {
 rfl
 }
 }
 refine hK.out _ _ ⟨pw_cell_below (below_alloc (Below.refl _ _) _) hHeld.1,pw_cell_below (below_alloc HW9.out _) HYB.out.1,pw_cell_below (below_alloc HW9.out _) HYB.out.2.1,pw_cell_below (below_alloc HW9.out _) HYB.out.2.2.1,pw_cell_below (below_alloc HW9.out _) HYB.out.2.2.2⟩ (fun hHeld=> ?_)
 clear hK K
 refine norm_ (a':=?_) ?_ ?_
 rotate_left
 {
 show Act.put _ (some 116) _=_
 simp only [Act.put,List.setIfInBounds_toArray,List.set_cons_zero,List.set_cons_succ,i64_w,i32_w]
 rfl
 }
 refine one_ (i:=11) (N:=some 117) #[true,true,true,true,true,true,true,true,true,true,true,true,false,false,false] rfl rfl (by kernel_rfl) (by decide) (fun K hK=> ?_)
 refine Kd.R_append_step k50 (w0:=w) w.heap.size (by rfl) (.tmp 110) (.tmp 116) 22 50 (.agg #[(.string ⟨#[]⟩),(.int .u8 0),(.int .u8 0),(.slice none 0 0)]) 48 rfl Tryd.underlying22 info50 rfl (by decide) (by omega) vN x.f2 y [.string r1,.int .u8 r2,.int .u8 r3,.slice A9 n9 c9] (fun k=>T≤k∧some k≠vO.ownBlock) (fun k=>w8.heap.size≤k∧k<w9.heap.size) rfl rfl ?aM5 ?aP5 ?aF5 (Kd.R_below h8 HB9.out) HW9.out HW9.out.size (by have:=HLE.out;omega) ?_
 (case aM5=>have h2:=Kd.R_mono (Kd.R_bound HO9.out) (ok':=fun k=>w8.heap.size≤k∧k<w9.heap.size) (fun k hk=>⟨hk.2.1,hk.2.2.1⟩);rw [HY.out];exact k50_mkM _ _ _ ⟨r1,⟨r2,r3⟩,r4⟩ (Kd.R_lower h2 HW8.out.size))
 (case aP5=>exact fun k hk=>⟨⟨by have:=HB8.out.size;omega,fun e=>by have:=HQvO.out k e.symm;have:=HB8.out.size;omega⟩,fun e=>by have:=HQvN.out k e.symm;have:=HB8.out.size;omega⟩)
 (case aF5=>exact fun k hk=>⟨by have:=HB9.out.size;omega,fun e=>by have:=HQvO.out k e.symm;have:=HB9.out.size;omega⟩)
 intro v1 w10 hv hbw hgr hat
 obtain ⟨A10,n10,c10,rfl⟩:=Aid.R_slice hv
 have hog:w10.heap[g]?=w6.heap[g]?:=(hgr.block g (by have:=HB9.out.size;omega) (fun e=>by have:=HQvN.out g e.symm;omega)).trans (HB9.out.block g (by omega))
 have co10:w10.cell? ⟨g,acc.length * 3+2,none⟩=some vN:=(by have:=hcO;simp only [World.cell?,hog] at this⊢;exact this)
 have cf10:w10.frozen? ⟨g,acc.length * 3+2,none⟩=false:=(by have:=hfO;simp only [World.frozen?,hog] at this⊢;exact this)
 have HV10:=Aside0.mk hv
 have HW10:=Aside0.mk hbw
 have HGR:=Aside0.mk hgr
 have HAT:=Aside0.mk hat
 clear hv hgr hat hog
 refine hK.out _ _ ⟨co10,pw_cell_below hbw HYB.out.1,pw_cell_below hbw HYB.out.2.1,pw_cell_below hbw HYB.out.2.2.1,pw_cell_below hbw HYB.out.2.2.2⟩ (fun hHeld=> ?_)
 clear hK K
 refine norm_ (a':=?_) ?_ ?_
 rotate_left
 {
 show Act.put _ (some 117) _=_
 simp only [Act.put,List.setIfInBounds_toArray,List.set_cons_zero,List.set_cons_succ,i64_w,i32_w]
 rfl
 }
 clear hbw hHeld
 refine pK_ (i:=12) (N:=some 118) ?_
 refine pK_ (i:=13) (N:=some 119) ?_
 refine last_ (i:=14) (N:=none) #[true,true,true,true,true,true,true,true,true,true,true,true,true,true,true] rfl rfl (by kernel_rfl) (by decide) (fun K hK=> ?_)
 refine skip_ (w1:=?_) (by rfl) rfl ?_ ?_
 rotate_left
 {
 go_simp
 rfl
 }
 refine hK.out _ _ ?_
 clear hK K
 refine done_ (by kernel_rfl) ?_
 go_wp2
 refine ⟨⟨n,acc,some ⟨x.f0,x.f1,x.f2++[y]⟩,i,j+1,rfl,rfl,rfl,by omega,by omega,by omega,by omega,HG6,⟨⟨by have:=HM.out.1;omega,fun z hz=>by have:=HLE.out;obtain rfl:=Option.some.inj hz;simp only [List.length_append,List.length_singleton];omega⟩⟩,⟨bookplateref18_Edits.RI.new hSg hgT hTW hOW6 hRE6 h7 h8 HB9.out _ _ HV10.out HGR.out HAT.out⟩,⟨Kd.R_far (Kd.R_step HO6.out (fun k hk hlt=>(HGR.out.block k (by have:=HB9.out.size;omega) (fun e=>by have:=HQvN.out k e.symm;omega)).trans (HB9.out.block k hlt))) (fun k hk=>by show k≠g;omega) _⟩,⟨HW10.out.setCell (by show w.heap.size≤g;have:=HS1.out;omega) _⟩,⟨by rw [World.size_setCell];have:=HGR.out.size;have:=HB9.out.size;omega⟩⟩,by simp [RowKit.intOf];omega⟩
  )
 |some x=>
  (
 have HX6:=Aside0.mk (bookplateref18_Edits.RI.below HX.out HB5.out)
 have HB6:=Aside0.mk (HB.out.trans (HB5.out.mono HB.out.size))
 have HO6:=Aside0.mk (Kd.R_below HO5.out HB5.out)
 have HLE:Aside0 ((x.f1.length:Int)≤i∧(x.f2.length:Int)≤j):=⟨HM.out.2 x rfl⟩
 have HG4:Aside0 (((bookplateref18_Edits.copy_ (rd_T50 b j)).bind fun y=>bookplateref18_Edits.go k a b L n acc (some ⟨x.f0,x.f1,x.f2++[y]⟩) i (j+1))=some r):=⟨HG4.out⟩
 clear HX HO5 HB HB5
 have hacc:=HM.out.1
 obtain ⟨T,g,c,inner,vO,vN,rfl,hSg,hgT,hTW,hOW6,hRE6,h7,h8,HQvO,HQvN,hcO1,hcO2,hfz⟩:=bookplateref18_Edits.RI.facts HX6.out
 clear HX6
 have hS1w:=HS1.out
 have hia:=bookplateref18_Edits.RI.idx g acc.length c
 obtain ⟨adL,cL,eL0,P0,p0,hrow0,hC0⟩:=patch_edits.row_L HO6.out i hi0 (by have:=HL1.out;omega)
 subst eL0
 obtain ⟨adM,cM,eLM,P1,p1,hrow1,hC1⟩:=patch_edits.row_L HO6.out (i+1) (by omega) (by have:=HL1.out;omega)
 injection eLM with e1 e2 e3
 injection e1 with e1
 subst e1
 rw [←hR0] at hrow0 hC0
 rw [←hR1] at hrow1 hC1
 obtain ⟨ai0,eP0,hin0⟩:=Kd.at_int hC0 (j+1) (by omega) (by omega)
 subst eP0
 obtain ⟨ai1,eP1,hin1⟩:=Kd.at_int hC1 j (by omega) (by omega)
 subst eP1
 clear hC0 hC1 e2 e3 hR0 hR1
 have hb0:(0:Int)≤i+1:=by omega
 have hb1:i+1<(L.length:Int):=by have:=HL1.out;omega
 have hb2:i<(L.length:Int):=by have:=HL1.out;omega
 have hb3:j<(R1.length:Int):=by omega
 have hb4:(0:Int)≤j+1:=by omega
 have hb5:j+1<(R0.length:Int):=by omega
 have hje:(j==(b.length:Int))=false:=by simp;omega
 have hw1:IntKind.i64.wrap (i+1)=i+1:=IntWalk.i64_in _ (by omega)
 have hw2:IntKind.i64.wrap (j+1)=j+1:=IntWalk.i64_in _ (by omega)
 clear hn0 hn1
 go_wp2
 go_region_held3 (fun w'=>w'.cell? (adL.add (i+1).toNat)=some (.slice (some ai1) R1.length p1)∧w'.cell? (ai1.add j.toNat)=some (.int .i64 (rd R1 j))∧w'.cell? (adL.add i.toNat)=some (.slice (some ai0) R0.length p0)∧w'.cell? (ai0.add (j+1).toNat)=some (.int .i64 (rd R0 (j+1)))) (go_keep) (fail)
 clear hrow0 hrow1 hin0 hin1 hb0 hb1 hb2 hb3 hb4 hb5 hje hw1 hw2 hq di dj
 have HB67:Aside0 (Below w5.heap.size w5 w5.drew):=⟨below_drew (Below.refl _ w5)⟩
 have HB7:Aside0 (Below w.heap.size w w5.drew):=⟨below_drew HB6.out⟩
 generalize w5.drew=w7 at HB67 HB7⊢
 clear hia
 have hcO:=hcO2
 have hfO:=hfz (acc.length * 3+2)
 have cO:=pw_cell_below HB67.out hcO
 obtain ⟨y,hy,HG5⟩:=Option.bind_eq_some_iff.1 HG4.out
 unfold bookplateref18_Edits.copy_ at hy
 obtain ⟨⟨r1,r2,r3,r4⟩,hcp,hy⟩:=Option.bind_eq_some_iff.1 hy
 have HY:Aside0 (y=⟨r1,⟨r2,r3⟩,r4⟩):=⟨(Option.some.inj hy).symm⟩
 have HCP:=Aside0.mk hcp
 have HG6:=Aside0.mk HG5
 clear hy hcp HG5 HG4
 go_wp2
 refine start_ (n:=15) (S:=fun w'=>w'.cell? ⟨g,acc.length * 3+2,none⟩=some vN∧w'.cell? (ad1.add (j.toNat * 4))=some (.string (rd_T50 b j).f0)∧w'.cell? ⟨(ad1.add (j.toNat * 4)).block,(ad1.add (j.toNat * 4)).off+1,none⟩=some (.int .u8 (rd_T50 b j).f1.f0)∧w'.cell? ⟨(ad1.add (j.toNat * 4)).block,(ad1.add (j.toNat * 4)).off+2,none⟩=some (.int .u8 (rd_T50 b j).f1.f1)∧w'.cell? ⟨(ad1.add (j.toNat * 4)).block,(ad1.add (j.toNat * 4)).off+3,none⟩=some (.slice B3 (rd_T50 b j).f2.length d3)) (ds:=[14]) #[false,false,false,false,false,false,false,false,false,false,false,false,false,false,false] (by kernel_rfl) rfl rfl ⟨cO,pw_cell_below HB7.out HYB.out.1,pw_cell_below HB7.out HYB.out.2.1,pw_cell_below HB7.out HYB.out.2.2.1,pw_cell_below HB7.out HYB.out.2.2.2⟩ (fun hHeld=> ?_)
 have HB8:Aside0 (Below w5.heap.size w5 w7.drew):=⟨below_drew HB67.out⟩
 have HW8:Aside0 (Below w.heap.size w w7.drew):=⟨below_drew HB7.out⟩
 clear HB7 HB67 cO
 generalize w7.drew=w8 at HB8 HW8 hHeld⊢
 refine pK_ (i:=0) (N:=some 106) ?_
 refine pK_ (i:=1) (N:=some 107) ?_
 refine pK_ (i:=2) (N:=some 108) ?_
 refine pK_ (i:=3) (N:=some 109) ?_
 refine pK_ (i:=5) (N:=some 111) ?_
 refine pK_ (i:=6) (N:=some 112) ?_
 refine pK_ (i:=7) (N:=some 113) ?_
 refine tK_ (i:=4) (N:=some 110) hHeld ?_
 refine tK_ (i:=8) (N:=some 114) hHeld ?_
 refine one_ (i:=9) (N:=some 115) #[true,true,true,true,true,true,true,true,true,true,false,false,false,false,false] rfl rfl (by kernel_rfl) (by decide) (fun K hK=> ?_)
 refine goes_ Tryd.func41 (by kernel_rfl) rfl #[.agg #[.string (rd_T50 b j).f0,.int .u8 (rd_T50 b j).f1.f0,.int .u8 (rd_T50 b j).f1.f1,.slice B3 (rd_T50 b j).f2.length d3]] (by rfl) rfl rfl (by (try simp only [List.map_toArray,List.map_cons,List.map_nil]);first|done|rfl) ?_
 refine (bookplateref12_CopyField.calls _ _ _ _ _ (rd_T50 b j).f2 r1 r2 r3 r4 _ (Kd.C_below HS3.out HW8.out) HM3.out HCP.out).mono ?_
 rintro e w9 ⟨v3,rfl,ho9,hb9⟩
 refine ⟨_,rfl,?_⟩
 obtain ⟨A9,n9,c9,rfl⟩:=Aid.R_slice ho9
 have HB9:=Aside0.mk (HB8.out.trans (hb9.mono HB8.out.size))
 have HW9:=Aside0.mk (HW8.out.trans (hb9.mono HW8.out.size))
 have HS9:=Aside0.mk hb9.size
 have HO9:=Aside0.mk ho9
 have hc9:=pw_cell_below hb9 hHeld.1
 clear ho9 hb9
 refine hK.out _ _ ⟨hc9,pw_cell_below HW9.out HYB.out.1,pw_cell_below HW9.out HYB.out.2.1,pw_cell_below HW9.out HYB.out.2.2.1,pw_cell_below HW9.out HYB.out.2.2.2⟩ (fun hHeld=> ?_)
 clear hK K
 refine norm_ (a':=?_) ?_ ?_
 rotate_left
 {
 show Act.put _ (some 115) _=_
 simp only [Act.put,List.setIfInBounds_toArray,List.set_cons_zero,List.set_cons_succ,i64_w,i32_w]
 rfl
 }
 clear hc9
 refine one_ (i:=10) (N:=some 116) #[true,true,true,true,true,true,true,true,true,true,true,false,false,false,false] rfl rfl (by kernel_rfl) (by decide) (fun K hK=> ?_)
 refine value_ (w1:=?_) (v:=?_) (by rfl) rfl ?_ ?_
 rotate_left 2
 {
 go_simp
 constructor
 {
 rfl
 }
 {
 rfl
 }
 }
 refine hK.out _ _ ⟨pw_cell_below (below_alloc (Below.refl _ _) _) hHeld.1,pw_cell_below (below_alloc HW9.out _) HYB.out.1,pw_cell_below (below_alloc HW9.out _) HYB.out.2.1,pw_cell_below (below_alloc HW9.out _) HYB.out.2.2.1,pw_cell_below (below_alloc HW9.out _) HYB.out.2.2.2⟩ (fun hHeld=> ?_)
 clear hK K
 refine norm_ (a':=?_) ?_ ?_
 rotate_left
 {
 show Act.put _ (some 116) _=_
 simp only [Act.put,List.setIfInBounds_toArray,List.set_cons_zero,List.set_cons_succ,i64_w,i32_w]
 rfl
 }
 refine one_ (i:=11) (N:=some 117) #[true,true,true,true,true,true,true,true,true,true,true,true,false,false,false] rfl rfl (by kernel_rfl) (by decide) (fun K hK=> ?_)
 refine Kd.R_append_step k50 (w0:=w) w.heap.size (by rfl) (.tmp 110) (.tmp 116) 22 50 (.agg #[(.string ⟨#[]⟩),(.int .u8 0),(.int .u8 0),(.slice none 0 0)]) 48 rfl Tryd.underlying22 info50 rfl (by decide) (by omega) vN x.f2 y [.string r1,.int .u8 r2,.int .u8 r3,.slice A9 n9 c9] (fun k=>T≤k∧some k≠vO.ownBlock) (fun k=>w8.heap.size≤k∧k<w9.heap.size) rfl rfl ?aM7 ?aP7 ?aF7 (Kd.R_below h8 HB9.out) HW9.out HW9.out.size (by have:=HLE.out;omega) ?_
 (case aM7=>have h2:=Kd.R_mono (Kd.R_bound HO9.out) (ok':=fun k=>w8.heap.size≤k∧k<w9.heap.size) (fun k hk=>⟨hk.2.1,hk.2.2.1⟩);rw [HY.out];exact k50_mkM _ _ _ ⟨r1,⟨r2,r3⟩,r4⟩ (Kd.R_lower h2 HW8.out.size))
 (case aP7=>exact fun k hk=>⟨⟨by have:=HB8.out.size;omega,fun e=>by have:=HQvO.out k e.symm;have:=HB8.out.size;omega⟩,fun e=>by have:=HQvN.out k e.symm;have:=HB8.out.size;omega⟩)
 (case aF7=>exact fun k hk=>⟨by have:=HB9.out.size;omega,fun e=>by have:=HQvO.out k e.symm;have:=HB9.out.size;omega⟩)
 intro v1 w10 hv hbw hgr hat
 obtain ⟨A10,n10,c10,rfl⟩:=Aid.R_slice hv
 have hog:w10.heap[g]?=w5.heap[g]?:=(hgr.block g (by have:=HB9.out.size;omega) (fun e=>by have:=HQvN.out g e.symm;omega)).trans (HB9.out.block g (by omega))
 have co10:w10.cell? ⟨g,acc.length * 3+2,none⟩=some vN:=(by have:=hcO;simp only [World.cell?,hog] at this⊢;exact this)
 have cf10:w10.frozen? ⟨g,acc.length * 3+2,none⟩=false:=(by have:=hfO;simp only [World.frozen?,hog] at this⊢;exact this)
 have HV10:=Aside0.mk hv
 have HW10:=Aside0.mk hbw
 have HGR:=Aside0.mk hgr
 have HAT:=Aside0.mk hat
 clear hv hgr hat hog
 refine hK.out _ _ ⟨co10,pw_cell_below hbw HYB.out.1,pw_cell_below hbw HYB.out.2.1,pw_cell_below hbw HYB.out.2.2.1,pw_cell_below hbw HYB.out.2.2.2⟩ (fun hHeld=> ?_)
 clear hK K
 refine norm_ (a':=?_) ?_ ?_
 rotate_left
 {
 show Act.put _ (some 117) _=_
 simp only [Act.put,List.setIfInBounds_toArray,List.set_cons_zero,List.set_cons_succ,i64_w,i32_w]
 rfl
 }
 clear hbw hHeld
 refine pK_ (i:=12) (N:=some 118) ?_
 refine pK_ (i:=13) (N:=some 119) ?_
 refine last_ (i:=14) (N:=none) #[true,true,true,true,true,true,true,true,true,true,true,true,true,true,true] rfl rfl (by kernel_rfl) (by decide) (fun K hK=> ?_)
 refine skip_ (w1:=?_) (by rfl) rfl ?_ ?_
 rotate_left
 {
 go_simp
 rfl
 }
 refine hK.out _ _ ?_
 clear hK K
 refine done_ (by kernel_rfl) ?_
 go_wp2
 refine ⟨⟨n,acc,some ⟨x.f0,x.f1,x.f2++[y]⟩,i,j+1,rfl,rfl,rfl,by omega,by omega,by omega,by omega,HG6,⟨⟨by have:=HM.out.1;omega,fun z hz=>by have:=HLE.out;obtain rfl:=Option.some.inj hz;simp only [List.length_append,List.length_singleton];omega⟩⟩,⟨bookplateref18_Edits.RI.new hSg hgT hTW hOW6 hRE6 h7 h8 HB9.out _ _ HV10.out HGR.out HAT.out⟩,⟨Kd.R_far (Kd.R_step HO6.out (fun k hk hlt=>(HGR.out.block k (by have:=HB9.out.size;omega) (fun e=>by have:=HQvN.out k e.symm;omega)).trans (HB9.out.block k hlt))) (fun k hk=>by show k≠g;omega) _⟩,⟨HW10.out.setCell (by show w.heap.size≤g;have:=HS1.out;omega) _⟩,⟨by rw [World.size_setCell];have:=HGR.out.size;have:=HB9.out.size;omega⟩⟩,by simp [RowKit.intOf];omega⟩
  )
  )
  )
 }
 {
 rw [if_pos (.inl hi)] at HG1
 have di:decide (i<(a.length:Int))=true:=decide_eq_true hi
 have dj:decide (j<(b.length:Int))=false:=decide_eq_false hj
 have hje:j=(b.length:Int):=by omega
 have hje2:(j==(b.length:Int))=true:=by rw [hje];simp
 have HG4:Aside0 (((bookplateref18_Edits.copy_ (rd_T50 a i)).bind fun y=>bookplateref18_Edits.go k a b L n acc (some ⟨(bookplateref18_Edits.new_ o i).f0,(bookplateref18_Edits.new_ o i).f1++[y],(bookplateref18_Edits.new_ o i).f2⟩) (i+1) j)=some r):=⟨by
   rw [bookplateref18_Edits.at_,if_pos hi,if_neg hj,Option.bind_some,if_neg (by decide),if_pos (by unfold patch_edits.left_;rw [di,decide_eq_true hje];rfl)] at HG1
   exact HG1⟩
 clear HG1 hje
 go_wp2
 go_quiet (fail)
 have HB5:Aside0 (Below wr.heap.size wr (wr.drewN nq)):=⟨pw_below_drewN (Below.refl _ wr) _⟩
 generalize wr.drewN nq=w5 at HB5⊢
 cases o with
 |none=>
  (
 obtain ⟨hq_,inner_,hown,hrep⟩:=bookplateref18_Edits.RI.below HX.out HB5.out
 have HOW:=Aside0.mk hown
 have HRE:=Aside0.mk hrep
 have HQQ:=Aside0.mk hq_
 clear hown hrep hq_
 obtain ⟨x,HXN⟩:∃ x:S60,Aside0 (x=⟨i,[],[]⟩):=⟨_,⟨rfl⟩⟩
 obtain ⟨A6,n6,c6,rfl⟩:=Aid.R_slice (show Kd.R k60 60 wr w.heap.size _ _ acc from HX.out)
 obtain ⟨i0,hii,hz0,hz1,hz2⟩:=info_parts info60
 have hss:=HSS.out
 have hbs:=HB.out.size
 have hbs5:=HB5.out.size
 have hacc:=HM.out.1
 go_wp2_with (at_builtin;go_loud (refine wpList_append_own_at _ rfl _ _ 31 rfl w.heap.size 60 i0 _ 3 56 Tryd.underlying31 hii hz0 hz1 hz2 rfl (by decide) (.slice A6 n6 c6) acc.length inner_ rfl (HOW.out.alloc _) ⟨w5.heap.size,0,none⟩ 1 1 [.int .i64 i,.slice none 0 0,.slice none 0 0] rfl rfl (World.news_of_block (cs:=#[.int .i64 i,.slice none 0 0,.slice none 0 0]) (t:=60) (fr:=(0,0)) (blk_new w5 _)) (by simp [Value.oneCell']) (by simp only [maxLen];omega) (by omega) (by rw [World.size_alloc];omega) ?_;intro v1 w6 hown' hgrow _ hat;have hx6:=bookplateref18_Edits.RI.open_ (w:=w) (wr:=w5) (W:=w5.alloc (.cells #[.int .i64 i,.slice none 0 0,.slice none 0 0] 60)) (i:=i) (below_alloc (Below.refl _ w5) _) (Nat.le_trans hss hbs5) (fun k hk=>HQQ.out k hk) (HRE.out.imp_ (fun _ _ hp=>hp)) hown' hgrow hat;rw [←HXN.out] at hx6;have HX6:=Aside0.mk hx6;have HB6:Aside0 (Below w.heap.size w w6):=⟨(below_alloc (HB.out.trans (HB5.out.mono hbs)) _).grown hgrow (by rw [World.size_alloc];omega) (fun k hk=>own_base HOW.out k hk)⟩;have HO6:Aside0 ((Kd.slice 3 (Kd.int .i64)).R 72 w6 w.heap.size (fun k=>k<S1) v5 L):=⟨Kd.R_step (Kd.R_below HO5.out HB5.out) (fun k hk hlt=>(hgrow.block k (by rw [World.size_alloc];omega) (fun e=>by have:=HQQ.out k e.symm;omega)).trans (Below.heap_alloc w5 _ k hlt))⟩;clear hown' hgrow hat hx6 HX HO5 HB HB5 HQQ HOW HRE;obtain ⟨T,g,c,inner,vO,vN,rfl,hSg,hgT,hTW,hOW6,hRE6,h7,h8,HQvO,HQvN,hcO1,hcO2,hfz⟩:=bookplateref18_Edits.RI.facts HX6.out;clear HX6;have hS1w:=HS1.out;have hia:=bookplateref18_Edits.RI.idx g acc.length c))
 have HLE:Aside0 ((x.f1.length:Int)≤i∧(x.f2.length:Int)≤j):=⟨by rw [HXN.out];exact ⟨by simp;omega,by simp;omega⟩⟩
 have HG4:Aside0 (((bookplateref18_Edits.copy_ (rd_T50 a i)).bind fun y=>bookplateref18_Edits.go k a b L n acc (some ⟨x.f0,x.f1++[y],x.f2⟩) (i+1) j)=some r):=⟨by rw [HXN.out];exact HG4.out⟩
 go_wp2
 go_quiet (fail)
 have HB67:Aside0 (Below w6.heap.size w6 (w6.drewN nq)):=⟨pw_below_drewN (Below.refl _ w6) _⟩
 have HB7:Aside0 (Below w.heap.size w (w6.drewN nq)):=⟨pw_below_drewN HB6.out _⟩
 generalize w6.drewN nq=w7 at HB67 HB7⊢
 clear hia hje2 di dj
 have hcO:=hcO1
 have hfO:=hfz (acc.length * 3+1)
 have cO:=pw_cell_below HB67.out hcO
 obtain ⟨y,hy,HG5⟩:=Option.bind_eq_some_iff.1 HG4.out
 unfold bookplateref18_Edits.copy_ at hy
 obtain ⟨⟨r1,r2,r3,r4⟩,hcp,hy⟩:=Option.bind_eq_some_iff.1 hy
 have HY:Aside0 (y=⟨r1,⟨r2,r3⟩,r4⟩):=⟨(Option.some.inj hy).symm⟩
 have HCP:=Aside0.mk hcp
 have HG6:=Aside0.mk HG5
 clear hy hcp HG5 HG4
 go_wp2
 refine start_ (n:=15) (S:=fun w'=>w'.cell? ⟨g,acc.length * 3+1,none⟩=some vO∧w'.cell? (ad0.add (i.toNat * 4))=some (.string (rd_T50 a i).f0)∧w'.cell? ⟨(ad0.add (i.toNat * 4)).block,(ad0.add (i.toNat * 4)).off+1,none⟩=some (.int .u8 (rd_T50 a i).f1.f0)∧w'.cell? ⟨(ad0.add (i.toNat * 4)).block,(ad0.add (i.toNat * 4)).off+2,none⟩=some (.int .u8 (rd_T50 a i).f1.f1)∧w'.cell? ⟨(ad0.add (i.toNat * 4)).block,(ad0.add (i.toNat * 4)).off+3,none⟩=some (.slice A3 (rd_T50 a i).f2.length c3)) (ds:=[14]) #[false,false,false,false,false,false,false,false,false,false,false,false,false,false,false] (by kernel_rfl) rfl rfl ⟨cO,pw_cell_below HB7.out HXA.out.1,pw_cell_below HB7.out HXA.out.2.1,pw_cell_below HB7.out HXA.out.2.2.1,pw_cell_below HB7.out HXA.out.2.2.2⟩ (fun hHeld=> ?_)
 have HB8:Aside0 (Below w6.heap.size w6 w7.drew):=⟨below_drew HB67.out⟩
 have HW8:Aside0 (Below w.heap.size w w7.drew):=⟨below_drew HB7.out⟩
 clear HB7 HB67 cO
 generalize w7.drew=w8 at HB8 HW8 hHeld⊢
 refine pK_ (i:=0) (N:=some 90) ?_
 refine pK_ (i:=1) (N:=some 91) ?_
 refine pK_ (i:=2) (N:=some 92) ?_
 refine pK_ (i:=3) (N:=some 93) ?_
 refine pK_ (i:=5) (N:=some 95) ?_
 refine pK_ (i:=6) (N:=some 96) ?_
 refine pK_ (i:=7) (N:=some 97) ?_
 refine tK_ (i:=4) (N:=some 94) hHeld ?_
 refine tK_ (i:=8) (N:=some 98) hHeld ?_
 refine one_ (i:=9) (N:=some 99) #[true,true,true,true,true,true,true,true,true,true,false,false,false,false,false] rfl rfl (by kernel_rfl) (by decide) (fun K hK=> ?_)
 refine goes_ Tryd.func41 (by kernel_rfl) rfl #[.agg #[.string (rd_T50 a i).f0,.int .u8 (rd_T50 a i).f1.f0,.int .u8 (rd_T50 a i).f1.f1,.slice A3 (rd_T50 a i).f2.length c3]] (by rfl) rfl rfl (by (try simp only [List.map_toArray,List.map_cons,List.map_nil]);first|done|rfl) ?_
 refine (bookplateref12_CopyField.calls _ _ _ _ _ (rd_T50 a i).f2 r1 r2 r3 r4 _ (Kd.C_below HR3.out HW8.out) HL3.out HCP.out).mono ?_
 rintro e w9 ⟨v3,rfl,ho9,hb9⟩
 refine ⟨_,rfl,?_⟩
 obtain ⟨A9,n9,c9,rfl⟩:=Aid.R_slice ho9
 have HB9:=Aside0.mk (HB8.out.trans (hb9.mono HB8.out.size))
 have HW9:=Aside0.mk (HW8.out.trans (hb9.mono HW8.out.size))
 have HS9:=Aside0.mk hb9.size
 have HO9:=Aside0.mk ho9
 have hc9:=pw_cell_below hb9 hHeld.1
 clear ho9 hb9
 refine hK.out _ _ ⟨hc9,pw_cell_below HW9.out HXA.out.1,pw_cell_below HW9.out HXA.out.2.1,pw_cell_below HW9.out HXA.out.2.2.1,pw_cell_below HW9.out HXA.out.2.2.2⟩ (fun hHeld=> ?_)
 clear hK K
 refine norm_ (a':=?_) ?_ ?_
 rotate_left
 {
 show Act.put _ (some 99) _=_
 simp only [Act.put,List.setIfInBounds_toArray,List.set_cons_zero,List.set_cons_succ,i64_w,i32_w]
 rfl
 }
 clear hc9
 refine one_ (i:=10) (N:=some 100) #[true,true,true,true,true,true,true,true,true,true,true,false,false,false,false] rfl rfl (by kernel_rfl) (by decide) (fun K hK=> ?_)
 refine value_ (w1:=?_) (v:=?_) (by rfl) rfl ?_ ?_
 rotate_left 2
 {
 go_simp
 constructor
 {
 rfl
 }
 {
 rfl
 }
 }
 refine hK.out _ _ ⟨pw_cell_below (below_alloc (Below.refl _ _) _) hHeld.1,pw_cell_below (below_alloc HW9.out _) HXA.out.1,pw_cell_below (below_alloc HW9.out _) HXA.out.2.1,pw_cell_below (below_alloc HW9.out _) HXA.out.2.2.1,pw_cell_below (below_alloc HW9.out _) HXA.out.2.2.2⟩ (fun hHeld=> ?_)
 clear hK K
 refine norm_ (a':=?_) ?_ ?_
 rotate_left
 {
 show Act.put _ (some 100) _=_
 simp only [Act.put,List.setIfInBounds_toArray,List.set_cons_zero,List.set_cons_succ,i64_w,i32_w]
 rfl
 }
 refine one_ (i:=11) (N:=some 101) #[true,true,true,true,true,true,true,true,true,true,true,true,false,false,false] rfl rfl (by kernel_rfl) (by decide) (fun K hK=> ?_)
 refine Kd.R_append_step k50 (w0:=w) w.heap.size (by rfl) (.tmp 94) (.tmp 100) 22 50 (.agg #[(.string ⟨#[]⟩),(.int .u8 0),(.int .u8 0),(.slice none 0 0)]) 48 rfl Tryd.underlying22 info50 rfl (by decide) (by omega) vO x.f1 y [.string r1,.int .u8 r2,.int .u8 r3,.slice A9 n9 c9] (fun k=>T≤k∧some k≠vN.ownBlock) (fun k=>w8.heap.size≤k∧k<w9.heap.size) rfl rfl ?aM9 ?aP9 ?aF9 (Kd.R_below h7 HB9.out) HW9.out HW9.out.size (by have:=HLE.out;omega) ?_
 (case aM9=>have h2:=Kd.R_mono (Kd.R_bound HO9.out) (ok':=fun k=>w8.heap.size≤k∧k<w9.heap.size) (fun k hk=>⟨hk.2.1,hk.2.2.1⟩);rw [HY.out];exact k50_mkM _ _ _ ⟨r1,⟨r2,r3⟩,r4⟩ (Kd.R_lower h2 HW8.out.size))
 (case aP9=>exact fun k hk=>⟨⟨by have:=HB8.out.size;omega,fun e=>by have:=HQvN.out k e.symm;have:=HB8.out.size;omega⟩,fun e=>by have:=HQvO.out k e.symm;have:=HB8.out.size;omega⟩)
 (case aF9=>exact fun k hk=>⟨by have:=HB9.out.size;omega,fun e=>by have:=HQvN.out k e.symm;have:=HB9.out.size;omega⟩)
 intro v1 w10 hv hbw hgr hat
 obtain ⟨A10,n10,c10,rfl⟩:=Aid.R_slice hv
 have hog:w10.heap[g]?=w6.heap[g]?:=(hgr.block g (by have:=HB9.out.size;omega) (fun e=>by have:=HQvO.out g e.symm;omega)).trans (HB9.out.block g (by omega))
 have co10:w10.cell? ⟨g,acc.length * 3+1,none⟩=some vO:=(by have:=hcO;simp only [World.cell?,hog] at this⊢;exact this)
 have cf10:w10.frozen? ⟨g,acc.length * 3+1,none⟩=false:=(by have:=hfO;simp only [World.frozen?,hog] at this⊢;exact this)
 have HV10:=Aside0.mk hv
 have HW10:=Aside0.mk hbw
 have HGR:=Aside0.mk hgr
 have HAT:=Aside0.mk hat
 clear hv hgr hat hog
 refine hK.out _ _ ⟨co10,pw_cell_below hbw HXA.out.1,pw_cell_below hbw HXA.out.2.1,pw_cell_below hbw HXA.out.2.2.1,pw_cell_below hbw HXA.out.2.2.2⟩ (fun hHeld=> ?_)
 clear hK K
 refine norm_ (a':=?_) ?_ ?_
 rotate_left
 {
 show Act.put _ (some 101) _=_
 simp only [Act.put,List.setIfInBounds_toArray,List.set_cons_zero,List.set_cons_succ,i64_w,i32_w]
 rfl
 }
 clear hbw hHeld
 refine pK_ (i:=12) (N:=some 102) ?_
 refine pK_ (i:=13) (N:=some 103) ?_
 refine last_ (i:=14) (N:=none) #[true,true,true,true,true,true,true,true,true,true,true,true,true,true,true] rfl rfl (by kernel_rfl) (by decide) (fun K hK=> ?_)
 refine skip_ (w1:=?_) (by rfl) rfl ?_ ?_
 rotate_left
 {
 go_simp
 rfl
 }
 refine hK.out _ _ ?_
 clear hK K
 refine done_ (by kernel_rfl) ?_
 go_wp2
 refine ⟨⟨n,acc,some ⟨x.f0,x.f1++[y],x.f2⟩,i+1,j,rfl,rfl,rfl,by omega,by omega,by omega,by omega,HG6,⟨⟨by have:=HM.out.1;omega,fun z hz=>by have:=HLE.out;obtain rfl:=Option.some.inj hz;simp only [List.length_append,List.length_singleton];omega⟩⟩,⟨bookplateref18_Edits.RI.old hSg hgT hTW hOW6 hRE6 h7 h8 HB9.out _ _ HV10.out HGR.out HAT.out⟩,⟨Kd.R_far (Kd.R_step HO6.out (fun k hk hlt=>(HGR.out.block k (by have:=HB9.out.size;omega) (fun e=>by have:=HQvO.out k e.symm;omega)).trans (HB9.out.block k hlt))) (fun k hk=>by show k≠g;omega) _⟩,⟨HW10.out.setCell (by show w.heap.size≤g;have:=HS1.out;omega) _⟩,⟨by rw [World.size_setCell];have:=HGR.out.size;have:=HB9.out.size;omega⟩⟩,by simp [RowKit.intOf];omega⟩
  )
 |some x=>
  (
 have HX6:=Aside0.mk (bookplateref18_Edits.RI.below HX.out HB5.out)
 have HB6:=Aside0.mk (HB.out.trans (HB5.out.mono HB.out.size))
 have HO6:=Aside0.mk (Kd.R_below HO5.out HB5.out)
 have HLE:Aside0 ((x.f1.length:Int)≤i∧(x.f2.length:Int)≤j):=⟨HM.out.2 x rfl⟩
 have HG4:Aside0 (((bookplateref18_Edits.copy_ (rd_T50 a i)).bind fun y=>bookplateref18_Edits.go k a b L n acc (some ⟨x.f0,x.f1++[y],x.f2⟩) (i+1) j)=some r):=⟨HG4.out⟩
 clear HX HO5 HB HB5
 have hacc:=HM.out.1
 obtain ⟨T,g,c,inner,vO,vN,rfl,hSg,hgT,hTW,hOW6,hRE6,h7,h8,HQvO,HQvN,hcO1,hcO2,hfz⟩:=bookplateref18_Edits.RI.facts HX6.out
 clear HX6
 have hS1w:=HS1.out
 have hia:=bookplateref18_Edits.RI.idx g acc.length c
 go_wp2
 go_quiet (fail)
 have HB67:Aside0 (Below w5.heap.size w5 (w5.drewN nq)):=⟨pw_below_drewN (Below.refl _ w5) _⟩
 have HB7:Aside0 (Below w.heap.size w (w5.drewN nq)):=⟨pw_below_drewN HB6.out _⟩
 generalize w5.drewN nq=w7 at HB67 HB7⊢
 clear hia hje2 di dj
 have hcO:=hcO1
 have hfO:=hfz (acc.length * 3+1)
 have cO:=pw_cell_below HB67.out hcO
 obtain ⟨y,hy,HG5⟩:=Option.bind_eq_some_iff.1 HG4.out
 unfold bookplateref18_Edits.copy_ at hy
 obtain ⟨⟨r1,r2,r3,r4⟩,hcp,hy⟩:=Option.bind_eq_some_iff.1 hy
 have HY:Aside0 (y=⟨r1,⟨r2,r3⟩,r4⟩):=⟨(Option.some.inj hy).symm⟩
 have HCP:=Aside0.mk hcp
 have HG6:=Aside0.mk HG5
 clear hy hcp HG5 HG4
 go_wp2
 refine start_ (n:=15) (S:=fun w'=>w'.cell? ⟨g,acc.length * 3+1,none⟩=some vO∧w'.cell? (ad0.add (i.toNat * 4))=some (.string (rd_T50 a i).f0)∧w'.cell? ⟨(ad0.add (i.toNat * 4)).block,(ad0.add (i.toNat * 4)).off+1,none⟩=some (.int .u8 (rd_T50 a i).f1.f0)∧w'.cell? ⟨(ad0.add (i.toNat * 4)).block,(ad0.add (i.toNat * 4)).off+2,none⟩=some (.int .u8 (rd_T50 a i).f1.f1)∧w'.cell? ⟨(ad0.add (i.toNat * 4)).block,(ad0.add (i.toNat * 4)).off+3,none⟩=some (.slice A3 (rd_T50 a i).f2.length c3)) (ds:=[14]) #[false,false,false,false,false,false,false,false,false,false,false,false,false,false,false] (by kernel_rfl) rfl rfl ⟨cO,pw_cell_below HB7.out HXA.out.1,pw_cell_below HB7.out HXA.out.2.1,pw_cell_below HB7.out HXA.out.2.2.1,pw_cell_below HB7.out HXA.out.2.2.2⟩ (fun hHeld=> ?_)
 have HB8:Aside0 (Below w5.heap.size w5 w7.drew):=⟨below_drew HB67.out⟩
 have HW8:Aside0 (Below w.heap.size w w7.drew):=⟨below_drew HB7.out⟩
 clear HB7 HB67 cO
 generalize w7.drew=w8 at HB8 HW8 hHeld⊢
 refine pK_ (i:=0) (N:=some 90) ?_
 refine pK_ (i:=1) (N:=some 91) ?_
 refine pK_ (i:=2) (N:=some 92) ?_
 refine pK_ (i:=3) (N:=some 93) ?_
 refine pK_ (i:=5) (N:=some 95) ?_
 refine pK_ (i:=6) (N:=some 96) ?_
 refine pK_ (i:=7) (N:=some 97) ?_
 refine tK_ (i:=4) (N:=some 94) hHeld ?_
 refine tK_ (i:=8) (N:=some 98) hHeld ?_
 refine one_ (i:=9) (N:=some 99) #[true,true,true,true,true,true,true,true,true,true,false,false,false,false,false] rfl rfl (by kernel_rfl) (by decide) (fun K hK=> ?_)
 refine goes_ Tryd.func41 (by kernel_rfl) rfl #[.agg #[.string (rd_T50 a i).f0,.int .u8 (rd_T50 a i).f1.f0,.int .u8 (rd_T50 a i).f1.f1,.slice A3 (rd_T50 a i).f2.length c3]] (by rfl) rfl rfl (by (try simp only [List.map_toArray,List.map_cons,List.map_nil]);first|done|rfl) ?_
 refine (bookplateref12_CopyField.calls _ _ _ _ _ (rd_T50 a i).f2 r1 r2 r3 r4 _ (Kd.C_below HR3.out HW8.out) HL3.out HCP.out).mono ?_
 rintro e w9 ⟨v3,rfl,ho9,hb9⟩
 refine ⟨_,rfl,?_⟩
 obtain ⟨A9,n9,c9,rfl⟩:=Aid.R_slice ho9
 have HB9:=Aside0.mk (HB8.out.trans (hb9.mono HB8.out.size))
 have HW9:=Aside0.mk (HW8.out.trans (hb9.mono HW8.out.size))
 have HS9:=Aside0.mk hb9.size
 have HO9:=Aside0.mk ho9
 have hc9:=pw_cell_below hb9 hHeld.1
 clear ho9 hb9
 refine hK.out _ _ ⟨hc9,pw_cell_below HW9.out HXA.out.1,pw_cell_below HW9.out HXA.out.2.1,pw_cell_below HW9.out HXA.out.2.2.1,pw_cell_below HW9.out HXA.out.2.2.2⟩ (fun hHeld=> ?_)
 clear hK K
 refine norm_ (a':=?_) ?_ ?_
 rotate_left
 {
 show Act.put _ (some 99) _=_
 simp only [Act.put,List.setIfInBounds_toArray,List.set_cons_zero,List.set_cons_succ,i64_w,i32_w]
 rfl
 }
 clear hc9
 refine one_ (i:=10) (N:=some 100) #[true,true,true,true,true,true,true,true,true,true,true,false,false,false,false] rfl rfl (by kernel_rfl) (by decide) (fun K hK=> ?_)
 refine value_ (w1:=?_) (v:=?_) (by rfl) rfl ?_ ?_
 rotate_left 2
 {
 go_simp
 constructor
 {
 rfl
 }
 {
 rfl
 }
 }
 refine hK.out _ _ ⟨pw_cell_below (below_alloc (Below.refl _ _) _) hHeld.1,pw_cell_below (below_alloc HW9.out _) HXA.out.1,pw_cell_below (below_alloc HW9.out _) HXA.out.2.1,pw_cell_below (below_alloc HW9.out _) HXA.out.2.2.1,pw_cell_below (below_alloc HW9.out _) HXA.out.2.2.2⟩ (fun hHeld=> ?_)
 clear hK K
 refine norm_ (a':=?_) ?_ ?_
 rotate_left
 {
 show Act.put _ (some 100) _=_
 simp only [Act.put,List.setIfInBounds_toArray,List.set_cons_zero,List.set_cons_succ,i64_w,i32_w]
 rfl
 }
 refine one_ (i:=11) (N:=some 101) #[true,true,true,true,true,true,true,true,true,true,true,true,false,false,false] rfl rfl (by kernel_rfl) (by decide) (fun K hK=> ?_)
 refine Kd.R_append_step k50 (w0:=w) w.heap.size (by rfl) (.tmp 94) (.tmp 100) 22 50 (.agg #[(.string ⟨#[]⟩),(.int .u8 0),(.int .u8 0),(.slice none 0 0)]) 48 rfl Tryd.underlying22 info50 rfl (by decide) (by omega) vO x.f1 y [.string r1,.int .u8 r2,.int .u8 r3,.slice A9 n9 c9] (fun k=>T≤k∧some k≠vN.ownBlock) (fun k=>w8.heap.size≤k∧k<w9.heap.size) rfl rfl ?aM11 ?aP11 ?aF11 (Kd.R_below h7 HB9.out) HW9.out HW9.out.size (by have:=HLE.out;omega) ?_
 (case aM11=>have h2:=Kd.R_mono (Kd.R_bound HO9.out) (ok':=fun k=>w8.heap.size≤k∧k<w9.heap.size) (fun k hk=>⟨hk.2.1,hk.2.2.1⟩);rw [HY.out];exact k50_mkM _ _ _ ⟨r1,⟨r2,r3⟩,r4⟩ (Kd.R_lower h2 HW8.out.size))
 (case aP11=>exact fun k hk=>⟨⟨by have:=HB8.out.size;omega,fun e=>by have:=HQvN.out k e.symm;have:=HB8.out.size;omega⟩,fun e=>by have:=HQvO.out k e.symm;have:=HB8.out.size;omega⟩)
 (case aF11=>exact fun k hk=>⟨by have:=HB9.out.size;omega,fun e=>by have:=HQvN.out k e.symm;have:=HB9.out.size;omega⟩)
 intro v1 w10 hv hbw hgr hat
 obtain ⟨A10,n10,c10,rfl⟩:=Aid.R_slice hv
 have hog:w10.heap[g]?=w5.heap[g]?:=(hgr.block g (by have:=HB9.out.size;omega) (fun e=>by have:=HQvO.out g e.symm;omega)).trans (HB9.out.block g (by omega))
 have co10:w10.cell? ⟨g,acc.length * 3+1,none⟩=some vO:=(by have:=hcO;simp only [World.cell?,hog] at this⊢;exact this)
 have cf10:w10.frozen? ⟨g,acc.length * 3+1,none⟩=false:=(by have:=hfO;simp only [World.frozen?,hog] at this⊢;exact this)
 have HV10:=Aside0.mk hv
 have HW10:=Aside0.mk hbw
 have HGR:=Aside0.mk hgr
 have HAT:=Aside0.mk hat
 clear hv hgr hat hog
 refine hK.out _ _ ⟨co10,pw_cell_below hbw HXA.out.1,pw_cell_below hbw HXA.out.2.1,pw_cell_below hbw HXA.out.2.2.1,pw_cell_below hbw HXA.out.2.2.2⟩ (fun hHeld=> ?_)
 clear hK K
 refine norm_ (a':=?_) ?_ ?_
 rotate_left
 {
 show Act.put _ (some 101) _=_
 simp only [Act.put,List.setIfInBounds_toArray,List.set_cons_zero,List.set_cons_succ,i64_w,i32_w]
 rfl
 }
 clear hbw hHeld
 refine pK_ (i:=12) (N:=some 102) ?_
 refine pK_ (i:=13) (N:=some 103) ?_
 refine last_ (i:=14) (N:=none) #[true,true,true,true,true,true,true,true,true,true,true,true,true,true,true] rfl rfl (by kernel_rfl) (by decide) (fun K hK=> ?_)
 refine skip_ (w1:=?_) (by rfl) rfl ?_ ?_
 rotate_left
 {
 go_simp
 rfl
 }
 refine hK.out _ _ ?_
 clear hK K
 refine done_ (by kernel_rfl) ?_
 go_wp2
 refine ⟨⟨n,acc,some ⟨x.f0,x.f1++[y],x.f2⟩,i+1,j,rfl,rfl,rfl,by omega,by omega,by omega,by omega,HG6,⟨⟨by have:=HM.out.1;omega,fun z hz=>by have:=HLE.out;obtain rfl:=Option.some.inj hz;simp only [List.length_append,List.length_singleton];omega⟩⟩,⟨bookplateref18_Edits.RI.old hSg hgT hTW hOW6 hRE6 h7 h8 HB9.out _ _ HV10.out HGR.out HAT.out⟩,⟨Kd.R_far (Kd.R_step HO6.out (fun k hk hlt=>(HGR.out.block k (by have:=HB9.out.size;omega) (fun e=>by have:=HQvO.out k e.symm;omega)).trans (HB9.out.block k hlt))) (fun k hk=>by show k≠g;omega) _⟩,⟨HW10.out.setCell (by show w.heap.size≤g;have:=HS1.out;omega) _⟩,⟨by rw [World.size_setCell];have:=HGR.out.size;have:=HB9.out.size;omega⟩⟩,by simp [RowKit.intOf];omega⟩
  )
 }
 }
 {
 by_cases hj:j<b.length
 {
 obtain ⟨ad1,B3,d3,rfl,hy0,hy1,hy2,hy3,hm3,hs3⟩:=at_T50 HR1.out j hj0 hj
 have HYB:=Aside0.mk (And.intro hy0 (And.intro hy1 (And.intro hy2 hy3)))
 have HM3:=Aside0.mk hm3
 have HS3:=Aside0.mk hs3
 clear hm3 hs3 hy0 hy1 hy2 hy3
 rw [if_pos (.inr hj)] at HG1
 have di:decide (i<(a.length:Int))=false:=decide_eq_false hi
 have dj:decide (j<(b.length:Int))=true:=decide_eq_true hj
 have HG4:Aside0 (((bookplateref18_Edits.copy_ (rd_T50 b j)).bind fun y=>bookplateref18_Edits.go k a b L n acc (some ⟨(bookplateref18_Edits.new_ o i).f0,(bookplateref18_Edits.new_ o i).f1,(bookplateref18_Edits.new_ o i).f2++[y]⟩) i (j+1))=some r):=⟨by
   rw [bookplateref18_Edits.at_,if_neg hi,Option.bind_some,if_neg (by decide),if_neg (by unfold patch_edits.left_;rw [di];simp)] at HG1
   exact HG1⟩
 clear HG1
 go_wp2
 go_quiet (fail)
 have HB5:Aside0 (Below wr.heap.size wr (wr.drewN nq)):=⟨pw_below_drewN (Below.refl _ wr) _⟩
 generalize wr.drewN nq=w5 at HB5⊢
 cases o with
 |none=>
  (
 obtain ⟨hq_,inner_,hown,hrep⟩:=bookplateref18_Edits.RI.below HX.out HB5.out
 have HOW:=Aside0.mk hown
 have HRE:=Aside0.mk hrep
 have HQQ:=Aside0.mk hq_
 clear hown hrep hq_
 obtain ⟨x,HXN⟩:∃ x:S60,Aside0 (x=⟨i,[],[]⟩):=⟨_,⟨rfl⟩⟩
 obtain ⟨A6,n6,c6,rfl⟩:=Aid.R_slice (show Kd.R k60 60 wr w.heap.size _ _ acc from HX.out)
 obtain ⟨i0,hii,hz0,hz1,hz2⟩:=info_parts info60
 have hss:=HSS.out
 have hbs:=HB.out.size
 have hbs5:=HB5.out.size
 have hacc:=HM.out.1
 go_wp2_with (at_builtin;go_loud (refine wpList_append_own_at _ rfl _ _ 31 rfl w.heap.size 60 i0 _ 3 56 Tryd.underlying31 hii hz0 hz1 hz2 rfl (by decide) (.slice A6 n6 c6) acc.length inner_ rfl (HOW.out.alloc _) ⟨w5.heap.size,0,none⟩ 1 1 [.int .i64 i,.slice none 0 0,.slice none 0 0] rfl rfl (World.news_of_block (cs:=#[.int .i64 i,.slice none 0 0,.slice none 0 0]) (t:=60) (fr:=(0,0)) (blk_new w5 _)) (by simp [Value.oneCell']) (by simp only [maxLen];omega) (by omega) (by rw [World.size_alloc];omega) ?_;intro v1 w6 hown' hgrow _ hat;have hx6:=bookplateref18_Edits.RI.open_ (w:=w) (wr:=w5) (W:=w5.alloc (.cells #[.int .i64 i,.slice none 0 0,.slice none 0 0] 60)) (i:=i) (below_alloc (Below.refl _ w5) _) (Nat.le_trans hss hbs5) (fun k hk=>HQQ.out k hk) (HRE.out.imp_ (fun _ _ hp=>hp)) hown' hgrow hat;rw [←HXN.out] at hx6;have HX6:=Aside0.mk hx6;have HB6:Aside0 (Below w.heap.size w w6):=⟨(below_alloc (HB.out.trans (HB5.out.mono hbs)) _).grown hgrow (by rw [World.size_alloc];omega) (fun k hk=>own_base HOW.out k hk)⟩;have HO6:Aside0 ((Kd.slice 3 (Kd.int .i64)).R 72 w6 w.heap.size (fun k=>k<S1) v5 L):=⟨Kd.R_step (Kd.R_below HO5.out HB5.out) (fun k hk hlt=>(hgrow.block k (by rw [World.size_alloc];omega) (fun e=>by have:=HQQ.out k e.symm;omega)).trans (Below.heap_alloc w5 _ k hlt))⟩;clear hown' hgrow hat hx6 HX HO5 HB HB5 HQQ HOW HRE;obtain ⟨T,g,c,inner,vO,vN,rfl,hSg,hgT,hTW,hOW6,hRE6,h7,h8,HQvO,HQvN,hcO1,hcO2,hfz⟩:=bookplateref18_Edits.RI.facts HX6.out;clear HX6;have hS1w:=HS1.out;have hia:=bookplateref18_Edits.RI.idx g acc.length c))
 have HLE:Aside0 ((x.f1.length:Int)≤i∧(x.f2.length:Int)≤j):=⟨by rw [HXN.out];exact ⟨by simp;omega,by simp;omega⟩⟩
 have HG4:Aside0 (((bookplateref18_Edits.copy_ (rd_T50 b j)).bind fun y=>bookplateref18_Edits.go k a b L n acc (some ⟨x.f0,x.f1,x.f2++[y]⟩) i (j+1))=some r):=⟨by rw [HXN.out];exact HG4.out⟩
 go_wp2
 go_quiet (fail)
 have HB67:Aside0 (Below w6.heap.size w6 (w6.drewN nq)):=⟨pw_below_drewN (Below.refl _ w6) _⟩
 have HB7:Aside0 (Below w.heap.size w (w6.drewN nq)):=⟨pw_below_drewN HB6.out _⟩
 generalize w6.drewN nq=w7 at HB67 HB7⊢
 clear hia di dj
 have hcO:=hcO2
 have hfO:=hfz (acc.length * 3+2)
 have cO:=pw_cell_below HB67.out hcO
 obtain ⟨y,hy,HG5⟩:=Option.bind_eq_some_iff.1 HG4.out
 unfold bookplateref18_Edits.copy_ at hy
 obtain ⟨⟨r1,r2,r3,r4⟩,hcp,hy⟩:=Option.bind_eq_some_iff.1 hy
 have HY:Aside0 (y=⟨r1,⟨r2,r3⟩,r4⟩):=⟨(Option.some.inj hy).symm⟩
 have HCP:=Aside0.mk hcp
 have HG6:=Aside0.mk HG5
 clear hy hcp HG5 HG4
 go_wp2
 refine start_ (n:=15) (S:=fun w'=>w'.cell? ⟨g,acc.length * 3+2,none⟩=some vN∧w'.cell? (ad1.add (j.toNat * 4))=some (.string (rd_T50 b j).f0)∧w'.cell? ⟨(ad1.add (j.toNat * 4)).block,(ad1.add (j.toNat * 4)).off+1,none⟩=some (.int .u8 (rd_T50 b j).f1.f0)∧w'.cell? ⟨(ad1.add (j.toNat * 4)).block,(ad1.add (j.toNat * 4)).off+2,none⟩=some (.int .u8 (rd_T50 b j).f1.f1)∧w'.cell? ⟨(ad1.add (j.toNat * 4)).block,(ad1.add (j.toNat * 4)).off+3,none⟩=some (.slice B3 (rd_T50 b j).f2.length d3)) (ds:=[14]) #[false,false,false,false,false,false,false,false,false,false,false,false,false,false,false] (by kernel_rfl) rfl rfl ⟨cO,pw_cell_below HB7.out HYB.out.1,pw_cell_below HB7.out HYB.out.2.1,pw_cell_below HB7.out HYB.out.2.2.1,pw_cell_below HB7.out HYB.out.2.2.2⟩ (fun hHeld=> ?_)
 have HB8:Aside0 (Below w6.heap.size w6 w7.drew):=⟨below_drew HB67.out⟩
 have HW8:Aside0 (Below w.heap.size w w7.drew):=⟨below_drew HB7.out⟩
 clear HB7 HB67 cO
 generalize w7.drew=w8 at HB8 HW8 hHeld⊢
 refine pK_ (i:=0) (N:=some 106) ?_
 refine pK_ (i:=1) (N:=some 107) ?_
 refine pK_ (i:=2) (N:=some 108) ?_
 refine pK_ (i:=3) (N:=some 109) ?_
 refine pK_ (i:=5) (N:=some 111) ?_
 refine pK_ (i:=6) (N:=some 112) ?_
 refine pK_ (i:=7) (N:=some 113) ?_
 refine tK_ (i:=4) (N:=some 110) hHeld ?_
 refine tK_ (i:=8) (N:=some 114) hHeld ?_
 refine one_ (i:=9) (N:=some 115) #[true,true,true,true,true,true,true,true,true,true,false,false,false,false,false] rfl rfl (by kernel_rfl) (by decide) (fun K hK=> ?_)
 refine goes_ Tryd.func41 (by kernel_rfl) rfl #[.agg #[.string (rd_T50 b j).f0,.int .u8 (rd_T50 b j).f1.f0,.int .u8 (rd_T50 b j).f1.f1,.slice B3 (rd_T50 b j).f2.length d3]] (by rfl) rfl rfl (by (try simp only [List.map_toArray,List.map_cons,List.map_nil]);first|done|rfl) ?_
 refine (bookplateref12_CopyField.calls _ _ _ _ _ (rd_T50 b j).f2 r1 r2 r3 r4 _ (Kd.C_below HS3.out HW8.out) HM3.out HCP.out).mono ?_
 rintro e w9 ⟨v3,rfl,ho9,hb9⟩
 refine ⟨_,rfl,?_⟩
 obtain ⟨A9,n9,c9,rfl⟩:=Aid.R_slice ho9
 have HB9:=Aside0.mk (HB8.out.trans (hb9.mono HB8.out.size))
 have HW9:=Aside0.mk (HW8.out.trans (hb9.mono HW8.out.size))
 have HS9:=Aside0.mk hb9.size
 have HO9:=Aside0.mk ho9
 have hc9:=pw_cell_below hb9 hHeld.1
 clear ho9 hb9
 refine hK.out _ _ ⟨hc9,pw_cell_below HW9.out HYB.out.1,pw_cell_below HW9.out HYB.out.2.1,pw_cell_below HW9.out HYB.out.2.2.1,pw_cell_below HW9.out HYB.out.2.2.2⟩ (fun hHeld=> ?_)
 clear hK K
 refine norm_ (a':=?_) ?_ ?_
 rotate_left
 {
 show Act.put _ (some 115) _=_
 simp only [Act.put,List.setIfInBounds_toArray,List.set_cons_zero,List.set_cons_succ,i64_w,i32_w]
 rfl
 }
 clear hc9
 refine one_ (i:=10) (N:=some 116) #[true,true,true,true,true,true,true,true,true,true,true,false,false,false,false] rfl rfl (by kernel_rfl) (by decide) (fun K hK=> ?_)
 refine value_ (w1:=?_) (v:=?_) (by rfl) rfl ?_ ?_
 rotate_left 2
 {
 go_simp
 constructor
 {
 rfl
 }
 {
 rfl
 }
 }
 refine hK.out _ _ ⟨pw_cell_below (below_alloc (Below.refl _ _) _) hHeld.1,pw_cell_below (below_alloc HW9.out _) HYB.out.1,pw_cell_below (below_alloc HW9.out _) HYB.out.2.1,pw_cell_below (below_alloc HW9.out _) HYB.out.2.2.1,pw_cell_below (below_alloc HW9.out _) HYB.out.2.2.2⟩ (fun hHeld=> ?_)
 clear hK K
 refine norm_ (a':=?_) ?_ ?_
 rotate_left
 {
 show Act.put _ (some 116) _=_
 simp only [Act.put,List.setIfInBounds_toArray,List.set_cons_zero,List.set_cons_succ,i64_w,i32_w]
 rfl
 }
 refine one_ (i:=11) (N:=some 117) #[true,true,true,true,true,true,true,true,true,true,true,true,false,false,false] rfl rfl (by kernel_rfl) (by decide) (fun K hK=> ?_)
 refine Kd.R_append_step k50 (w0:=w) w.heap.size (by rfl) (.tmp 110) (.tmp 116) 22 50 (.agg #[(.string ⟨#[]⟩),(.int .u8 0),(.int .u8 0),(.slice none 0 0)]) 48 rfl Tryd.underlying22 info50 rfl (by decide) (by omega) vN x.f2 y [.string r1,.int .u8 r2,.int .u8 r3,.slice A9 n9 c9] (fun k=>T≤k∧some k≠vO.ownBlock) (fun k=>w8.heap.size≤k∧k<w9.heap.size) rfl rfl ?aM13 ?aP13 ?aF13 (Kd.R_below h8 HB9.out) HW9.out HW9.out.size (by have:=HLE.out;omega) ?_
 (case aM13=>have h2:=Kd.R_mono (Kd.R_bound HO9.out) (ok':=fun k=>w8.heap.size≤k∧k<w9.heap.size) (fun k hk=>⟨hk.2.1,hk.2.2.1⟩);rw [HY.out];exact k50_mkM _ _ _ ⟨r1,⟨r2,r3⟩,r4⟩ (Kd.R_lower h2 HW8.out.size))
 (case aP13=>exact fun k hk=>⟨⟨by have:=HB8.out.size;omega,fun e=>by have:=HQvO.out k e.symm;have:=HB8.out.size;omega⟩,fun e=>by have:=HQvN.out k e.symm;have:=HB8.out.size;omega⟩)
 (case aF13=>exact fun k hk=>⟨by have:=HB9.out.size;omega,fun e=>by have:=HQvO.out k e.symm;have:=HB9.out.size;omega⟩)
 intro v1 w10 hv hbw hgr hat
 obtain ⟨A10,n10,c10,rfl⟩:=Aid.R_slice hv
 have hog:w10.heap[g]?=w6.heap[g]?:=(hgr.block g (by have:=HB9.out.size;omega) (fun e=>by have:=HQvN.out g e.symm;omega)).trans (HB9.out.block g (by omega))
 have co10:w10.cell? ⟨g,acc.length * 3+2,none⟩=some vN:=(by have:=hcO;simp only [World.cell?,hog] at this⊢;exact this)
 have cf10:w10.frozen? ⟨g,acc.length * 3+2,none⟩=false:=(by have:=hfO;simp only [World.frozen?,hog] at this⊢;exact this)
 have HV10:=Aside0.mk hv
 have HW10:=Aside0.mk hbw
 have HGR:=Aside0.mk hgr
 have HAT:=Aside0.mk hat
 clear hv hgr hat hog
 refine hK.out _ _ ⟨co10,pw_cell_below hbw HYB.out.1,pw_cell_below hbw HYB.out.2.1,pw_cell_below hbw HYB.out.2.2.1,pw_cell_below hbw HYB.out.2.2.2⟩ (fun hHeld=> ?_)
 clear hK K
 refine norm_ (a':=?_) ?_ ?_
 rotate_left
 {
 show Act.put _ (some 117) _=_
 simp only [Act.put,List.setIfInBounds_toArray,List.set_cons_zero,List.set_cons_succ,i64_w,i32_w]
 rfl
 }
 clear hbw hHeld
 refine pK_ (i:=12) (N:=some 118) ?_
 refine pK_ (i:=13) (N:=some 119) ?_
 refine last_ (i:=14) (N:=none) #[true,true,true,true,true,true,true,true,true,true,true,true,true,true,true] rfl rfl (by kernel_rfl) (by decide) (fun K hK=> ?_)
 refine skip_ (w1:=?_) (by rfl) rfl ?_ ?_
 rotate_left
 {
 go_simp
 rfl
 }
 refine hK.out _ _ ?_
 clear hK K
 refine done_ (by kernel_rfl) ?_
 go_wp2
 refine ⟨⟨n,acc,some ⟨x.f0,x.f1,x.f2++[y]⟩,i,j+1,rfl,rfl,rfl,by omega,by omega,by omega,by omega,HG6,⟨⟨by have:=HM.out.1;omega,fun z hz=>by have:=HLE.out;obtain rfl:=Option.some.inj hz;simp only [List.length_append,List.length_singleton];omega⟩⟩,⟨bookplateref18_Edits.RI.new hSg hgT hTW hOW6 hRE6 h7 h8 HB9.out _ _ HV10.out HGR.out HAT.out⟩,⟨Kd.R_far (Kd.R_step HO6.out (fun k hk hlt=>(HGR.out.block k (by have:=HB9.out.size;omega) (fun e=>by have:=HQvN.out k e.symm;omega)).trans (HB9.out.block k hlt))) (fun k hk=>by show k≠g;omega) _⟩,⟨HW10.out.setCell (by show w.heap.size≤g;have:=HS1.out;omega) _⟩,⟨by rw [World.size_setCell];have:=HGR.out.size;have:=HB9.out.size;omega⟩⟩,by simp [RowKit.intOf];omega⟩
  )
 |some x=>
  (
 have HX6:=Aside0.mk (bookplateref18_Edits.RI.below HX.out HB5.out)
 have HB6:=Aside0.mk (HB.out.trans (HB5.out.mono HB.out.size))
 have HO6:=Aside0.mk (Kd.R_below HO5.out HB5.out)
 have HLE:Aside0 ((x.f1.length:Int)≤i∧(x.f2.length:Int)≤j):=⟨HM.out.2 x rfl⟩
 have HG4:Aside0 (((bookplateref18_Edits.copy_ (rd_T50 b j)).bind fun y=>bookplateref18_Edits.go k a b L n acc (some ⟨x.f0,x.f1,x.f2++[y]⟩) i (j+1))=some r):=⟨HG4.out⟩
 clear HX HO5 HB HB5
 have hacc:=HM.out.1
 obtain ⟨T,g,c,inner,vO,vN,rfl,hSg,hgT,hTW,hOW6,hRE6,h7,h8,HQvO,HQvN,hcO1,hcO2,hfz⟩:=bookplateref18_Edits.RI.facts HX6.out
 clear HX6
 have hS1w:=HS1.out
 have hia:=bookplateref18_Edits.RI.idx g acc.length c
 go_wp2
 go_quiet (fail)
 have HB67:Aside0 (Below w5.heap.size w5 (w5.drewN nq)):=⟨pw_below_drewN (Below.refl _ w5) _⟩
 have HB7:Aside0 (Below w.heap.size w (w5.drewN nq)):=⟨pw_below_drewN HB6.out _⟩
 generalize w5.drewN nq=w7 at HB67 HB7⊢
 clear hia di dj
 have hcO:=hcO2
 have hfO:=hfz (acc.length * 3+2)
 have cO:=pw_cell_below HB67.out hcO
 obtain ⟨y,hy,HG5⟩:=Option.bind_eq_some_iff.1 HG4.out
 unfold bookplateref18_Edits.copy_ at hy
 obtain ⟨⟨r1,r2,r3,r4⟩,hcp,hy⟩:=Option.bind_eq_some_iff.1 hy
 have HY:Aside0 (y=⟨r1,⟨r2,r3⟩,r4⟩):=⟨(Option.some.inj hy).symm⟩
 have HCP:=Aside0.mk hcp
 have HG6:=Aside0.mk HG5
 clear hy hcp HG5 HG4
 go_wp2
 refine start_ (n:=15) (S:=fun w'=>w'.cell? ⟨g,acc.length * 3+2,none⟩=some vN∧w'.cell? (ad1.add (j.toNat * 4))=some (.string (rd_T50 b j).f0)∧w'.cell? ⟨(ad1.add (j.toNat * 4)).block,(ad1.add (j.toNat * 4)).off+1,none⟩=some (.int .u8 (rd_T50 b j).f1.f0)∧w'.cell? ⟨(ad1.add (j.toNat * 4)).block,(ad1.add (j.toNat * 4)).off+2,none⟩=some (.int .u8 (rd_T50 b j).f1.f1)∧w'.cell? ⟨(ad1.add (j.toNat * 4)).block,(ad1.add (j.toNat * 4)).off+3,none⟩=some (.slice B3 (rd_T50 b j).f2.length d3)) (ds:=[14]) #[false,false,false,false,false,false,false,false,false,false,false,false,false,false,false] (by kernel_rfl) rfl rfl ⟨cO,pw_cell_below HB7.out HYB.out.1,pw_cell_below HB7.out HYB.out.2.1,pw_cell_below HB7.out HYB.out.2.2.1,pw_cell_below HB7.out HYB.out.2.2.2⟩ (fun hHeld=> ?_)
 have HB8:Aside0 (Below w5.heap.size w5 w7.drew):=⟨below_drew HB67.out⟩
 have HW8:Aside0 (Below w.heap.size w w7.drew):=⟨below_drew HB7.out⟩
 clear HB7 HB67 cO
 generalize w7.drew=w8 at HB8 HW8 hHeld⊢
 refine pK_ (i:=0) (N:=some 106) ?_
 refine pK_ (i:=1) (N:=some 107) ?_
 refine pK_ (i:=2) (N:=some 108) ?_
 refine pK_ (i:=3) (N:=some 109) ?_
 refine pK_ (i:=5) (N:=some 111) ?_
 refine pK_ (i:=6) (N:=some 112) ?_
 refine pK_ (i:=7) (N:=some 113) ?_
 refine tK_ (i:=4) (N:=some 110) hHeld ?_
 refine tK_ (i:=8) (N:=some 114) hHeld ?_
 refine one_ (i:=9) (N:=some 115) #[true,true,true,true,true,true,true,true,true,true,false,false,false,false,false] rfl rfl (by kernel_rfl) (by decide) (fun K hK=> ?_)
 refine goes_ Tryd.func41 (by kernel_rfl) rfl #[.agg #[.string (rd_T50 b j).f0,.int .u8 (rd_T50 b j).f1.f0,.int .u8 (rd_T50 b j).f1.f1,.slice B3 (rd_T50 b j).f2.length d3]] (by rfl) rfl rfl (by (try simp only [List.map_toArray,List.map_cons,List.map_nil]);first|done|rfl) ?_
 refine (bookplateref12_CopyField.calls _ _ _ _ _ (rd_T50 b j).f2 r1 r2 r3 r4 _ (Kd.C_below HS3.out HW8.out) HM3.out HCP.out).mono ?_
 rintro e w9 ⟨v3,rfl,ho9,hb9⟩
 refine ⟨_,rfl,?_⟩
 obtain ⟨A9,n9,c9,rfl⟩:=Aid.R_slice ho9
 have HB9:=Aside0.mk (HB8.out.trans (hb9.mono HB8.out.size))
 have HW9:=Aside0.mk (HW8.out.trans (hb9.mono HW8.out.size))
 have HS9:=Aside0.mk hb9.size
 have HO9:=Aside0.mk ho9
 have hc9:=pw_cell_below hb9 hHeld.1
 clear ho9 hb9
 refine hK.out _ _ ⟨hc9,pw_cell_below HW9.out HYB.out.1,pw_cell_below HW9.out HYB.out.2.1,pw_cell_below HW9.out HYB.out.2.2.1,pw_cell_below HW9.out HYB.out.2.2.2⟩ (fun hHeld=> ?_)
 clear hK K
 refine norm_ (a':=?_) ?_ ?_
 rotate_left
 {
 show Act.put _ (some 115) _=_
 simp only [Act.put,List.setIfInBounds_toArray,List.set_cons_zero,List.set_cons_succ,i64_w,i32_w]
 rfl
 }
 clear hc9
 refine one_ (i:=10) (N:=some 116) #[true,true,true,true,true,true,true,true,true,true,true,false,false,false,false] rfl rfl (by kernel_rfl) (by decide) (fun K hK=> ?_)
 refine value_ (w1:=?_) (v:=?_) (by rfl) rfl ?_ ?_
 rotate_left 2
 {
 go_simp
 constructor
 {
 rfl
 }
 {
 rfl
 }
 }
 refine hK.out _ _ ⟨pw_cell_below (below_alloc (Below.refl _ _) _) hHeld.1,pw_cell_below (below_alloc HW9.out _) HYB.out.1,pw_cell_below (below_alloc HW9.out _) HYB.out.2.1,pw_cell_below (below_alloc HW9.out _) HYB.out.2.2.1,pw_cell_below (below_alloc HW9.out _) HYB.out.2.2.2⟩ (fun hHeld=> ?_)
 clear hK K
 refine norm_ (a':=?_) ?_ ?_
 rotate_left
 {
 show Act.put _ (some 116) _=_
 simp only [Act.put,List.setIfInBounds_toArray,List.set_cons_zero,List.set_cons_succ,i64_w,i32_w]
 rfl
 }
 refine one_ (i:=11) (N:=some 117) #[true,true,true,true,true,true,true,true,true,true,true,true,false,false,false] rfl rfl (by kernel_rfl) (by decide) (fun K hK=> ?_)
 refine Kd.R_append_step k50 (w0:=w) w.heap.size (by rfl) (.tmp 110) (.tmp 116) 22 50 (.agg #[(.string ⟨#[]⟩),(.int .u8 0),(.int .u8 0),(.slice none 0 0)]) 48 rfl Tryd.underlying22 info50 rfl (by decide) (by omega) vN x.f2 y [.string r1,.int .u8 r2,.int .u8 r3,.slice A9 n9 c9] (fun k=>T≤k∧some k≠vO.ownBlock) (fun k=>w8.heap.size≤k∧k<w9.heap.size) rfl rfl ?aM15 ?aP15 ?aF15 (Kd.R_below h8 HB9.out) HW9.out HW9.out.size (by have:=HLE.out;omega) ?_
 (case aM15=>have h2:=Kd.R_mono (Kd.R_bound HO9.out) (ok':=fun k=>w8.heap.size≤k∧k<w9.heap.size) (fun k hk=>⟨hk.2.1,hk.2.2.1⟩);rw [HY.out];exact k50_mkM _ _ _ ⟨r1,⟨r2,r3⟩,r4⟩ (Kd.R_lower h2 HW8.out.size))
 (case aP15=>exact fun k hk=>⟨⟨by have:=HB8.out.size;omega,fun e=>by have:=HQvO.out k e.symm;have:=HB8.out.size;omega⟩,fun e=>by have:=HQvN.out k e.symm;have:=HB8.out.size;omega⟩)
 (case aF15=>exact fun k hk=>⟨by have:=HB9.out.size;omega,fun e=>by have:=HQvO.out k e.symm;have:=HB9.out.size;omega⟩)
 intro v1 w10 hv hbw hgr hat
 obtain ⟨A10,n10,c10,rfl⟩:=Aid.R_slice hv
 have hog:w10.heap[g]?=w5.heap[g]?:=(hgr.block g (by have:=HB9.out.size;omega) (fun e=>by have:=HQvN.out g e.symm;omega)).trans (HB9.out.block g (by omega))
 have co10:w10.cell? ⟨g,acc.length * 3+2,none⟩=some vN:=(by have:=hcO;simp only [World.cell?,hog] at this⊢;exact this)
 have cf10:w10.frozen? ⟨g,acc.length * 3+2,none⟩=false:=(by have:=hfO;simp only [World.frozen?,hog] at this⊢;exact this)
 have HV10:=Aside0.mk hv
 have HW10:=Aside0.mk hbw
 have HGR:=Aside0.mk hgr
 have HAT:=Aside0.mk hat
 clear hv hgr hat hog
 refine hK.out _ _ ⟨co10,pw_cell_below hbw HYB.out.1,pw_cell_below hbw HYB.out.2.1,pw_cell_below hbw HYB.out.2.2.1,pw_cell_below hbw HYB.out.2.2.2⟩ (fun hHeld=> ?_)
 clear hK K
 refine norm_ (a':=?_) ?_ ?_
 rotate_left
 {
 show Act.put _ (some 117) _=_
 simp only [Act.put,List.setIfInBounds_toArray,List.set_cons_zero,List.set_cons_succ,i64_w,i32_w]
 rfl
 }
 clear hbw hHeld
 refine pK_ (i:=12) (N:=some 118) ?_
 refine pK_ (i:=13) (N:=some 119) ?_
 refine last_ (i:=14) (N:=none) #[true,true,true,true,true,true,true,true,true,true,true,true,true,true,true] rfl rfl (by kernel_rfl) (by decide) (fun K hK=> ?_)
 refine skip_ (w1:=?_) (by rfl) rfl ?_ ?_
 rotate_left
 {
 go_simp
 rfl
 }
 refine hK.out _ _ ?_
 clear hK K
 refine done_ (by kernel_rfl) ?_
 go_wp2
 refine ⟨⟨n,acc,some ⟨x.f0,x.f1,x.f2++[y]⟩,i,j+1,rfl,rfl,rfl,by omega,by omega,by omega,by omega,HG6,⟨⟨by have:=HM.out.1;omega,fun z hz=>by have:=HLE.out;obtain rfl:=Option.some.inj hz;simp only [List.length_append,List.length_singleton];omega⟩⟩,⟨bookplateref18_Edits.RI.new hSg hgT hTW hOW6 hRE6 h7 h8 HB9.out _ _ HV10.out HGR.out HAT.out⟩,⟨Kd.R_far (Kd.R_step HO6.out (fun k hk hlt=>(HGR.out.block k (by have:=HB9.out.size;omega) (fun e=>by have:=HQvN.out k e.symm;omega)).trans (HB9.out.block k hlt))) (fun k hk=>by show k≠g;omega) _⟩,⟨HW10.out.setCell (by show w.heap.size≤g;have:=HS1.out;omega) _⟩,⟨by rw [World.size_setCell];have:=HGR.out.size;have:=HB9.out.size;omega⟩⟩,by simp [RowKit.intOf];omega⟩
  )
 }
 {
 rw [if_neg (by omega)] at HG1
 obtain rfl:=Option.some.inj HG1
 clear HG1
 have di:decide (i<(a.length:Int))=false:=decide_eq_false hi
 have dj:decide (j<(b.length:Int))=false:=decide_eq_false hj
 obtain ⟨A6,c6,rfl⟩:=bookplateref18_Edits.RI.slice_ HX.out
 go_wp2
 go_ret
 exact ⟨_,rfl,Kd.R_mono (bookplateref18_Edits.RI.close HX.out) (fun _ _=>trivial),HB.out⟩
 }
 }
  )
  )
 }
 {
 rw [if_neg hLL] at h
 cases h
 }
 }
 {
 rw [if_neg hsz] at h
 cases h
 }
end
end Go.Proofs.YtdlolaognnbhpaaDoor.Pr
