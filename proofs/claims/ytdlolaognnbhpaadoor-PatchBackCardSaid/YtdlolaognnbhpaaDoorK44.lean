/- The law PatchBack is true for every input: the row and its card, out of the plain statement and the walk. Conditions: none of our own; the listed variables are as the row lists them. -/
import Derived.Test.YtdlolaognnbhpaaDoorRows
import Derived.Test.YtdlolaognnbhpaaDoorTie
import Derived.Test.YtdlolaognnbhpaaDoorCards
import Derived.ProofKit
import Derived.OpenShut
import Derived.ShutString
import Derived.ChangeOld
import Derived.ChangeVars
import Derived.ChangeSame
import Derived.Carry
import Derived.Handed
import Derived.JoinedOf
import Derived.LaidHandle
import Derived.MakeChecks
import Derived.PinnedBridge
import Derived.SevenTiedAt
import Derived.Lib.LaidU8
import Derived.Lib.LaidIn
import Derived.Test.YtdlolaognnbhpaaDoorK35
import Derived.Test.YtdlolaognnbhpaaDoorK43
namespace Go.Proofs.YtdlolaognnbhpaaDoor.patchBack
open Go.ChangeShapes Go.WideShapes Go.ChangeAt Go.RowKit Go.Proofs.YtdlolaognnbhpaaDoor.Rec
open Go.ChangeMaps (open_string shut_string)
set_option linter.unusedVariables false
set_option linter.unusedSimpArgs false
theorem own:ownKnob Tryd.prog.godebug=none:=by kernel_rfl
theorem laidOut:laidOutB Tryd.prog=true:=by kernel_rfl
noncomputable def laidWorld (os : Os) : World :=
 let put (h:Array Obj) (g:Nat) (cs:Array Value):Array Obj:=h.modify g fun
 | .cells _ t frozen=> .cells cs t frozen
 |o=>o
 let w0:=World.holding Tryd.prog os ⟨#[],#[],[]⟩
 let h0:=put (w0.heap) 1 ((List.range 16).flatMap fun i=>[Value.int .u8 (Lib.accLo i),Value.int .u8 (Lib.accHi i)]).toArray
 let h1:=put (h0) 0 (Lib.firstTab.map fun z=>Value.int .u8 z).toArray
 { w0 with heap:=h1 }
theorem laid_eq : Rows.patchBackRow.laid = [("unicode/utf8.acceptRanges", Lib.acceptData), ("unicode/utf8.first", Lib.firstData)] := by kernel_rfl
theorem laid_met (os:Os) (args:Array Value):laidMetH Tryd.prog Rows.patchBackRow.laid ((laidWorld os).forCall (fun _ _=>0) ⟨#[],args,[]⟩).memory:=by
 rw [MakeChecks.laidMetH_plain _ _ _ (by rw [laid_eq];kernel_rfl),laid_eq]
 exact (LaidIn.of_run [1,0] 8 (by kernel_rfl) (by kernel_rfl) (by kernel_rfl) (by kernel_rfl)).met
set_option maxRecDepth 100000 in
theorem lifted (os:Os) (started:os.Started) (H:Type) (enc:TypeId×Value→H):
 ReturnsInHanded {} Tryd.checked os 6 .any (fun w args=>(Rows.patchBackSpec.pre enc Tryd.prog Tryd.f6 Rows.patchBackRow.domain false w args∧laidMetH Tryd.prog Rows.patchBackRow.laid w)∧sizedMet enc Tryd.prog Tryd.f6 (OpenSpec.ofChange Rows.patchBackSpec) false w args) (Rows.patchBackSpec.post enc Tryd.prog Tryd.f6 false true false false):=by
 refine returnsInHanded_of_change_and (C:=Tryd.checked) (X:=fun w _=>laidMetH Tryd.prog Rows.patchBackRow.laid w) (fun _ _ _ hh h=>h.of_heap hh) own started (by kernel_rfl) Tryd.func6
   (ChangeSpec.witness_at (enc:=enc) (C:=Tryd.checked) (os:=os) (X:=fun w _=>laidMetH Tryd.prog Rows.patchBackRow.laid w) false (laidWorld os) #[.agg #[.int .i64 0,.slice none 0 0],.agg #[.int .i64 0,.slice none 0 0]] 8 rfl (by kernel_rfl) (by kernel_rfl) (by kernel_rfl) (by kernel_rfl) (by kernel_rfl) (laid_met os _)) ?_
 intro W base args ds gs before hval0 hW hcnd hsz0 hL _
 have hsz:(DataW.weightsEach Tryd.prog (Tryd.f6.params.toList++Rows.patchBackSpec.plain.varTypes Tryd.prog) (ds++gs)).all (· ≤reachBytes)=true:=hsz0
 have hval:∀ (j:Nat) t v,Tryd.f6.params[j]?=some t→args[j]?=some v→Value.okWide Tryd.prog W .any base t v:=hval0
 have hW':=hW
 obtain ⟨p,q,hA0,hV,rfl,hfz,hnd⟩:=hW
 have hA:DataW.TrodAll enc Tryd.prog W 0 (fun _=>true) true Tryd.f6.params.toList args.toList ds p:=hA0
 rw [Tryd.params6] at hA hval hsz
 have hL' : laidMet Tryd.prog [("unicode/utf8.acceptRanges", Lib.acceptData), ("unicode/utf8.first", Lib.firstData)] W := by {
 have h:=hL
 rw [MakeChecks.laidMetH_plain _ _ _ (by rw [laid_eq];kernel_rfl),laid_eq] at h
 exact h
 }
 have hT:PTabs W:=utf8Tabs_of_reads (ρ:=Tryd.lays260_ren) { Tryd.lays260 with } ⟨by kernel_rfl,by kernel_rfl,by kernel_rfl,by kernel_rfl,by kernel_rfl,by kernel_rfl,by kernel_rfl⟩ (Lib.laidMet.reads hL' (.tail _ (.head _))) (Lib.laidMet.reads hL' (.head _))
 obtain ⟨v0,vs0,d0,ds0,p0,q0,hargs,rfl,rfl,h0,r0⟩:=trodAll_cons hA
 obtain ⟨v1,vs1,d1,ds1,p1,q1,rfl,rfl,rfl,h1,r1⟩:=trodAll_cons r0
 obtain ⟨rfl,rfl,rfl⟩:=trodAll_nil r1
 obtain rfl:args=#[v0,v1]:=by cases args;simp_all
 obtain ⟨rfl,rfl⟩:=trodVars_none hV
 have k0:=h0
 have lt0:∀ x∈p0,x.block<W.heap.size:=by obtain ⟨m,hm⟩:=k0;exact DataW.trod_lt m _ _ _ hm
 obtain ⟨i0,A0,l0,c0,rfl,hC0,hl0,hs0⟩:=rec_arg 0 (hval 0 _ v0 rfl rfl) hsz rfl rfl h0
 have k1:=h1
 have lt1:∀ x∈p1,x.block<W.heap.size:=by obtain ⟨m,hm⟩:=k1;exact DataW.trod_lt m _ _ _ hm
 obtain ⟨i1,A1,l1,c1,rfl,hC1,hl1,hs1⟩:=rec_arg 1 (hval 1 _ v1 rfl rfl) hsz rfl rfl h1
 clear hA0 hval0 hsz0 hsz
 obtain ⟨K,hK⟩:=patchBack_ev i0 i1 l0 l1 hs0 hs1
 refine (Pr.bookplatelaw18_PatchBack.calls K i0 A0 c0 l0 i1 A1 c1 l1 true W hT hC0 hl0 hC1 hl1 (hK K (Nat.le_refl K))).mono fun e W' ⟨he,bel⟩=> ?_
 subst he
 exact ⟨_,rfl,_,_,_,[],_,[],hW',trodAll_mk1 (shut_bool Tryd.underlying4 _),(trodAll_cons_mk (Below.trod laidOut (by kernel_rfl) (of_decide_eq_true (by kernel_rfl)) k0 bel lt0) (trodAll_cons_mk (Below.trod laidOut (by kernel_rfl) (of_decide_eq_true (by kernel_rfl)) k1 bel lt1) trodAll_mk0)),rfl,bel.frame _,fun h=>by cases h⟩
theorem over:Rows.patchBackRow.holds Tryd.pinned (OpenSpec.ofChange Rows.patchBackSpec):=
  OpenClaim.holds_of_wide 6 Tryd.f6 rfl rfl rfl rfl rfl rfl rfl ⟨rfl,rfl,rfl,rfl,rfl⟩ rfl rfl rfl rfl rfl (by kernel_rfl) Tryd.func6 (by kernel_rfl)
    (of_decide_eq_true (by kernel_rfl)) (by unfold Func.isWrapper;first|(rw [if_pos (by decide+kernel)];kernel_rfl)|(rw [if_neg (by decide+kernel)];exact ⟨rfl,rfl⟩))
    (fun os started H enc _=>lifted os started H enc)
theorem proved:Rows.PatchBackCardSaid:=
  Claim7.holds_tied_plain_at .later [] [.data, .pinned] true (true, "7767fa23495d68dcdcc946676fa86305c1e542ddbb58103b171a753d9cb756c9") false over (fun _ h => by cases h) (by kernel_rfl) (fun _ h => by cases h) patchBack_row_tie rfl ⟨rfl, rfl⟩ (by kernel_rfl) rfl
    (fun f fn hf hfn=>by
      obtain rfl:f=6:=Option.some.inj ((show Tryd.prog.funcNamed Rows.patchBackRow.func=some 6 by kernel_rfl).symm.trans hf)|>.symm
      obtain rfl:fn=Tryd.f6:=(Option.some.inj (Tryd.func6.symm.trans hfn)).symm
      exact ⟨by kernel_rfl,fun j t ht=>Aid.no_standin (P:=Tryd.prog) (by kernel_rfl) ht⟩)
    (by kernel_rfl)
#print axioms proved
end Go.Proofs.YtdlolaognnbhpaaDoor.patchBack
namespace Go.Proofs.YtdlolaognnbhpaaDoor
theorem patchBack_holds:Rows.PatchBackCardSaid:=patchBack.proved
end Go.Proofs.YtdlolaognnbhpaaDoor
