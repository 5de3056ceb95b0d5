/- A part of the proof of laws of this seat: PatchBack, PatchDiff, PatchLeast, PatchMetric. Conditions: none of our own. -/
import Derived.Test.YtdlolaognnbhpaaDoorK24
import Derived.Test.YtdlolaognnbhpaaDoorK32
namespace Go.Proofs.YtdlolaognnbhpaaDoor.Rec
open Go.RowKit Go.Proofs.YtdlolaognnbhpaaDoorW.PrintWords Go.Proofs.YtdlolaognnbhpaaDoor.Pr Go.Proofs.YtdlolaognnbhpaaDoor.Lcs Classical
set_option linter.unusedVariables false
theorem opSub:Opens Tryd.prog 55 k55 (fun y=>y.f1.size≤140737488351232):=
  (Opens.iso (fun x:Sb=>(x.f0,x.f1)) (fun y=>⟨y.1,y.2⟩) (fun _=>rfl) (Opens.struct Tryd.underlying55 (by kernel_rfl) rfl (Opens.more (Opens.int Tryd.underlying5) rfl (by kernel_rfl) (Opens.one (Opens.string Tryd.underlying9) rfl (by kernel_rfl))))).mono (fun y h=>h.2)
theorem opSubs:Opens Tryd.prog 48 (Kd.slice 55 k55) (fun l=>l.length * 24≤140737488351232):=
  (Opens.slice (B:=24) Tryd.underlying48 opSub (by kernel_rfl) (by kernel_rfl)).mono (fun y h=>h.1)
theorem opInd:Opens Tryd.prog 47 k47 (fun _=>True):=
  (Opens.iso (fun x:S47=>(x.f0,x.f1)) (fun y=>⟨y.1,y.2⟩) (fun _=>rfl) (Opens.arr2 Tryd.underlying47 (Opens.int Tryd.underlying5) (by kernel_rfl) (by kernel_rfl))).mono (fun y h=>trivial)
theorem opField:Opens Tryd.prog 50 k50 (fun y=>y.f2.length * 24≤140737488351232):=
  (Opens.iso (fun x:Fd=>(x.f0,x.f1,x.f2)) (fun y=>⟨y.1,y.2.1,y.2.2⟩) (fun _=>rfl) (Opens.struct Tryd.underlying50 (by kernel_rfl) rfl (Opens.more (Opens.string Tryd.underlying9) rfl (by kernel_rfl) (Opens.more opInd rfl (by kernel_rfl) (Opens.one opSubs rfl (by kernel_rfl)))))).mono (fun y h=>h.2.2)
theorem opFields:Opens Tryd.prog 22 (Kd.slice 50 k50) Small:=
  (Opens.slice (B:=48) Tryd.underlying22 opField (by kernel_rfl) (by kernel_rfl)).mono (fun y h=>⟨by have:=h.1;omega,fun x hx=>by have:=h.2 x hx;omega⟩)
theorem opRec:Opens Tryd.prog 24 (Kd.pair (Kd.int .i64) (Kd.slice 50 k50)) (fun y=>Small y.2):=
  (Opens.struct Tryd.underlying24 (by kernel_rfl) rfl (Opens.more (Opens.int Tryd.underlying3) rfl (by kernel_rfl) (Opens.one opFields rfl (by kernel_rfl)))).mono (fun y h=>h.2)
set_option maxRecDepth 100000 in
theorem rec_arg {H:Type} {enc:TypeId×Value→H} {W:World} {base:Nat} {v:Value} {x:DataW H} {ps:List MemPlace} {ts:List TypeId} {ds:List (DataW H)} (j:Nat)
 (hv:Value.okWide Tryd.prog W .any base 24 v) (hsz:(DataW.weightsEach Tryd.prog ts ds).all (· ≤reachBytes)=true) (ht:ts[j]?=some 24) (hd:ds[j]?=some x) (hx:DataW.Trod enc Tryd.prog W 0 (fun _=>true) true 24 v x ps):
 ∃ (i:Int) (A:Option Addr) (l:List Fd) (c:Nat),v= .agg #[.int .i64 i,.slice A l.length c]∧Kd.C k50 W A l.length l∧l.length≤c∧Small l:=by
 obtain ⟨⟨i,l⟩,⟨c1,c2,hc,hk1,A,n,hk2,hle,hC⟩,hok⟩:=opRec.arg hsz ht hd hx
 obtain ⟨cs,rfl,_⟩:=WideShapes.okWide_struct Tryd.underlying24 hv
 have hc1:c1=[Value.int .i64 i]:=hk1
 have hcs:cs.toList=[Value.int .i64 i,.slice A l.length n]:=by {
 have h:cs.toList=c1++c2:=hc
 rw [h,hc1,hk2]
 rfl
 }
 exact ⟨i,A,l,n,congrArg Value.agg (Array.toList_inj.1 hcs),hC,hle,hok⟩
end Go.Proofs.YtdlolaognnbhpaaDoor.Rec
