/- A part of the proof of laws of this seat: PatchBack, PatchDiff, PatchLeast, PatchMetric. Conditions: none of our own. -/
import Derived.Test.YtdlolaognnbhpaaDoorK4
namespace Go.Proofs.YtdlolaognnbhpaaDoor.Pr
open Go.RowKit Go.Proofs.YtdlolaognnbhpaaDoorW.PrintWords Go.Proofs.YtdlolaognnbhpaaDoorW.PrintLast Go.Proofs.YtdlolaognnbhpaaDoorW.PrintMore
noncomputable section
attribute [local go_sem] max2_int min2_int max_two min_two max_three min_three max_four min_four
set_option linter.unusedVariables false
set_option linter.unusedSimpArgs false
def bookplatelaw18_Theirs.l0:Nat→List (S53)→List (S60)→Int→Option ((List (S60)))
 |0,_,_,_=>none
 |k+1,x0,x3,x4=>if x4<(x0.length:Int) then (if 0≤x4 then (if x3.length<2513169434916 then (bookplatelaw18_Theirs.l0 k x0 (x3++[(⟨(rd_T53 x0 x4).f0,(rd_T53 x0 x4).f1,(rd_T53 x0 x4).f2⟩:S60)]) (wrap64 (x4+1))) else (none)) else (none)) else (some x3)
def bookplatelaw18_Theirs.f (k:Nat) (l0:List (S53)):Option ((List (S60))):=bookplatelaw18_Theirs.l0 k l0 ([]:List (S60)) 0
set_option maxHeartbeats 8000000 in
set_option maxRecDepth 100000 in
theorem bookplatelaw18_Theirs.calls (k:Nat) (P0_:Nat→Prop) (A0:Option Addr) (c0:Nat) (l0:List (S53)) (r:List (S60)) (w:World) (hs0:Kd.V k53 53 w w.heap.size (fun k_=>P0_ k_) (.slice A0 l0.length c0) l0) (h:bookplatelaw18_Theirs.f k l0=some r):
 Calls Tryd.prog 12 #[.slice A0 l0.length c0] w fun e w'=>∃ v0_:Value,e= .returned (v0_)∧Kd.N k60 60 w' w.heap.size (fun k_=>(P0_ k_∨w.heap.size≤k_)) v0_ r∧Below w.heap.size w w':=by
 have hu53:=Tryd.underlying53
 have HO0:=Aside0.mk (show Kd.V k53 53 w w.heap.size (fun k_=>(P0_ k_∨w.heap.size≤k_)) (.slice A0 l0.length c0) l0 from Kd.V_mono hs0 (fun k_ hk=> .inl hk))
 have HB:=Aside0.mk (Below.refl w.heap.size w)
 have H:(bookplatelaw18_Theirs.l0 k l0 ([]:List (S60)) 0)=some r:=h
 clear h
 have H':=Aside0.mk H
 clear H
 go_enter Tryd.func12,Tryd.ntmps12
 go_wp2
 go_loopg [3,4] k (fun kq v3 v4 w'=>∃ (x3_1:List (S60)) (x4_1:Int),v4= .int .i64 x4_1∧Aside0 (bookplatelaw18_Theirs.l0 kq l0 x3_1 x4_1=some r)∧Aside0 (kq≤k)∧Aside0 (Kd.V k53 53 w' w.heap.size (fun k_=>(P0_ k_∨w.heap.size≤k_)∧some k_≠(v3:Value).ownBlock) (.slice A0 l0.length c0) l0)∧Aside0 (Kd.N k60 60 w' w.heap.size (fun k_=>(P0_ k_∨w.heap.size≤k_)) v3 x3_1)∧Aside0 (Below w.heap.size w w'))
 case atStart=>exact ⟨(([]:List (S60))),(0),r0_,H',⟨Nat.le_refl _⟩,⟨by (with_reducible repeat (first|apply Kd.V_alloc|apply Kd.V_drewN|apply Kd.V_drew));exact Kd.V_mono HO0.out (fun _ hk=>⟨hk,(by simp [Value.ownBlock])⟩)⟩,⟨by first|exact Kd.R_nil _ _ _ _ _|exact Kd.N_nil _ _ _ _ _|exact Kd.V_nil _ _ _ _ _|exact Kd.Q_nil _ _ _ _ _|exact Kd.S_nil _ _ _ _ _⟩,⟨b0_⟩⟩
 case round=>
  (
 clear H'
 try clear c1
 obtain ⟨x3_1,x4_1,rfl,HA,HK1,HO_0,HO_3,HB⟩:=hrel
 cases gk with
 |zero=>exact absurd HA.out (by simp [bookplatelaw18_Theirs.l0])
 |succ k1=>
  (
 have H:=HA.out
 clear HA
 simp only [bookplatelaw18_Theirs.l0] at H
 by_cases c2:x4_1<(l0.length:Int)
 {
 rw [if_pos c2] at H
 have c2b0:decide (x4_1<(l0.length:Int))=true:=decide_eq_true c2
 clear c2
 by_cases c3:0≤x4_1
 {
 rw [if_pos c3] at H
 have c3b0:decide (0≤x4_1)=true:=decide_eq_true c3
 clear c3
 by_cases c4:x3_1.length<2513169434916
 {
 rw [if_pos c4] at H
 have LMc4:=Aside0.mk c4
 clear c4
 obtain ⟨y418,hy418⟩:∃ y_:List (S60),y_=(x3_1++[(⟨(rd_T53 l0 x4_1).f0,(rd_T53 l0 x4_1).f1,(rd_T53 l0 x4_1).f2⟩:S60)]):=⟨_,rfl⟩
 replace H:(bookplatelaw18_Theirs.l0 k1 l0 y418 (wrap64 (x4_1+1)))=some r:=by first|(rw [hy418];with_reducible exact H)|(have H2_:=(Option.bind_some _ _).symm.trans H;rw [hy418];with_reducible exact H2_)|(have H2_:=(Option.bind_some _ _).symm.trans H;with_reducible exact H2_)|with_reducible exact H|(rw [hy418];exact H)|exact H
 have Ny418:=Aside0.mk hy418
 clear hy418
 have H':=Aside0.mk H
 clear H
 have p417:0≤(x4_1:Int):=od_
 have q417:x4_1<(l0.length:Int):=od_
 obtain ⟨ad417,A417_1,c417_1,A417_2,c417_2,e417,hx417_0,hx417_1,hx417_2,hl417_1,hi417_1,hl417_2,hi417_2⟩:=at_T53 (Kd.V_reads' HO_0.out).2.2 x4_1 p417 q417
 cases e417
 obtain ⟨ce417,hce417,hMe417,hcc417⟩:=Kd.V_get HO_0.out z53 x4_1 p417 (by first|exact q417|exact od_|(have e_:=(Kd.V_reads' HO_0.out).1;omega))
 obtain ⟨ua417_1,uc417_1,ua417_2,uc417_2,rfl,ul417_1,ge417_1,ul417_2,ge417_2⟩:=k53_openF hMe417
 have hv417_1:=hcc417 1 _ rfl
 rw [add_field _ _ 1 (by omega)] at hv417_1
 replace hv417_1:=Option.some.inj (hv417_1.symm.trans hx417_1)
 injection hv417_1 with hva_ hvn_ hvc_
 rw [hva_] at ge417_1
 rw [hvc_] at ul417_1
 have HL417_1:=Aside0.mk (show Kd.V k50 50 _ w.heap.size _ _ ((rd_T53 l0 x4_1).f1) from Kd.V_mk ul417_1 ge417_1)
 clear hva_ hvn_ hvc_ ge417_1 ul417_1
 have hv417_2:=hcc417 2 _ rfl
 rw [add_field _ _ 2 (by omega)] at hv417_2
 replace hv417_2:=Option.some.inj (hv417_2.symm.trans hx417_2)
 injection hv417_2 with hva_ hvn_ hvc_
 rw [hva_] at ge417_2
 rw [hvc_] at ul417_2
 have HL417_2:=Aside0.mk (show Kd.V k50 50 _ w.heap.size _ _ ((rd_T53 l0 x4_1).f2) from Kd.V_mk ul417_2 ge417_2)
 clear hva_ hvn_ hvc_ ge417_2 ul417_2
 clear hcc417 hce417
 have HR417_1:=Aside0.mk hi417_1
 have HC417_1:=Aside0.mk hl417_1
 clear hi417_1 hl417_1
 have HR417_2:=Aside0.mk hi417_2
 have HC417_2:=Aside0.mk hl417_2
 clear hi417_2 hl417_2
 replace p417:=eq_true p417
 replace q417:=eq_true q417
 go_wp2_with (first|((with_reducible refine gate_builtin (b:= .append) (xs:=#[.tmp 11,.tmp 16]) rfl ?_);at_builtin;refine Kd.N_append k60 (w0:=w) w.heap.size rfl (.tmp 11) (.tmp 16) 31 60 (.agg #[(.int .i64 0),(.slice none 0 0),(.slice none 0 0)]) 56 rfl Tryd.underlying31 info60 rfl (by decide) (by omega) u3 x3_1 (⟨(rd_T53 l0 x4_1).f0,(rd_T53 l0 x4_1).f1,(rd_T53 l0 x4_1).f2⟩:S60) [.int .i64 ((rd_T53 l0 x4_1).f0),.slice A417_1 ((rd_T53 l0 x4_1).f1).length c417_1,.slice A417_2 ((rd_T53 l0 x4_1).f2).length c417_2] (fun k_=>(P0_ k_∨w.heap.size≤k_)) (fun k_=>((fun k_=>(P0_ k_∨w.heap.size≤k_))) k_∧some k_≠(u3:Value).ownBlock) rfl rfl ?aP (fun _ hk=>hk) ?aF ?aO ?aB ?aS ?aL ?_;(case aP=>exact (k60_mkF _ _ (⟨(rd_T53 l0 x4_1).f0,(rd_T53 l0 x4_1).f1,(rd_T53 l0 x4_1).f2⟩:S60) (Kd.V_reads' (Kd.V_mono (ok':=(fun k_=>((fun k_=>(P0_ k_∨w.heap.size≤k_))) k_∧some k_≠(u3:Value).ownBlock)) (HL417_1.out) (fun k_ hk=>⟨hk.1,hk.2⟩))).2.1 (Kd.V_F (Kd.V_mono (ok':=(fun k_=>((fun k_=>(P0_ k_∨w.heap.size≤k_))) k_∧some k_≠(u3:Value).ownBlock)) (HL417_1.out) (fun k_ hk=>⟨hk.1,hk.2⟩))) (Kd.V_reads' (Kd.V_mono (ok':=(fun k_=>((fun k_=>(P0_ k_∨w.heap.size≤k_))) k_∧some k_≠(u3:Value).ownBlock)) (HL417_2.out) (fun k_ hk=>⟨hk.1,hk.2⟩))).2.1 (Kd.V_F (Kd.V_mono (ok':=(fun k_=>((fun k_=>(P0_ k_∨w.heap.size≤k_))) k_∧some k_≠(u3:Value).ownBlock)) (HL417_2.out) (fun k_ hk=>⟨hk.1,hk.2⟩)))));(case aB=>exact b0_);(case aF=>exact (fun k_ hk=>(.inr (Nat.le_trans (below_size b0_) hk))));(case aO=>exact (xN_ HO_3));(case aS=>exact (below_size b0_));(case aL=>have:=LMc4.out;omega);intro v419 w5 ho hb hg hat;rw [←Ny418.out] at ho;have n_:=as5_ (Kd.V_afterv (ok:=(fun k_=>(P0_ k_∨w.heap.size≤k_))) (xV_ HO_0) hg hat) (Kd.V_afterv (ok:=(fun k_=>(P0_ k_∨w.heap.size≤k_))) (xV_ HL417_1) hg hat) (Kd.V_afterv (ok:=(fun k_=>(P0_ k_∨w.heap.size≤k_))) (xV_ HL417_2) hg hat) (hb) (ho);clear HO_0 HL417_1 HL417_2 HB;clear HO_3;obtain ⟨HO_0,HL417_1,HL417_2,HB,HO420⟩:=n_;clear ho hb hg hat))
 go_roundg k1
 case measure=>have:=HK1.out;omega
 case rel=>exact ⟨(y418),(wrap64 (x4_1+1)),r0_,H',⟨by have:=HK1.out;omega⟩,⟨by (with_reducible repeat (first|apply Kd.V_alloc|apply Kd.V_drewN|apply Kd.V_drew));exact HO_0.out⟩,⟨by (with_reducible repeat (first|apply Kd.N_alloc|apply Kd.N_drewN|apply Kd.N_drew));exact HO420.out⟩,⟨b0_⟩⟩
 }
 {
 rw [if_neg c4] at H
 exact absurd H (by simp)
 }
 }
 {
 rw [if_neg c3] at H
 exact absurd H (by simp)
 }
 }
 {
 rw [if_neg c2] at H
 have c2b0:decide (x4_1<(l0.length:Int))=false:=decide_eq_false c2
 clear c2
 obtain rfl:=Option.some.inj H
 go_wp2
 go_ret
 exact ⟨_,r1_,by (with_reducible repeat (first|apply Kd.N_alloc|apply Kd.N_drewN|apply Kd.N_drew));exact HO_3.out,b0_⟩
 }
  )
  )
end
end Go.Proofs.YtdlolaognnbhpaaDoor.Pr
