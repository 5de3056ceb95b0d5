/- A part of the proof of laws of this seat: PatchBack, PatchDiff, PatchLeast, PatchMetric. Conditions: none of our own. -/
import Derived.Test.YtdlolaognnbhpaaDoorK4
namespace Go.Proofs.YtdlolaognnbhpaaDoor.Pr
open Go.RowKit Go.Proofs.YtdlolaognnbhpaaDoorW.PrintWords Go.Proofs.YtdlolaognnbhpaaDoorW.PrintLast Go.Proofs.YtdlolaognnbhpaaDoorW.PrintMore
noncomputable section
attribute [local go_sem] max2_int min2_int max_two min_two max_three min_three max_four min_four
set_option linter.unusedVariables false
set_option linter.unusedSimpArgs false
def bookplatelaw18_Own.l0:Nat→List (S60)→List (S53)→Int→Option ((List (S53)))
 |0,_,_,_=>none
 |k+1,x0,x3,x4=>if x4<(x0.length:Int) then (if 0≤x4 then (if x3.length<2513169434916 then (bookplatelaw18_Own.l0 k x0 (x3++[(⟨(rd_T60 x0 x4).f0,(rd_T60 x0 x4).f1,(rd_T60 x0 x4).f2⟩:S53)]) (wrap64 (x4+1))) else (none)) else (none)) else (some x3)
def bookplatelaw18_Own.f (k:Nat) (l0:List (S60)):Option ((List (S53))):=bookplatelaw18_Own.l0 k l0 ([]:List (S53)) 0
set_option maxHeartbeats 8000000 in
set_option maxRecDepth 100000 in
theorem bookplatelaw18_Own.calls (k:Nat) (P0_:Nat→Prop) (A0:Option Addr) (c0:Nat) (l0:List (S60)) (r:List (S53)) (w:World) (hs0:Kd.V k60 60 w w.heap.size (fun k_=>P0_ k_) (.slice A0 l0.length c0) l0) (h:bookplatelaw18_Own.f k l0=some r):
 Calls Tryd.prog 15 #[.slice A0 l0.length c0] w fun e w'=>∃ v0_:Value,e= .returned (v0_)∧Kd.N k53 53 w' w.heap.size (fun k_=>(P0_ k_∨w.heap.size≤k_)) v0_ r∧Below w.heap.size w w':=by
 have hu60:=Tryd.underlying60
 have HO0:=Aside0.mk (show Kd.V k60 60 w w.heap.size (fun k_=>(P0_ k_∨w.heap.size≤k_)) (.slice A0 l0.length c0) l0 from Kd.V_mono hs0 (fun k_ hk=> .inl hk))
 have HB:=Aside0.mk (Below.refl w.heap.size w)
 have H:(bookplatelaw18_Own.l0 k l0 ([]:List (S53)) 0)=some r:=h
 clear h
 have H':=Aside0.mk H
 clear H
 go_enter Tryd.func15,Tryd.ntmps15
 go_wp2
 go_loopg [3,4] k (fun kq v3 v4 w'=>∃ (x3_1:List (S53)) (x4_1:Int),v4= .int .i64 x4_1∧Aside0 (bookplatelaw18_Own.l0 kq l0 x3_1 x4_1=some r)∧Aside0 (kq≤k)∧Aside0 (Kd.V k60 60 w' w.heap.size (fun k_=>(P0_ k_∨w.heap.size≤k_)∧some k_≠(v3:Value).ownBlock) (.slice A0 l0.length c0) l0)∧Aside0 (Kd.N k53 53 w' w.heap.size (fun k_=>(P0_ k_∨w.heap.size≤k_)) v3 x3_1)∧Aside0 (Below w.heap.size w w'))
 case atStart=>exact ⟨(([]:List (S53))),(0),r0_,H',⟨Nat.le_refl _⟩,⟨by (with_reducible repeat (first|apply Kd.V_alloc|apply Kd.V_drewN|apply Kd.V_drew));exact Kd.V_mono HO0.out (fun _ hk=>⟨hk,(by simp [Value.ownBlock])⟩)⟩,⟨by first|exact Kd.R_nil _ _ _ _ _|exact Kd.N_nil _ _ _ _ _|exact Kd.V_nil _ _ _ _ _|exact Kd.Q_nil _ _ _ _ _|exact Kd.S_nil _ _ _ _ _⟩,⟨b0_⟩⟩
 case round=>
  (
 clear H'
 try clear c1
 obtain ⟨x3_1,x4_1,rfl,HA,HK1,HO_0,HO_3,HB⟩:=hrel
 cases gk with
 |zero=>exact absurd HA.out (by simp [bookplatelaw18_Own.l0])
 |succ k1=>
  (
 have H:=HA.out
 clear HA
 simp only [bookplatelaw18_Own.l0] at H
 by_cases c2:x4_1<(l0.length:Int)
 {
 rw [if_pos c2] at H
 have c2b0:decide (x4_1<(l0.length:Int))=true:=decide_eq_true c2
 clear c2
 by_cases c3:0≤x4_1
 {
 rw [if_pos c3] at H
 have c3b0:decide (0≤x4_1)=true:=decide_eq_true c3
 clear c3
 by_cases c4:x3_1.length<2513169434916
 {
 rw [if_pos c4] at H
 have LMc4:=Aside0.mk c4
 clear c4
 obtain ⟨y445,hy445⟩:∃ y_:List (S53),y_=(x3_1++[(⟨(rd_T60 l0 x4_1).f0,(rd_T60 l0 x4_1).f1,(rd_T60 l0 x4_1).f2⟩:S53)]):=⟨_,rfl⟩
 replace H:(bookplatelaw18_Own.l0 k1 l0 y445 (wrap64 (x4_1+1)))=some r:=by first|(rw [hy445];with_reducible exact H)|(have H2_:=(Option.bind_some _ _).symm.trans H;rw [hy445];with_reducible exact H2_)|(have H2_:=(Option.bind_some _ _).symm.trans H;with_reducible exact H2_)|with_reducible exact H|(rw [hy445];exact H)|exact H
 have Ny445:=Aside0.mk hy445
 clear hy445
 have H':=Aside0.mk H
 clear H
 have p444:0≤(x4_1:Int):=od_
 have q444:x4_1<(l0.length:Int):=od_
 obtain ⟨ad444,A444_1,c444_1,A444_2,c444_2,e444,hx444_0,hx444_1,hx444_2,hl444_1,hi444_1,hl444_2,hi444_2⟩:=at_T60 (Kd.V_reads' HO_0.out).2.2 x4_1 p444 q444
 cases e444
 obtain ⟨ce444,hce444,hMe444,hcc444⟩:=Kd.V_get HO_0.out z60 x4_1 p444 (by first|exact q444|exact od_|(have e_:=(Kd.V_reads' HO_0.out).1;omega))
 obtain ⟨ua444_1,uc444_1,ua444_2,uc444_2,rfl,ul444_1,ge444_1,ul444_2,ge444_2⟩:=k60_openF hMe444
 have hv444_1:=hcc444 1 _ rfl
 rw [add_field _ _ 1 (by omega)] at hv444_1
 replace hv444_1:=Option.some.inj (hv444_1.symm.trans hx444_1)
 injection hv444_1 with hva_ hvn_ hvc_
 rw [hva_] at ge444_1
 rw [hvc_] at ul444_1
 have HL444_1:=Aside0.mk (show Kd.V k50 50 _ w.heap.size _ _ ((rd_T60 l0 x4_1).f1) from Kd.V_mk ul444_1 ge444_1)
 clear hva_ hvn_ hvc_ ge444_1 ul444_1
 have hv444_2:=hcc444 2 _ rfl
 rw [add_field _ _ 2 (by omega)] at hv444_2
 replace hv444_2:=Option.some.inj (hv444_2.symm.trans hx444_2)
 injection hv444_2 with hva_ hvn_ hvc_
 rw [hva_] at ge444_2
 rw [hvc_] at ul444_2
 have HL444_2:=Aside0.mk (show Kd.V k50 50 _ w.heap.size _ _ ((rd_T60 l0 x4_1).f2) from Kd.V_mk ul444_2 ge444_2)
 clear hva_ hvn_ hvc_ ge444_2 ul444_2
 clear hcc444 hce444
 have HR444_1:=Aside0.mk hi444_1
 have HC444_1:=Aside0.mk hl444_1
 clear hi444_1 hl444_1
 have HR444_2:=Aside0.mk hi444_2
 have HC444_2:=Aside0.mk hl444_2
 clear hi444_2 hl444_2
 replace p444:=eq_true p444
 replace q444:=eq_true q444
 go_wp2_with (first|((with_reducible refine gate_builtin (b:= .append) (xs:=#[.tmp 11,.tmp 16]) rfl ?_);at_builtin;refine Kd.N_append k53 (w0:=w) w.heap.size rfl (.tmp 11) (.tmp 16) 27 53 (.agg #[(.int .i64 0),(.slice none 0 0),(.slice none 0 0)]) 56 rfl Tryd.underlying27 info53 rfl (by decide) (by omega) u3 x3_1 (⟨(rd_T60 l0 x4_1).f0,(rd_T60 l0 x4_1).f1,(rd_T60 l0 x4_1).f2⟩:S53) [.int .i64 ((rd_T60 l0 x4_1).f0),.slice A444_1 ((rd_T60 l0 x4_1).f1).length c444_1,.slice A444_2 ((rd_T60 l0 x4_1).f2).length c444_2] (fun k_=>(P0_ k_∨w.heap.size≤k_)) (fun k_=>((fun k_=>(P0_ k_∨w.heap.size≤k_))) k_∧some k_≠(u3:Value).ownBlock) rfl rfl ?aP (fun _ hk=>hk) ?aF ?aO ?aB ?aS ?aL ?_;(case aP=>exact (k53_mkF _ _ (⟨(rd_T60 l0 x4_1).f0,(rd_T60 l0 x4_1).f1,(rd_T60 l0 x4_1).f2⟩:S53) (Kd.V_reads' (Kd.V_mono (ok':=(fun k_=>((fun k_=>(P0_ k_∨w.heap.size≤k_))) k_∧some k_≠(u3:Value).ownBlock)) (HL444_1.out) (fun k_ hk=>⟨hk.1,hk.2⟩))).2.1 (Kd.V_F (Kd.V_mono (ok':=(fun k_=>((fun k_=>(P0_ k_∨w.heap.size≤k_))) k_∧some k_≠(u3:Value).ownBlock)) (HL444_1.out) (fun k_ hk=>⟨hk.1,hk.2⟩))) (Kd.V_reads' (Kd.V_mono (ok':=(fun k_=>((fun k_=>(P0_ k_∨w.heap.size≤k_))) k_∧some k_≠(u3:Value).ownBlock)) (HL444_2.out) (fun k_ hk=>⟨hk.1,hk.2⟩))).2.1 (Kd.V_F (Kd.V_mono (ok':=(fun k_=>((fun k_=>(P0_ k_∨w.heap.size≤k_))) k_∧some k_≠(u3:Value).ownBlock)) (HL444_2.out) (fun k_ hk=>⟨hk.1,hk.2⟩)))));(case aB=>exact b0_);(case aF=>exact (fun k_ hk=>(.inr (Nat.le_trans (below_size b0_) hk))));(case aO=>exact (xN_ HO_3));(case aS=>exact (below_size b0_));(case aL=>have:=LMc4.out;omega);intro v446 w5 ho hb hg hat;rw [←Ny445.out] at ho;have n_:=as5_ (Kd.V_afterv (ok:=(fun k_=>(P0_ k_∨w.heap.size≤k_))) (xV_ HO_0) hg hat) (Kd.V_afterv (ok:=(fun k_=>(P0_ k_∨w.heap.size≤k_))) (xV_ HL444_1) hg hat) (Kd.V_afterv (ok:=(fun k_=>(P0_ k_∨w.heap.size≤k_))) (xV_ HL444_2) hg hat) (hb) (ho);clear HO_0 HL444_1 HL444_2 HB;clear HO_3;obtain ⟨HO_0,HL444_1,HL444_2,HB,HO447⟩:=n_;clear ho hb hg hat))
 go_roundg k1
 case measure=>have:=HK1.out;omega
 case rel=>exact ⟨(y445),(wrap64 (x4_1+1)),r0_,H',⟨by have:=HK1.out;omega⟩,⟨by (with_reducible repeat (first|apply Kd.V_alloc|apply Kd.V_drewN|apply Kd.V_drew));exact HO_0.out⟩,⟨by (with_reducible repeat (first|apply Kd.N_alloc|apply Kd.N_drewN|apply Kd.N_drew));exact HO447.out⟩,⟨b0_⟩⟩
 }
 {
 rw [if_neg c4] at H
 exact absurd H (by simp)
 }
 }
 {
 rw [if_neg c3] at H
 exact absurd H (by simp)
 }
 }
 {
 rw [if_neg c2] at H
 have c2b0:decide (x4_1<(l0.length:Int))=false:=decide_eq_false c2
 clear c2
 obtain rfl:=Option.some.inj H
 go_wp2
 go_ret
 exact ⟨_,r1_,by (with_reducible repeat (first|apply Kd.N_alloc|apply Kd.N_drewN|apply Kd.N_drew));exact HO_3.out,b0_⟩
 }
  )
  )
end
end Go.Proofs.YtdlolaognnbhpaaDoor.Pr
