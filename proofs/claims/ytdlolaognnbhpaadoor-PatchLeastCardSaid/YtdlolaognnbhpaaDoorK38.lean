/- A part of the proof of laws of this seat: PatchLeast. Conditions: none of our own. -/
import Derived.Test.YtdlolaognnbhpaaDoorK27
import Derived.Test.YtdlolaognnbhpaaDoorK34
import Derived.Test.YtdlolaognnbhpaaDoorK35
namespace Go.Proofs.YtdlolaognnbhpaaDoor.Rec
open Go.RowKit Go.Proofs.YtdlolaognnbhpaaDoorW.PrintWords Go.Proofs.YtdlolaognnbhpaaDoor.Pr Go.Proofs.YtdlolaognnbhpaaDoor.Lcs Classical
set_option linter.unusedVariables false
theorem opRefEdit:Opens Tryd.prog 60 k60 (fun x=>(-9223372036854775808≤x.f0∧x.f0≤9223372036854775807)∧Small x.f1∧Small x.f2):=
  (Opens.iso (fun x:Re=>(x.f0,x.f1,x.f2)) (fun y=>⟨y.1,y.2.1,y.2.2⟩) (fun _=>rfl) (Opens.struct Tryd.underlying60 (by kernel_rfl) rfl (Opens.more (Opens.int Tryd.underlying3) rfl (by kernel_rfl) (Opens.more opFields rfl (by kernel_rfl) (Opens.one opFields rfl (by kernel_rfl)))))).mono (fun y h=>⟨by have:=h.1;simpa [Lit.wf,IntKind.min,IntKind.max,IntKind.signed,IntKind.bits] using this,h.2.1,h.2.2⟩)
theorem opRefEdits:Opens Tryd.prog 31 (Kd.slice 60 k60) (fun l=>l.length<4611686018427387904∧∀ x∈l,(-9223372036854775808≤x.f0∧x.f0≤9223372036854775807)∧Small x.f1∧Small x.f2):=
  (Opens.slice (B:=56) Tryd.underlying31 opRefEdit (by kernel_rfl) (by kernel_rfl)).mono (fun y h=>⟨by have:=h.1;omega,h.2⟩)
set_option maxRecDepth 100000 in
theorem eds_arg {H:Type} {enc:TypeId×Value→H} {W:World} {base:Nat} {v:Value} {x:DataW H} {ps:List MemPlace} {ts:List TypeId} {ds:List (DataW H)} (j:Nat)
 (hv:Value.okWide Tryd.prog W .any base 31 v) (hsz:(DataW.weightsEach Tryd.prog ts ds).all (· ≤reachBytes)=true) (ht:ts[j]?=some 31) (hd:ds[j]?=some x) (hx:DataW.Trod enc Tryd.prog W 0 (fun _=>true) true 31 v x ps):
 ∃ (A:Option Addr) (l:List Re) (c:Nat),v= .slice A l.length c∧Kd.C k60 W A l.length l∧l.length≤c∧l.length<4611686018427387904∧∀ x∈l,(-9223372036854775808≤x.f0∧x.f0≤9223372036854775807)∧Small x.f1∧Small x.f2:=by
 obtain ⟨l,⟨A,n,hk,hle,hC⟩,hok⟩:=opRefEdits.arg hsz ht hd hx
 obtain ⟨a,len,cap,rfl⟩:=WideShapes.okWide_slice Tryd.underlying31 hv
 have hk2:[Value.slice a len cap]=[Value.slice A l.length n]:=hk
 exact ⟨A,l,n,(List.cons.inj hk2).1,hC,hle,hok.1,hok.2⟩
end Go.Proofs.YtdlolaognnbhpaaDoor.Rec
namespace Go.Proofs.YtdlolaognnbhpaaDoor.Rec
open Go.RowKit Go.Proofs.YtdlolaognnbhpaaDoorW.PrintWords Go.Proofs.YtdlolaognnbhpaaDoor.Pr Go.Proofs.YtdlolaognnbhpaaDoor.Lcs Classical
set_option linter.unusedVariables false
set_option linter.unusedSimpArgs false
theorem reffew_go (l:List Re) (hl:l.length<4611686018427387904) (hs:∀ x∈l,Small x.f1∧Small x.f2):∀ (d i:Nat),i+d=l.length→∃ b,Ev (fun k=>bookplateref18_Few.l0 k l (i:Int)) b∧(b=true→l.length≤8∧∀ x∈l.drop i,Bd 10 x.f1∧Bd 62 x.f2)
 |0,i,h=>⟨decide ((l.length:Int)≤8),Ev.step (g:=fun _=>some (decide ((l.length:Int)≤8))) (fun k=>by rw [bookplateref18_Few.l0,if_neg (by omega)]) (Ev.pure _),fun hb=>⟨by have:=of_decide_eq_true hb;omega,by rw [List.drop_eq_nil_of_le (by omega)];intro y hy;cases hy⟩⟩
 |d+1,i,h=>by {
 have hi:i<l.length:=by omega
 obtain ⟨r,h1,h2⟩:=reffew_go l hl hs d (i+1) (by omega)
 have hx:=hs _ (List.getElem_mem hi)
 obtain ⟨x,x1,x2⟩:=few_ev 0 (l[i]).f1 10 hx.1
 obtain ⟨y,y1,y2⟩:=few_ev 0 (l[i]).f2 62 hx.2
 have e:∀ k,bookplateref18_Few.l0 (k+1) l (i:Int)=if ((l[i]).f1.length:Int)>10 then some false else if ((l[i]).f2.length:Int)>62 then some false else (bookplateref12_Few.f k 0 (l[i]).f1 10).bind fun t=>if t=true then (bookplateref12_Few.f k 0 (l[i]).f2 62).bind fun t=>if t=true then bookplateref18_Few.l0 k l ((i+1:Nat):Int) else some false else some false:=by {
 intro k
 rw [bookplateref18_Few.l0,if_pos (by omega),if_pos (by omega),rdR l i hi,wr1 i (by omega)]
 }
 by_cases c1:((l[i]).f1.length:Int)>10
 {
 exact ⟨false,Ev.step (fun k=>e k) (Ev.pos c1 (Ev.pure _)),fun h=>by cases h⟩
 }
 by_cases c2:((l[i]).f2.length:Int)>62
 {
 exact ⟨false,Ev.step (fun k=>e k) (Ev.neg c1 (Ev.pos c2 (Ev.pure _))),fun h=>by cases h⟩
 }
 cases x with
 |false=>exact ⟨false,Ev.step (fun k=>e k) (Ev.neg c1 (Ev.neg c2 (Ev.bind x1 (Ev.neg (by decide) (Ev.pure _))))),fun h=>by cases h⟩
 |true=>
  (
 cases y with
 |false=>exact ⟨false,Ev.step (fun k=>e k) (Ev.neg c1 (Ev.neg c2 (Ev.bind x1 (Ev.pos rfl (Ev.bind y1 (Ev.neg (by decide) (Ev.pure _))))))),fun h=>by cases h⟩
 |true=>
  (
 refine ⟨r,Ev.step (fun k=>e k) (Ev.neg c1 (Ev.neg c2 (Ev.bind x1 (Ev.pos rfl (Ev.bind y1 (Ev.pos rfl h1)))))),fun hb=>⟨(h2 hb).1,fun z hz=> ?_⟩⟩
 rw [List.drop_eq_getElem_cons hi] at hz
 rcases List.mem_cons.1 hz with rfl|hz
 {
 exact ⟨x2 rfl,y2 rfl⟩
 }
 {
 exact (h2 hb).2 z hz
 }
  )
  )
 }
theorem reffew_ev (l:List Re) (hl:l.length<4611686018427387904) (hs:∀ x∈l,Small x.f1∧Small x.f2):∃ b,Ev (fun k=>bookplateref18_Few.f k l) b∧(b=true→l.length≤8∧∀ x∈l,Bd 10 x.f1∧Bd 62 x.f2):=by
 have:=reffew_go l hl hs l.length 0 (by omega)
 rw [List.drop_zero] at this
 exact this
def er (x:Re):Ed Fd:=(x.f0,x.f1,x.f2)
theorem re_er (l:List Re):(l.map er).map re=l:=by
 rw [List.map_map]
 exact (List.map_congr_left (fun x _=>rfl)).trans (List.map_id l)
theorem size_bound:∀ (L:List (Ed Fd)),(∀ e∈L,e.2.1.length+e.2.2.length≤100)→size L≤100 * L.length
 |[],_=>Nat.zero_le _
 |e::L,h=>by {
 have h1:=h e (List.mem_cons_self ..)
 have h2:=size_bound L (fun x hx=>h x (List.mem_cons_of_mem _ hx))
 rw [size,List.length_cons]
 omega
 }
theorem patchLeast_ev (i:Int) (a:List Fd) (l:List Re) (ha:Small a) (hl:l.length<4611686018427387904) (hs:∀ x∈l,(-9223372036854775808≤x.f0∧x.f0≤9223372036854775807)∧Small x.f1∧Small x.f2):Ev (fun k=>bookplatelaw18_PatchLeast.f k i a l) true:=by
 have yes:Ev (fun k=>bookplatelaw18_PatchLeast.j0 k l true i a) true:=Ev.step (g:=fun _=>some true) (fun k=>by rw [bookplatelaw18_PatchLeast.j0,if_pos rfl]) (Ev.pure _)
 unfold bookplatelaw18_PatchLeast.f
 refine Ev.bind awake_ev (Ev.pos rfl ?_)
 obtain ⟨x,hx,gx⟩:=few_ev i a 12 ha
 obtain ⟨y,hy,gy⟩:=reffew_ev l hl (fun x hx=>(hs x hx).2)
 refine Ev.bind hx ?_
 cases x with
 |false=>exact Ev.neg (by decide) yes
 |true=>
  (
 refine Ev.pos rfl (Ev.bind hy ?_)
 cases y with
 |false=>exact yes
 |true=>
  (
 have ca:=(gx rfl).cnt (by decide)
 obtain ⟨l8,hE⟩:=gy rfl
 obtain ⟨L,hL⟩:∃ L,L=l.map er:=⟨_,rfl⟩
 have hlL:l=L.map re:=by rw [hL,re_er]
 have lL:L.length≤8:=by rw [hL,List.length_map];exact l8
 have hm:∀ e∈L,(-9223372036854775808≤e.1∧e.1≤9223372036854775807)∧Bd 10 e.2.1∧Bd 62 e.2.2:=by {
 intro e he
 rw [hL] at he
 obtain ⟨x,hx,rfl⟩:=List.mem_map.1 he
 exact ⟨(hs x hx).1,(hE x hx).1,(hE x hx).2⟩
 }
 have ce:CntE L:=⟨by omega,fun e he=>⟨(hm e he).1,(hm e he).2.1.cnt (by decide),(hm e he).2.2.cnt (by decide),by have:=(hm e he).2.1.1;omega,by have:=(hm e he).2.2.1;omega⟩⟩
 have hz:size L≤100 * L.length:=size_bound L (fun e he=>by have h1:=(hm e he).2.1.1;have h2:=(hm e he).2.2.1;omega)
 have o:=ours_ev L (by omega)
 rw [←hlL] at o
 have p:=apply_ev i a ca L ce (by omega)
 have sz:=size_ev L (by omega) (by omega)
 refine Ev.step (fun k=>by rw [Bool.not_true,bookplatelaw18_PatchLeast.j0,if_neg (by decide)]) (Ev.bind o (Ev.bind p ?_))
 by_cases h1:vRec i a=true
 {
 by_cases h2:Ordered 0 L∧Fits a L
 {
 by_cases h3:L.all (fun e=>e.2.2.all vField)=true
 {
 by_cases h4:1≤(res a 0 L).length∧(res a 0 L).length≤60
 {
 have ev:av i a L=(i,res a 0 L,0):=by unfold av;rw [if_pos h1,if_pos h2,if_pos h3,if_pos h4]
 rw [ev]
 have la:=(vRec_len h1).2
 have rr:vRec i (res a 0 L)=true:=by {
 have hid:=vRec_id h1
 unfold vRec
 rw [decide_eq_true hid,decide_eq_true h4,Bool.true_and,Bool.true_and,List.all_eq_true]
 intro x hx
 rcases mem_res a L 0 x hx with h|⟨e,he,h⟩
 {
 exact vRec_all h1 x h
 }
 {
 exact List.all_eq_true.1 (List.all_eq_true.1 h3 e he) x h
 }
 }
 have cr:Cnt (res a 0 L):=⟨by omega,fun x hx=>by
   rcases mem_res a L 0 x hx with h|⟨e,he,h⟩
   · exact ca.2 x h
   · exact (ce.2 e he).2.2.1.2 x h⟩
 have le:=least a L h2.1 h2.2
 refine Ev.pos rfl (Ev.bind (diffs_ok ca cr h1 rr rfl) (Ev.pos rfl (Ev.bind (sizes_ok la h4.2) (Ev.bind o (Ev.bind sz (Ev.pos (show ((size (edits a (res a 0 L)):Nat):Int)≤((size L:Nat):Int) by omega) (Ev.bind (refrec_ev i _ cr.1 cr.vals) (Ev.pos rr ((Ev.pure _).cast ?_)))))))))
 simp
 }
 {
 have ev:av i a L=(0,[],3):=by unfold av;rw [if_pos h1,if_pos h2,if_pos h3,if_neg h4]
 rw [ev]
 exact Ev.neg (by decide) (Ev.pure _)
 }
 }
 {
 have ev:av i a L=(0,[],18):=by unfold av;rw [if_pos h1,if_pos h2,if_neg h3]
 rw [ev]
 exact Ev.neg (by decide) (Ev.pure _)
 }
 }
 {
 have ev:av i a L=(0,[],13):=by unfold av;rw [if_pos h1,if_neg h2]
 rw [ev]
 exact Ev.neg (by decide) (Ev.pure _)
 }
 }
 {
 have ev:av i a L=(0,[],1):=by unfold av;rw [if_neg h1]
 rw [ev]
 exact Ev.neg (by decide) (Ev.pure _)
 }
  )
  )
end Go.Proofs.YtdlolaognnbhpaaDoor.Rec
