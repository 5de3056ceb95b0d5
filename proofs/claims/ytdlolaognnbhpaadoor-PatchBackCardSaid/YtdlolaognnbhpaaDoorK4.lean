/- A part of the proof of laws of this seat: PatchBack, PatchDiff, PatchLeast, PatchMetric. Conditions: none of our own. -/
import Derived.Lib.SliceRun
import Derived.RangeFuncNested
import Derived.RangeFuncBound
import Derived.RangeFuncCalls
import Derived.RangeFuncLeaves
import Derived.Shelf.Abstract
import Derived.Shelf.RegionOpen
import Derived.OwnWalkIn
import Derived.TacticsInMore
import Derived.LoopNIn
import Derived.LoopIn
import Derived.Maps.OwnIn
import Derived.Test.YtdlolaognnbhpaaDoorK3
namespace Go.Proofs.YtdlolaognnbhpaaDoor.Pr
open Go.RowKit Go.Proofs.YtdlolaognnbhpaaDoorW.PrintWords Go.Proofs.YtdlolaognnbhpaaDoorW.PrintLast Go.Proofs.YtdlolaognnbhpaaDoorW.PrintMore
noncomputable section
attribute [local go_sem] max2_int min2_int max_two min_two max_three min_three max_four min_four
set_option linter.unusedVariables false
set_option linter.unusedSimpArgs false
def errW:Option Int→Value
 |none=> .nilIface
 |some c=> .iface 0 (.int .i64 c)
theorem errW_none:errW none= .nilIface:=rfl
theorem errW_some (c:Int):errW (some c)= .iface 0 (.int .i64 c):=rfl
theorem info3:(Tryd.prog.info? 3).map (fun i=>(i.zero,i.size,i.bytes))=some (some (.int .i64 0),1,8):=by kernel_rfl
theorem info50:(Tryd.prog.info? 50).map (fun i=>(i.zero,i.size,i.bytes))=some (some (.agg #[(.string ⟨#[]⟩),(.int .u8 0),(.int .u8 0),(.slice none 0 0)]),4,48):=by kernel_rfl
theorem info53:(Tryd.prog.info? 53).map (fun i=>(i.zero,i.size,i.bytes))=some (some (.agg #[(.int .i64 0),(.slice none 0 0),(.slice none 0 0)]),3,56):=by kernel_rfl
theorem info55:(Tryd.prog.info? 55).map (fun i=>(i.zero,i.size,i.bytes))=some (some (.agg #[(.int .u8 0),(.string ⟨#[]⟩)]),2,24):=by kernel_rfl
theorem info60:(Tryd.prog.info? 60).map (fun i=>(i.zero,i.size,i.bytes))=some (some (.agg #[(.int .i64 0),(.slice none 0 0),(.slice none 0 0)]),3,56):=by kernel_rfl
theorem info72:(Tryd.prog.info? 72).map (fun i=>(i.zero,i.size,i.bytes))=some (some (.slice none 0 0),1,24):=by kernel_rfl
structure S55 where
 f0:Int
 f1:ByteArray
def z55:S55:=⟨(0:Int),(⟨#[]⟩:ByteArray)⟩
def k55:Kd S55:=Kd.iso (Kd.pair (Kd.int .u8) Kd.string) (fun x:S55=>(x.f0,x.f1))
theorem k55_heap:Kd.Heap k55:=Kd.heap_iso _ (Kd.heap_pair (Kd.heap_int .u8) Kd.heap_string)
theorem k55_open {w:World} {x:S55} {cs:List Value} (h:k55.K w x cs):cs=[.int .u8 x.f0,.string x.f1]:=by
 obtain ⟨_,_,rfl,rfl,rfl⟩:=h
 exact rfl
theorem k55_mkM (w:World) (base:Nat) (ok:Nat→Prop) (x:S55):k55.M w base ok x [.int .u8 x.f0,.string x.f1]:=⟨[.int .u8 x.f0],[.string x.f1],rfl,rfl,rfl⟩
def rd_T55 (xs:List S55) (i:Int):S55:=xs.getD i.toNat z55
theorem at_T55 {w:World} {A:Option Addr} {n:Nat} {xs:List S55} (h:Kd.C k55 w A n xs) (i:Int) (h0:0≤i) (h1:i<n):∃ ad,A=some ad∧w.cell? (ad.add (i.toNat * 2))=some (.int .u8 (rd_T55 xs i).f0)∧w.cell? ⟨(ad.add (i.toNat * 2)).block,(ad.add (i.toNat * 2)).off+1,none⟩=some (.string (rd_T55 xs i).f1):=by
 obtain ⟨ad,c,e,_,hK,hc0⟩:=Kd.C_get h z55 i h0 h1
 have hc:∀ j u,c[j]?=some u→w.cell? (ad.add (i.toNat * 2+j))=some u:=hc0
 obtain rfl:=k55_open hK
 exact ⟨ad,e,hc 0 _ rfl,by rw [←add_field _ _ 1 (by omega)];exact hc 1 _ rfl⟩
def rd_L4 (xs:List (List Int)) (i:Int):(List Int):=xs.getD i.toNat ([]:List Int)
theorem at_L4 {w:World} {A:Option Addr} {n:Nat} {xs:List (List Int)} (h:Kd.C (Kd.slice 3 (Kd.int .i64)) w A n xs) (i:Int) (h0:0≤i) (h1:i<n):∃ ad A0 c0,A=some ad∧w.cell? (ad.add i.toNat)=some (.slice A0 (rd_L4 xs i).length c0)∧(rd_L4 xs i).length≤c0∧(Kd.int .i64).C w A0 (rd_L4 xs i).length (rd_L4 xs i):=by
 obtain ⟨ad,c,e,_,hK,hc0⟩:=Kd.C_get h ([]:List Int) i h0 h1
 have hc:∀ j u,c[j]?=some u→w.cell? (ad.add (i.toNat * 1+j))=some u:=hc0
 obtain ⟨A0,c0,rfl,l0,g0⟩:=hK
 exact ⟨ad,A0,c0,e,by have hq:=hc 0 _ rfl;rwa [Nat.mul_one,Nat.add_zero] at hq,l0,g0⟩
structure S47 where
 f0:Int
 f1:Int
def z47:S47:=⟨(0:Int),(0:Int)⟩
def k47:Kd S47:=Kd.iso (Kd.pair (Kd.int .u8) (Kd.int .u8)) (fun x:S47=>(x.f0,x.f1))
theorem k47_heap:Kd.Heap k47:=Kd.heap_iso _ (Kd.heap_pair (Kd.heap_int .u8) (Kd.heap_int .u8))
theorem k47_open {w:World} {x:S47} {cs:List Value} (h:k47.K w x cs):cs=[.int .u8 x.f0,.int .u8 x.f1]:=by
 obtain ⟨_,_,rfl,rfl,rfl⟩:=h
 exact rfl
theorem k47_mk (w:World) (x:S47):k47.K w x [.int .u8 x.f0,.int .u8 x.f1]:=⟨[.int .u8 x.f0],[.int .u8 x.f1],rfl,rfl,rfl⟩
theorem k47_mkM (w:World) (base:Nat) (ok:Nat→Prop) (x:S47):k47.M w base ok x [.int .u8 x.f0,.int .u8 x.f1]:=⟨[.int .u8 x.f0],[.int .u8 x.f1],rfl,rfl,rfl⟩
structure S50 where
 f0:ByteArray
 f1:S47
 f2:(List S55)
def z50:S50:=⟨(⟨#[]⟩:ByteArray),z47,([]:List S55)⟩
def k50:Kd S50:=Kd.iso (Kd.pair Kd.string (Kd.pair k47 (Kd.slice 55 k55))) (fun x:S50=>(x.f0,x.f1,x.f2))
theorem k50_heap:Kd.Heap k50:=Kd.heap_iso _ (Kd.heap_pair Kd.heap_string (Kd.heap_pair k47_heap (Kd.heap_slice 55 k55_heap)))
theorem k50_open {w:World} {x:S50} {cs:List Value} (h:k50.K w x cs):∃ A3 c3,cs=[.string x.f0,.int .u8 x.f1.f0,.int .u8 x.f1.f1,.slice A3 x.f2.length c3]∧x.f2.length≤c3∧k55.C w A3 x.f2.length x.f2:=by
 obtain ⟨_,_,rfl,rfl,⟨_,_,rfl,s1,⟨A3,c3,rfl,l3,g3⟩⟩⟩:=h
 obtain rfl:=k47_open s1
 exact ⟨A3,c3,rfl,l3,g3⟩
theorem k50_mk (w:World) (x:S50) {A3:Option Addr} {c3:Nat} (l3:x.f2.length≤c3) (g3:k55.C w A3 x.f2.length x.f2):k50.K w x [.string x.f0,.int .u8 x.f1.f0,.int .u8 x.f1.f1,.slice A3 x.f2.length c3]:=⟨[.string x.f0],[.int .u8 x.f1.f0,.int .u8 x.f1.f1,.slice A3 x.f2.length c3],rfl,rfl,⟨[.int .u8 x.f1.f0,.int .u8 x.f1.f1],[.slice A3 x.f2.length c3],rfl,(k47_mk w x.f1 ),⟨A3,c3,rfl,l3,g3⟩⟩⟩
theorem k50_mkM (w:World) (base:Nat) (ok:Nat→Prop) (x:S50) {v3:Value} (g3:k55.R 55 w base ok v3 x.f2):k50.M w base ok x [.string x.f0,.int .u8 x.f1.f0,.int .u8 x.f1.f1,v3]:=⟨[.string x.f0],[.int .u8 x.f1.f0,.int .u8 x.f1.f1,v3],rfl,rfl,⟨[.int .u8 x.f1.f0,.int .u8 x.f1.f1],[v3],rfl,(k47_mkM w base ok x.f1 ),⟨v3,rfl,g3⟩⟩⟩
theorem k50_mkF (W:World) (ok:Nat→Prop) (x:S50) {A3:Option Addr} {c3:Nat} (l3:x.f2.length≤c3) (g3:Kd.F k55 W ok A3 x.f2.length x.f2):Kd.FK k50 W ok x [.string x.f0,.int .u8 x.f1.f0,.int .u8 x.f1.f1,.slice A3 x.f2.length c3]:=fun W2 hW=>k50_mk W2 x l3 (g3 W2 hW)
def rd_T50 (xs:List S50) (i:Int):S50:=xs.getD i.toNat z50
theorem at_T50 {w:World} {A:Option Addr} {n:Nat} {xs:List S50} (h:Kd.C k50 w A n xs) (i:Int) (h0:0≤i) (h1:i<n):∃ ad A3 c3,A=some ad∧w.cell? (ad.add (i.toNat * 4))=some (.string (rd_T50 xs i).f0)∧w.cell? ⟨(ad.add (i.toNat * 4)).block,(ad.add (i.toNat * 4)).off+1,none⟩=some (.int .u8 (rd_T50 xs i).f1.f0)∧w.cell? ⟨(ad.add (i.toNat * 4)).block,(ad.add (i.toNat * 4)).off+2,none⟩=some (.int .u8 (rd_T50 xs i).f1.f1)∧w.cell? ⟨(ad.add (i.toNat * 4)).block,(ad.add (i.toNat * 4)).off+3,none⟩=some (.slice A3 (rd_T50 xs i).f2.length c3)∧(rd_T50 xs i).f2.length≤c3∧k55.C w A3 (rd_T50 xs i).f2.length (rd_T50 xs i).f2:=by
 obtain ⟨ad,c,e,_,hK,hc0⟩:=Kd.C_get h z50 i h0 h1
 have hc:∀ j u,c[j]?=some u→w.cell? (ad.add (i.toNat * 4+j))=some u:=hc0
 obtain ⟨A3,c3,rfl,l3,g3⟩:=k50_open hK
 exact ⟨ad,A3,c3,e,hc 0 _ rfl,by rw [←add_field _ _ 1 (by omega)];exact hc 1 _ rfl,by rw [←add_field _ _ 2 (by omega)];exact hc 2 _ rfl,by rw [←add_field _ _ 3 (by omega)];exact hc 3 _ rfl,l3,g3⟩
structure S53 where
 f0:Int
 f1:(List S50)
 f2:(List S50)
def z53:S53:=⟨(0:Int),([]:List S50),([]:List S50)⟩
def k53:Kd S53:=Kd.iso (Kd.pair (Kd.int .i64) (Kd.pair (Kd.slice 50 k50) (Kd.slice 50 k50))) (fun x:S53=>(x.f0,x.f1,x.f2))
theorem k53_open {w:World} {x:S53} {cs:List Value} (h:k53.K w x cs):∃ A1 c1 A2 c2,cs=[.int .i64 x.f0,.slice A1 x.f1.length c1,.slice A2 x.f2.length c2]∧x.f1.length≤c1∧k50.C w A1 x.f1.length x.f1∧x.f2.length≤c2∧k50.C w A2 x.f2.length x.f2:=by
 obtain ⟨_,_,rfl,rfl,⟨_,_,rfl,⟨A1,c1,rfl,l1,g1⟩,⟨A2,c2,rfl,l2,g2⟩⟩⟩:=h
 exact ⟨A1,c1,A2,c2,rfl,l1,g1,l2,g2⟩
theorem k53_openM {w:World} {base:Nat} {ok:Nat→Prop} {x:S53} {cs:List Value} (h:k53.M w base ok x cs):∃ v1 v2,cs=[.int .i64 x.f0,v1,v2]∧k50.R 50 w base ok v1 x.f1∧k50.R 50 w base ok v2 x.f2:=by
 obtain ⟨_,_,rfl,rfl,⟨_,_,rfl,⟨v1,rfl,g1⟩,⟨v2,rfl,g2⟩⟩⟩:=h
 exact ⟨v1,v2,rfl,g1,g2⟩
theorem k53_mk (w:World) (x:S53) {A1:Option Addr} {c1:Nat} (l1:x.f1.length≤c1) (g1:k50.C w A1 x.f1.length x.f1) {A2:Option Addr} {c2:Nat} (l2:x.f2.length≤c2) (g2:k50.C w A2 x.f2.length x.f2):k53.K w x [.int .i64 x.f0,.slice A1 x.f1.length c1,.slice A2 x.f2.length c2]:=⟨[.int .i64 x.f0],[.slice A1 x.f1.length c1,.slice A2 x.f2.length c2],rfl,rfl,⟨[.slice A1 x.f1.length c1],[.slice A2 x.f2.length c2],rfl,⟨A1,c1,rfl,l1,g1⟩,⟨A2,c2,rfl,l2,g2⟩⟩⟩
theorem k53_mkM (w:World) (base:Nat) (ok:Nat→Prop) (x:S53) {v1:Value} (g1:k50.R 50 w base ok v1 x.f1) {v2:Value} (g2:k50.R 50 w base ok v2 x.f2):k53.M w base ok x [.int .i64 x.f0,v1,v2]:=⟨[.int .i64 x.f0],[v1,v2],rfl,rfl,⟨[v1],[v2],rfl,⟨v1,rfl,g1⟩,⟨v2,rfl,g2⟩⟩⟩
theorem k53_openF {W:World} {ok:Nat→Prop} {x:S53} {cs:List Value} (h:Kd.FK k53 W ok x cs):∃ A1 c1 A2 c2,cs=[.int .i64 x.f0,.slice A1 x.f1.length c1,.slice A2 x.f2.length c2]∧x.f1.length≤c1∧Kd.F k50 W ok A1 x.f1.length x.f1∧x.f2.length≤c2∧Kd.F k50 W ok A2 x.f2.length x.f2:=by
 obtain ⟨A1,c1,A2,c2,rfl,l1,_,l2,_⟩:=k53_open (Kd.FK_now h)
 exact ⟨A1,c1,A2,c2,rfl,l1,(fun W' hW=>by obtain ⟨A1_,c1_,A2_,c2_,he,l1_,g1_,l2_,g2_⟩:=k53_open (h W' hW);injection (Option.some.inj (show some (Value.slice A1 x.f1.length c1)=some (Value.slice A1_ x.f1.length c1_) from congrArg (fun l=>l[1]?) he)) with ha_ _ _;rw [ha_];exact g1_),l2,(fun W' hW=>by obtain ⟨A1_,c1_,A2_,c2_,he,l1_,g1_,l2_,g2_⟩:=k53_open (h W' hW);injection (Option.some.inj (show some (Value.slice A2 x.f2.length c2)=some (Value.slice A2_ x.f2.length c2_) from congrArg (fun l=>l[2]?) he)) with ha_ _ _;rw [ha_];exact g2_)⟩
theorem k53_mkF (W:World) (ok:Nat→Prop) (x:S53) {A1:Option Addr} {c1:Nat} (l1:x.f1.length≤c1) (g1:Kd.F k50 W ok A1 x.f1.length x.f1) {A2:Option Addr} {c2:Nat} (l2:x.f2.length≤c2) (g2:Kd.F k50 W ok A2 x.f2.length x.f2):Kd.FK k53 W ok x [.int .i64 x.f0,.slice A1 x.f1.length c1,.slice A2 x.f2.length c2]:=fun W2 hW=>k53_mk W2 x l1 (g1 W2 hW) l2 (g2 W2 hW)
def rd_T53 (xs:List S53) (i:Int):S53:=xs.getD i.toNat z53
theorem at_T53 {w:World} {A:Option Addr} {n:Nat} {xs:List S53} (h:Kd.C k53 w A n xs) (i:Int) (h0:0≤i) (h1:i<n):∃ ad A1 c1 A2 c2,A=some ad∧w.cell? (ad.add (i.toNat * 3))=some (.int .i64 (rd_T53 xs i).f0)∧w.cell? ⟨(ad.add (i.toNat * 3)).block,(ad.add (i.toNat * 3)).off+1,none⟩=some (.slice A1 (rd_T53 xs i).f1.length c1)∧w.cell? ⟨(ad.add (i.toNat * 3)).block,(ad.add (i.toNat * 3)).off+2,none⟩=some (.slice A2 (rd_T53 xs i).f2.length c2)∧(rd_T53 xs i).f1.length≤c1∧k50.C w A1 (rd_T53 xs i).f1.length (rd_T53 xs i).f1∧(rd_T53 xs i).f2.length≤c2∧k50.C w A2 (rd_T53 xs i).f2.length (rd_T53 xs i).f2:=by
 obtain ⟨ad,c,e,_,hK,hc0⟩:=Kd.C_get h z53 i h0 h1
 have hc:∀ j u,c[j]?=some u→w.cell? (ad.add (i.toNat * 3+j))=some u:=hc0
 obtain ⟨A1,c1,A2,c2,rfl,l1,g1,l2,g2⟩:=k53_open hK
 exact ⟨ad,A1,c1,A2,c2,e,hc 0 _ rfl,by rw [←add_field _ _ 1 (by omega)];exact hc 1 _ rfl,by rw [←add_field _ _ 2 (by omega)];exact hc 2 _ rfl,l1,g1,l2,g2⟩
structure S60 where
 f0:Int
 f1:(List S50)
 f2:(List S50)
def z60:S60:=⟨(0:Int),([]:List S50),([]:List S50)⟩
def k60:Kd S60:=Kd.iso (Kd.pair (Kd.int .i64) (Kd.pair (Kd.slice 50 k50) (Kd.slice 50 k50))) (fun x:S60=>(x.f0,x.f1,x.f2))
theorem k60_heap:Kd.Heap k60:=Kd.heap_iso _ (Kd.heap_pair (Kd.heap_int .i64) (Kd.heap_pair (Kd.heap_slice 50 k50_heap) (Kd.heap_slice 50 k50_heap)))
theorem k60_open {w:World} {x:S60} {cs:List Value} (h:k60.K w x cs):∃ A1 c1 A2 c2,cs=[.int .i64 x.f0,.slice A1 x.f1.length c1,.slice A2 x.f2.length c2]∧x.f1.length≤c1∧k50.C w A1 x.f1.length x.f1∧x.f2.length≤c2∧k50.C w A2 x.f2.length x.f2:=by
 obtain ⟨_,_,rfl,rfl,⟨_,_,rfl,⟨A1,c1,rfl,l1,g1⟩,⟨A2,c2,rfl,l2,g2⟩⟩⟩:=h
 exact ⟨A1,c1,A2,c2,rfl,l1,g1,l2,g2⟩
theorem k60_mk (w:World) (x:S60) {A1:Option Addr} {c1:Nat} (l1:x.f1.length≤c1) (g1:k50.C w A1 x.f1.length x.f1) {A2:Option Addr} {c2:Nat} (l2:x.f2.length≤c2) (g2:k50.C w A2 x.f2.length x.f2):k60.K w x [.int .i64 x.f0,.slice A1 x.f1.length c1,.slice A2 x.f2.length c2]:=⟨[.int .i64 x.f0],[.slice A1 x.f1.length c1,.slice A2 x.f2.length c2],rfl,rfl,⟨[.slice A1 x.f1.length c1],[.slice A2 x.f2.length c2],rfl,⟨A1,c1,rfl,l1,g1⟩,⟨A2,c2,rfl,l2,g2⟩⟩⟩
theorem k60_mkM (w:World) (base:Nat) (ok:Nat→Prop) (x:S60) {v1:Value} (g1:k50.R 50 w base ok v1 x.f1) {v2:Value} (g2:k50.R 50 w base ok v2 x.f2):k60.M w base ok x [.int .i64 x.f0,v1,v2]:=⟨[.int .i64 x.f0],[v1,v2],rfl,rfl,⟨[v1],[v2],rfl,⟨v1,rfl,g1⟩,⟨v2,rfl,g2⟩⟩⟩
theorem k60_openF {W:World} {ok:Nat→Prop} {x:S60} {cs:List Value} (h:Kd.FK k60 W ok x cs):∃ A1 c1 A2 c2,cs=[.int .i64 x.f0,.slice A1 x.f1.length c1,.slice A2 x.f2.length c2]∧x.f1.length≤c1∧Kd.F k50 W ok A1 x.f1.length x.f1∧x.f2.length≤c2∧Kd.F k50 W ok A2 x.f2.length x.f2:=by
 obtain ⟨A1,c1,A2,c2,rfl,l1,_,l2,_⟩:=k60_open (Kd.FK_now h)
 exact ⟨A1,c1,A2,c2,rfl,l1,(fun W' hW=>by obtain ⟨A1_,c1_,A2_,c2_,he,l1_,g1_,l2_,g2_⟩:=k60_open (h W' hW);injection (Option.some.inj (show some (Value.slice A1 x.f1.length c1)=some (Value.slice A1_ x.f1.length c1_) from congrArg (fun l=>l[1]?) he)) with ha_ _ _;rw [ha_];exact g1_),l2,(fun W' hW=>by obtain ⟨A1_,c1_,A2_,c2_,he,l1_,g1_,l2_,g2_⟩:=k60_open (h W' hW);injection (Option.some.inj (show some (Value.slice A2 x.f2.length c2)=some (Value.slice A2_ x.f2.length c2_) from congrArg (fun l=>l[2]?) he)) with ha_ _ _;rw [ha_];exact g2_)⟩
theorem k60_mkF (W:World) (ok:Nat→Prop) (x:S60) {A1:Option Addr} {c1:Nat} (l1:x.f1.length≤c1) (g1:Kd.F k50 W ok A1 x.f1.length x.f1) {A2:Option Addr} {c2:Nat} (l2:x.f2.length≤c2) (g2:Kd.F k50 W ok A2 x.f2.length x.f2):Kd.FK k60 W ok x [.int .i64 x.f0,.slice A1 x.f1.length c1,.slice A2 x.f2.length c2]:=fun W2 hW=>k60_mk W2 x l1 (g1 W2 hW) l2 (g2 W2 hW)
def rd_T60 (xs:List S60) (i:Int):S60:=xs.getD i.toNat z60
theorem at_T60 {w:World} {A:Option Addr} {n:Nat} {xs:List S60} (h:Kd.C k60 w A n xs) (i:Int) (h0:0≤i) (h1:i<n):∃ ad A1 c1 A2 c2,A=some ad∧w.cell? (ad.add (i.toNat * 3))=some (.int .i64 (rd_T60 xs i).f0)∧w.cell? ⟨(ad.add (i.toNat * 3)).block,(ad.add (i.toNat * 3)).off+1,none⟩=some (.slice A1 (rd_T60 xs i).f1.length c1)∧w.cell? ⟨(ad.add (i.toNat * 3)).block,(ad.add (i.toNat * 3)).off+2,none⟩=some (.slice A2 (rd_T60 xs i).f2.length c2)∧(rd_T60 xs i).f1.length≤c1∧k50.C w A1 (rd_T60 xs i).f1.length (rd_T60 xs i).f1∧(rd_T60 xs i).f2.length≤c2∧k50.C w A2 (rd_T60 xs i).f2.length (rd_T60 xs i).f2:=by
 obtain ⟨ad,c,e,_,hK,hc0⟩:=Kd.C_get h z60 i h0 h1
 have hc:∀ j u,c[j]?=some u→w.cell? (ad.add (i.toNat * 3+j))=some u:=hc0
 obtain ⟨A1,c1,A2,c2,rfl,l1,g1,l2,g2⟩:=k60_open hK
 exact ⟨ad,A1,c1,A2,c2,e,hc 0 _ rfl,by rw [←add_field _ _ 1 (by omega)];exact hc 1 _ rfl,by rw [←add_field _ _ 2 (by omega)];exact hc 2 _ rfl,l1,g1,l2,g2⟩
end
end Go.Proofs.YtdlolaognnbhpaaDoor.Pr
namespace Go.Proofs.YtdlolaognnbhpaaDoor.Pr
open Go.RowKit Go.Proofs.YtdlolaognnbhpaaDoorW.PrintWords Go.Proofs.YtdlolaognnbhpaaDoorW.PrintLast Go.Proofs.YtdlolaognnbhpaaDoorW.PrintMore
noncomputable section
attribute [local go_sem] max2_int min2_int max_two min_two max_three min_three max_four min_four
set_option linter.unusedVariables false
set_option linter.unusedSimpArgs false
theorem eqA47 (d:Nat) (w:World) (x0 y0:Int) (x1 y1:Int):
 (Op.equalIn (d+2) 47 (.agg #[.int .u8 x0,.int .u8 x1]) (.agg #[.int .u8 y0,.int .u8 y1])).run Tryd.prog w= .ok (x0==y0 && (x1==y1)) w:=by
 have h5:∀ (x y:Int) (w:World),(Op.equalIn (d+1) 5 (.int .u8 x) (.int .u8 y)).run Tryd.prog w= .ok (x==y) w:=by intro x y w;go_simp
 rw [show d+2=(d+1)+1 from rfl,Op.equalIn]
 simp [run_underlying Tryd.underlying47,go_sem,List.range']
 by_cases h0:x0=y0<;>by_cases h1:x1=y1<;>simp [h0,h1,go_sem]
end
end Go.Proofs.YtdlolaognnbhpaaDoor.Pr
namespace Go.Proofs.YtdlolaognnbhpaaDoor.Pr
open Go.RowKit Go.Proofs.YtdlolaognnbhpaaDoorW.PrintWords Go.Proofs.YtdlolaognnbhpaaDoorW.PrintLast Go.Proofs.YtdlolaognnbhpaaDoorW.PrintMore
noncomputable section
attribute [local go_sem] max2_int min2_int max_two min_two max_three min_three max_four min_four
set_option linter.unusedVariables false
set_option linter.unusedSimpArgs false
theorem eqA55 (d:Nat) (w:World) (x0 y0:Int) (x1 y1:ByteArray):
 (Op.equalIn (d+2) 55 (.agg #[.int .u8 x0,.string x1]) (.agg #[.int .u8 y0,.string y1])).run Tryd.prog w= .ok (x0==y0 && (x1.toList==y1.toList)) w:=by
 refine eqA_of Tryd.underlying55 (by kernel_rfl) ?_
 refine eqf_cons (by rfl) (by go_simp;rfl) (by go_simp;rfl) (by go_simp) ?_
 exact eqf_last (by rfl) (by go_simp;rfl) (by go_simp;rfl) (by go_simp)
end
end Go.Proofs.YtdlolaognnbhpaaDoor.Pr
namespace Go.Proofs.YtdlolaognnbhpaaDoor.Pr
open Go.RowKit Go.Proofs.YtdlolaognnbhpaaDoorW.PrintWords Go.Proofs.YtdlolaognnbhpaaDoorW.PrintLast Go.Proofs.YtdlolaognnbhpaaDoorW.PrintMore
noncomputable section
attribute [local go_sem] max2_int min2_int max_two min_two max_three min_three max_four min_four
set_option linter.unusedVariables false
set_option linter.unusedSimpArgs false
attribute [local go_sem high] eqA47 eqA55
def api_Sub_56.l0:Nat→List (S55)→List (S55)→Int→Int→Option (Bool)
 |0,_,_,_,_=>none
 |k+1,x0,x1,x12,x13=>if x13<x12 then (if 0≤x13 then (if x13<(x0.length:Int) then (if x13<(x1.length:Int) then (if (!(((rd_T55 x0 x13).f0)==((rd_T55 x1 x13).f0))||(!((((rd_T55 x0 x13).f1).toList)==(((rd_T55 x1 x13).f1).toList))))=true then (some false) else (api_Sub_56.l0 k x0 x1 x12 (wrap64 (x13+1)))) else (none)) else (none)) else (none)) else (some true)
def api_Sub_56.f (k:Nat) (l0:List (S55)) (l1:List (S55)):Option (Bool):=if (l0.length:Int)=(l1.length:Int) then (api_Sub_56.l0 k l0 l1 (l0.length:Int) 0) else (some false)
set_option maxHeartbeats 8000000 in
set_option maxRecDepth 100000 in
theorem api_Sub_56.calls (k:Nat) (A0:Option Addr) (c0:Nat) (l0:List (S55)) (A1:Option Addr) (c1:Nat) (l1:List (S55)) (r:Bool) (w:World) (hr0:Kd.C k55 w A0 l0.length l0) (hc0:l0.length≤c0) (hr1:Kd.C k55 w A1 l1.length l1) (hc1:l1.length≤c1) (h:api_Sub_56.f k l0 l1=some r):
 Calls Tryd.prog 56 #[.slice A0 l0.length c0,.slice A1 l1.length c1] w fun e w'=>e= .returned (.bool r)∧Drawn0 w w':=by
 have hu55:=Tryd.underlying55
 have HR0:=Aside0.mk hr0
 have HC0:=Aside0.mk hc0
 clear hr0 hc0
 have HR1:=Aside0.mk hr1
 have HC1:=Aside0.mk hc1
 clear hr1 hc1
 have H:(if (l0.length:Int)=(l1.length:Int) then (api_Sub_56.l0 k l0 l1 (l0.length:Int) 0) else (some false))=some r:=h
 clear h
 by_cases c3:(l0.length:Int)=(l1.length:Int)
 {
 rw [if_pos c3] at H
 have c3b0:((l0.length:Int)==(l1.length:Int))=true:=beq_iff_eq.mpr c3
 have c3b1:((l0.length:Int) !=(l1.length:Int))=false:=bne_eq_false_iff_eq.mpr c3
 have c3b2:(l0.length==l1.length)=true:=by first|simpa using c3|(simp at c3⊢;omega)
 clear c3
 have H':=Aside0.mk H
 clear H
 go_enter Tryd.func56,Tryd.ntmps56
 go_wp2
 repeat (go_quiet (fail);try go_wp2)
 go_loopg [13] k (fun kq v13 w'=>∃ (x13_1:Int),v13= .int .i64 x13_1∧Aside0 (api_Sub_56.l0 kq l0 l1 (l0.length:Int) x13_1=some r)∧Aside0 (kq≤k)∧Drawn0 w w')
 case atStart=>exact ⟨(0),r0_,H',⟨Nat.le_refl _⟩,d0_⟩
 case round=>
  (
 clear H'
 try clear c1
 try clear p2
 try clear c3
 try clear c3b0
 try clear c3b1
 try clear c3b2
 obtain ⟨x13_1,rfl,HA,HK1,⟨m1,rfl⟩⟩:=hrel
 cases gk with
 |zero=>exact absurd HA.out (by simp [api_Sub_56.l0])
 |succ k1=>
  (
 have H:=HA.out
 clear HA
 simp only [api_Sub_56.l0] at H
 by_cases c4:x13_1<(l0.length:Int)
 {
 rw [if_pos c4] at H
 have c4b0:decide (x13_1<(l0.length:Int))=true:=decide_eq_true c4
 clear c4
 by_cases c5:0≤x13_1
 {
 rw [if_pos c5] at H
 have c5b0:decide (0≤x13_1)=true:=decide_eq_true c5
 clear c5
 by_cases c6:x13_1<(l0.length:Int)
 {
 rw [if_pos c6] at H
 have c6b0:decide (x13_1<(l0.length:Int))=true:=decide_eq_true c6
 clear c6
 by_cases c7:x13_1<(l1.length:Int)
 {
 rw [if_pos c7] at H
 have c7b0:decide (x13_1<(l1.length:Int))=true:=decide_eq_true c7
 clear c7
 by_cases c8:(!(((rd_T55 l0 x13_1).f0)==((rd_T55 l1 x13_1).f0))||(!((((rd_T55 l0 x13_1).f1).toList)==(((rd_T55 l1 x13_1).f1).toList))))=true
 {
 rw [if_pos c8] at H
 have c8b0:(!(((rd_T55 l0 x13_1).f0)==((rd_T55 l1 x13_1).f0))||(!((((rd_T55 l0 x13_1).f1).toList)==(((rd_T55 l1 x13_1).f1).toList))))=true:=c8
 clear c8
 obtain rfl:=Option.some.inj H
 have p101:0≤(x13_1:Int):=od_
 have q101:x13_1<(l0.length:Int):=od_
 obtain ⟨ad101,e101,hx101_0,hx101_1⟩:=at_T55 HR0.out x13_1 p101 q101
 cases e101
 replace p101:=eq_true p101
 replace q101:=eq_true q101
 have p102:0≤(x13_1:Int):=od_
 have q102:x13_1<(l1.length:Int):=od_
 obtain ⟨ad102,e102,hx102_0,hx102_1⟩:=at_T55 HR1.out x13_1 p102 q102
 cases e102
 replace p102:=eq_true p102
 replace q102:=eq_true q102
 go_wp2
 repeat (go_quiet (fail);try go_wp2)
 go_ret
 exact ⟨r0_,d0_⟩
 }
 {
 rw [if_neg c8] at H
 have c8b0:(!(((rd_T55 l0 x13_1).f0)==((rd_T55 l1 x13_1).f0))||(!((((rd_T55 l0 x13_1).f1).toList)==(((rd_T55 l1 x13_1).f1).toList))))=false:=by simpa using c8
 clear c8
 have H':=Aside0.mk H
 clear H
 have p101:0≤(x13_1:Int):=od_
 have q101:x13_1<(l0.length:Int):=od_
 obtain ⟨ad101,e101,hx101_0,hx101_1⟩:=at_T55 HR0.out x13_1 p101 q101
 cases e101
 replace p101:=eq_true p101
 replace q101:=eq_true q101
 have p102:0≤(x13_1:Int):=od_
 have q102:x13_1<(l1.length:Int):=od_
 obtain ⟨ad102,e102,hx102_0,hx102_1⟩:=at_T55 HR1.out x13_1 p102 q102
 cases e102
 replace p102:=eq_true p102
 replace q102:=eq_true q102
 go_wp2
 repeat (go_quiet (fail);try go_wp2)
 go_roundg k1
 case measure=>have:=HK1.out;omega
 case rel=>exact ⟨(wrap64 (x13_1+1)),r0_,H',⟨by have:=HK1.out;omega⟩,d0_⟩
 }
 }
 {
 rw [if_neg c7] at H
 exact absurd H (by simp)
 }
 }
 {
 rw [if_neg c6] at H
 exact absurd H (by simp)
 }
 }
 {
 rw [if_neg c5] at H
 exact absurd H (by simp)
 }
 }
 {
 rw [if_neg c4] at H
 have c4b0:decide (x13_1<(l0.length:Int))=false:=decide_eq_false c4
 clear c4
 obtain rfl:=Option.some.inj H
 go_wp2
 repeat (go_quiet (fail);try go_wp2)
 go_ret
 exact ⟨r0_,d0_⟩
 }
  )
  )
 }
 {
 rw [if_neg c3] at H
 have c3b0:((l0.length:Int)==(l1.length:Int))=false:=beq_eq_false_iff_ne.mpr c3
 have c3b1:((l0.length:Int) !=(l1.length:Int))=true:=bne_iff_ne.mpr c3
 have c3b2:(l0.length==l1.length)=false:=by first|simpa using c3|(simp at c3⊢;omega)
 obtain rfl:=Option.some.inj H
 go_enter Tryd.func56,Tryd.ntmps56
 go_wp2
 repeat (go_quiet (fail);try go_wp2)
 go_ret
 exact ⟨r0_,d0_⟩
 }
def patch_same.f (k:Nat) (a0_0:ByteArray) (a0_1:Int) (a0_2:Int) (l0_3:List (S55)) (a1_0:ByteArray) (a1_1:Int) (a1_2:Int) (l1_3:List (S55)):Option (Bool):=if a0_0.toList=a1_0.toList then (if (a0_1==a1_1 && (a0_2==a1_2))=true then ((api_Sub_56.f k l0_3 l1_3).bind fun t105=>(some t105)) else (some false)) else (some false)
set_option maxHeartbeats 8000000 in
set_option maxRecDepth 100000 in
theorem patch_same.calls (k:Nat) (a0_0:ByteArray) (a0_1:Int) (a0_2:Int) (A0_3:Option Addr) (c0_3:Nat) (l0_3:List (S55)) (a1_0:ByteArray) (a1_1:Int) (a1_2:Int) (A1_3:Option Addr) (c1_3:Nat) (l1_3:List (S55)) (r:Bool) (w:World) (hr0_3:Kd.C k55 w A0_3 l0_3.length l0_3) (hc0_3:l0_3.length≤c0_3) (hr1_3:Kd.C k55 w A1_3 l1_3.length l1_3) (hc1_3:l1_3.length≤c1_3) (h:patch_same.f k a0_0 a0_1 a0_2 l0_3 a1_0 a1_1 a1_2 l1_3=some r):
 Calls Tryd.prog 38 #[.agg #[.string a0_0,.int .u8 a0_1,.int .u8 a0_2,.slice A0_3 l0_3.length c0_3],.agg #[.string a1_0,.int .u8 a1_1,.int .u8 a1_2,.slice A1_3 l1_3.length c1_3]] w fun e w'=>e= .returned (.bool r)∧Below w.heap.size w w':=by
 have hu50:=Tryd.underlying50
 have hu47:=Tryd.underlying47
 have HR0_3:=Aside0.mk hr0_3
 have HC0_3:=Aside0.mk hc0_3
 clear hr0_3 hc0_3
 have HR1_3:=Aside0.mk hr1_3
 have HC1_3:=Aside0.mk hc1_3
 clear hr1_3 hc1_3
 have HB:=Aside0.mk (Below.refl w.heap.size w)
 have H:(if a0_0.toList=a1_0.toList then (if (a0_1==a1_1 && (a0_2==a1_2))=true then ((api_Sub_56.f k l0_3 l1_3).bind fun t105=>(some t105)) else (some false)) else (some false))=some r:=h
 clear h
 by_cases c3:a0_0.toList=a1_0.toList
 {
 rw [if_pos c3] at H
 have c3b0:(a0_0.toList==a1_0.toList)=true:=beq_iff_eq.mpr c3
 have c3b1:(a0_0.toList !=a1_0.toList)=false:=bne_eq_false_iff_eq.mpr c3
 clear c3
 by_cases c4:(a0_1==a1_1 && (a0_2==a1_2))=true
 {
 rw [if_pos c4] at H
 have c4b0:(a0_1==a1_1 && (a0_2==a1_2))=true:=c4
 (try (have c4b1:decide (a0_1=a1_1 && (a0_2==a1_2))=true:=by simpa using c4))
 (try (have c4b2:(a0_1==a1_1 && (a0_2==a1_2))=true:=by simpa using c4))
 clear c4
 obtain ⟨t105,A5,H⟩:=ob_ H
 obtain rfl:=Option.some.inj H
 go_enter Tryd.func38,Tryd.ntmps38
 go_wp2_with (first|((with_reducible refine gate_dst (N:=2) rfl ?_);refine bx_ (N:=2) (cs:=#[.string a0_0,.int .u8 a0_1,.int .u8 a0_2,.slice A0_3 l0_3.length c0_3]) (t:=50) ?_;intro gb103 hg w6 hbox hb;have n_:=as4_ (below_step b0_ hb) (hbox) ((g0_ hg b0_:w.heap.size≤gb103)) ((g0_ hg b0_:w.heap.size≤gb103));clear HB;obtain ⟨HB,BK103,GW103,GE103⟩:=n_;clear hb hbox hg)|((with_reducible refine gate_dst (N:=3) rfl ?_);refine bx_ (N:=3) (cs:=#[.string a1_0,.int .u8 a1_1,.int .u8 a1_2,.slice A1_3 l1_3.length c1_3]) (t:=50) ?_;intro gb104 hg w7 hbox hb;have n_:=as7_ (bb_ BK103 hb) (below_step b0_ hb) (hbox) ((g0_ hg b0_:w.heap.size≤gb104)) ((g0_ hg b0_:w.heap.size≤gb104)) ((g1_ hg k0_:gb103≠gb104)) ((g2_ hg k0_:gb104≠gb103));clear BK103 HB;obtain ⟨BK103,HB,BK104,GW104,GE104,NB103_104,NB104_103⟩:=n_;clear hb hbox hg;have hnb8:=NB103_104.out;have hnc8:=NB104_103.out;obtain ⟨hcz9_0,hcz9_1,hcz9_2,hcz9_3,hfz9_0,hfz9_1,hfz9_2,hfz9_3⟩:=ce4_ BK103;obtain ⟨hcz10_0,hcz10_1,hcz10_2,hcz10_3,hfz10_0,hfz10_1,hfz10_2,hfz10_3⟩:=ce4_ BK104)|(go_at_call 56;(with_reducible refine (api_Sub_56.calls k _ _ l0_3 _ _ l1_3 t105 _ ?side1 ?side2 ?side3 ?side4 A5.out).mono ?_);(case side1=>exact c0_);(case side2=>exact HC0_3.out);(case side3=>exact c0_);(case side4=>exact HC1_3.out);rintro e w' ⟨rfl,⟨nd,rfl⟩⟩))
 go_ret
 exact ⟨r1_,b0_⟩
 }
 {
 rw [if_neg c4] at H
 have c4b0:(a0_1==a1_1 && (a0_2==a1_2))=false:=by simpa using c4
 (try (have c4b1:decide (a0_1=a1_1 && (a0_2==a1_2))=false:=by simpa using c4))
 (try (have c4b2:(a0_1==a1_1 && (a0_2==a1_2))=false:=by simpa using c4))
 (try (have c4b3: ¬ (a0_1=a1_1 && (a0_2==a1_2)):=by simpa using c4))
 clear c4
 obtain rfl:=Option.some.inj H
 go_enter Tryd.func38,Tryd.ntmps38
 go_wp2_with (first|((with_reducible refine gate_dst (N:=2) rfl ?_);refine bx_ (N:=2) (cs:=#[.string a0_0,.int .u8 a0_1,.int .u8 a0_2,.slice A0_3 l0_3.length c0_3]) (t:=50) ?_;intro gb103 hg w11 hbox hb;have n_:=as4_ (below_step b0_ hb) (hbox) ((g0_ hg b0_:w.heap.size≤gb103)) ((g0_ hg b0_:w.heap.size≤gb103));clear HB;obtain ⟨HB,BK103,GW103,GE103⟩:=n_;clear hb hbox hg)|((with_reducible refine gate_dst (N:=3) rfl ?_);refine bx_ (N:=3) (cs:=#[.string a1_0,.int .u8 a1_1,.int .u8 a1_2,.slice A1_3 l1_3.length c1_3]) (t:=50) ?_;intro gb104 hg w12 hbox hb;have n_:=as7_ (bb_ BK103 hb) (below_step b0_ hb) (hbox) ((g0_ hg b0_:w.heap.size≤gb104)) ((g0_ hg b0_:w.heap.size≤gb104)) ((g1_ hg k0_:gb103≠gb104)) ((g2_ hg k0_:gb104≠gb103));clear BK103 HB;obtain ⟨BK103,HB,BK104,GW104,GE104,NB103_104,NB104_103⟩:=n_;clear hb hbox hg;have hnb13:=NB103_104.out;have hnc13:=NB104_103.out;obtain ⟨hcz14_0,hcz14_1,hcz14_2,hcz14_3,hfz14_0,hfz14_1,hfz14_2,hfz14_3⟩:=ce4_ BK103;obtain ⟨hcz15_0,hcz15_1,hcz15_2,hcz15_3,hfz15_0,hfz15_1,hfz15_2,hfz15_3⟩:=ce4_ BK104))
 go_ret
 exact ⟨r1_,b0_⟩
 }
 }
 {
 rw [if_neg c3] at H
 have c3b0:(a0_0.toList==a1_0.toList)=false:=beq_eq_false_iff_ne.mpr c3
 have c3b1:(a0_0.toList !=a1_0.toList)=true:=bne_iff_ne.mpr c3
 obtain rfl:=Option.some.inj H
 go_enter Tryd.func38,Tryd.ntmps38
 go_wp2_with (first|((with_reducible refine gate_dst (N:=2) rfl ?_);refine bx_ (N:=2) (cs:=#[.string a0_0,.int .u8 a0_1,.int .u8 a0_2,.slice A0_3 l0_3.length c0_3]) (t:=50) ?_;intro gb103 hg w16 hbox hb;have n_:=as4_ (below_step b0_ hb) (hbox) ((g0_ hg b0_:w.heap.size≤gb103)) ((g0_ hg b0_:w.heap.size≤gb103));clear HB;obtain ⟨HB,BK103,GW103,GE103⟩:=n_;clear hb hbox hg)|((with_reducible refine gate_dst (N:=3) rfl ?_);refine bx_ (N:=3) (cs:=#[.string a1_0,.int .u8 a1_1,.int .u8 a1_2,.slice A1_3 l1_3.length c1_3]) (t:=50) ?_;intro gb104 hg w17 hbox hb;have n_:=as7_ (bb_ BK103 hb) (below_step b0_ hb) (hbox) ((g0_ hg b0_:w.heap.size≤gb104)) ((g0_ hg b0_:w.heap.size≤gb104)) ((g1_ hg k0_:gb103≠gb104)) ((g2_ hg k0_:gb104≠gb103));clear BK103 HB;obtain ⟨BK103,HB,BK104,GW104,GE104,NB103_104,NB104_103⟩:=n_;clear hb hbox hg;have hnb18:=NB103_104.out;have hnc18:=NB104_103.out;obtain ⟨hcz19_0,hcz19_1,hcz19_2,hcz19_3,hfz19_0,hfz19_1,hfz19_2,hfz19_3⟩:=ce4_ BK103;obtain ⟨hcz20_0,hcz20_1,hcz20_2,hcz20_3,hfz20_0,hfz20_1,hfz20_2,hfz20_3⟩:=ce4_ BK104))
 go_ret
 exact ⟨r1_,b0_⟩
 }
end
end Go.Proofs.YtdlolaognnbhpaaDoor.Pr
