/- Several texts in one: PrF24, PrF62, PrF41, PrF42, PrF22. -/
import Derived.Test.YtfbhdjflkaldgaaGreatDoorMg1
import Derived.Test.YtfbhdjflkaldgaaGreatDoorMg2
import Derived.Test.YtfbhdjflkaldgaaGreatDoorMg3

namespace Go.Proofs.YtfbhdjflkaldgaaGreatDoor.Pr
open Go.Proofs.YtfbhdjflkaldgaaGreatDoor.Ct Go.RowKit Go.Proofs.YtfbhdjflkaldgaaGreatDoorW.PrintWords Go.Proofs.YtfbhdjflkaldgaaGreatDoorW.PrintLast Go.Proofs.YtfbhdjflkaldgaaGreatDoorW.PrintMore
attribute [local go_sem] max2_int min2_int max_two min_two max_three min_three max_four min_four
set_option linter.unusedVariables false
set_option linter.unusedSimpArgs false
def Z11.l0:Nat → List ByteArray → ByteArray → Int → Option (ByteArray)
 | 0,_,_,_ => none
 | k + 1,x0,x3,x4 => if x4 < (x0.length:Int) then (if x4 > 0 then (if x3.size + 1 ≤ 9223372036854775807 then (if 0 ≤ x4 then (if (x3 ++ (⟨#[32]⟩:ByteArray)).size + (rdOf ByteArray.empty x0 x4).size ≤ 9223372036854775807 then (Z11.l0 k x0 ((x3 ++ (⟨#[32]⟩:ByteArray)) ++ (rdOf ByteArray.empty x0 x4)) (wrap64 (x4 + 1))) else (none)) else (none)) else (none)) else (if 0 ≤ x4 then (if x3.size + (rdOf ByteArray.empty x0 x4).size ≤ 9223372036854775807 then (Z11.l0 k x0 (x3 ++ (rdOf ByteArray.empty x0 x4)) (wrap64 (x4 + 1))) else (none)) else (none))) else (some x3)
def Z11.f (k:Nat) (l0:List ByteArray):Option (ByteArray):=Z11.l0 k l0 (⟨#[]⟩:ByteArray) 0
theorem Zdm {p:Prop} (h:p:=by
  have H':=am H;clear H;have z1_:0 ≤ (x4_1:Int):=oD;have z2_:x4_1 < (l0.length:Int):=oD;obtain ⟨z3_,z4_,z5_⟩:=Kd.at_string HR0.out x4_1 z1_ z2_;cases z4_;replace z1_:=eq_true z1_;replace z2_:=eq_true z2_;go_wp2
  go_roundg k1
  case measure => have:=HK1.out;omega
  first
  | (have mk_:=mk0_
     case rel => exact ⟨((x3_1 ++ (⟨#[32]⟩:ByteArray)) ++ (rdOf ByteArray.empty l0 x4_1)),(wrap64 (x4_1 + 1)),tV1,tV1,H',⟨by have:=HK1.out;omega⟩,by repeat (first | exact Drawn0.refl _ | apply Drawn0.step)⟩)
  | (have mk_:=mk1_
     case rel => exact ⟨(x3_1 ++ (rdOf ByteArray.empty l0 x4_1)),(wrap64 (x4_1 + 1)),tV1,tV1,H',⟨by have:=HK1.out;omega⟩,by repeat (first | exact Drawn0.refl _ | apply Drawn0.step)⟩)):p:=h
set_option maxHeartbeats 8000000 in
set_option maxRecDepth 100000 in
theorem Z11.calls (k:Nat) (A0:Option Addr) (c0:Nat) (l0:List ByteArray) (r:ByteArray) (w:World) (hr0:Kd.C Kd.string w A0 l0.length l0) (hc0:l0.length ≤ c0) (h:Z11.f k l0 = some r) :
 Calls Tryz.prog 24 #[.slice A0 l0.length c0] w fun e w' => e = .returned (.string r) ∧ Drawn0 w w':=by
 have HR0:=am hr0;have HC0:=am hc0;clear hr0 hc0;have H:(Z11.l0 k l0 (⟨#[]⟩:ByteArray) 0) = some r:=h;clear h;have H':=am H;clear H;go_enter Tryz.func24,Tryz.ntmps24;go_wp2
 go_loopg [3,4] k (fun kq v3 v4 w' => ∃ (x3_1:ByteArray) (x4_1:Int),v3 = .string x3_1 ∧ v4 = .int .i64 x4_1 ∧ Aside0 (Z11.l0 kq l0 x3_1 x4_1 = some r) ∧ Aside0 (kq ≤ k) ∧ Drawn0 w w')
 case atStart => exact ⟨((⟨#[]⟩:ByteArray)),(0),tV1,tV1,H',⟨Nat.le_refl _⟩,by repeat (first | exact Drawn0.refl _ | apply Drawn0.step)⟩
 case round =>
  clear H';obtain ⟨x3_1,x4_1,rfl,rfl,HA,HK1,⟨m1,rfl⟩⟩:=hrel
  cases gk with
  | zero => exact absurd HA.out (by simp [Z11.l0])
  | succ k1 =>
   have H:=HA.out;clear HA;simp only [Z11.l0] at H
   replace H:=iF H;obtain ⟨c2,H⟩ | ⟨c2,H⟩:=H;rotate_left
   ·
    have c2b0:decide (x4_1 < (l0.length:Int)) = false:=decide_eq_false c2;clear c2;obtain rfl:=Option.some.inj H;go_wp2;go_ret;exact ⟨by first | rfl | (simp;done) | (simp [*];done),by repeat (first | exact Drawn0.refl _ | apply Drawn0.step)⟩
   have c2b0:decide (x4_1 < (l0.length:Int)) = true:=decide_eq_true c2;clear c2
   replace H:=iF H;obtain ⟨c3,H⟩ | ⟨c3,H⟩:=H
   ·
    have c3b0:decide (0 < x4_1) = true:=decide_eq_true c3;clear c3;replace H:=iFn H;obtain ⟨c4,H⟩:=H;have c4b0:=eq_true c4;have c4b1:decide (x3_1.size + 1 ≤ 9223372036854775807) = true:=decide_eq_true c4
    try have c4b2:(9223372036854775807 < x3_1.size + 1) = False:=eq_false (Nat.not_lt.2 c4)
    replace H:=iFn H;obtain ⟨c5,H⟩:=H;have c5b0:decide (0 ≤ x4_1) = true:=decide_eq_true c5;clear c5;replace H:=iFn H;obtain ⟨c6,H⟩:=H;have c6b0:=eq_true c6;have c6b1:decide ((x3_1 ++ (⟨#[32]⟩:ByteArray)).size + (rdOf ByteArray.empty l0 x4_1).size ≤ 9223372036854775807) = true:=decide_eq_true c6
    try have c6b2:(9223372036854775807 < (x3_1 ++ (⟨#[32]⟩:ByteArray)).size + (rdOf ByteArray.empty l0 x4_1).size) = False:=eq_false (Nat.not_lt.2 c6)
    have mk0_:=trivial;exact Zdm
   ·
    have c3b0:decide (0 < x4_1) = false:=decide_eq_false c3;clear c3;replace H:=iFn H;obtain ⟨c7,H⟩:=H;have c7b0:decide (0 ≤ x4_1) = true:=decide_eq_true c7;clear c7;replace H:=iFn H;obtain ⟨c8,H⟩:=H;have c8b0:=eq_true c8;have c8b1:decide (x3_1.size + (rdOf ByteArray.empty l0 x4_1).size ≤ 9223372036854775807) = true:=decide_eq_true c8
    try have c8b2:(9223372036854775807 < x3_1.size + (rdOf ByteArray.empty l0 x4_1).size) = False:=eq_false (Nat.not_lt.2 c8)
    have mk1_:=trivial;exact Zdm
def Z20.f (l0:List (S68)) (a1:ByteArray):Option (Bool):=(Z2f.f l0 a1).bind fun bt361 => (if bt361.2 = true then (some (decide ((bt361.1.length:Int) ≤ 40))) else (some false))
set_option maxHeartbeats 8000000 in
set_option maxRecDepth 100000 in
theorem Z20.calls (A0:Option Addr) (c0:Nat) (l0:List (S68)) (a1:ByteArray) (r:Bool) (w:World) (hr0:Kd.C k68 w A0 l0.length l0) (hc0:l0.length ≤ c0) (h:Z20.f l0 a1 = some r) :
 Calls Tryz.prog 62 #[.slice A0 l0.length c0,.string a1] w fun e w' => e = .returned (.bool r) ∧ Below w.heap.size w w':=by
 have HR0:=am hr0;have HC0:=am hc0;clear hr0 hc0;have HB:=am (Below.refl w.heap.size w);have H:((Z2f.f l0 a1).bind fun bt361 => (if bt361.2 = true then (some (decide ((bt361.1.length:Int) ≤ 40))) else (some false))) = some r:=h;clear h;replace H:=bI H;obtain ⟨⟨t361,t362⟩,A3,H⟩:=H;(try dsimp only at H)
 replace H:=iT H;obtain ⟨rfl,H⟩ | ⟨rfl,H⟩:=H
 ·
  obtain rfl:=Option.some.inj H;go_enter Tryz.func62,Tryz.ntmps62
  go_wp2_with (first | ((with_reducible refine gate_callee (f:=81) rfl ?_);refine goesL_ (some 10) rfl rfl Tryz.func81 (by kernel_rfl) rfl #[.slice A0 l0.length c0,.string a1] rfl Gc2 ?_;(with_reducible refine (Z2f.calls _ _ l0 a1 t361 true _ ?s1 HC0.out A3.out).mono ?_);(case s1 => exact Gc3);rintro e w5 ⟨v363,rfl,ho0,hb⟩;refine ⟨_,rfl,?_⟩;have n0_:=am (Kd.R_lower ho0 (tS HB));have n1_:=am (below_step (tB HB) hb);revert n0_ n1_;clear HB;intro HO364 HB;(try clear hb);(try clear hb2);(try clear hk);(try clear hi);(try clear ho0);obtain ⟨Ao6,co6,eo6⟩:=Kd.R_slice HO364.out;subst eo6))
  go_ret;exact ⟨tE,by repeat (first | (with_reducible first | exact HB.out | apply below_alloc | apply pw_below_drewN | apply below_drew1) | exact HB.out)⟩
 ·
  obtain rfl:=Option.some.inj H;go_enter Tryz.func62,Tryz.ntmps62
  go_wp2_with (first | ((with_reducible refine gate_callee (f:=81) rfl ?_);refine goesL_ (some 10) rfl rfl Tryz.func81 (by kernel_rfl) rfl #[.slice A0 l0.length c0,.string a1] rfl Gc2 ?_;(with_reducible refine (Z2f.calls _ _ l0 a1 t361 false _ ?s1 HC0.out A3.out).mono ?_);(case s1 => exact Gc3);rintro e w7 ⟨v363,rfl,ho0,hb⟩;refine ⟨_,rfl,?_⟩;have n0_:=am (Kd.R_lower ho0 (tS HB));have n1_:=am (below_step (tB HB) hb);revert n0_ n1_;clear HB;intro HO364 HB;(try clear hb);(try clear hb2);(try clear hk);(try clear hi);(try clear ho0)))
  go_ret;exact ⟨tE,by repeat (first | (with_reducible first | exact HB.out | apply below_alloc | apply pw_below_drewN | apply below_drew1) | exact HB.out)⟩
def Z1q.f (gL:Lg) (a1:ByteArray):Option (Bool):=if a1.toList = ([]:List UInt8) then (some false) else (if 0 < (a1.size:Int) then (if (bt a1 0) = 61 then (some false) else ((Z20.f gL.v2 a1).bind fun t366 => (some t366))) else (none))
theorem Zbz {p:Prop} (h:p:=by
  go_enter Tryz.func41,Tryz.ntmps41
  go_wp2_with (first | ((with_reducible refine Z0z (t:=41) (p:=2) rfl ?_);(try (refine gate_guard (by rfl) ?_;dsimp only));refine wpList_load_row rfl 41 (.tmp 2) rfl gb365 rfl 41 _ (0,0) _ (tK BK365) Tryz.underlying41 rfl (by kernel_rfl) ?_) | (have ma_:=ma1_;((with_reducible refine gate_dst (N:=2) rfl ?_);refine box_event ?hg (N:=2) ?hd (cs:=?cs) (t:=41) ?hr ?_;(case hd => rfl);(case hg => rfl);(case hr => exact Gc5);intro gb365 hg z2_ hbox hb;have n0_:=am (below_step (tB HB) hb);have n1_:=am (hbox);have z5_:=tZ hg (tS HB);have z6_:=tZ hg (tS HB);revert n0_ n1_ z5_ z6_;clear HB;intro HB BK365 z8_ GE365;clear hb hbox hg;have z10_:0 ≤ (0:Int):=(by omega);have z11_:0 < a1.size:=Gc34;have z12_:∀ h:0 < a1.size,((a1[0]'h).toNat:Int) = bt a1 0:=bt_at a1 0;clear z10_;have z13_:(0 < (a1.size:Int)) = True:=eq_true (oD);replace z11_:=eq_true z11_;have z14_:=cel2 BK365 2 rfl;have z15_:=blk_frozen BK365.out 2)) | (have ma_:=ma2_;(go_at_call 62;(with_reducible refine (Z20.calls _ _ gL.v2 a1 t366 _ (tC ⟨HL.out.r2⟩ HB) HL.out.c2 A9.out).mono ?_);rintro e z1_ ⟨rfl,hb⟩;have n0_:=am (blk_below (tK BK365) hb);have n1_:=am (below_step (tB HB) hb);revert n0_ n1_;clear BK365 HB;intro BK365 HB;(try clear hb);(try clear hb2);(try clear hk);(try clear hi))) | (have ma_:=ma3_;((with_reducible refine gate_dst (N:=2) rfl ?_);refine box_event ?hg (N:=2) ?hd (cs:=?cs) (t:=41) ?hr ?_;(case hd => rfl);(case hg => rfl);(case hr => exact Gc5);intro gb365 hg z2_ hbox hb;have z3_:=am (below_step (tB HB) hb);have z4_:=am (hbox);have z5_:=tZ hg (tS HB);have z6_:=tZ hg (tS HB);revert z3_ z4_ z5_ z6_;clear HB;intro HB BK365 z8_ GE365;clear hb hbox hg;have z10_:0 ≤ (0:Int):=(by omega);have z11_:0 < a1.size:=Gc34;have z12_:∀ h:0 < a1.size,((a1[0]'h).toNat:Int) = bt a1 0:=bt_at a1 0;clear z10_;have z13_:(0 < (a1.size:Int)) = True:=eq_true (oD);replace z11_:=eq_true z11_)) | (have ma_:=ma4_;((with_reducible refine gate_dst (N:=2) rfl ?_);refine box_event ?hg (N:=2) ?hd (cs:=?cs) (t:=41) ?hr ?_;(case hd => rfl);(case hg => rfl);(case hr => exact Gc5);intro gb365 hg z2_ hbox hb;have z3_:=am (below_step (tB HB) hb);have z4_:=am (hbox);have z5_:=tZ hg (tS HB);have z6_:=tZ hg (tS HB);revert z3_ z4_ z5_ z6_;clear HB;intro HB BK365 z8_ GE365;clear hb hbox hg)))
  go_ret
  exact ⟨tE,by repeat (first | (with_reducible first | exact HB.out | apply below_alloc | apply pw_below_drewN | apply below_drew1 | refine below_set ?_ GE365.out) | exact HB.out)⟩):p:=h
set_option maxHeartbeats 8000000 in
set_option maxRecDepth 100000 in
theorem Z1q.calls (gL:Lg) (pL:La) (a1:ByteArray) (r:Bool) (w:World) (hL:Z2o gL pL w) (h:Z1q.f gL a1 = some r) :
 Calls Tryz.prog 41 #[.agg (lcs gL pL),.string a1] w fun e w' => e = .returned (.bool r) ∧ Below w.heap.size w w':=by
 have hu41:=Tryz.underlying41;have HL:=am hL;clear hL;have HB:=am (Below.refl w.heap.size w);have H:(if a1.toList = ([]:List UInt8) then (some false) else (if 0 < (a1.size:Int) then (if (bt a1 0) = 61 then (some false) else ((Z20.f gL.v2 a1).bind fun t366 => (some t366))) else (none))) = some r:=h;clear h
 replace H:=iE H;obtain ⟨-,c3b0,c3b1,H⟩ | ⟨c3,c3b0,c3b1,H⟩:=H
 ·
  obtain rfl:=Option.some.inj H;have ma4_:=trivial;exact Zbz
 ·
  replace H:=iFn H;obtain ⟨c5,H⟩:=H;have c5b0:decide (0 < (a1.size:Int)) = true:=decide_eq_true c5;have c5b1:decide (0 < a1.size) = true:=decide_eq_true (by omega);clear c5
  replace H:=iE H;obtain ⟨-,c7b0,c7b1,H⟩ | ⟨c7,c7b0,c7b1,H⟩:=H
  ·
   obtain rfl:=Option.some.inj H;have ma3_:=trivial;exact Zbz
  ·
   replace H:=bI H;obtain ⟨t366,A9,H⟩:=H;(try dsimp only at H);obtain rfl:=Option.some.inj H;have ma1_:=trivial;have ma2_:=trivial;exact Zbz
def Z0r.f (gL:Lg) (a1:ByteArray):Option (Bool):=if (a1.size:Int) > 1 then (if 0 < (a1.size:Int) then (if (bt a1 0) = 61 then (if 1 ≤ (a1.size:Int) then ((Z20.f gL.v2 (a1.extract 1 a1.size)).bind fun t368 => (some t368)) else (none)) else (some false)) else (none)) else (some false)
def Z0r.T1:Bool × List (List Nat × List Nat):=(true,[([],[]),([0],[0]),([1],[1]),([2],[2]),([3],[3]),([4,3],[3,4]),([5,3],[3,5]),([3,6],[3,6]),([7,3],[7]),([8],[8]),([9,8],[8,9]),([10,8],[8,10]),([8],[8]),([12,8],[8,12]),([11,13,8,8],[8,11,13]),([8,14],[8,14]),([15,14,0,1,2,3,4,5,6,7,8,9,10,11,12,13,14,15],[15])])
def Z0r.B1:List Nat:=[0,1,3,7,15,31,63,127,255,511,1023,2047,511,4607,16383,32767,65535]
theorem Z0r.tab1:rtab .any (opsOf Tryz.f42 1) = Z0r.T1:=by kernel_rfl
theorem Z0r.bits1:waitsOk Z0r.T1.2 Z0r.B1 = true:=by kernel_rfl
theorem Zgo {p:Prop} (h:p:=by
  refine pT 15 20 ?_
  refine pT 16 4 ?_
  refine done_ (done_of HT_.out (by kernel_rfl)) ?_
  try go_wp2
  go_ret
  exact ⟨tE,by repeat (first | (with_reducible first | exact HB.out | apply below_alloc | apply pw_below_drewN | apply below_drew1 | refine below_set ?_ GE367.out) | exact HB.out)⟩):p:=h
theorem Zgp {p:Prop} (h:p:=by
  intro w' z1_
  first | refine Eq.trans (Z5b 41 (.tmp 2) (by rfl) gb367 (by rfl) 41 _ _ z1_ Tryz.underlying41 (by rfl) (by kernel_rfl)) ?_ | (have z2_:World.cell? w' ⟨gb367,2,none⟩ = some (.slice pL.A2 gL.v2.length pL.c2):=(blk_cell z1_ 2).trans rfl;go_simp)
  with_reducible rfl):p:=h
theorem Zgq {p:Prop} (h:p:=by
  refine pT 7 12 ?_
  refine pT 8 13 ?_
  refine uT 9 14 ?_
  refine uT 10 15 ?_
  refine uT 11 16 ?_
  refine uT 12 17 ?_
  refine uT 13 18 ?_
  refine uT 14 19 ?_
  exact Zgo):p:=h
theorem Zd9 {p:Prop} (h:p:=by
  obtain rfl:=Option.some.inj H;go_enter Tryz.func42,Tryz.ntmps42
  try go_wp2_with (first | ((with_reducible refine Z0z (t:=41) (p:=2) rfl ?_);(try (refine gate_guard (by rfl) ?_;dsimp only));refine wpList_load_row rfl 41 (.tmp 2) rfl gb367 rfl 41 _ (0,0) _ (tK BK367) Tryz.underlying41 rfl (by kernel_rfl) ?_) | ((with_reducible refine gate_dst (N:=2) rfl ?_);refine box_event ?hg (N:=2) ?hd (cs:=?cs) (t:=41) ?hr ?_;(case hd => rfl);(case hg => rfl);(case hr => exact Gc5);intro gb367 hg z1_ hbox hb;have z2_:=am (below_step (tB HB) hb);have z3_:=am (hbox);have z4_:=tZ hg (tS HB);have z5_:=tZ hg (tS HB);revert z2_ z3_ z4_ z5_;clear HB;intro HB BK367 z6_ GE367;clear hb hbox hg))
  have z2_:=am (blk_drew BK367.out);have z3_:=am (below_drew1 HB.out);revert z2_ z3_;clear BK367 HB;intro BK367 HB
  first
  | (have mk_:=mk0_
     have z7_:0 ≤ (0:Int):=(by omega);have z8_:0 < a1.size:=Gc34;have z9_:∀ h:0 < a1.size,((a1[0]'h).toNat:Int) = bt a1 0:=bt_at a1 0;clear z7_;have z10_:(0 < (a1.size:Int)) = True:=eq_true (oD);replace z8_:=eq_true z8_
     refine start_ (n:=17) (S:=fun w' => True) (ds:=[]) #[false,false,false,false,false,false,false,false,false,false,false,false,false,false,false,false,false] (by kernel_rfl) rfl rfl trivial (fun hHeld => ?_);refine with_tabW Z0r.tab1 Z0r.bits1 (fun HT_ HW_ => ?_)
     generalize z1_.drew = z11_ at BK367 HB hHeld ⊢
     refine pT 0 5 ?_
     refine pT 1 6 ?_
     refine pT 2 7 ?_
     refine pT 3 8 ?_
     refine pT 4 9 ?_
     refine tTt 5 10 hHeld ?_
     refine pT 6 11 ?_
     exact Zgq)
  | (have mk_:=mk1_
     refine start_ (n:=17) (S:=fun w' => True) (ds:=[]) #[false,false,false,false,false,false,false,false,false,false,false,false,false,false,false,false,false] (by kernel_rfl) rfl rfl trivial (fun hHeld => ?_);refine with_tabW Z0r.tab1 Z0r.bits1 (fun HT_ HW_ => ?_)
     generalize z1_.drew = z7_ at BK367 HB hHeld ⊢
     refine pT 0 5 ?_
     refine pT 1 6 ?_
     refine pT 2 7 ?_
     refine pT 3 8 ?_
     refine uT 4 9 ?_
     refine uT 5 10 ?_
     refine uT 6 11 ?_
     exact Zgq)):p:=h
set_option maxHeartbeats 8000000 in
set_option maxRecDepth 100000 in
theorem Z0r.calls (gL:Lg) (pL:La) (a1:ByteArray) (r:Bool) (w:World) (hL:Z2o gL pL w) (h:Z0r.f gL a1 = some r) :
 Calls Tryz.prog 42 #[.agg (lcs gL pL),.string a1] w fun e w' => e = .returned (.bool r) ∧ Below w.heap.size w w':=by
 have hu41:=Tryz.underlying41;have HL:=am hL;clear hL;have HB:=am (Below.refl w.heap.size w);have H:(if (a1.size:Int) > 1 then (if 0 < (a1.size:Int) then (if (bt a1 0) = 61 then (if 1 ≤ (a1.size:Int) then ((Z20.f gL.v2 (a1.extract 1 a1.size)).bind fun t368 => (some t368)) else (none)) else (some false)) else (none)) else (some false)) = some r:=h;clear h
 replace H:=iF H;obtain ⟨c3,H⟩ | ⟨c3,H⟩:=H
 ·
  have c3b0:decide (1 < (a1.size:Int)) = true:=decide_eq_true c3;have c3b1:decide (1 < a1.size) = true:=decide_eq_true (by omega);clear c3;replace H:=iFn H;obtain ⟨c4,H⟩:=H;have c4b0:decide (0 < (a1.size:Int)) = true:=decide_eq_true c4;have c4b1:decide (0 < a1.size) = true:=decide_eq_true (by omega);clear c4
  replace H:=iE H;obtain ⟨-,c6b0,c6b1,H⟩ | ⟨c6,c6b0,c6b1,H⟩:=H
  ·
   replace H:=iFn H;obtain ⟨c7,H⟩:=H;have c7b0:=eq_true c7;have c7b1:decide (1 ≤ (a1.size:Int)) = true:=decide_eq_true c7;clear c7;replace H:=bI H;obtain ⟨t368,A8,H⟩:=H;(try dsimp only at H);obtain rfl:=Option.some.inj H;go_enter Tryz.func42,Tryz.ntmps42
   try go_wp2_with (first | ((with_reducible refine Z0z (t:=41) (p:=2) rfl ?_);(try (refine gate_guard (by rfl) ?_;dsimp only));refine wpList_load_row rfl 41 (.tmp 2) rfl gb367 rfl 41 _ (0,0) _ (tK BK367) Tryz.underlying41 rfl (by kernel_rfl) ?_) | ((with_reducible refine gate_dst (N:=2) rfl ?_);refine box_event ?hg (N:=2) ?hd (cs:=?cs) (t:=41) ?hr ?_;(case hd => rfl);(case hg => rfl);(case hr => exact Gc5);intro gb367 hg w9 hbox hb;have n0_:=am (below_step (tB HB) hb);have n1_:=am (hbox);have n2_:=tZ hg (tS HB);have n3_:=tZ hg (tS HB);revert n0_ n1_ n2_ n3_;clear HB;intro HB BK367 GW367 GE367;clear hb hbox hg))
   have n0_:=am (blk_drew BK367.out);have n1_:=am (below_drew1 HB.out);revert n0_ n1_;clear BK367 HB;intro BK367 HB;have p5:0 ≤ (0:Int):=(by omega);have q5:0 < a1.size:=Gc34;have hx5:∀ h:0 < a1.size,((a1[0]'h).toNat:Int) = bt a1 0:=bt_at a1 0;clear p5;have qi5:(0 < (a1.size:Int)) = True:=eq_true (oD);replace q5:=eq_true q5
   refine start_ (n:=17) (S:=fun w' => w'.heap[gb367]? = some (.cells (lcs gL pL) 41 (0,0))) (ds:=[]) #[false,false,false,false,false,false,false,false,false,false,false,false,false,false,false,false,false] (by kernel_rfl) rfl rfl BK367.out (fun hHeld => ?_);refine with_tabW Z0r.tab1 Z0r.bits1 (fun HT_ HW_ => ?_)
   generalize w9.drew = w10 at BK367 HB hHeld ⊢
   refine pT 0 5 ?_
   refine pT 1 6 ?_
   refine pT 2 7 ?_
   refine pT 3 8 ?_
   refine pT 4 9 ?_
   refine take_ (i:=5) (N:=some 10) (v:=?_) (a':=?_) #[true,true,true,true,true,true,false,false,false,false,false,false,false,false,false,false,false] rfl rfl (take_ofW HT_.out HW_.out (by kernel_rfl)) (fun _ _ _ h => h) (Or.inl ⟨by rfl,?_⟩) hHeld ?_ ?_
   rotate_left
   ·
    exact Zgp
   rotate_left
   ·
    exact GpR
   refine pT 6 11 ?_
   refine pT 7 12 ?_
   refine pT 8 13 ?_
   refine pT 9 14 ?_
   refine pT 10 15 ?_
   refine pT 12 17 ?_
   refine pT 13 18 ?_
   refine take_ (i:=11) (N:=some 16) (v:=?_) (a':=?_) #[true,true,true,true,true,true,true,true,true,true,true,true,true,true,false,false,false] rfl rfl (take_ofW HT_.out HW_.out (by kernel_rfl)) (fun _ _ _ h => h) (Or.inl ⟨by rfl,?_⟩) hHeld ?_ ?_
   rotate_left
   ·
    exact Zgp
   rotate_left
   ·
    exact GpR
   refine one_ (i:=14) (N:=some 19) #[true,true,true,true,true,true,true,true,true,true,true,true,true,true,true,false,false] rfl rfl (one_of HT_.out (by kernel_rfl)) (by decide) (fun K hK => ?_)
   refine goes_ Tryz.func62 (by kernel_rfl) rfl #[.slice pL.A2 gL.v2.length pL.c2,.string (a1.extract 1 a1.size)] (by rfl) rfl rfl Gc2 ?_
   with_reducible refine (Z20.calls _ _ gL.v2 (a1.extract 1 a1.size) t368 _ (tC ⟨HL.out.r2⟩ HB) HL.out.c2 A8.out).mono ?_
   rintro e w11 ⟨rfl,hb⟩
   refine ⟨_,rfl,?_⟩
   have n0_:=am (blk_below (tK BK367) hb);have n1_:=am (below_step (tB HB) hb);revert n0_ n1_;clear BK367 HB;intro BK367 HB;(try clear hb)
   refine hK.out _ _ BK367.out (fun hHeld => ?_)
   clear hK K
   refine nR 19 ?_
   exact Zgo
  ·
   have mk0_:=trivial;exact Zd9
 ·
  have c3b0:decide (1 < (a1.size:Int)) = false:=decide_eq_false c3;have c3b1:decide (1 < a1.size) = false:=decide_eq_false (by omega);clear c3;have mk1_:=trivial;exact Zd9
def Z0e.l0:Nat → List ByteArray → Int → Int → Lg → Option (Bool)
 | 0,_,_,_,_ => none
 | k + 1,x1,x5,x6,gx370 => if x6 < (x1.length:Int) then (if 0 ≤ x6 then ((Z1q.f gx370 (rdOf ByteArray.empty x1 x6)).bind fun t371 => (if t371 = true then (Z0e.l0 k x1 0 (wrap64 (x6 + 1)) gx370) else ((Z0r.f gx370 (rdOf ByteArray.empty x1 x6)).bind fun t373 => (if t373 = true then (if x5 < 2 then (Z0e.l0 k x1 (wrap64 (x5 + 1)) (wrap64 (x6 + 1)) gx370) else (some false)) else (some false))))) else (none)) else (if (x1.length:Int) ≥ 1 then (some (decide ((x1.length:Int) ≤ 40))) else (some false))
def Z0e.f (k:Nat) (gL:Lg) (l1:List ByteArray):Option (Bool):=Z0e.l0 k l1 3 0 gL
def Z0e.T8:Bool × List (List Nat × List Nat):=(true,[([],[]),([],[]),([],[]),([1,2],[1,2]),([3],[3]),([0,4],[0,4]),([5,5],[5]),([6],[6]),([7,6],[6,7]),([6,8],[6,8]),([9,6],[9])])
def Z0e.B8:List Nat:=[0,0,0,6,14,31,63,127,255,511,1023]
theorem Z0e.tab8:rtab .any (opsOf Tryz.f22 8) = Z0e.T8:=by kernel_rfl
theorem Z0e.bits8:waitsOk Z0e.T8.2 Z0e.B8 = true:=by kernel_rfl
theorem Z57 {p:Prop} (h:p:=by
  rintro w' ⟨z1_,z2_⟩
  first | (refine Eq.trans (Z5b 41 (.tmp 2) (by rfl) gb369 (by rfl) 41 _ _ z1_ Tryz.underlying41 (by rfl) (by kernel_rfl)) ?_;with_reducible rfl) | (clear z1_;go_simp;with_reducible rfl)
  skip):p:=h
theorem Z91 {p:Prop} (h:p:=by
  go_ret
  exact ⟨tE,by repeat (first | (with_reducible first | exact HB.out | apply below_alloc | apply pw_below_drewN | apply below_drew1 | refine below_set ?_ GE369.out) | exact HB.out)⟩):p:=h
set_option maxRecDepth 1000000 in
theorem Z7x {p:Prop} (h:p:=by
  refine pK 1 15 ?_
  refine pK 2 16 ?_
  refine pK 3 17 ?_
  refine take_ (i:=0) (N:=some 14) (v:=?_) (a':=?_) #[true,true,true,true,false,false,false] rfl rfl (by kernel_rfl) (fun _ _ _ h => h) (Or.inl ⟨by rfl,?_⟩) hHeld ?_ ?_
  rotate_left
  ·
   exact Z57
  rotate_left
  ·
   exact GpR
  refine take_ (i:=4) (N:=some 18) (v:=?_) (a':=?_) #[true,true,true,true,true,false,false] rfl rfl (by kernel_rfl) (fun _ _ _ h => h) (Or.inl ⟨by rfl,?_⟩) hHeld ?_ ?_
  rotate_left
  ·
   exact Z57
  rotate_left
  ·
   exact GpR
  refine one_ (i:=5) (N:=some 19) #[true,true,true,true,true,true,false] rfl rfl (by kernel_rfl) (by decide) (fun K hK => ?_)
  refine goes_ Tryz.func41 (by kernel_rfl) rfl #[.agg _,.string (rdOf ByteArray.empty l1 x6_1)] (by rfl) rfl rfl Gc2 ?_
  first
  | (have mk_:=mk0_
     with_reducible refine (Z1q.calls gL pL (rdOf ByteArray.empty l1 x6_1) false _ (lB HL HB) A6.out).mono ?_
     rintro e w14 ⟨rfl,hb⟩
     refine ⟨_,rfl,?_⟩
     have n0_:=am (blk_below (tK BK369) hb);have n1_:=am (below_step (tB HB) hb);revert n0_ n1_;clear BK369 HB;intro BK369 HB;(try clear hb)
     refine hK.out _ _ ⟨BK369.out,((HB.out.cell (World.block_lt_of_cell? w _ hw370_0)).trans hw370_0)⟩ (fun hHeld => ?_)
     clear hK K
     refine nR 19 ?_
     refine pK 6 13 ?_
     refine done_ (by kernel_rfl) ?_
     try go_wp2
     have n0_:=am (blk_drew BK369.out);have n1_:=am (below_drew1 HB.out);revert n0_ n1_;clear BK369 HB;intro BK369 HB;have p372:0 ≤ (x6_1:Int):=oD;have q372:x6_1 < (l1.length:Int):=oD;obtain ⟨ad372,e372,hx372_0⟩:=Kd.at_string HR1.out x6_1 p372 q372;have hw372_0:=hx372_0;obtain rfl:ad370 = ad372:=(by injection e372);replace hx372_0:=celB HB hx372_0;replace p372:=eq_true p372;replace q372:=eq_true q372
     refine start_ (n:=11) (S:=fun w' => w'.heap[gb369]? = some (.cells (lcs gL pL) 41 (0,0)) ∧ w'.cell? (ad370.add (x6_1).toNat) = some (.string (rdOf ByteArray.empty l1 x6_1))) (ds:=[]) #[false,false,false,false,false,false,false,false,false,false,false] (by kernel_rfl) rfl rfl ⟨BK369.out,((HB.out.cell (World.block_lt_of_cell? w _ hw372_0)).trans hw372_0)⟩ (fun hHeld => ?_);refine with_tabW Z0e.tab8 Z0e.bits8 (fun HT_ HW_ => ?_)
     generalize w14.drew = w15 at BK369 HB hx372_0 hHeld ⊢
     refine pT 1 22 ?_
     refine pT 2 23 ?_
     refine pT 3 24 ?_
     refine take_ (i:=0) (N:=some 21) (v:=?_) (a':=?_) #[true,true,true,true,false,false,false,false,false,false,false] rfl rfl (take_ofW HT_.out HW_.out (by kernel_rfl)) (fun _ _ _ h => h) (Or.inl ⟨by rfl,?_⟩) hHeld ?_ ?_
     rotate_left
     ·
      exact Z57
     rotate_left
     ·
      exact GpR
     refine take_ (i:=4) (N:=some 25) (v:=?_) (a':=?_) #[true,true,true,true,true,false,false,false,false,false,false] rfl rfl (take_ofW HT_.out HW_.out (by kernel_rfl)) (fun _ _ _ h => h) (Or.inl ⟨by rfl,?_⟩) hHeld ?_ ?_
     rotate_left
     ·
      exact Z57
     rotate_left
     ·
      exact GpR
     refine one_ (i:=5) (N:=some 26) #[true,true,true,true,true,true,false,false,false,false,false] rfl rfl (one_of HT_.out (by kernel_rfl)) (by decide) (fun K hK => ?_)
     refine goes_ Tryz.func42 (by kernel_rfl) rfl #[.agg _,.string (rdOf ByteArray.empty l1 x6_1)] (by rfl) rfl rfl Gc2 ?_
     with_reducible refine (Z0r.calls gL pL (rdOf ByteArray.empty l1 x6_1) true _ (lB HL HB) A10.out).mono ?_
     rintro e w16 ⟨rfl,hb⟩
     refine ⟨_,rfl,?_⟩
     have n0_:=am (blk_below (tK BK369) hb);have n1_:=am (below_step (tB HB) hb);revert n0_ n1_;clear BK369 HB;intro BK369 HB;(try clear hb)
     refine hK.out _ _ ⟨BK369.out,((HB.out.cell (World.block_lt_of_cell? w _ hw372_0)).trans hw372_0)⟩ (fun hHeld => ?_)
     clear hK K
     refine nR 26 ?_
     refine pT 6 27 ?_
     refine pT 7 28 ?_
     refine pT 8 29 ?_
     refine pT 9 30 ?_
     refine pT 10 20 ?_
     refine done_ (done_of HT_.out (by kernel_rfl)) ?_
     try go_wp2
     go_roundg k1
     case measure => have:=HK1.out;omega
     case rel => exact ⟨(wrap64 (x5_1 + 1)),(wrap64 (x6_1 + 1)),tV1,tV1,H',⟨by have:=HK1.out;omega⟩,⟨tK BK369⟩,⟨tB HB⟩⟩)
  | (have mk_:=mk1_
     with_reducible refine (Z1q.calls gL pL (rdOf ByteArray.empty l1 x6_1) false _ (lB HL HB) A6.out).mono ?_
     rintro e w22 ⟨rfl,hb⟩
     refine ⟨_,rfl,?_⟩
     have n0_:=am (blk_below (tK BK369) hb);have n1_:=am (below_step (tB HB) hb);revert n0_ n1_;clear BK369 HB;intro BK369 HB;(try clear hb)
     refine hK.out _ _ ⟨BK369.out,((HB.out.cell (World.block_lt_of_cell? w _ hw370_0)).trans hw370_0)⟩ (fun hHeld => ?_)
     clear hK K
     refine nR 19 ?_
     refine pK 6 13 ?_
     refine done_ (by kernel_rfl) ?_
     try go_wp2
     have n0_:=am (blk_drew BK369.out);have n1_:=am (below_drew1 HB.out);revert n0_ n1_;clear BK369 HB;intro BK369 HB;have p372:0 ≤ (x6_1:Int):=oD;have q372:x6_1 < (l1.length:Int):=oD;obtain ⟨ad372,e372,hx372_0⟩:=Kd.at_string HR1.out x6_1 p372 q372;have hw372_0:=hx372_0;obtain rfl:ad370 = ad372:=(by injection e372);replace hx372_0:=celB HB hx372_0;replace p372:=eq_true p372;replace q372:=eq_true q372
     refine start_ (n:=11) (S:=fun w' => w'.heap[gb369]? = some (.cells (lcs gL pL) 41 (0,0)) ∧ w'.cell? (ad370.add (x6_1).toNat) = some (.string (rdOf ByteArray.empty l1 x6_1))) (ds:=[]) #[false,false,false,false,false,false,false,false,false,false,false] (by kernel_rfl) rfl rfl ⟨BK369.out,((HB.out.cell (World.block_lt_of_cell? w _ hw372_0)).trans hw372_0)⟩ (fun hHeld => ?_);refine with_tabW Z0e.tab8 Z0e.bits8 (fun HT_ HW_ => ?_)
     generalize w22.drew = w23 at BK369 HB hx372_0 hHeld ⊢
     refine pT 1 22 ?_
     refine pT 2 23 ?_
     refine pT 3 24 ?_
     refine take_ (i:=0) (N:=some 21) (v:=?_) (a':=?_) #[true,true,true,true,false,false,false,false,false,false,false] rfl rfl (take_ofW HT_.out HW_.out (by kernel_rfl)) (fun _ _ _ h => h) (Or.inl ⟨by rfl,?_⟩) hHeld ?_ ?_
     rotate_left
     ·
      exact Z57
     rotate_left
     ·
      exact GpR
     refine take_ (i:=4) (N:=some 25) (v:=?_) (a':=?_) #[true,true,true,true,true,false,false,false,false,false,false] rfl rfl (take_ofW HT_.out HW_.out (by kernel_rfl)) (fun _ _ _ h => h) (Or.inl ⟨by rfl,?_⟩) hHeld ?_ ?_
     rotate_left
     ·
      exact Z57
     rotate_left
     ·
      exact GpR
     refine one_ (i:=5) (N:=some 26) #[true,true,true,true,true,true,false,false,false,false,false] rfl rfl (one_of HT_.out (by kernel_rfl)) (by decide) (fun K hK => ?_)
     refine goes_ Tryz.func42 (by kernel_rfl) rfl #[.agg _,.string (rdOf ByteArray.empty l1 x6_1)] (by rfl) rfl rfl Gc2 ?_
     with_reducible refine (Z0r.calls gL pL (rdOf ByteArray.empty l1 x6_1) false _ (lB HL HB) A10.out).mono ?_
     rintro e w24 ⟨rfl,hb⟩
     refine ⟨_,rfl,?_⟩
     have n0_:=am (blk_below (tK BK369) hb);have n1_:=am (below_step (tB HB) hb);revert n0_ n1_;clear BK369 HB;intro BK369 HB;(try clear hb)
     refine hK.out _ _ ⟨BK369.out,((HB.out.cell (World.block_lt_of_cell? w _ hw372_0)).trans hw372_0)⟩ (fun hHeld => ?_)
     clear hK K
     refine nR 26 ?_
     refine pT 6 27 ?_
     refine uT 7 28 ?_
     refine uT 8 29 ?_
     refine pT 9 30 ?_
     refine pT 10 20 ?_
     refine done_ (done_of HT_.out (by kernel_rfl)) ?_
     try go_wp2
     exact Z91)
  | (have mk_:=mk2_
     with_reducible refine (Z1q.calls gL pL (rdOf ByteArray.empty l1 x6_1) false _ (lB HL HB) A6.out).mono ?_
     rintro e w18 ⟨rfl,hb⟩
     refine ⟨_,rfl,?_⟩
     have n0_:=am (blk_below (tK BK369) hb);have n1_:=am (below_step (tB HB) hb);revert n0_ n1_;clear BK369 HB;intro BK369 HB;(try clear hb)
     refine hK.out _ _ ⟨BK369.out,((HB.out.cell (World.block_lt_of_cell? w _ hw370_0)).trans hw370_0)⟩ (fun hHeld => ?_)
     clear hK K
     refine nR 19 ?_
     refine pK 6 13 ?_
     refine done_ (by kernel_rfl) ?_
     try go_wp2
     have n0_:=am (blk_drew BK369.out);have n1_:=am (below_drew1 HB.out);revert n0_ n1_;clear BK369 HB;intro BK369 HB;have p372:0 ≤ (x6_1:Int):=oD;have q372:x6_1 < (l1.length:Int):=oD;obtain ⟨ad372,e372,hx372_0⟩:=Kd.at_string HR1.out x6_1 p372 q372;have hw372_0:=hx372_0;obtain rfl:ad370 = ad372:=(by injection e372);replace hx372_0:=celB HB hx372_0;replace p372:=eq_true p372;replace q372:=eq_true q372
     refine start_ (n:=11) (S:=fun w' => w'.heap[gb369]? = some (.cells (lcs gL pL) 41 (0,0)) ∧ w'.cell? (ad370.add (x6_1).toNat) = some (.string (rdOf ByteArray.empty l1 x6_1))) (ds:=[]) #[false,false,false,false,false,false,false,false,false,false,false] (by kernel_rfl) rfl rfl ⟨BK369.out,((HB.out.cell (World.block_lt_of_cell? w _ hw372_0)).trans hw372_0)⟩ (fun hHeld => ?_);refine with_tabW Z0e.tab8 Z0e.bits8 (fun HT_ HW_ => ?_)
     generalize w18.drew = w19 at BK369 HB hx372_0 hHeld ⊢
     refine pT 1 22 ?_
     refine pT 2 23 ?_
     refine pT 3 24 ?_
     refine take_ (i:=0) (N:=some 21) (v:=?_) (a':=?_) #[true,true,true,true,false,false,false,false,false,false,false] rfl rfl (take_ofW HT_.out HW_.out (by kernel_rfl)) (fun _ _ _ h => h) (Or.inl ⟨by rfl,?_⟩) hHeld ?_ ?_
     rotate_left
     ·
      exact Z57
     rotate_left
     ·
      exact GpR
     refine take_ (i:=4) (N:=some 25) (v:=?_) (a':=?_) #[true,true,true,true,true,false,false,false,false,false,false] rfl rfl (take_ofW HT_.out HW_.out (by kernel_rfl)) (fun _ _ _ h => h) (Or.inl ⟨by rfl,?_⟩) hHeld ?_ ?_
     rotate_left
     ·
      exact Z57
     rotate_left
     ·
      exact GpR
     refine one_ (i:=5) (N:=some 26) #[true,true,true,true,true,true,false,false,false,false,false] rfl rfl (one_of HT_.out (by kernel_rfl)) (by decide) (fun K hK => ?_)
     refine goes_ Tryz.func42 (by kernel_rfl) rfl #[.agg _,.string (rdOf ByteArray.empty l1 x6_1)] (by rfl) rfl rfl Gc2 ?_
     with_reducible refine (Z0r.calls gL pL (rdOf ByteArray.empty l1 x6_1) true _ (lB HL HB) A10.out).mono ?_
     rintro e w20 ⟨rfl,hb⟩
     refine ⟨_,rfl,?_⟩
     have n0_:=am (blk_below (tK BK369) hb);have n1_:=am (below_step (tB HB) hb);revert n0_ n1_;clear BK369 HB;intro BK369 HB;(try clear hb)
     refine hK.out _ _ ⟨BK369.out,((HB.out.cell (World.block_lt_of_cell? w _ hw372_0)).trans hw372_0)⟩ (fun hHeld => ?_)
     clear hK K
     refine nR 26 ?_
     refine pT 6 27 ?_
     refine pT 7 28 ?_
     refine pT 8 29 ?_
     refine pT 9 30 ?_
     refine pT 10 20 ?_
     refine done_ (done_of HT_.out (by kernel_rfl)) ?_
     try go_wp2
     exact Z91)
  | (have mk_:=mk3_
     with_reducible refine (Z1q.calls gL pL (rdOf ByteArray.empty l1 x6_1) true _ (lB HL HB) A6.out).mono ?_
     rintro e w9 ⟨rfl,hb⟩
     refine ⟨_,rfl,?_⟩
     have n0_:=am (blk_below (tK BK369) hb);have n1_:=am (below_step (tB HB) hb);revert n0_ n1_;clear BK369 HB;intro BK369 HB;(try clear hb)
     refine hK.out _ _ ⟨BK369.out,((HB.out.cell (World.block_lt_of_cell? w _ hw370_0)).trans hw370_0)⟩ (fun hHeld => ?_)
     clear hK K
     refine nR 19 ?_
     refine pK 6 13 ?_
     refine done_ (by kernel_rfl) ?_
     try go_wp2
     go_roundg k1
     case measure => have:=HK1.out;omega
     case rel => exact ⟨(0),(wrap64 (x6_1 + 1)),tV1,tV1,H',⟨by have:=HK1.out;omega⟩,⟨tK BK369⟩,⟨tB HB⟩⟩)):p:=h
theorem Z7y {p:Prop} (h:p:=by
  try go_wp2
  have n0_:=am (blk_drew BK369.out);have n1_:=am (below_drew1 HB.out);revert n0_ n1_;clear BK369 HB;intro BK369 HB;have p370:0 ≤ (x6_1:Int):=oD;have q370:x6_1 < (l1.length:Int):=oD;obtain ⟨ad370,e370,hx370_0⟩:=Kd.at_string HR1.out x6_1 p370 q370;have hw370_0:=hx370_0;cases e370;replace hx370_0:=celB HB hx370_0;replace p370:=eq_true p370;replace q370:=eq_true q370
  refine start_ (n:=7) (S:=fun w' => w'.heap[gb369]? = some (.cells (lcs gL pL) 41 (0,0)) ∧ w'.cell? (ad370.add (x6_1).toNat) = some (.string (rdOf ByteArray.empty l1 x6_1))) (ds:=[]) #[false,false,false,false,false,false,false] (by kernel_rfl) rfl rfl ⟨BK369.out,((HB.out.cell (World.block_lt_of_cell? w _ hw370_0)).trans hw370_0)⟩ (fun hHeld => ?_)
  first
  | (have mk_:=mk0_
     generalize wr.drew = w13 at BK369 HB hx370_0 hHeld ⊢;have mk0_:=trivial
     exact Z7x)
  | (have mk_:=mk1_
     generalize wr.drew = w17 at BK369 HB hx370_0 hHeld ⊢;have mk2_:=trivial
     exact Z7x)
  | (have mk_:=mk2_
     generalize wr.drew = w21 at BK369 HB hx370_0 hHeld ⊢;have mk1_:=trivial
     exact Z7x)
  | (have mk_:=mk3_
     generalize wr.drew = w8 at BK369 HB hx370_0 hHeld ⊢;have mk3_:=trivial
     exact Z7x)):p:=h
set_option maxHeartbeats 8000000 in
set_option maxRecDepth 100000 in
theorem Z0e.calls (k:Nat) (gL:Lg) (pL:La) (A1:Option Addr) (c1:Nat) (l1:List ByteArray) (r:Bool) (w:World) (hL:Z2o gL pL w) (hr1:Kd.C Kd.string w A1 l1.length l1) (hc1:l1.length ≤ c1) (h:Z0e.f k gL l1 = some r) :
 Calls Tryz.prog 22 #[.agg (lcs gL pL),.slice A1 l1.length c1] w fun e w' => e = .returned (.bool r) ∧ Below w.heap.size w w':=by
 have hu41:=Tryz.underlying41;have HL:=am hL;clear hL;have HR1:=am hr1;have HC1:=am hc1;clear hr1 hc1;have HB:=am (Below.refl w.heap.size w);have H:(Z0e.l0 k l1 3 0 gL) = some r:=h;clear h;have H':=am H;clear H;go_enter Tryz.func22,Tryz.ntmps22
 go_wp2_with (first | ((with_reducible refine Z0z (t:=41) (p:=2) rfl ?_);(try (refine gate_guard (by rfl) ?_;dsimp only));refine wpList_load_row rfl 41 (.tmp 2) rfl gb369 rfl 41 _ (0,0) _ (tK BK369) Tryz.underlying41 rfl (by kernel_rfl) ?_) | ((with_reducible refine gate_dst (N:=2) rfl ?_);(try (refine gate_guard (by rfl) ?_;dsimp only));refine box_event ?hg (N:=2) ?hd (cs:=?cs) (t:=41) ?hr ?_;(case hd => rfl);(case hg => rfl);(case hr => exact Gc5);intro gb369 hg w3 hbox hb;have n0_:=am (below_step (tB HB) hb);have n1_:=am (hbox);have n2_:=tZ hg (tS HB);have n3_:=tZ hg (tS HB);revert n0_ n1_ n2_ n3_;clear HB;intro HB BK369 GW369 GE369;clear hb hbox hg))
 go_loopg [5,6] k (fun kq v5 v6 w' => ∃ (x5_1:Int) (x6_1:Int),v5 = .int .i64 x5_1 ∧ v6 = .int .i64 x6_1 ∧ Aside0 (Z0e.l0 kq l1 x5_1 x6_1 gL = some r) ∧ Aside0 (kq ≤ k) ∧ Aside0 (w'.heap[gb369]? = some (.cells (lcs gL pL) 41 (0,0))) ∧ Aside0 (Below w.heap.size w w'))
 case atStart => exact ⟨(3),(0),tV1,tV1,H',⟨Nat.le_refl _⟩,⟨tK BK369⟩,⟨tB HB⟩⟩
 case round =>
  clear H';obtain ⟨x5_1,x6_1,rfl,rfl,HA,HK1,BK369,HB⟩:=hrel
  cases gk with
  | zero => exact absurd HA.out (by simp [Z0e.l0])
  | succ k1 =>
   have H:=HA.out;clear HA;simp only [Z0e.l0] at H
   replace H:=iF H;obtain ⟨c4,H⟩ | ⟨c4,H⟩:=H
   ·
    have c4b0:decide (x6_1 < (l1.length:Int)) = true:=decide_eq_true c4;clear c4;replace H:=iFn H;obtain ⟨c5,H⟩:=H;have c5b0:decide (0 ≤ x6_1) = true:=decide_eq_true c5;clear c5;replace H:=bI H;obtain ⟨t371,A6,H⟩:=H;(try dsimp only at H)
    replace H:=iT H;obtain ⟨rfl,H⟩ | ⟨rfl,H⟩:=H
    ·
     have H':=am H;clear H;have mk3_:=trivial;exact Z7y
    ·
     replace H:=bI H;obtain ⟨t373,A10,H⟩:=H;(try dsimp only at H)
     replace H:=iT H;obtain ⟨rfl,H⟩ | ⟨rfl,H⟩:=H
     ·
      replace H:=iF H;obtain ⟨c12,H⟩ | ⟨c12,H⟩:=H
      ·
       have c12b0:decide (x5_1 < 2) = true:=decide_eq_true c12;clear c12;have H':=am H;clear H;have mk0_:=trivial;exact Z7y
      ·
       have c12b0:decide (x5_1 < 2) = false:=decide_eq_false c12;clear c12;obtain rfl:=Option.some.inj H;have mk1_:=trivial;exact Z7y
     ·
      obtain rfl:=Option.some.inj H;have mk2_:=trivial;exact Z7y
   ·
    have c4b0:decide (x6_1 < (l1.length:Int)) = false:=decide_eq_false c4;clear c4
    replace H:=iF H;obtain ⟨c25,H⟩ | ⟨c25,H⟩:=H
    ·
     have c25b0:decide (1 ≤ (l1.length:Int)) = true:=decide_eq_true c25;have c25b1:decide (1 ≤ l1.length) = true:=decide_eq_true (by omega);clear c25;obtain rfl:=Option.some.inj H;go_wp2;exact Z91
    ·
     have c25b0:decide (1 ≤ (l1.length:Int)) = false:=decide_eq_false c25;have c25b1:decide (1 ≤ l1.length) = false:=decide_eq_false (by omega);clear c25;obtain rfl:=Option.some.inj H;go_wp2;exact Z91
end Go.Proofs.YtfbhdjflkaldgaaGreatDoor.Pr
