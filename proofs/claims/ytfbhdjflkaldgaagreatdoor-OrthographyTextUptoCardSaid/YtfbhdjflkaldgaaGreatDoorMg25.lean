/- Several texts in one: PrF6, PrF7, PrF4, StOrthographyText, Pls, Evj, Pub, Snt, Ret. -/
import Derived.Test.YtfbhdjflkaldgaaGreatDoorMg1
import Derived.Test.YtfbhdjflkaldgaaGreatDoorMg2
import Derived.Test.YtfbhdjflkaldgaaGreatDoorMg18
import Derived.Test.YtfbhdjflkaldgaaGreatDoorMg17
import Derived.Test.YtfbhdjflkaldgaaGreatDoorMg24
import Derived.Test.YtfbhdjflkaldgaaGreatDoorMg3
import Derived.Test.YtfbhdjflkaldgaaGreatDoorMg15
import Derived.Test.YtfbhdjflkaldgaaGreatDoorMg10
import Derived.Test.YtfbhdjflkaldgaaGreatDoorMg19
/- What the reader reads: the parts between blanks. No program in sight. -/
/- The reference's join, Word and Host on strings. -/
/- What an input's weight and ranges tell: the bounds that the contracts ask. -/
/- orthography.Sentence and Text in plain words. -/
/- A written text read back: its sentences' words. No program in sight. -/
namespace Go.Proofs.YtfbhdjflkaldgaaGreatDoor.Pr
open Go.Proofs.YtfbhdjflkaldgaaGreatDoor.Ct Go.RowKit Go.Proofs.YtfbhdjflkaldgaaGreatDoorW.PrintWords Go.Proofs.YtfbhdjflkaldgaaGreatDoorW.PrintLast Go.Proofs.YtfbhdjflkaldgaaGreatDoorW.PrintMore
attribute [local go_sem] max2_int min2_int max_two min_two max_three min_three max_four min_four
set_option linter.unusedVariables false
set_option linter.unusedSimpArgs false
def Z1m.f (gL:Lg):Option (Bool):=if (gL.v2.length:Int) ≤ 40 then (if (gL.v9.length:Int) ≤ 4 then (if (gL.vs.length:Int) ≤ 60 then (if (gL.vr.length:Int) ≤ 12 then (some (decide ((gL.v5.length:Int) ≤ 30))) else (some false)) else (some false)) else (some false)) else (some false)
theorem Za4 {p:Prop} (h:p:=by
  go_enter Tryz.func6,Tryz.ntmps6
  go_wp2_with (first | ((with_reducible refine Z0z (t:=41) (p:=1) rfl ?_);(try (refine gate_guard (by rfl) ?_;dsimp only));refine wpList_load_row rfl 41 (.tmp 1) rfl gb310 rfl 41 _ (0,0) _ (tK BK310) Tryz.underlying41 rfl (by kernel_rfl) ?_) | ((with_reducible refine gate_dst (N:=1) rfl ?_);(try (refine gate_guard (by rfl) ?_;dsimp only));refine box_event ?hg (N:=1) ?hd (cs:=?cs) (t:=41) ?hr ?_;(case hd => rfl);(case hg => rfl);(case hr => exact Gc5);intro gb310 hg z2_ hbox hb;have z3_:=am (below_step (tB HB) hb);have z4_:=am (hbox);have z5_:=tZ hg (tS HB);have z6_:=tZ hg (tS HB);revert z3_ z4_ z5_ z6_;clear HB;intro HB BK310 z8_ GE310;clear hb hbox hg;have z10_:=cel2 BK310 2 rfl;have z11_:=cel2 BK310 5 rfl;have z12_:=cel2 BK310 9 rfl;have z13_:=cel2 BK310 27 rfl;have z14_:=cel2 BK310 28 rfl;have z15_:=blk_frozen BK310.out 2;have z16_:=blk_frozen BK310.out 5;have z17_:=blk_frozen BK310.out 9;have z18_:=blk_frozen BK310.out 27;have z19_:=blk_frozen BK310.out 28))
  go_ret
  exact ⟨tE,by repeat (first | (with_reducible first | exact HB.out | apply below_alloc | apply pw_below_drewN | apply below_drew1 | refine below_set ?_ GE310.out) | exact HB.out)⟩):p:=h
set_option maxHeartbeats 8000000 in
set_option maxRecDepth 100000 in
theorem Z1m.calls (gL:Lg) (pL:La) (r:Bool) (w:World) (hL:Z2o gL pL w) (h:Z1m.f gL = some r) :
 Calls Tryz.prog 6 #[.agg (lcs gL pL)] w fun e w' => e = .returned (.bool r) ∧ Below w.heap.size w w':=by
 have hu41:=Tryz.underlying41;have HL:=am hL;clear hL;have HB:=am (Below.refl w.heap.size w);have H:(if (gL.v2.length:Int) ≤ 40 then (if (gL.v9.length:Int) ≤ 4 then (if (gL.vs.length:Int) ≤ 60 then (if (gL.vr.length:Int) ≤ 12 then (some (decide ((gL.v5.length:Int) ≤ 30))) else (some false)) else (some false)) else (some false)) else (some false)) = some r:=h;clear h
 replace H:=iF H;obtain ⟨c2,H⟩ | ⟨c2,H⟩:=H
 ·
  have c2b0:decide ((gL.v2.length:Int) ≤ 40) = true:=decide_eq_true c2;have c2b1:decide (gL.v2.length ≤ 40) = true:=decide_eq_true (by omega);clear c2
  replace H:=iF H;obtain ⟨c3,H⟩ | ⟨c3,H⟩:=H
  ·
   have c3b0:decide ((gL.v9.length:Int) ≤ 4) = true:=decide_eq_true c3;have c3b1:decide (gL.v9.length ≤ 4) = true:=decide_eq_true (by omega);clear c3
   replace H:=iF H;obtain ⟨c4,H⟩ | ⟨c4,H⟩:=H
   ·
    have c4b0:decide ((gL.vs.length:Int) ≤ 60) = true:=decide_eq_true c4;have c4b1:decide (gL.vs.length ≤ 60) = true:=decide_eq_true (by omega);clear c4
    replace H:=iF H;obtain ⟨c5,H⟩ | ⟨c5,H⟩:=H
    ·
     have c5b0:decide ((gL.vr.length:Int) ≤ 12) = true:=decide_eq_true c5;have c5b1:decide (gL.vr.length ≤ 12) = true:=decide_eq_true (by omega);clear c5;obtain rfl:=Option.some.inj H;exact Za4
    ·
     have c5b0:decide ((gL.vr.length:Int) ≤ 12) = false:=decide_eq_false c5;have c5b1:decide (gL.vr.length ≤ 12) = false:=decide_eq_false (by omega);clear c5;obtain rfl:=Option.some.inj H;exact Za4
   ·
    have c4b0:decide ((gL.vs.length:Int) ≤ 60) = false:=decide_eq_false c4;have c4b1:decide (gL.vs.length ≤ 60) = false:=decide_eq_false (by omega);clear c4;obtain rfl:=Option.some.inj H;exact Za4
  ·
   have c3b0:decide ((gL.v9.length:Int) ≤ 4) = false:=decide_eq_false c3;have c3b1:decide (gL.v9.length ≤ 4) = false:=decide_eq_false (by omega);clear c3;obtain rfl:=Option.some.inj H;exact Za4
 ·
  have c2b0:decide ((gL.v2.length:Int) ≤ 40) = false:=decide_eq_false c2;have c2b1:decide (gL.v2.length ≤ 40) = false:=decide_eq_false (by omega);clear c2;obtain rfl:=Option.some.inj H;exact Za4
def Z0l.l0:Nat → List ByteArray → Int → Option (Bool)
 | 0,_,_ => none
 | k + 1,x0,x3 => if x3 < (x0.length:Int) then (if 0 ≤ x3 then (if ((rdOf ByteArray.empty x0 x3).size:Int) > 60 then (some false) else (Z0l.l0 k x0 (wrap64 (x3 + 1)))) else (none)) else (some (decide ((x0.length:Int) ≤ 45)))
def Z0l.f (k:Nat) (l0:List ByteArray):Option (Bool):=Z0l.l0 k l0 0
set_option maxHeartbeats 8000000 in
set_option maxRecDepth 100000 in
theorem Z0l.calls (k:Nat) (A0:Option Addr) (c0:Nat) (l0:List ByteArray) (r:Bool) (w:World) (hr0:Kd.C Kd.string w A0 l0.length l0) (hc0:l0.length ≤ c0) (h:Z0l.f k l0 = some r) :
 Calls Tryz.prog 7 #[.slice A0 l0.length c0] w fun e w' => e = .returned (.bool r) ∧ Drawn0 w w':=by
 have HR0:=am hr0;have HC0:=am hc0;clear hr0 hc0;have H:(Z0l.l0 k l0 0) = some r:=h;clear h;have H':=am H;clear H;go_enter Tryz.func7,Tryz.ntmps7;go_wp2
 go_loopg [3] k (fun kq v3 w' => ∃ (x3_1:Int),v3 = .int .i64 x3_1 ∧ Aside0 (Z0l.l0 kq l0 x3_1 = some r) ∧ Aside0 (kq ≤ k) ∧ Drawn0 w w')
 case atStart => exact ⟨(0),tV1,H',⟨Nat.le_refl _⟩,by repeat (first | exact Drawn0.refl _ | apply Drawn0.step)⟩
 case round =>
  clear H';obtain ⟨x3_1,rfl,HA,HK1,⟨m1,rfl⟩⟩:=hrel
  cases gk with
  | zero => exact absurd HA.out (by simp [Z0l.l0])
  | succ k1 =>
   have H:=HA.out;clear HA;simp only [Z0l.l0] at H
   replace H:=iF H;obtain ⟨c2,H⟩ | ⟨c2,H⟩:=H;rotate_left
   ·
    have c2b0:decide (x3_1 < (l0.length:Int)) = false:=decide_eq_false c2;clear c2;obtain rfl:=Option.some.inj H;go_wp2;go_ret;exact ⟨by first | rfl | (simp;done) | (simp [*];done),by repeat (first | exact Drawn0.refl _ | apply Drawn0.step)⟩
   have c2b0:decide (x3_1 < (l0.length:Int)) = true:=decide_eq_true c2;clear c2;replace H:=iFn H;obtain ⟨c3,H⟩:=H;have c3b0:decide (0 ≤ x3_1) = true:=decide_eq_true c3;clear c3
   replace H:=iF H;obtain ⟨c4,H⟩ | ⟨c4,H⟩:=H
   ·
    have c4b0:decide (60 < ((rdOf ByteArray.empty l0 x3_1).size:Int)) = true:=decide_eq_true c4;have c4b1:decide (60 < (rdOf ByteArray.empty l0 x3_1).size) = true:=decide_eq_true (by omega);clear c4;obtain rfl:=Option.some.inj H;have p311:0 ≤ (x3_1:Int):=oD;have q311:x3_1 < (l0.length:Int):=oD;obtain ⟨ad311,e311,hx311_0⟩:=Kd.at_string HR0.out x3_1 p311 q311;cases e311;replace p311:=eq_true p311;replace q311:=eq_true q311;go_wp2;go_ret;exact ⟨by first | rfl | (simp;done) | (simp [*];done),by repeat (first | exact Drawn0.refl _ | apply Drawn0.step)⟩
   ·
    have c4b0:decide (60 < ((rdOf ByteArray.empty l0 x3_1).size:Int)) = false:=decide_eq_false c4;have c4b1:decide (60 < (rdOf ByteArray.empty l0 x3_1).size) = false:=decide_eq_false (by omega);clear c4;have H':=am H;clear H;have p311:0 ≤ (x3_1:Int):=oD;have q311:x3_1 < (l0.length:Int):=oD;obtain ⟨ad311,e311,hx311_0⟩:=Kd.at_string HR0.out x3_1 p311 q311;cases e311;replace p311:=eq_true p311;replace q311:=eq_true q311;go_wp2
    go_roundg k1
    case measure => have:=HK1.out;omega
    case rel => exact ⟨(wrap64 (x3_1 + 1)),tV1,H',⟨by have:=HK1.out;omega⟩,by repeat (first | exact Drawn0.refl _ | apply Drawn0.step)⟩
mutual
def Z04.j0:Nat → List (List ByteArray) → Bool → Lg → Option (Bool)
 | 0,_,_,_ => none
 | k + 1,x1,x19,gx542 => if x19 = true then (some true) else (Z04.l0 k x1 0 gx542)
def Z04.l0:Nat → List (List ByteArray) → Int → Lg → Option (Bool)
 | 0,_,_,_ => none
 | k + 1,x1,x5,gx542 => if x5 < (x1.length:Int) then (if 0 ≤ x5 then ((Z0l.f k (Z3h x1 x5)).bind fun t545 => (if t545 = true then (Z04.l0 k x1 (wrap64 (x5 + 1)) gx542) else (some true))) else (none)) else ((Z0o.f k gx542 x1).bind fun bt546 => ((Z08.f k gx542 x1).bind fun bt548 => (if bt546.1.toList = bt548.1.toList then (some (bt546.2 == bt548.2)) else (some false))))
end
def Z04.f (k:Nat) (gL:Lg) (l1:List (List ByteArray)):Option (Bool):=(Z21.f).bind fun t542 => (if t542 = true then ((Z1m.f gL).bind fun t543 => (if t543 = true then (Z04.j0 k l1 (decide ((l1.length:Int) > 10)) gL) else (Z04.j0 k l1 true gL))) else (some false))
theorem Zjq {p:Prop} (h:p:=by
  obtain rfl:=Option.some.inj H
  go_wp2_with (first | ((with_reducible refine Z0z (t:=41) (p:=2) rfl ?_);(try (refine gate_guard (by rfl) ?_;dsimp only));refine wpList_load_row rfl 41 (.tmp 2) rfl gb541 rfl 41 _ (0,0) _ (tK BK541) Tryz.underlying41 rfl (by kernel_rfl) ?_) | ((with_reducible refine gate_callee (f:=10) rfl ?_);refine goesL_ (some 35) rfl rfl Tryz.func10 (by kernel_rfl) rfl #[.agg _,.slice A1 l1.length c1] rfl Gc2 ?_;(with_reducible refine (Z0o.calls k2 gL pL _ _ l1 t546 t547 _ ?sT (lB HL HB) (tC HR1 HB) HC1.out A19.out).mono ?_);(case sT => exact Gc1);rintro e z1_ ⟨rfl,hb⟩;refine ⟨_,rfl,?_⟩;have z2_:=am (blk_below (tK BK541) hb);have z3_:=am (below_step (tB HB) hb);revert z2_ z3_;clear BK541 HB;intro BK541 HB;(try clear hb);(try clear hb2);(try clear hk);(try clear hi)) | ((with_reducible refine gate_callee (f:=11) rfl ?_);refine goesL_ (some 41) rfl rfl Tryz.func11 (by kernel_rfl) rfl #[.agg _,.slice A1 l1.length c1] rfl Gc2 ?_;(with_reducible refine (Z08.calls k2 gL pL _ _ l1 t548 t549 _ ?sT (lB HL HB) (tC HR1 HB) HC1.out A20.out).mono ?_);(case sT => exact Gc1);rintro e z4_ ⟨rfl,hb⟩;refine ⟨_,rfl,?_⟩;have z2_:=am (blk_below (tK BK541) hb);have z3_:=am (below_step (tB HB) hb);revert z2_ z3_;clear BK541 HB;intro BK541 HB;(try clear hb);(try clear hb2);(try clear hk);(try clear hi)))
  go_ret
  exact ⟨tE,by repeat (first | (with_reducible first | exact HB.out | apply below_alloc | apply pw_below_drewN | apply below_drew1 | refine below_set ?_ GE541.out) | exact HB.out)⟩):p:=h
theorem Zew {p:Prop} (h:p:=by
  go_ret
  exact ⟨tE,by repeat (first | (with_reducible first | exact HB.out | apply below_alloc | apply pw_below_drewN | apply below_drew1 | refine below_set ?_ GE541.out) | exact HB.out)⟩):p:=h
theorem Zh8 {p:Prop} (h:p:=by
  have z1_:0 ≤ (x5_2:Int):=oD;have z2_:x5_2 < (l1.length:Int):=oD;obtain ⟨z3_,z4_,z5_,z6_,z7_,z8_,z9_⟩:=Zi1 HR1.out x5_2 z1_ z2_;cases z6_;replace z7_:=celB HB z7_;have z10_:=am z9_;have z11_:=am z8_;clear z9_ z8_;replace z1_:=eq_true z1_;replace z2_:=eq_true z2_
  first
  | (have mk_:=mk0_
     go_wp2_with (first | ((with_reducible refine Z0z (t:=41) (p:=2) rfl ?_);(try (refine gate_guard (by rfl) ?_;dsimp only));refine wpList_load_row rfl 41 (.tmp 2) rfl gb541 rfl 41 _ (0,0) _ (tK BK541) Tryz.underlying41 rfl (by kernel_rfl) ?_) | ((with_reducible refine gate_callee (f:=7) rfl ?_);refine goesL_ (some 30) rfl rfl Tryz.func7 (by kernel_rfl) rfl #[.slice z4_ (Z3h l1 x5_2).length z5_] rfl Gc2 ?_;(with_reducible refine (Z0l.calls k2 _ _ (Z3h l1 x5_2) true _ ?s1 ?s2 A17.out).mono ?_);(case s1 => exact tC z10_ HB);(case s2 => exact z11_.out);rintro e w' ⟨rfl,⟨nd,rfl⟩⟩;refine ⟨_,rfl,?_⟩))
     go_roundg k2
     case measure => have:=HJ4.out;have:=HK2.out;omega
     case rel => exact ⟨(wrap64 (x5_2 + 1)),tV1,H',⟨by have:=HJ4.out;have:=HK2.out;omega⟩,⟨tK BK541⟩,⟨tB HB⟩⟩)
  | (have mk_:=mk1_
     go_wp2_with (first | ((with_reducible refine Z0z (t:=41) (p:=2) rfl ?_);(try (refine gate_guard (by rfl) ?_;dsimp only));refine wpList_load_row rfl 41 (.tmp 2) rfl gb541 rfl 41 _ (0,0) _ (tK BK541) Tryz.underlying41 rfl (by kernel_rfl) ?_) | ((with_reducible refine gate_callee (f:=7) rfl ?_);refine goesL_ (some 30) rfl rfl Tryz.func7 (by kernel_rfl) rfl #[.slice z4_ (Z3h l1 x5_2).length z5_] rfl Gc2 ?_;(with_reducible refine (Z0l.calls k2 _ _ (Z3h l1 x5_2) false _ ?s1 ?s2 A17.out).mono ?_);(case s1 => exact tC z10_ HB);(case s2 => exact z11_.out);rintro e w' ⟨rfl,⟨nd,rfl⟩⟩;refine ⟨_,rfl,?_⟩))
     exact Zew)):p:=h
set_option maxHeartbeats 8000000 in
set_option maxRecDepth 100000 in
theorem Z04.calls (k:Nat) (gL:Lg) (pL:La) (A1:Option Addr) (c1:Nat) (l1:List (List ByteArray)) (r:Bool) (w:World) (hT:Tabs w) (hL:Z2o gL pL w) (hr1:Kd.C (Kd.slice 9 Kd.string) w A1 l1.length l1) (hc1:l1.length ≤ c1) (h:Z04.f k gL l1 = some r) :
 Calls Tryz.prog 4 #[.agg (lcs gL pL),.slice A1 l1.length c1] w fun e w' => e = .returned (.bool r) ∧ Below w.heap.size w w':=by
 have HT:=am hT;clear hT;have hu41:=Tryz.underlying41;have HL:=am hL;clear hL;have HR1:=am hr1;have HC1:=am hc1;clear hr1 hc1;have HB:=am (Below.refl w.heap.size w);have H:((Z21.f).bind fun t542 => (if t542 = true then ((Z1m.f gL).bind fun t543 => (if t543 = true then (Z04.j0 k l1 (decide ((l1.length:Int) > 10)) gL) else (Z04.j0 k l1 true gL))) else (some false))) = some r:=h;clear h;replace H:=bI H;obtain ⟨t542,A3,H⟩:=H;(try dsimp only at H)
 replace H:=iT H;obtain ⟨rfl,H⟩ | ⟨rfl,H⟩:=H
 ·
  have HC5:=am H;clear H;go_enter Tryz.func4,Tryz.ntmps4
  go_upto_region 3 with (first | ((with_reducible refine Z0z (t:=41) (p:=2) rfl ?_);(try (refine gate_guard (by rfl) ?_;dsimp only));refine wpList_load_row rfl 41 (.tmp 2) rfl gb541 rfl 41 _ (0,0) _ (tK BK541) Tryz.underlying41 rfl (by kernel_rfl) ?_) | ((with_reducible refine gate_dst (N:=2) rfl ?_);(try (refine gate_guard (by rfl) ?_;dsimp only));refine box_event ?hg (N:=2) ?hd (cs:=?cs) (t:=41) ?hr ?_;(case hd => rfl);(case hg => rfl);(case hr => exact Gc5);intro gb541 hg w6 hbox hb;have n0_:=am (below_step (tB HB) hb);have n1_:=am (hbox);have n2_:=tZ hg (tS HB);have n3_:=tZ hg (tS HB);revert n0_ n1_ n2_ n3_;clear HB;intro HB BK541 GW541 GE541;clear hb hbox hg) | ((with_reducible refine gate_callee (f:=5) rfl ?_);refine goesL_ (some 10) rfl rfl Tryz.func5 (by kernel_rfl) rfl #[] rfl Gc2 ?_;(with_reducible refine (Z21.calls  true _ ?sT A3.out).mono ?_);(case sT => exact Gc1);rintro e w7 ⟨rfl,hb⟩;refine ⟨_,rfl,?_⟩;have n0_:=am (blk_below (tK BK541) hb);have n1_:=am (below_step (tB HB) hb);revert n0_ n1_;clear BK541 HB;intro BK541 HB;(try clear hb);(try clear hb2);(try clear hk);(try clear hi)))
  (try simp only [Act.put,List.setIfInBounds_toArray,List.set_cons_zero,List.set_cons_succ])
  go_cut [19] (fun v19 wc => ∃ (kq:Nat) (x19_4:Bool),v19 = .bool x19_4 ∧ Aside0 (Z04.j0 kq l1 x19_4 gL = some r) ∧ Aside0 (kq ≤ k) ∧ Aside0 (wc.heap[gb541]? = some (.cells (lcs gL pL) 41 (0,0))) ∧ Aside0 (Below w.heap.size w wc))
  case first =>
   have H:=HC5.out;clear HC5;replace H:=bI H;obtain ⟨t543,A8,H⟩:=H;(try dsimp only at H)
   replace H:=iT H;obtain ⟨rfl,H⟩ | ⟨rfl,H⟩:=H
   ·
    have H':=am H;clear H
    go_wp2_with (first | ((with_reducible refine Z0z (t:=41) (p:=2) rfl ?_);(try (refine gate_guard (by rfl) ?_;dsimp only));refine wpList_load_row rfl 41 (.tmp 2) rfl gb541 rfl 41 _ (0,0) _ (tK BK541) Tryz.underlying41 rfl (by kernel_rfl) ?_) | ((with_reducible refine gate_callee (f:=6) rfl ?_);refine goesL_ (some 13) rfl rfl Tryz.func6 (by kernel_rfl) rfl #[.agg _] rfl Gc2 ?_;(with_reducible refine (Z1m.calls gL pL true _ (lB HL HB) A8.out).mono ?_);rintro e w11 ⟨rfl,hb⟩;refine ⟨_,rfl,?_⟩;have n0_:=am (blk_below (tK BK541) hb);have n1_:=am (below_step (tB HB) hb);revert n0_ n1_;clear BK541 HB;intro BK541 HB;(try clear hb);(try clear hb2);(try clear hk);(try clear hi)))
    go_meet
    case rel => exact ⟨_,(decide ((l1.length:Int) > 10)),tV1,H',⟨tU⟩,⟨tK BK541⟩,⟨tB HB⟩⟩
   ·
    have H':=am H;clear H
    go_wp2_with (first | ((with_reducible refine Z0z (t:=41) (p:=2) rfl ?_);(try (refine gate_guard (by rfl) ?_;dsimp only));refine wpList_load_row rfl 41 (.tmp 2) rfl gb541 rfl 41 _ (0,0) _ (tK BK541) Tryz.underlying41 rfl (by kernel_rfl) ?_) | ((with_reducible refine gate_callee (f:=6) rfl ?_);refine goesL_ (some 13) rfl rfl Tryz.func6 (by kernel_rfl) rfl #[.agg _] rfl Gc2 ?_;(with_reducible refine (Z1m.calls gL pL false _ (lB HL HB) A8.out).mono ?_);rintro e w13 ⟨rfl,hb⟩;refine ⟨_,rfl,?_⟩;have n0_:=am (blk_below (tK BK541) hb);have n1_:=am (below_step (tB HB) hb);revert n0_ n1_;clear BK541 HB;intro BK541 HB;(try clear hb);(try clear hb2);(try clear hk);(try clear hi)))
    go_meet
    case rel => exact ⟨_,(true),tV1,H',⟨tU⟩,⟨tK BK541⟩,⟨tB HB⟩⟩
  case rest =>
   clear HC5;(try clear c4);obtain ⟨kq,x19_4,rfl,HA,HJ4,BK541,HB⟩:=hcut
   cases kq with
   | zero => exact absurd HA.out (by simp [Z04.j0])
   | succ kj4 =>
    have H:=HA.out;clear HA;simp only [Z04.j0] at H
    replace H:=iT H;obtain ⟨rfl,H⟩ | ⟨rfl,H⟩:=H
    ·
     obtain rfl:=Option.some.inj H;go_wp2;exact Zew
    ·
     have H':=am H;clear H;go_wp2
     go_loopg [5] kj4 (fun kq v5 w' => ∃ (x5_2:Int),v5 = .int .i64 x5_2 ∧ Aside0 (Z04.l0 kq l1 x5_2 gL = some r) ∧ Aside0 (kq ≤ kj4) ∧ Aside0 (w'.heap[gb541]? = some (.cells (lcs gL pL) 41 (0,0))) ∧ Aside0 (Below w.heap.size w w'))
     case atStart => exact ⟨(0),tV1,H',⟨Nat.le_refl _⟩,⟨tK BK541⟩,⟨tB HB⟩⟩
     case round =>
      clear H';(try clear c4);(try clear c14);obtain ⟨x5_2,rfl,HA,HK2,BK541,HB⟩:=hrel
      cases gk with
      | zero => exact absurd HA.out (by simp [Z04.l0])
      | succ k2 =>
       have H:=HA.out;clear HA;simp only [Z04.l0] at H
       replace H:=iF H;obtain ⟨c15,H⟩ | ⟨c15,H⟩:=H
       ·
        have c15b0:decide (x5_2 < (l1.length:Int)) = true:=decide_eq_true c15;clear c15;replace H:=iFn H;obtain ⟨c16,H⟩:=H;have c16b0:decide (0 ≤ x5_2) = true:=decide_eq_true c16;clear c16;replace H:=bI H;obtain ⟨t545,A17,H⟩:=H;(try dsimp only at H)
        replace H:=iT H;obtain ⟨rfl,H⟩ | ⟨rfl,H⟩:=H
        ·
         have H':=am H;clear H;have mk0_:=trivial;exact Zh8
        ·
         obtain rfl:=Option.some.inj H;have mk1_:=trivial;exact Zh8
       ·
        have c15b0:decide (x5_2 < (l1.length:Int)) = false:=decide_eq_false c15;clear c15;replace H:=bI H;obtain ⟨⟨t546,t547⟩,A19,H⟩:=H;(try dsimp only at H);replace H:=bI H;obtain ⟨⟨t548,t549⟩,A20,H⟩:=H;(try dsimp only at H)
        replace H:=iE H;obtain ⟨-,c21b0,c21b1,H⟩ | ⟨c21,c21b0,c21b1,H⟩:=H
        ·
         exact Zjq
        ·
         exact Zjq
 ·
  obtain rfl:=Option.some.inj H;go_enter Tryz.func4,Tryz.ntmps4
  go_wp2_with (first | ((with_reducible refine Z0z (t:=41) (p:=2) rfl ?_);(try (refine gate_guard (by rfl) ?_;dsimp only));refine wpList_load_row rfl 41 (.tmp 2) rfl gb541 rfl 41 _ (0,0) _ (tK BK541) Tryz.underlying41 rfl (by kernel_rfl) ?_) | ((with_reducible refine gate_dst (N:=2) rfl ?_);(try (refine gate_guard (by rfl) ?_;dsimp only));refine box_event ?hg (N:=2) ?hd (cs:=?cs) (t:=41) ?hr ?_;(case hd => rfl);(case hg => rfl);(case hr => exact Gc5);intro gb541 hg w30 hbox hb;have n0_:=am (below_step (tB HB) hb);have n1_:=am (hbox);have n2_:=tZ hg (tS HB);have n3_:=tZ hg (tS HB);revert n0_ n1_ n2_ n3_;clear HB;intro HB BK541 GW541 GE541;clear hb hbox hg) | ((with_reducible refine gate_callee (f:=5) rfl ?_);refine goesL_ (some 10) rfl rfl Tryz.func5 (by kernel_rfl) rfl #[] rfl Gc2 ?_;(with_reducible refine (Z21.calls  false _ ?sT A3.out).mono ?_);(case sT => exact Gc1);rintro e w31 ⟨rfl,hb⟩;refine ⟨_,rfl,?_⟩;have n0_:=am (blk_below (tK BK541) hb);have n1_:=am (below_step (tB HB) hb);revert n0_ n1_;clear BK541 HB;intro BK541 HB;(try clear hb);(try clear hb2);(try clear hk);(try clear hi)))
  exact Zew
end Go.Proofs.YtfbhdjflkaldgaaGreatDoor.Pr

namespace Go.Proofs.YtfbhdjflkaldgaaGreatDoor.PuOrthographyText
open Go.RowKit Go.Proofs.YtfbhdjflkaldgaaGreatDoor.Pr Go.Proofs.YtfbhdjflkaldgaaGreatDoor.Opn Go.Proofs.YtfbhdjflkaldgaaGreatDoor.Ct
def Upto:Prop:=∀ (gL:Lg) (l1:List (List ByteArray)),(Ms.pair Ms.string (Ms.pair Ms.bool (Ms.pair (Ms.pair (Ms.slice ms68) (Ms.pair (Ms.slice ms73) (Ms.pair (Ms.slice Z7i) (Ms.slice Z7h)))) (Ms.pair (Ms.pair (Ms.slice (Ms.slice (Ms.int .u32))) (Ms.pair (Ms.int .i64) (Ms.int .i64))) (Ms.pair (Ms.slice ms73) (Ms.pair (Ms.pair (Ms.int .i64) (Ms.pair (Ms.slice Ms.string) (Ms.pair (Ms.slice Ms.string) (Ms.pair Ms.bool (Ms.pair Ms.string (Ms.pair (Ms.int .i64) (Ms.pair Ms.string Ms.bool))))))) (Ms.pair (Ms.pair (Ms.int .i64) (Ms.pair (Ms.int .i64) (Ms.pair (Ms.slice Z4n) (Ms.pair (Ms.slice Z4n) (Ms.pair (Ms.slice Ms.string) (Ms.pair (Ms.slice Ms.string) (Ms.pair (Ms.slice Ms.string) Ms.bool))))))) (Ms.pair (Ms.slice Z86) (Ms.pair (Ms.slice Z85) (Ms.pair (Ms.slice Z84) Ms.string)))))))))).good (gL.v0,gL.v1,(gL.v2,gL.v3,gL.v4,gL.v5),(gL.v6,gL.v7,gL.v8),gL.v9,(gL.va,gL.vb,gL.vc,gL.vd,gL.ve,gL.vf,gL.vg,gL.vh),(gL.vi,gL.vj,gL.vk,gL.vl,gL.vm,gL.vn,gL.vo,gL.vp),gL.vq,gL.vr,gL.vs,gL.vt) → (Ms.slice (Ms.slice Ms.string)).good l1 → (Ms.pair Ms.string (Ms.pair Ms.bool (Ms.pair (Ms.pair (Ms.slice ms68) (Ms.pair (Ms.slice ms73) (Ms.pair (Ms.slice Z7i) (Ms.slice Z7h)))) (Ms.pair (Ms.pair (Ms.slice (Ms.slice (Ms.int .u32))) (Ms.pair (Ms.int .i64) (Ms.int .i64))) (Ms.pair (Ms.slice ms73) (Ms.pair (Ms.pair (Ms.int .i64) (Ms.pair (Ms.slice Ms.string) (Ms.pair (Ms.slice Ms.string) (Ms.pair Ms.bool (Ms.pair Ms.string (Ms.pair (Ms.int .i64) (Ms.pair Ms.string Ms.bool))))))) (Ms.pair (Ms.pair (Ms.int .i64) (Ms.pair (Ms.int .i64) (Ms.pair (Ms.slice Z4n) (Ms.pair (Ms.slice Z4n) (Ms.pair (Ms.slice Ms.string) (Ms.pair (Ms.slice Ms.string) (Ms.pair (Ms.slice Ms.string) Ms.bool))))))) (Ms.pair (Ms.slice Z86) (Ms.pair (Ms.slice Z85) (Ms.pair (Ms.slice Z84) Ms.string)))))))))).bulk (gL.v0,gL.v1,(gL.v2,gL.v3,gL.v4,gL.v5),(gL.v6,gL.v7,gL.v8),gL.v9,(gL.va,gL.vb,gL.vc,gL.vd,gL.ve,gL.vf,gL.vg,gL.vh),(gL.vi,gL.vj,gL.vk,gL.vl,gL.vm,gL.vn,gL.vo,gL.vp),gL.vq,gL.vr,gL.vs,gL.vt) + (Ms.slice (Ms.slice Ms.string)).bulk l1 ≤ 1048576 → ∃ k,Z04.f k gL l1 = some true
end Go.Proofs.YtfbhdjflkaldgaaGreatDoor.PuOrthographyText

namespace Go.Proofs.YtfbhdjflkaldgaaGreatDoor.Pr
open Go.Proofs.YtfbhdjflkaldgaaGreatDoor.Ct Go.RowKit Go.Maps Go.Lib Go.Proofs.YtfbhdjflkaldgaaGreatDoorW.PrintWords Go.Proofs.YtfbhdjflkaldgaaGreatDoorW.PrintLast Go.Proofs.YtfbhdjflkaldgaaGreatDoorW.PrintMore
set_option linter.unusedVariables false
set_option linter.unusedSimpArgs false
def toB (l:List UInt8):ByteArray:=⟨l.toArray⟩
theorem Z5p (l:List UInt8):(toB l).data.toList = l:=by unfold toB;simp
theorem Zjb (b:ByteArray):toB b.data.toList = b:=by unfold toB;simp
theorem Zh0 (rs:List Int):encS rs = toB (encL rs):=rfl
def Z7z (l:List S68) (p:ByteArray):Bool:=Z5w (isL l) p.data.toList
theorem Zeo (s:ByteArray) (a b:Nat):s.extract a b = toB ((s.data.toList.drop a).take (b - a)):=Z4l (by rw [extract_data,Z5p])
theorem bt_L (s:ByteArray) (i:Nat) (h:i < s.data.toList.length):bt s (i:Int) = ((s.data.toList[i]).toNat:Int):=by
  unfold bt;rw [Int.toNat_natCast,dif_pos (by rw [← sizeL];exact h)]
  simp [ByteArray.getElem_eq_getElem_data]
theorem Zhq (a b:ByteArray):(a ++ b).data.toList = a.data.toList ++ b.data.toList:=by rw [ByteArray.data_append,Array.toList_append]
theorem Zjd (l:List ByteArray) (i:Nat) (h:i < l.length):Z49 (l.take (i + 1)) = (if 0 < i then Z49 (l.take i) ++ (⟨#[32]⟩:ByteArray) else Z49 (l.take i)) ++ rdOf ByteArray.empty l (i:Int):=by
  have e:l.take (i + 1) = l.take i ++ [rdOf ByteArray.empty l (i:Int)]:=by
    rw [List.take_add_one,List.getElem?_eq_getElem h];unfold rdOf;rw [Int.toNat_natCast,List.getD_eq_getElem?_getD,List.getElem?_eq_getElem h];rfl
  rw [e];generalize rdOf ByteArray.empty l (i:Int) = x
  by_cases c:0 < i
  · rw [if_pos c]
    obtain ⟨y,ys,hy⟩:=List.exists_cons_of_ne_nil (show l.take i ≠ [] from fun e => by have:=congrArg List.length e;rw [List.length_take,List.length_nil] at this;omega);rw [hy];apply Z4l;unfold Z49;rw [Zhq,Zhq]
    simp [join_cons,joinTail]
  · obtain rfl:i = 0:=by omega
    rw [if_neg c];apply Z4l;unfold Z49;rw [Zhq]
    simp [join_one,join_nil]
theorem Zje (l:List ByteArray) (h1:∀ x ∈ l,x.size ≤ 1099511627776) (h2:l.length ≤ 1048576):Ev (fun k => Z11.f k l) (Z49 l):=by
  have hsz:∀ i,i ≤ l.length → (Z49 (l.take i)).size ≤ 1099511627777 * i:=by
    intro i hi;have:=Z4j (l.take i) 1099511627776 (fun x hx => h1 x (List.mem_of_mem_take hx));rw [List.length_take,Nat.min_eq_left hi] at this;exact this
  have key:∀ d i,l.length - i = d → i ≤ l.length → Ev (fun k => Z11.l0 k l (Z49 (l.take i)) (i:Int)) (Z49 l):=by
    intro d
    induction d with
    | zero =>
      intro i hd hi
      obtain rfl:i = l.length:=by omega
      refine Ev.step (f:=fun _ => some _) (fun k => ?_) (Ev.now _)
      simp only [Z11.l0];rw [if_neg (by omega),List.take_length]
    | succ d ih =>
      intro i hd hi
      have hlt:i < l.length:=by omega
      refine Ev.step (fun k => ?_) (ih (i + 1) (by omega) (by omega))
      simp only [Z11.l0];have hb:=hsz (i + 1) (by omega);have hb0:=hsz i hi;rw [Zjd l i hlt] at hb ⊢;rw [if_pos (by omega)]
      by_cases c:0 < i
      · rw [if_pos c] at hb ⊢
        rw [if_pos (by omega),if_pos (by omega),if_pos (by omega),if_pos (by rw [← ByteArray.size_append];omega),Z1a hlt (by omega)]
      · rw [if_neg c] at hb ⊢
        rw [if_neg (by omega),if_pos (by omega),if_pos (by rw [← ByteArray.size_append];omega),Z1a hlt (by omega)]
  have:=key l.length 0 (by omega) (by omega);rw [List.take_zero] at this
  refine Ev.congr (fun k => ?_) this
  rfl
theorem Zbe (l:List S68) (a:ByteArray) (h:a.size ≤ 1099511627776):Z20.f l a = some (Z18 l a):=by
  unfold Z20.f Z2f.f Z18;rw [if_pos h,Option.bind_some];unfold Zhe
  by_cases c:(Z0d a).all (isL l) = true
  · rw [if_pos c,c]
    by_cases c2:validD a.data.toList = true
    · rw [if_pos c2,c2,List.length_map]
      simp only [Bool.true_and]
      congr 1
      rw [decide_eq_decide];omega
    · rw [if_neg c2]
      simp at c2
      rw [c2];rfl
  · rw [if_neg c]
    simp only [Bool.false_eq_true,if_false]
    simp at c
    rw [show (Z0d a).all (isL l) = false by simpa using c,Bool.false_and,Bool.and_false]
theorem Zls (gL:Lg) (a1:ByteArray) (h61:isL gL.v2 61 = false) (h:a1.size ≤ 1099511627776):Z1q.f gL a1 = some (Z7z gL.v2 a1):=by
  unfold Z1q.f Z7z Z5w
  by_cases c:a1 = ByteArray.empty
  · subst c
    rw [if_pos (by rw [toList_data];rfl)];rfl
  · have hne:a1.data.toList ≠ []:=fun e => c (Z4l (by rw [e];rfl))
    have hz:0 < a1.size:=by
      rw [← sizeL];exact List.length_pos_iff.2 hne
    rw [if_neg (by rw [toList_data];exact hne),if_pos (by omega),decide_eq_true (by rw [sizeL];exact hz),Bool.true_and]
    have hlt:0 < a1.data.toList.length:=by rw [sizeL];exact hz
    have hbt:=bt_L a1 0 hlt
    by_cases c2:a1.data.toList[0] = 61
    · rw [if_pos (by rw [show (0:Int) = ((0:Nat):Int) from rfl,hbt,c2];rfl)]
      have e:a1.data.toList = encodeRune 61 ++ a1.data.toList.drop 1:=by
        rw [show encodeRune 61 = [61] by decide,← c2];exact (List.drop_eq_getElem_cons hlt)
      have:(Z32 a1.data.toList).all (isL gL.v2) = false:=by
        rw [e,Z62 61 (by unfold scalar;omega),List.all_cons,h61,Bool.false_and]
      rw [this,Bool.false_and,Bool.and_false]
    · rw [if_neg,Zbe gL.v2 a1 h]
      · rfl
      · rw [show (0:Int) = ((0:Nat):Int) from rfl,hbt]
        intro h9;apply c2;apply UInt8.toNat_inj.1
        have:(a1.data.toList[0]'hlt).toNat = 61:=by omega
        rw [this];rfl
end Go.Proofs.YtfbhdjflkaldgaaGreatDoor.Pr

namespace Go.Proofs.YtfbhdjflkaldgaaGreatDoor.Pr
open Go.RowKit Go.Proofs.YtfbhdjflkaldgaaGreatDoor.Ct Go.Proofs.YtfbhdjflkaldgaaGreatDoor.Opn Go.Proofs.YtfbhdjflkaldgaaGreatDoorW.PrintWords Go.Proofs.YtfbhdjflkaldgaaGreatDoorW.PrintLast
set_option linter.unusedVariables false
theorem Z6k {α:Type} (m:Ms α):∀ (xs:List α) (x:α),x ∈ xs → m.bulk x ≤ (xs.map m.bulk).sum
  | y :: xs,x,h => by
    rw [List.map_cons,List.sum_cons]
    rcases List.mem_cons.1 h with rfl | h
    · omega
    · have:=Z6k m xs x h;omega
theorem Z58 {α:Type} (m:Ms α) (h:∀ x,1 ≤ m.bulk x):∀ xs:List α,xs.length ≤ (xs.map m.bulk).sum
  | [] => by simp
  | y :: xs => by
    rw [List.map_cons,List.sum_cons,List.length_cons];have:=Z58 m h xs;have:=h y;omega
theorem Z5q (l:List S70) (h:(Ms.slice ms70).bulk l ≤ 1048576):Z37 l = true ∧ l.length ≤ 1099511627776:=by
  have h1:(l.map ms70.bulk).sum + 1 ≤ 1048576:=h
  refine ⟨?_,?_⟩
  · unfold Z37
    rw [List.all_eq_true];intro x hx;have h2:=Nat.le_trans (Z6k ms70 _ _ hx) (show (l.map ms70.bulk).sum ≤ 1048576 by omega);have h3:1 + ((x.f1.size + 1) + (1 + 1)) ≤ 1048576:=h2
    simp
    omega
  · have:=Z58 ms70 (fun x => by show 1 ≤ 1 + _;omega) l
    omega
theorem Zaa (l:List S73) (h:(Ms.slice ms73).bulk l ≤ 1048576):l.all Z2k = true ∧ Z77 l = true:=by
  have h1:(l.map ms73.bulk).sum + 1 ≤ 1048576:=h
  have key:∀ x ∈ l,x.f1.size ≤ 1048576 ∧ (Ms.slice ms70).bulk x.f2 ≤ 1048576 ∧ (Ms.slice ms70).bulk x.f3 ≤ 1048576:=by
    intro x hx;have h2:=Nat.le_trans (Z6k ms73 _ _ hx) (show (l.map ms73.bulk).sum ≤ 1048576 by omega);have h3:1 + ((x.f1.size + 1) + ((Ms.slice ms70).bulk x.f2 + ((Ms.slice ms70).bulk x.f3 + (1 + 1)))) ≤ 1048576:=h2;omega
  refine ⟨?_,?_⟩
  · rw [List.all_eq_true]
    intro x hx;obtain ⟨a,b,c⟩:=key x hx;unfold Z2k;rw [(Z5q _ b).1,(Z5q _ c).1]
    simp
    omega
  · unfold Z77
    rw [List.all_eq_true];intro x hx;obtain ⟨a,b,c⟩:=key x hx;rw [Bool.and_eq_true];exact ⟨decide_eq_true (Z5q _ b).2,decide_eq_true (Z5q _ c).2⟩
theorem Zbf (l:List S68) (h:(Ms.slice ms68).good l):Z1z l = true:=by
  unfold Z1z;rw [List.all_eq_true];intro x hx;exact (h.2 x hx).1
end Go.Proofs.YtfbhdjflkaldgaaGreatDoor.Pr

namespace Go.Proofs.YtfbhdjflkaldgaaGreatDoor.Pr
open Go.Proofs.YtfbhdjflkaldgaaGreatDoor.Ct Go.RowKit Go.Maps Go.Lib Go.Proofs.YtfbhdjflkaldgaaGreatDoorW.PrintWords Go.Proofs.YtfbhdjflkaldgaaGreatDoorW.PrintLast Go.Proofs.YtfbhdjflkaldgaaGreatDoorW.PrintMore
set_option linter.unusedVariables false
set_option linter.unusedSimpArgs false
theorem Zhr (l:List ByteArray) (i:Nat) (h:i < l.length):rdOf ByteArray.empty l (i:Int) ∈ l :=
  List.mem_of_mem_drop (i:=i) (by rw [Z4v l i h];simp)
theorem Zjf (a b:ByteArray):a.toList = b.toList ↔ a = b:=by
  rw [ByteArray.toList_eq,ByteArray.toList_eq];exact ⟨Z4l,fun h => by rw [h]⟩
theorem Z5r {l:List S68} {w:ByteArray} (h:Z18 l w = true):w.size ≤ 160:=by
  have hl:=Z7u h;unfold Z18 at h;simp only [Bool.and_eq_true] at h;have e:=(Z36 w.data.toList).1 h.1;have:=Zbw (Z32 w.data.toList);rw [e,sizeL] at this;unfold Z0d at hl;omega
theorem Z80 (l:List S68) (rules:List S73) (w:ByteArray):(Z2b l rules w).1.size ≤ 820:=by
  unfold Z2b
  split
  · rename_i h
    exact Z9x l rules w 820 (Nat.le_refl _) (Nat.le_trans (Z5r h.2.1) (by decide))
  · exact Nat.zero_le _
theorem Zab (l:List S68) (rules:List S73) (h c:ByteArray):(Z3z l rules h c).1.size ≤ 3280:=by
  unfold Z3z
  split
  · exact Nat.zero_le _
  · split
    · have h1:=Z6a ((Z0d (Z2b l rules (Z3k h c)).1).filter fun r => r != 61)
      have h2:=List.length_filter_le (fun r:Int => r != 61) (Z0d (Z2b l rules (Z3k h c)).1);have h3:=Z5m _ (Z2b l rules (Z3k h c)).1.data.toList (Nat.le_refl _);rw [sizeL] at h3;have h4:=Z80 l rules (Z3k h c);unfold Z0d at h1 h2 ⊢;show (encS _).size ≤ 3280;omega
    · exact Nat.zero_le _
theorem Zh4 (l:List S68) (ts:List ByteArray) (h1:Z1z l = true) (hs:∀ x ∈ ts,x.size ≤ 1099511627776) (hl:ts.length ≤ 9223372036854775807):Ev (fun k => Z1n.f k l ts) (ts.all (Z18 l)):=by
  have key:∀ d i,ts.length - i = d → i ≤ ts.length → Ev (fun k => Z1n.l0 k l ts (ts.length:Int) (i:Int)) ((ts.drop i).all (Z18 l)):=by
    intro d
    induction d with
    | zero =>
      intro i hd hi
      obtain rfl:i = ts.length:=by omega
      rw [List.drop_length]
      refine Ev.step (f:=fun _ => some true) (fun k => ?_) (Ev.now _)
      simp only [Z1n.l0];rw [if_neg (by omega)]
    | succ d ih =>
      intro i hd hi
      have hlt:i < ts.length:=by omega
      have hx:Z29.f l (rdOf ByteArray.empty ts (i:Int)) = some (Z18 l (rdOf ByteArray.empty ts (i:Int))):=by
        unfold Z29.f;rw [if_pos ⟨h1,Nat.le_trans (hs _ (Zhr ts i hlt)) (by decide)⟩]
      rw [Z4v ts i hlt,List.all_cons]
      cases e:Z18 l (rdOf ByteArray.empty ts (i:Int)) with
      | true =>
        rw [Bool.true_and]
        refine Ev.step (fun k => ?_) (ih (i + 1) (by omega) (by omega))
        simp only [Z1n.l0];rw [if_pos (by omega),if_pos (by omega),if_pos (by omega),hx,e,Option.bind_some,if_pos rfl,Z1a hlt hl]
      | false =>
        refine Ev.step (f:=fun _ => some false) (fun k => ?_) (Ev.now _)
        simp only [Z1n.l0];rw [if_pos (by omega),if_pos (by omega),if_pos (by omega),hx,e,Option.bind_some];rfl
  have:=key ts.length 0 (by omega) (by omega);rw [List.drop_zero] at this;exact this
def allF (l:List S68) (rules:List S73):List ByteArray → ByteArray → ByteArray × Int
  | [],w => (w,0)
  | c :: cs,w => if (Z3z l rules w c).2 = 0 then allF l rules cs (Z3z l rules w c).1 else ((⟨#[]⟩:ByteArray),(Z3z l rules w c).2)
theorem Zdu (l:List S68) (rules:List S73):∀ (cs:List ByteArray) (w:ByteArray),(allF l rules cs w).1.size ≤ max w.size 3280
  | [],w => Nat.le_max_left _ _
  | c :: cs,w => by
    unfold allF
    split
    · have:=Zdu l rules cs (Z3z l rules w c).1
      have:=Zab l rules w c;omega
    · exact Nat.zero_le _
theorem Zo2 (l:List S68) (rules:List S73) (h1:Z1z l = true) (h2:rules.all Z2k = true) (cs:List ByteArray) (hs:∀ x ∈ cs,x.size ≤ 274877906944) (hl:cs.length ≤ 9223372036854775807) (w:ByteArray) (hw:w.size ≤ 274877906944):Ev (fun k => Z1j.f k l rules w cs) (allF l rules cs w):=by
  have key:∀ d i w,cs.length - i = d → i ≤ cs.length → w.size ≤ 274877906944 → Ev (fun k => Z1j.l0 k w cs (cs.length:Int) (i:Int) l rules) (allF l rules (cs.drop i) w):=by
    intro d
    induction d with
    | zero =>
      intro i w hd hi hw
      obtain rfl:i = cs.length:=by omega
      rw [List.drop_length]
      refine Ev.step (f:=fun _ => some (w,0)) (fun k => ?_) (Ev.now _)
      simp only [Z1j.l0];rw [if_neg (by omega)]
    | succ d ih =>
      intro i w hd hi hw
      have hlt:i < cs.length:=by omega
      have hx:Z2n.f l rules w (rdOf ByteArray.empty cs (i:Int)) = some (Z3z l rules w (rdOf ByteArray.empty cs (i:Int))):=by
        unfold Z2n.f;rw [if_pos ⟨⟨h1,h2⟩,hw,hs _ (Zhr cs i hlt)⟩]
      rw [Z4v cs i hlt];unfold allF
      by_cases e:(Z3z l rules w (rdOf ByteArray.empty cs (i:Int))).2 = 0
      · rw [if_pos e]
        refine Ev.step (fun k => ?_) (ih (i + 1) _ (by omega) (by omega) (Nat.le_trans (Zab l rules w _) (by decide)))
        simp only [Z1j.l0];rw [if_pos (by omega),if_pos (by omega),if_pos (by omega),hx,Option.bind_some,if_pos e,Z1a hlt hl]
      · rw [if_neg e]
        refine Ev.step (f:=fun _ => some _) (fun k => ?_) (Ev.now _)
        simp only [Z1j.l0];rw [if_pos (by omega),if_pos (by omega),if_pos (by omega),hx,Option.bind_some,if_neg e]
  have:=key cs.length 0 w (by omega) (by omega) hw;rw [List.drop_zero] at this;exact this
def Z28 (l:List S68) (rules:List S73) (h:ByteArray) (cs:List ByteArray):ByteArray × Int:=if Z4f l rules = true ∧ Z18 l h = true ∧ cs.all (Z18 l) = true then allF (ext l) rules cs h else ((⟨#[]⟩:ByteArray),1)
theorem Z6t (l:List S68) (rules:List S73) (h:ByteArray) (cs:List ByteArray):(Z28 l rules h cs).1.size ≤ 3280:=by
  unfold Z28
  split
  · rename_i hc
    have:=Zdu (ext l) rules cs h;have:=Z5r hc.2.1;omega
  · exact Nat.zero_le _
theorem Zdv (l:List S68) (rules:List S73) (h1:Z1z l = true) (h2:rules.all Z2k = true) (hll:l.length ≤ 1099511627776) (h:ByteArray) (cs:List ByteArray) (hh:h.size ≤ 274877906944) (hs:∀ x ∈ cs,x.size ≤ 274877906944) (hl:cs.length ≤ 9223372036854775807):Ev (fun k => Z0n.f k l rules h cs) (Z28 l rules h cs):=by
  have bad:Ev (fun k => Z0n.j0 k l rules true h cs) ((⟨#[]⟩:ByteArray),1):=by
    refine Ev.step (f:=fun _ => some _) (fun k => ?_) (Ev.now _)
    simp only [Z0n.j0];rfl
  have hex:Z2h.f l = some (ext l):=by
    unfold Z2h.f Z4b.f;rw [if_pos (by omega),Option.bind_some,if_pos (by omega)];rfl
  have good:Ev (fun k => Z0n.j0 k l rules false h cs) (allF (ext l) rules cs h):=by
    refine Ev.step (f:=fun k => (Z1j.f k (ext l) rules h cs).bind fun bt => some (bt.1,bt.2)) (fun k => ?_) (Ev.bind (Zo2 (ext l) rules (Zd1 h1) h2 cs hs hl h hh) (Ev.now _))
    simp only [Z0n.j0];rw [if_neg (by decide),hex,Option.bind_some]
  have w1:Ev (fun k => Z1n.f k l [h]) (Z18 l h):=by
    have:=Zh4 l [h] h1 (by simp;omega) (by simp)
    simpa using this
  have w2:=Zh4 l cs h1 (fun x hx => Nat.le_trans (hs x hx) (by decide)) hl;unfold Z28
  cases c1:Z4f l rules with
  | false =>
    rw [if_neg (by simp)];have hv:=Z9z l rules h1 h2;rw [c1] at hv;exact Ev.bind hv bad
  | true =>
    have hv:=Z9z l rules h1 h2;rw [c1] at hv
    refine Ev.bind hv (Ev.congr (fun k => if_pos rfl) ?_)
    cases c2:Z18 l h with
    | false => rw [if_neg (by simp)];rw [c2] at w1;exact Ev.bind w1 bad
    | true =>
      rw [c2] at w1
      refine Ev.bind w1 (Ev.congr (fun k => if_pos rfl) ?_)
      cases c3:cs.all (Z18 l) with
      | false => rw [if_neg (by simp)];rw [c3] at w2;exact Ev.bind w2 bad
      | true => rw [if_pos ⟨rfl,rfl,rfl⟩];rw [c3] at w2;exact Ev.bind w2 good
theorem Zku (ws:List ByteArray) (x:ByteArray) (hl:ws.length ≤ 9223372036854775807):∃ r:Int,Ev (fun k => Z0p.f k ws x) r ∧ (r ≥ 0 ↔ x ∈ ws):=by
  have key:∀ d i,ws.length - i = d → i ≤ ws.length → ∃ r:Int,Ev (fun k => Z0p.l0 k ws x (ws.length:Int) (i:Int)) r ∧ (r ≥ 0 ↔ x ∈ ws.drop i):=by
    intro d
    induction d with
    | zero =>
      intro i hd hi
      obtain rfl:i = ws.length:=by omega
      rw [List.drop_length]
      refine ⟨-1,Ev.step (f:=fun _ => some (-1)) (fun k => ?_) (Ev.now _),by simp⟩
      simp only [Z0p.l0];rw [if_neg (by omega)]
    | succ d ih =>
      intro i hd hi
      have hlt:i < ws.length:=by omega
      rw [Z4v ws i hlt]
      by_cases e:x = rdOf ByteArray.empty ws (i:Int)
      · refine ⟨(i:Int),Ev.step (f:=fun _ => some (i:Int)) (fun k => ?_) (Ev.now _),⟨fun _ => by rw [e];simp,fun _ => by omega⟩⟩
        simp only [Z0p.l0];rw [if_pos (by omega),if_pos (by omega),if_pos (by omega),if_pos ((Zjf _ _).2 e)]
      · obtain ⟨r,h1,h2⟩:=ih (i + 1) (by omega) (by omega)
        refine ⟨r,Ev.step (fun k => ?_) h1,h2.trans ⟨fun h => List.mem_cons_of_mem _ h,fun h => (List.mem_cons.1 h).resolve_left e⟩⟩
        simp only [Z0p.l0];rw [if_pos (by omega),if_pos (by omega),if_pos (by omega),if_neg (fun h => e ((Zjf _ _).1 h)),Z1a hlt hl]
  obtain ⟨r,h1,h2⟩:=key ws.length 0 (by omega) (by omega);rw [List.drop_zero] at h2;exact ⟨r,h1,h2⟩
def hasE (ws:List ByteArray):Bool:=ws.any fun w => decide (w = (⟨#[]⟩:ByteArray))
theorem Z92 {ws:List ByteArray}:hasE ws = true ↔ (⟨#[]⟩:ByteArray) ∈ ws:=by
  unfold hasE;rw [List.any_eq_true];exact ⟨fun ⟨w,h1,h2⟩ => by rw [← of_decide_eq_true h2];exact h1,fun h => ⟨_,h,decide_eq_true rfl⟩⟩
theorem Zep (ws:List ByteArray) (hl:ws.length ≤ 9223372036854775807):Ev (fun k => Z1i.f k ws (⟨#[]⟩:ByteArray)) (hasE ws):=by
  obtain ⟨r,h1,h2⟩:=Zku ws _ hl;have:=Ev.bind h1 (f:=fun _ t => some (decide (t ≥ 0))) (Ev.now _)
  have e:decide (r ≥ 0) = hasE ws:=by rw [Bool.eq_iff_iff,decide_eq_true_eq,Z92];exact h2
  rw [e] at this;exact this
theorem Zlt (ws:List ByteArray) (n:Nat) (h:∀ x ∈ ws,x.size ≤ n) (hn:(n + 1) * ws.length ≤ 140737488355328) (hl:ws.length ≤ 140737488355328):Z2j.f ws ⟨#[32]⟩ = some (Z49 ws):=by
  have h1:=Z4j ws n h
  have e:(Z49 ws).size = (Lib.join (ws.map (·.data.toList)) [32]).length:=by unfold Z49;simp [ByteArray.size]
  unfold Z2j.f;rw [if_pos ⟨hl,by show (Lib.join (ws.map (·.data.toList)) [32]).length ≤ _;rw [← e];omega⟩];rfl
def Z3a (l:List S68) (rules:List S73):List S60 → List ByteArray → List ByteArray × Int
  | [],acc => (acc,0)
  | s :: ss,acc => if (Z28 l rules s.f0 s.f1).2 = 0 then Z3a l rules ss (acc ++ [(Z28 l rules s.f0 s.f1).1]) else ([],(Z28 l rules s.f0 s.f1).2)
def Z2y (l:List S68) (rules:List S73) (stop:ByteArray) (ts:List ByteArray):ByteArray × Int :=
  if (segP l ts).2 = true ∧ Z3u l rules stop = true then (if (Z3a l rules (segP l ts).1 []).2 = 0 then (if hasE (Z3a l rules (segP l ts).1 []).1 = true then ((⟨#[]⟩:ByteArray),1) else (Z6m stop (Z3a l rules (segP l ts).1 []).1,0)) else ((⟨#[]⟩:ByteArray),(Z3a l rules (segP l ts).1 []).2)) else ((⟨#[]⟩:ByteArray),1)
def Zaq (l:List S68) (rules:List S73) (stop:ByteArray):List (List ByteArray) → List ByteArray → ByteArray × Int
  | [],acc => (Z49 acc,0)
  | ts :: rest,acc => if (Z2y l rules stop ts).2 = 0 then Zaq l rules stop rest (acc ++ [(Z2y l rules stop ts).1]) else ((⟨#[]⟩:ByteArray),(Z2y l rules stop ts).2)
def Zkv (l:List S68) (rules:List S73) (stop:ByteArray) (sents:List (List ByteArray)):ByteArray × Int:=if Z3u l rules stop = true ∧ 1 ≤ sents.length ∧ sents.length ≤ 8 then Zaq l rules stop sents [] else ((⟨#[]⟩:ByteArray),1)
theorem Zeq {l:List S68} (P:ByteArray → Prop) (hP:∀ t,P t → P (cutE t).1):∀ (ts:List ByteArray) (out:List S60),(∀ t ∈ ts,P t) → (∀ s ∈ out,P s.f0 ∧ s.f1.length ≤ 2 ∧ ∀ c ∈ s.f1,P c) → (∀ s ∈ (segF l ts out).1,P s.f0 ∧ s.f1.length ≤ 2 ∧ ∀ c ∈ s.f1,P c) ∧ (segF l ts out).1.length ≤ ts.length + out.length
  | [],out,_,h => ⟨h,by unfold segF;simp⟩
  | t :: ts,out,ht,h => by
    unfold segF;have h0:=ht t (by simp)
    have hts:∀ x ∈ ts,P x:=fun x hx => ht x (by simp [hx])
    split
    · split
      · obtain ⟨a,b⟩:=Zeq P hP ts (out ++ [(⟨t,[]⟩:S60)]) hts (fun s hs => by
          rcases List.mem_append.1 hs with hs | hs
          · exact h s hs
          · obtain rfl:=List.mem_singleton.1 hs
            exact ⟨h0,by simp,by simp⟩)
        exact ⟨a,by rw [List.length_append,List.length_singleton] at b;rw [List.length_cons];omega⟩
      · exact ⟨by simp,by simp⟩
    · split
      · rename_i hc
        have hlast:Z4e out ∈ out:=by
          unfold Z4e Z1w;rw [Int.toNat_natCast,List.getD_eq_getElem?_getD,List.getElem?_eq_getElem (by omega)];exact List.getElem_mem _
        obtain ⟨g1,g2,g3⟩:=h _ hlast
        obtain ⟨a,b⟩:=Zeq P hP ts (out.set (out.length - 1) ⟨(Z4e out).f0,(Z4e out).f1 ++ [(cutE t).1]⟩) hts (fun s hs => by
          rcases List.mem_or_eq_of_mem_set hs with hs | rfl
          · exact h s hs
          · refine ⟨g1,by simp;omega,fun c hc' => ?_⟩
            rcases List.mem_append.1 hc' with hc' | hc'
            · exact g3 c hc'
            · obtain rfl:=List.mem_singleton.1 hc'
              exact hP t h0)
        exact ⟨a,by rw [List.length_set] at b;rw [List.length_cons];omega⟩
      · exact ⟨by simp,by simp⟩
theorem Zac {l:List S68} (P:ByteArray → Prop) (hP:∀ t,P t → P (cutE t).1) (ts:List ByteArray) (ht:∀ t ∈ ts,P t):(∀ s ∈ (segP l ts).1,P s.f0 ∧ s.f1.length ≤ 2 ∧ ∀ c ∈ s.f1,P c) ∧ (segP l ts).1.length ≤ 40:=by
  unfold segP
  split
  · rename_i h
    obtain ⟨a,b⟩:=Zeq (l:=l) P hP ts [] ht (by simp);exact ⟨a,by simp at b;omega⟩
  · exact ⟨by simp,by simp⟩
theorem Z7a (l:List S68) (rules:List S73):∀ (ss:List S60) (acc:List ByteArray),(∀ x ∈ acc,x.size ≤ 3280) → (∀ x ∈ (Z3a l rules ss acc).1,x.size ≤ 3280) ∧ (Z3a l rules ss acc).1.length ≤ ss.length + acc.length
  | [],acc,h => ⟨h,by unfold Z3a;simp⟩
  | s :: ss,acc,h => by
    unfold Z3a
    split
    · obtain ⟨a,b⟩:=Z7a l rules ss (acc ++ [(Z28 l rules s.f0 s.f1).1]) (fun x hx => by
        rcases List.mem_append.1 hx with hx | hx
        · exact h x hx
        · obtain rfl:=List.mem_singleton.1 hx
          exact Z6t l rules s.f0 s.f1)
      exact ⟨a,by rw [List.length_append,List.length_singleton] at b;rw [List.length_cons];omega⟩
    · exact ⟨by simp,by simp⟩
theorem Z93 (l:List S60) (i:Nat) (h:i < l.length):l.drop i = Z1w l (i:Int) :: l.drop (i + 1):=by
  unfold Z1w;rw [List.drop_eq_getElem_cons h,Int.toNat_natCast,List.getD_eq_getElem?_getD,List.getElem?_eq_getElem h];rfl
def Toks (ts:List ByteArray):Prop:=∀ t ∈ ts,t.size ≤ 274877906944
theorem Zjg (t:ByteArray) (h:t.size ≤ 274877906944):(cutE t).1.size ≤ 274877906944:=Nat.le_trans (Zcn t) h
theorem Zc2 (l:List S68) (F:Nat → List ByteArray → List S60 → Int → Int → Option (ByteArray × Int)) (rules:List S73) (stop:ByteArray) (h1:Z1z l = true) (h2:rules.all Z2k = true) (hll:l.length ≤ 1099511627776) (hst:stop.size ≤ 4) (ss:List S60) (hss:ss.length ≤ 40) (hok:∀ s ∈ ss,s.f0.size ≤ 274877906944 ∧ s.f1.length ≤ 2 ∧ ∀ c ∈ s.f1,c.size ≤ 274877906944)
    (hF:∀ k x8 x29 x30 x31,F (k + 1) x8 x29 x30 x31 = if x31 < x30 then (if 0 ≤ x31 then (if x31 < (x29.length:Int) then ((Z0n.f k l rules ((Z1w x29 x31).f0) ((Z1w x29 x31).f1)).bind fun bt285 => (if bt285.2 = 0 then (if x31 < (x8.length:Int) then F k (x8.set (x31:Int).toNat bt285.1) x29 x30 (wrap64 (x31 + 1)) else (none)) else (some ((⟨#[]⟩:ByteArray),bt285.2)))) else (none)) else (none)) else ((Z1i.f k x8 (⟨#[]⟩:ByteArray)).bind fun t288 => (if t288 = true then (some ((⟨#[]⟩:ByteArray),1)) else ((Z2j.f x8 (⟨#[32]⟩:ByteArray)).bind fun t289 => (if t289.size + stop.size ≤ 9223372036854775807 then (some (t289 ++ stop,0)) else (none)))))) :
    ∀ d i (acc:List ByteArray),ss.length - i = d → i ≤ ss.length → acc.length = i → (∀ x ∈ acc,x.size ≤ 3280) → Ev (fun k => F k (acc ++ List.replicate d (⟨#[]⟩:ByteArray)) ss (ss.length:Int) (i:Int)) (if (Z3a l rules (ss.drop i) acc).2 = 0 then (if hasE (Z3a l rules (ss.drop i) acc).1 = true then ((⟨#[]⟩:ByteArray),1) else (Z6m stop (Z3a l rules (ss.drop i) acc).1,0)) else ((⟨#[]⟩:ByteArray),(Z3a l rules (ss.drop i) acc).2)):=by
  intro d
  induction d with
  | zero =>
    intro i acc hd hi ha hsz
    obtain rfl:i = ss.length:=by omega
    rw [List.drop_length,List.replicate_zero,List.append_nil];show Ev _ (if (0:Int) = 0 then (if hasE acc = true then ((⟨#[]⟩:ByteArray),1) else (Z6m stop acc,0)) else _);rw [if_pos rfl]
    refine Ev.step (f:=fun k => (Z1i.f k acc (⟨#[]⟩:ByteArray)).bind fun t288 => (if t288 = true then (some ((⟨#[]⟩:ByteArray),1)) else ((Z2j.f acc (⟨#[32]⟩:ByteArray)).bind fun t289 => (if t289.size + stop.size ≤ 9223372036854775807 then (some (t289 ++ stop,0)) else (none))))) (fun k => ?_) (Ev.bind (Zep acc (by omega)) ?_)
    · rw [hF,if_neg (by omega)]
    · by_cases c:hasE acc = true
      · rw [if_pos c]
        refine Ev.congr (f:=fun _ => some _) (fun k => ?_) (Ev.now _)
        rw [if_pos c]
      · rw [if_neg c]
        refine Ev.congr (f:=fun _ => some _) (fun k => ?_) (Ev.now _)
        have hj:=Z4j acc 3280 hsz;rw [ha] at hj;rw [if_neg c,Zlt acc 3280 hsz (by omega) (by omega),Option.bind_some,if_pos (by omega)];rfl
  | succ d ih =>
    intro i acc hd hi ha hsz
    have hlt:i < ss.length:=by omega
    rw [Z93 ss i hlt];have hm:Z1w ss (i:Int) ∈ ss:=List.mem_of_mem_drop (i:=i) (by rw [Z93 ss i hlt];simp);obtain ⟨s,hs⟩:∃ s,Z1w ss (i:Int) = s:=⟨_,rfl⟩;rw [hs] at hm ⊢;obtain ⟨o1,o2,o3⟩:=hok s hm;have ha2:=Zdv l rules h1 h2 hll s.f0 s.f1 o1 o3 (by omega)
    refine Ev.step (f:=fun k => (Z0n.f k l rules s.f0 s.f1).bind fun bt285 => (if bt285.2 = 0 then (if (i:Int) < ((acc ++ List.replicate (d + 1) (⟨#[]⟩:ByteArray)).length:Int) then F k ((acc ++ List.replicate (d + 1) (⟨#[]⟩:ByteArray)).set ((i:Int)).toNat bt285.1) ss (ss.length:Int) (wrap64 ((i:Int) + 1)) else (none)) else (some ((⟨#[]⟩:ByteArray),bt285.2)))) (fun k => ?_) (Ev.bind ha2 ?_)
    · rw [hF,if_pos (by omega),if_pos (by omega),if_pos (by omega),hs]
    · unfold Z3a
      by_cases e:(Z28 l rules s.f0 s.f1).2 = 0
      · rw [if_pos e]
        refine Ev.congr (fun k => ?_) (ih (i + 1) (acc ++ [(Z28 l rules s.f0 s.f1).1]) (by omega) (by omega) (by simp;omega) (fun x hx => by
          rcases List.mem_append.1 hx with hx | hx
          · exact hsz x hx
          · obtain rfl:=List.mem_singleton.1 hx
            exact Z6t l rules s.f0 s.f1))
        rw [if_pos e,if_pos (by rw [List.length_append,List.length_replicate];omega),Z1a hlt (by omega),Int.toNat_natCast]
        congr 1
        rw [List.set_append_right _ _ (by omega),ha,Nat.sub_self,List.replicate_succ,List.set_cons_zero,List.append_assoc];rfl
      · rw [if_neg e]
        refine Ev.congr (f:=fun _ => some _) (fun k => ?_) (Ev.now _)
        rw [if_neg e,if_neg (by exact e)]
theorem Zad (gL:Lg) (ts:List ByteArray) (h1:Z1z gL.v2 = true) (h2:gL.v9.all Z2k = true) (hll:gL.v2.length ≤ 1099511627776) (ht:Toks ts):Ev (fun k => Z0c.f k gL ts) (Z2y gL.v2 gL.v9 gL.vt ts):=by
  have hseg:Z2a.f gL ts = some (segP gL.v2 ts):=by
    unfold Z2a.f;rw [if_pos ⟨h1,List.all_eq_true.2 fun t h => decide_eq_true (Nat.le_trans (ht t h) (by decide))⟩]
  have bad:∀ ss,Ev (fun k => Z0c.j0 k ss true gL) ((⟨#[]⟩:ByteArray),1):=by
    intro ss
    refine Ev.step (f:=fun _ => some _) (fun k => ?_) (Ev.now _)
    simp only [Z0c.j0];rfl
  unfold Z2y
  cases c1:(segP gL.v2 ts).2 with
  | false =>
    rw [if_neg (by simp)]
    refine Ev.congr (fun k => ?_) (bad (segP gL.v2 ts).1)
    unfold Z0c.f;rw [hseg,Option.bind_some,if_neg (by rw [c1];decide)]
  | true =>
    have hv:=Zbv gL h1 h2
    refine Ev.congr (f:=fun k => (Z1p.f k gL).bind fun t279 => Z0c.j0 k (segP gL.v2 ts).1 (!t279) gL) (fun k => ?_) (Ev.bind hv ?_)
    · unfold Z0c.f
      rw [hseg,Option.bind_some,if_pos c1]
    · cases c2:Z3u gL.v2 gL.v9 gL.vt with
      | false => rw [if_neg (by simp)];exact bad _
      | true =>
        rw [if_pos ⟨rfl,rfl⟩];obtain ⟨hok,hle⟩:=Zac (l:=gL.v2) (fun t => t.size ≤ 274877906944) Zjg ts ht;generalize (segP gL.v2 ts).1 = ss at hok hle;have:=Zc2 gL.v2 (fun k x8 x29 x30 x31 => Z0c.l0 k x8 x29 x30 x31 gL) gL.v9 gL.vt h1 h2 hll (Z7v c2) ss hle hok (fun k x8 x29 x30 x31 => by simp only [Z0c.l0]) ss.length 0 [] (by omega) (by omega) rfl (by simp);rw [List.drop_zero,List.nil_append] at this
        refine Ev.step (fun k => ?_) this
        simp only [Z0c.j0];rw [if_neg (by decide),if_pos (by omega),if_pos (by rw [Int.toNat_natCast];omega),Int.toNat_natCast];rfl
theorem Z81 (l:List S68) (rules:List S73) (stop:ByteArray) (ts:List ByteArray):(Z2y l rules stop ts).1.size ≤ 131244:=by
  unfold Z2y
  split
  · rename_i hc
    split
    · split
      · exact Nat.zero_le _
      · obtain ⟨_,hle⟩:=Zac (l:=l) (fun _ => True) (fun _ _ => trivial) ts (fun _ _ => trivial)
        obtain ⟨a,b⟩:=Z7a l rules (segP l ts).1 [] (by simp);have h1:=Z4j _ 3280 a
        have h2:(Z3a l rules (segP l ts).1 []).1.length ≤ 40:=by simp at b;omega
        have h3:=Z7v hc.2;unfold Z6m;show (_ ++ _:ByteArray).size ≤ _;rw [ByteArray.size_append];omega
    · exact Nat.zero_le _
  · exact Nat.zero_le _
theorem Z6f (l:List (List ByteArray)) (i:Nat) (h:i < l.length):l.drop i = Z3h l (i:Int) :: l.drop (i + 1):=by
  unfold Z3h;rw [List.drop_eq_getElem_cons h,Int.toNat_natCast,List.getD_eq_getElem?_getD,List.getElem?_eq_getElem h];rfl
theorem Zmy (gL:Lg) (sents:List (List ByteArray)) (h1:Z1z gL.v2 = true) (h2:gL.v9.all Z2k = true) (hll:gL.v2.length ≤ 1099511627776) (ht:∀ ts ∈ sents,Toks ts):Ev (fun k => Z0o.f k gL sents) (Zkv gL.v2 gL.v9 gL.vt sents):=by
  have hv:=Zbv gL h1 h2
  have bad:Ev (fun k => Z0o.j0 k sents true gL) ((⟨#[]⟩:ByteArray),1):=by
    refine Ev.step (f:=fun _ => some _) (fun k => ?_) (Ev.now _)
    simp only [Z0o.j0];rfl
  refine Ev.bind hv ?_
  unfold Zkv
  cases c1:Z3u gL.v2 gL.v9 gL.vt with
  | false => rw [if_neg (by simp)];exact bad
  | true =>
    refine Ev.congr (fun k => if_pos rfl) ?_
    by_cases c2:1 ≤ sents.length
    · refine Ev.congr (fun k => if_neg (by omega)) ?_
      by_cases c3:sents.length ≤ 8
      · rw [if_pos ⟨rfl,c2,c3⟩]
        refine Ev.congr (f:=fun k => Z0o.j0 k sents false gL) (fun k => by rw [decide_eq_false (by omega)]) ?_
        have key:∀ d i acc,sents.length - i = d → i ≤ sents.length → acc.length ≤ i → (∀ x ∈ acc,x.size ≤ 131244) → Ev (fun k => Z0o.l0 k acc sents (sents.length:Int) (i:Int) gL) (Zaq gL.v2 gL.v9 gL.vt (sents.drop i) acc):=by
          intro d
          induction d with
          | zero =>
            intro i acc hd hi ha hsz
            obtain rfl:i = sents.length:=by omega
            rw [List.drop_length]
            refine Ev.step (f:=fun _ => some (Z49 acc,0)) (fun k => ?_) (Ev.now _)
            simp only [Z0o.l0];rw [if_neg (by omega),Zlt acc 131244 hsz (by omega) (by omega),Option.bind_some]
          | succ d ih =>
            intro i acc hd hi ha hsz
            have hlt:i < sents.length:=by omega
            rw [Z6f sents i hlt];have hm:Z3h sents (i:Int) ∈ sents:=List.mem_of_mem_drop (i:=i) (by rw [Z6f sents i hlt];simp);obtain ⟨ts,hts⟩:∃ ts,Z3h sents (i:Int) = ts:=⟨_,rfl⟩;rw [hts] at hm ⊢
            refine Ev.step (f:=fun k => (Z0c.f k gL ts).bind fun bt293 => (if bt293.2 = 0 then (if acc.length < 8796093022208 then (Z0o.l0 k (acc ++ [bt293.1]) sents (sents.length:Int) (wrap64 ((i:Int) + 1)) gL) else (none)) else (some ((⟨#[]⟩:ByteArray),bt293.2)))) (fun k => ?_) (Ev.bind (Zad gL ts h1 h2 hll (ht ts hm)) ?_)
            · simp only [Z0o.l0]
              rw [if_pos (by omega),if_pos (by omega),if_pos (by omega),hts]
            · unfold Zaq
              by_cases e:(Z2y gL.v2 gL.v9 gL.vt ts).2 = 0
              · rw [if_pos e]
                refine Ev.congr (fun k => ?_) (ih (i + 1) _ (by omega) (by omega) Gc14 (fun x hx => by
                  rcases List.mem_append.1 hx with hx | hx
                  · exact hsz x hx
                  · obtain rfl:=List.mem_singleton.1 hx
                    exact Z81 _ _ _ _))
                rw [if_pos e,if_pos (by omega),Z1a hlt (by omega)]
              · rw [if_neg e]
                refine Ev.congr (f:=fun _ => some _) (fun k => ?_) (Ev.now _)
                rw [if_neg e]
        have:=key sents.length 0 [] (by omega) (by omega) (by simp) (by simp);rw [List.drop_zero] at this
        refine Ev.step (fun k => ?_) this
        simp only [Z0o.j0];rw [if_neg (by decide)];rfl
      · rw [if_neg (by omega)]
        refine Ev.congr (fun k => ?_) bad
        rw [decide_eq_true (by omega)]
    · rw [if_neg (by omega)]
      refine Ev.congr (fun k => if_pos (by omega)) bad
theorem Zc3 (from0:Bool) (tr:List Int):∀ (w:List Int) (sites:List Int) (i:Nat) (r:Int),r ∈ resF from0 tr sites i w → r ∈ tr ∨ r ∈ w
  | [],sites,i,r,h => by
    unfold resF at h
    split at h
    · exact .inl h
    · cases h
  | c :: w,sites,i,r,h => by
    unfold resF at h
    split at h
    · rcases List.mem_append.1 h with h | h
      · exact .inl h
      · rcases List.mem_append.1 h with h | h
        · split at h
          · exact .inr (by simp at h;simp [h])
          · cases h
        · exact (Zc3 from0 tr w _ _ r h).imp id (List.mem_cons_of_mem _)
    · rcases List.mem_cons.1 h with rfl | h
      · exact .inr (by simp)
      · exact (Zc3 from0 tr w _ _ r h).imp id (List.mem_cons_of_mem _)
theorem Zmz {l:List S68} {r:Int} (h:isL (ext l) r = true) (h61:r ≠ 61):isL l r = true:=by
  have e:=Z69 (ext l) l.length r l.length (Nat.le_refl _)
  have e2:(ext l).take l.length = l:=by unfold ext;simp
  rw [e2] at e;unfold isL at h ⊢;rw [Z9y] at h;unfold look at h;rw [← e] at h
  cases c:look l l.length r with
  | some j => rfl
  | none =>
    exfalso
    rw [c] at h;simp only at h
    split at h
    · rename_i hr
      apply h61;rw [← hr];unfold Z0v ext
      simp
    · cases h
theorem Zhs {x:List S68} {r:S73} {w:ByteArray} (h:(Z4c x r w).2 = 0):Z18 x (Z4c x r w).1 = true:=by
  unfold Z4c at h ⊢
  by_cases hc:Z3r x r = true ∧ Z18 x w = true
  · rw [if_pos hc] at h ⊢
    by_cases h40:40 < (Z0d (outP x r w)).length
    · rw [if_pos h40] at h;exact absurd h (by decide)
    · rw [if_neg h40]
      have h1:=hc.1;have h2:=hc.2;unfold Z3r Z39 at h1;unfold Z18 at h2;simp only [Bool.and_eq_true,List.all_eq_true] at h1 h2;have hsc:∀ q ∈ resF (decide (r.f0 = 0)) (Z0d r.f1) (Z4s x r w) 0 (Z0d w),scalar q:=Z6y _ _ (Z22 _) _ _ _ (Z22 _)
      have hall:∀ q ∈ resF (decide (r.f0 = 0)) (Z0d r.f1) (Z4s x r w) 0 (Z0d w),isL x q = true:=fun q hq => by
        rcases Zc3 _ _ _ _ _ q hq with h | h
        · exact h1.2.1.2.1 q h
        · exact h2.2.1 q h
      show Z18 x (outP x r w) = true;unfold outP Z9r at h40 ⊢;rw [Z4i _ hsc] at h40;unfold Z18;rw [Z45,Z41 _ hsc,Z4i _ hsc,List.all_eq_true.2 hall,decide_eq_true (by omega)];rfl
  · rw [if_neg hc] at h;exact absurd h (by decide)
theorem Zae {x:List S68}:∀ (rs:List S73) (w:ByteArray),Z18 x w = true → (casF x rs w).2 = 0 → Z18 x (casF x rs w).1 = true
  | [],w,h,_ => h
  | r :: rs,w,h,h2 => by
    unfold casF at h2 ⊢
    by_cases e:(Z4c x r w).2 = 0
    · rw [if_pos e] at h2 ⊢
      exact Zae rs _ (Zhs e) h2
    · rw [if_neg e] at h2;exact absurd h2 e
theorem Zaf {l:List S68} {rules:List S73} {h c:ByteArray} (he:(Z3z (ext l) rules h c).2 = 0):Z18 l (Z3z (ext l) rules h c).1 = true:=by
  unfold Z3z at he ⊢
  by_cases h1:40 < (Z0d h).length + 1 + (Z0d c).length
  · rw [if_pos h1] at he;exact absurd he (by decide)
  · rw [if_neg h1] at he ⊢
    by_cases h2:(Z2b (ext l) rules (Z3k h c)).2 = 0
    · rw [if_pos h2]
      have hw:Z18 (ext l) (Z2b (ext l) rules (Z3k h c)).1 = true:=by
        unfold Z2b at h2 ⊢
        split at h2
        · rename_i hc
          rw [if_pos hc];exact Zae _ _ hc.2.1 h2
        · exact absurd h2 (by decide)
      generalize (Z2b (ext l) rules (Z3k h c)).1 = s at hw;unfold Z18 at hw;simp only [Bool.and_eq_true,List.all_eq_true,decide_eq_true_eq] at hw
      have hsc:∀ q ∈ (Z0d s).filter (fun r => r != 61),scalar q:=fun q hq => Z22 _ q (List.mem_filter.1 hq).1
      have hall:∀ q ∈ (Z0d s).filter (fun r => r != 61),isL l q = true:=fun q hq => by
        obtain ⟨a,b⟩:=List.mem_filter.1 hq;exact Zmz (hw.2.1 q a) (by simpa using b)
      have hle:=List.length_filter_le (fun r:Int => r != 61) (Z0d s);show Z18 l (encS _) = true;unfold Z18;rw [Z45,Z41 _ hsc,Z4i _ hsc,List.all_eq_true.2 hall,decide_eq_true (by omega)];rfl
    · rw [if_neg h2] at he;exact absurd he h2
end Go.Proofs.YtfbhdjflkaldgaaGreatDoor.Pr
