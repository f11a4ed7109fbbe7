/- Several texts in one: PrF79, PrF80, PrF61, PrF40, PrF93. -/
import Derived.Test.YtfbhdjflkaldgaaGreatDoorMg1
import Derived.Test.YtfbhdjflkaldgaaGreatDoorMg2
import Derived.Test.YtfbhdjflkaldgaaGreatDoorMg8
import Derived.Test.YtfbhdjflkaldgaaGreatDoorMg7
import Derived.Test.YtfbhdjflkaldgaaGreatDoorMg3
import Derived.Test.YtfbhdjflkaldgaaGreatDoorMg12
import Derived.Test.YtfbhdjflkaldgaaGreatDoorMg9

namespace Go.Proofs.YtfbhdjflkaldgaaGreatDoor.Pr
open Go.Proofs.YtfbhdjflkaldgaaGreatDoor.Ct Go.RowKit Go.Proofs.YtfbhdjflkaldgaaGreatDoorW.PrintWords Go.Proofs.YtfbhdjflkaldgaaGreatDoorW.PrintLast Go.Proofs.YtfbhdjflkaldgaaGreatDoorW.PrintMore
attribute [local go_sem] max2_int min2_int max_two min_two max_three min_three max_four min_four
set_option linter.unusedVariables false
set_option linter.unusedSimpArgs false
def Z0i.l0:Nat → List (S68) → Int → Option (Bool)
 | 0,_,_ => none
 | k + 1,x0,x3 => if x3 < (x0.length:Int) then (if 0 ≤ x3 then (if ((Z0v x0 x3).f0) ≤ 32 then (some false) else ((Z1b.f k ((Z0v x0 x3).f0)).bind fun t334 => (if t334 = true then ((Z0h.f k x0 ((Z0v x0 x3).f0)).bind fun t336 => (if t336 = x3 then (Z0i.l0 k x0 (wrap64 (x3 + 1))) else (some false))) else (some false)))) else (none)) else (if (x0.length:Int) ≥ 1 then (some (decide ((x0.length:Int) ≤ 65))) else (some false))
def Z0i.f (k:Nat) (l0:List (S68)):Option (Bool):=Z0i.l0 k l0 0
theorem Zgb {p:Prop} (h:p:=by
  clear c9;obtain rfl:=Option.some.inj H;go_wp2;go_ret
  exact ⟨by first | rfl | (simp;done) | (simp [*];done),by repeat (first | exact Drawn0.refl _ | apply Drawn0.step)⟩):p:=h
theorem Zcs {p:Prop} (h:p:=by
  have z1_:0 ≤ (x3_1:Int):=oD;have z2_:x3_1 < (l0.length:Int):=oD;obtain ⟨z3_,z4_,z5_,z6_⟩:=Z3s HR0.out x3_1 z1_ z2_;cases z4_;replace z1_:=eq_true z1_;replace z2_:=eq_true z2_;have z7_:0 ≤ (x3_1:Int):=oD;have z8_:x3_1 < (l0.length:Int):=oD;obtain ⟨z9_,z10_,z11_,z12_⟩:=Z3s HR0.out x3_1 z7_ z8_;obtain rfl:z3_ = z9_:=(by injection z10_);replace z7_:=eq_true z7_;replace z8_:=eq_true z8_
  go_wp2_with (first | (go_at_call 66;(with_reducible refine (Z1b.calls k1 ((Z0v l0 x3_1).f0) true _ A5.out).mono ?_);rintro e w' ⟨rfl,⟨nd,rfl⟩⟩;have z13_:0 ≤ (x3_1:Int):=oD;have z14_:x3_1 < (l0.length:Int):=oD;obtain ⟨z15_,z16_,z17_,z18_⟩:=Z3s HR0.out x3_1 z13_ z14_;obtain rfl:z3_ = z15_:=(by injection z16_);replace z13_:=eq_true z13_;replace z14_:=eq_true z14_) | (go_at_call 59;(with_reducible refine (Z0h.calls k1 _ _ l0 ((Z0v l0 x3_1).f0) t336 _ ?s1 HC0.out A7.out).mono ?_);(case s1 => exact Gc3);rintro e w' ⟨rfl,⟨nd,rfl⟩⟩))
  first
  | (have mk_:=mk0_
     go_roundg k1
     case measure => have:=HK1.out;omega
     case rel => exact ⟨(wrap64 (x3_1 + 1)),tV1,H',⟨by have:=HK1.out;omega⟩,by repeat (first | exact Drawn0.refl _ | apply Drawn0.step)⟩)
  | (have mk_:=mk1_
     go_ret
     exact ⟨by first | rfl | (simp;done) | (simp [*];done),by repeat (first | exact Drawn0.refl _ | apply Drawn0.step)⟩)):p:=h
set_option maxHeartbeats 8000000 in
set_option maxRecDepth 100000 in
theorem Z0i.calls (k:Nat) (A0:Option Addr) (c0:Nat) (l0:List (S68)) (r:Bool) (w:World) (hr0:Kd.C k68 w A0 l0.length l0) (hc0:l0.length ≤ c0) (h:Z0i.f k l0 = some r) :
 Calls Tryz.prog 79 #[.slice A0 l0.length c0] w fun e w' => e = .returned (.bool r) ∧ Drawn0 w w':=by
 have HR0:=am hr0;have HC0:=am hc0;clear hr0 hc0;have H:(Z0i.l0 k l0 0) = some r:=h;clear h;have H':=am H;clear H;go_enter Tryz.func79,Tryz.ntmps79;go_wp2
 go_loopg [3] k (fun kq v3 w' => ∃ (x3_1:Int),v3 = .int .i64 x3_1 ∧ Aside0 (Z0i.l0 kq l0 x3_1 = some r) ∧ Aside0 (kq ≤ k) ∧ Drawn0 w w')
 case atStart => exact ⟨(0),tV1,H',⟨Nat.le_refl _⟩,by repeat (first | exact Drawn0.refl _ | apply Drawn0.step)⟩
 case round =>
  clear H';obtain ⟨x3_1,rfl,HA,HK1,⟨m1,rfl⟩⟩:=hrel
  cases gk with
  | zero => exact absurd HA.out (by simp [Z0i.l0])
  | succ k1 =>
   have H:=HA.out;clear HA;simp only [Z0i.l0] at H
   replace H:=iF H;obtain ⟨c2,H⟩ | ⟨c2,H⟩:=H
   ·
    have c2b0:decide (x3_1 < (l0.length:Int)) = true:=decide_eq_true c2;clear c2;replace H:=iFn H;obtain ⟨c3,H⟩:=H;have c3b0:decide (0 ≤ x3_1) = true:=decide_eq_true c3;clear c3
    replace H:=iF H;obtain ⟨c4,H⟩ | ⟨c4,H⟩:=H
    ·
     have c4b0:decide (((Z0v l0 x3_1).f0) ≤ 32) = true:=decide_eq_true c4;clear c4;obtain rfl:=Option.some.inj H;have p332:0 ≤ (x3_1:Int):=oD;have q332:x3_1 < (l0.length:Int):=oD;obtain ⟨ad332,e332,hx332_0,hx332_1⟩:=Z3s HR0.out x3_1 p332 q332;cases e332;replace p332:=eq_true p332;replace q332:=eq_true q332;go_wp2;go_ret;exact ⟨by first | rfl | (simp;done) | (simp [*];done),by repeat (first | exact Drawn0.refl _ | apply Drawn0.step)⟩
    ·
     have c4b0:decide (((Z0v l0 x3_1).f0) ≤ 32) = false:=decide_eq_false c4;clear c4;replace H:=bI H;obtain ⟨t334,A5,H⟩:=H;(try dsimp only at H)
     replace H:=iT H;obtain ⟨rfl,H⟩ | ⟨rfl,H⟩:=H
     ·
      replace H:=bI H;obtain ⟨t336,A7,H⟩:=H;(try dsimp only at H)
      replace H:=iE H;obtain ⟨-,c8b0,c8b1,H⟩ | ⟨c8,c8b0,c8b1,H⟩:=H
      ·
       have H':=am H;clear H;have mk0_:=trivial;exact Zcs
      ·
       obtain rfl:=Option.some.inj H;have mk1_:=trivial;exact Zcs
     ·
      obtain rfl:=Option.some.inj H;have p332:0 ≤ (x3_1:Int):=oD;have q332:x3_1 < (l0.length:Int):=oD;obtain ⟨ad332,e332,hx332_0,hx332_1⟩:=Z3s HR0.out x3_1 p332 q332;cases e332;replace p332:=eq_true p332;replace q332:=eq_true q332;have p333:0 ≤ (x3_1:Int):=oD;have q333:x3_1 < (l0.length:Int):=oD;obtain ⟨ad333,e333,hx333_0,hx333_1⟩:=Z3s HR0.out x3_1 p333 q333;obtain rfl:ad332 = ad333:=(by injection e333);replace p333:=eq_true p333;replace q333:=eq_true q333
      go_wp2_with (first | (go_at_call 66;(with_reducible refine (Z1b.calls k1 ((Z0v l0 x3_1).f0) false _ A5.out).mono ?_);rintro e w' ⟨rfl,⟨nd,rfl⟩⟩))
      go_ret;exact ⟨by first | rfl | (simp;done) | (simp [*];done),by repeat (first | exact Drawn0.refl _ | apply Drawn0.step)⟩
   ·
    have c2b0:decide (x3_1 < (l0.length:Int)) = false:=decide_eq_false c2;clear c2
    replace H:=iF H;obtain ⟨c9,H⟩ | ⟨c9,H⟩:=H
    ·
     have c9b0:decide (1 ≤ (l0.length:Int)) = true:=decide_eq_true c9;have c9b1:decide (1 ≤ l0.length) = true:=decide_eq_true (by omega);exact Zgb
    ·
     have c9b0:decide (1 ≤ (l0.length:Int)) = false:=decide_eq_false c9;have c9b1:decide (1 ≤ l0.length) = false:=decide_eq_false (by omega);exact Zgb
def Z07.l0:Nat → List (S68) → List (S70) → Int → Option (Bool)
 | 0,_,_,_ => none
 | k + 1,x0,x1,x5 => if x5 < (x1.length:Int) then (if 0 ≤ x5 then ((Z0w.f x0 ((Z16 x1 x5).f1)).bind fun bt338 => (if bt338.2 = true then (Z07.l0 k x0 x1 (wrap64 (x5 + 1))) else (some false))) else (none)) else (some (decide ((x1.length:Int) ≤ 3)))
def Z07.f (k:Nat) (l0:List (S68)) (l1:List (S70)):Option (Bool):=Z07.l0 k l0 l1 0
theorem Zct {p:Prop} (h:p:=by
  have z1_:0 ≤ (x5_1:Int):=oD;have z2_:x5_1 < (l1.length:Int):=oD;obtain ⟨z3_,z4_,z5_,z6_,z7_,z8_⟩:=Z5x HR1.out x5_1 z1_ z2_;cases z4_;replace z5_:=celB HB z5_;replace z6_:=celB HB z6_;replace z7_:=celB HB z7_;replace z8_:=celB HB z8_;replace z1_:=eq_true z1_;replace z2_:=eq_true z2_
  first
  | (have mk_:=mk0_
     go_wp2_with (first | ((with_reducible refine gate_callee (f:=78) rfl ?_);refine goesL_ (some 21) rfl rfl Tryz.func78 (by kernel_rfl) rfl #[.slice A0 l0.length c0,.string ((Z16 l1 x5_1).f1)] rfl Gc2 ?_;(with_reducible refine (Z0w.calls _ _ l0 ((Z16 l1 x5_1).f1) t338 false _ ?sT (tC HR0 HB) HC0.out A5.out).mono ?_);(case sT => exact Gc1);rintro e z9_ ⟨z10_,rfl,z11_,hb⟩;refine ⟨_,rfl,?_⟩;have z12_:=am (Kd.R_lower z11_ (tS HB));have z13_:=am (below_step (tB HB) hb);revert z12_ z13_;clear HB;intro z14_ HB;(try clear hb);(try clear hb2);(try clear hk);(try clear hi);(try clear z11_)))
     go_ret
     exact ⟨tE,by repeat (first | (with_reducible first | exact HB.out | apply below_alloc | apply pw_below_drewN | apply below_drew1) | exact HB.out)⟩)
  | (have mk_:=mk1_
     go_wp2_with (first | ((with_reducible refine gate_callee (f:=78) rfl ?_);refine goesL_ (some 21) rfl rfl Tryz.func78 (by kernel_rfl) rfl #[.slice A0 l0.length c0,.string ((Z16 l1 x5_1).f1)] rfl Gc2 ?_;(with_reducible refine (Z0w.calls _ _ l0 ((Z16 l1 x5_1).f1) t338 true _ ?sT (tC HR0 HB) HC0.out A5.out).mono ?_);(case sT => exact Gc1);rintro e z9_ ⟨z10_,rfl,z11_,hb⟩;refine ⟨_,rfl,?_⟩;have z12_:=am (Kd.R_lower z11_ (tS HB));have z13_:=am (below_step (tB HB) hb);revert z12_ z13_;clear HB;intro z14_ HB;(try clear hb);(try clear hb2);(try clear hk);(try clear hi);(try clear z11_)))
     go_roundg k1
     case measure => have:=HK1.out;omega
     case rel => exact ⟨(wrap64 (x5_1 + 1)),tV1,H',⟨by have:=HK1.out;omega⟩,⟨tB HB⟩⟩)):p:=h
set_option maxHeartbeats 8000000 in
set_option maxRecDepth 100000 in
theorem Z07.calls (k:Nat) (A0:Option Addr) (c0:Nat) (l0:List (S68)) (A1:Option Addr) (c1:Nat) (l1:List (S70)) (r:Bool) (w:World) (hT:Tabs w) (hr0:Kd.C k68 w A0 l0.length l0) (hc0:l0.length ≤ c0) (hr1:Kd.C k70 w A1 l1.length l1) (hc1:l1.length ≤ c1) (h:Z07.f k l0 l1 = some r) :
 Calls Tryz.prog 80 #[.slice A0 l0.length c0,.slice A1 l1.length c1] w fun e w' => e = .returned (.bool r) ∧ Below w.heap.size w w':=by
 have HT:=am hT;clear hT;have HR0:=am hr0;have HC0:=am hc0;clear hr0 hc0;have HR1:=am hr1;have HC1:=am hc1;clear hr1 hc1;have HB:=am (Below.refl w.heap.size w);have H:(Z07.l0 k l0 l1 0) = some r:=h;clear h;have H':=am H;clear H;go_enter Tryz.func80,Tryz.ntmps80;go_wp2
 go_loopg [5] k (fun kq v5 w' => ∃ (x5_1:Int),v5 = .int .i64 x5_1 ∧ Aside0 (Z07.l0 kq l0 l1 x5_1 = some r) ∧ Aside0 (kq ≤ k) ∧ Aside0 (Below w.heap.size w w'))
 case atStart => exact ⟨(0),tV1,H',⟨Nat.le_refl _⟩,⟨tB HB⟩⟩
 case round =>
  clear H';obtain ⟨x5_1,rfl,HA,HK1,HB⟩:=hrel
  cases gk with
  | zero => exact absurd HA.out (by simp [Z07.l0])
  | succ k1 =>
   have H:=HA.out;clear HA;simp only [Z07.l0] at H
   replace H:=iF H;obtain ⟨c3,H⟩ | ⟨c3,H⟩:=H;rotate_left
   ·
    have c3b0:decide (x5_1 < (l1.length:Int)) = false:=decide_eq_false c3;clear c3;obtain rfl:=Option.some.inj H;go_wp2;go_ret;exact ⟨tE,by repeat (first | (with_reducible first | exact HB.out | apply below_alloc | apply pw_below_drewN | apply below_drew1) | exact HB.out)⟩
   have c3b0:decide (x5_1 < (l1.length:Int)) = true:=decide_eq_true c3;clear c3;replace H:=iFn H;obtain ⟨c4,H⟩:=H;have c4b0:decide (0 ≤ x5_1) = true:=decide_eq_true c4;clear c4;replace H:=bI H;obtain ⟨⟨t338,t339⟩,A5,H⟩:=H;(try dsimp only at H)
   replace H:=iT H;obtain ⟨rfl,H⟩ | ⟨rfl,H⟩:=H
   ·
    have H':=am H;clear H;have mk1_:=trivial;exact Zct
   ·
    obtain rfl:=Option.some.inj H;have mk0_:=trivial;exact Zct
def Z0s.f (k:Nat) (l0:List (S68)) (a1_0:Int) (a1_1:ByteArray) (l1_2:List (S70)) (l1_3:List (S70)) (a1_4:Bool) (a1_5:Bool):Option (Bool):=(Z0w.f l0 a1_1).bind fun bt343 => ((Z0i.f k l0).bind fun t347 => (if t347 = true then (if a1_0 = 0 then (if bt343.2 = true then (if (bt343.1.length:Int) ≤ 4 then ((Z07.f k l0 l1_2).bind fun t348 => (if t348 = true then ((Z07.f k l0 l1_3).bind fun t349 => (some t349)) else (some false))) else (some false)) else (some false)) else ((Z0h.f k l0 a1_0).bind fun t350 => (if t350 ≥ 0 then (if bt343.2 = true then (if (bt343.1.length:Int) ≤ 4 then ((Z07.f k l0 l1_2).bind fun t351 => (if t351 = true then ((Z07.f k l0 l1_3).bind fun t352 => (some t352)) else (some false))) else (some false)) else (some false)) else (some false)))) else (some false)))
set_option maxRecDepth 1000000 in
theorem Z4m {p:Prop} (h:p:=by
  go_enter Tryz.func61,Tryz.ntmps61
  go_wp2_with (first | ((with_reducible refine gate_dst (N:=3) rfl ?_);(try (refine gate_guard (by rfl) ?_;dsimp only));refine box_event ?hg (N:=3) ?hd (cs:=#[.int .i32 a1_0,.string a1_1,.slice A1_2 l1_2.length c1_2,.slice A1_3 l1_3.length c1_3,.bool a1_4,.bool a1_5]) (t:=73) ?hr ?_;(case hd => rfl);(case hg => rfl);(case hr => exact Gc5);intro z1_ hg z2_ hbox hb;have n0_:=am (below_step (tB HB) hb);have n1_:=am (hbox);have n2_:=tZ hg (tS HB);have z6_:=tZ hg (tS HB);revert n0_ n1_ n2_ z6_;clear HB;intro HB BK342 z8_ GE342;clear hb hbox hg;have z10_:=cel2 BK342 0 rfl;have z11_:=cel2 BK342 1 rfl;have z12_:=cel2 BK342 2 rfl;have z13_:=cel2 BK342 3 rfl;have z14_:=cel2 BK342 4 rfl;have z15_:=cel2 BK342 5 rfl;have z16_:=blk_frozen BK342.out 0;have z17_:=blk_frozen BK342.out 1;have z18_:=blk_frozen BK342.out 2;have z19_:=blk_frozen BK342.out 3;have z20_:=blk_frozen BK342.out 4;have z21_:=blk_frozen BK342.out 5) | (have ma_:=ma1_;((with_reducible refine gate_callee (f:=78) rfl ?_);refine goesL_ (some 11) rfl rfl Tryz.func78 (by kernel_rfl) rfl #[.slice A0 l0.length c0,.string a1_1] rfl Gc2 ?_;(with_reducible refine (Z0w.calls _ _ l0 a1_1 t343 t344 _ ?sT (tC HR0 HB) HC0.out A3.out).mono ?_);(case sT => exact Gc1);rintro e z1_ ⟨z2_,rfl,z3_,hb⟩;refine ⟨_,rfl,?_⟩;have n0_:=am (Kd.R_lower z3_ (tS HB));have n1_:=am (blk_below (tK BK342) hb);have n2_:=am (below_step (tB HB) hb);revert n0_ n1_ n2_;clear BK342 HB;intro z7_ BK342 HB;(try clear hb);(try clear hb2);(try clear hk);(try clear hi);(try clear z3_))) | (have ma_:=ma2_;((with_reducible refine gate_callee (f:=79) rfl ?_);refine goesL_ (some 15) rfl rfl Tryz.func79 (by kernel_rfl) rfl #[.slice A0 l0.length c0] rfl Gc2 ?_;(with_reducible refine (Z0i.calls k _ _ l0 false _ (tC HR0 HB) HC0.out A4.out).mono ?_);rintro e w' ⟨rfl,⟨nd,rfl⟩⟩;refine ⟨_,rfl,?_⟩)) | (have ma_:=ma3_;((with_reducible refine gate_callee (f:=78) rfl ?_);refine goesL_ (some 11) rfl rfl Tryz.func78 (by kernel_rfl) rfl #[.slice A0 l0.length c0,.string a1_1] rfl Gc2 ?_;(with_reducible refine (Z0w.calls _ _ l0 a1_1 t343 false _ ?sT (tC HR0 HB) HC0.out A3.out).mono ?_);(case sT => exact Gc1);rintro e z1_ ⟨z2_,rfl,z3_,hb⟩;refine ⟨_,rfl,?_⟩;have n0_:=am (Kd.R_lower z3_ (tS HB));have n1_:=am (blk_below (tK BK342) hb);have n2_:=am (below_step (tB HB) hb);revert n0_ n1_ n2_;clear BK342 HB;intro z7_ BK342 HB;(try clear hb);(try clear hb2);(try clear hk);(try clear hi);(try clear z3_))) | (have ma_:=ma4_;((with_reducible refine gate_callee (f:=79) rfl ?_);refine goesL_ (some 15) rfl rfl Tryz.func79 (by kernel_rfl) rfl #[.slice A0 l0.length c0] rfl Gc2 ?_;(with_reducible refine (Z0i.calls k _ _ l0 true _ (tC HR0 HB) HC0.out A4.out).mono ?_);rintro e w' ⟨rfl,⟨nd,rfl⟩⟩;refine ⟨_,rfl,?_⟩;have z1_:=cel2 BK342 0 rfl;have z2_:=cel2 BK342 1 rfl;have z3_:=cel2 BK342 2 rfl;have z4_:=cel2 BK342 3 rfl;have z5_:=cel2 BK342 4 rfl;have z6_:=cel2 BK342 5 rfl;have z7_:=blk_frozen BK342.out 0;have z8_:=blk_frozen BK342.out 1;have z9_:=blk_frozen BK342.out 2;have z10_:=blk_frozen BK342.out 3;have z11_:=blk_frozen BK342.out 4;have z12_:=blk_frozen BK342.out 5)) | (have ma_:=ma5_;(go_at_call 59;(with_reducible refine (Z0h.calls k _ _ l0 a1_0 t350 _ ?s1 HC0.out A35.out).mono ?_);(case s1 => exact Gc9);rintro e w' ⟨rfl,⟨nd,rfl⟩⟩)) | (have ma_:=ma6_;(go_at_call 59;(with_reducible refine (Z0h.calls k _ _ l0 a1_0 t350 _ ?s1 HC0.out A35.out).mono ?_);(case s1 => exact Gc9);rintro e w' ⟨rfl,⟨nd,rfl⟩⟩;obtain ⟨z1_,z2_,z3_⟩:=Kd.R_slice HO346.out;subst z3_)) | (have ma_:=ma7_;(go_at_call 80;(with_reducible refine (Z07.calls k _ _ l0 _ _ l1_2 false _ ?sT ?s1 HC0.out ?s3 HC1_2.out A39.out).mono ?_);(case sT => exact Gc1);(case s1 => exact Gc9);(case s3 => exact Gc13);rintro e z1_ ⟨rfl,hb⟩;have n0_:=am (Kd.R_below (dR HO346) hb);have n1_:=am (blk_below (tK BK342) hb);have n2_:=am (below_step (tB HB) hb);revert n0_ n1_ n2_;clear HO346 BK342 HB;intro HO346 BK342 HB;(try clear hb);(try clear hb2);(try clear hk);(try clear hi))) | (have ma_:=ma8_;(go_at_call 80;(with_reducible refine (Z07.calls k _ _ l0 _ _ l1_2 true _ ?sT ?s1 HC0.out ?s3 HC1_2.out A39.out).mono ?_);(case sT => exact Gc1);(case s1 => exact Gc9);(case s3 => exact Gc13);rintro e z1_ ⟨rfl,hb⟩;have n0_:=am (Kd.R_below (dR HO346) hb);have n1_:=am (blk_below (tK BK342) hb);have n2_:=am (below_step (tB HB) hb);revert n0_ n1_ n2_;clear HO346 BK342 HB;intro HO346 BK342 HB;(try clear hb);(try clear hb2);(try clear hk);(try clear hi);have z5_:=cel2 BK342 0 rfl;have z6_:=cel2 BK342 1 rfl;have z7_:=cel2 BK342 2 rfl;have z8_:=cel2 BK342 3 rfl;have z9_:=cel2 BK342 4 rfl;have z10_:=cel2 BK342 5 rfl;have z11_:=blk_frozen BK342.out 0;have z12_:=blk_frozen BK342.out 1;have z13_:=blk_frozen BK342.out 2;have z14_:=blk_frozen BK342.out 3;have z15_:=blk_frozen BK342.out 4;have z16_:=blk_frozen BK342.out 5)) | (have ma_:=ma9_;(go_at_call 80;(with_reducible refine (Z07.calls k _ _ l0 _ _ l1_3 t352 _ ?sT (tC HR0 HB) HC0.out (tC HR1_3 HB) HC1_3.out A41.out).mono ?_);(case sT => exact Gc1);rintro e z1_ ⟨rfl,hb⟩;have n0_:=am (Kd.R_below (dR HO346) hb);have n1_:=am (blk_below (tK BK342) hb);have n2_:=am (below_step (tB HB) hb);revert n0_ n1_ n2_;clear HO346 BK342 HB;intro HO346 BK342 HB;(try clear hb);(try clear hb2);(try clear hk);(try clear hi))) | (have ma_:=ma10_;((with_reducible refine gate_callee (f:=78) rfl ?_);refine goesL_ (some 11) rfl rfl Tryz.func78 (by kernel_rfl) rfl #[.slice A0 l0.length c0,.string a1_1] rfl Gc2 ?_;(with_reducible refine (Z0w.calls _ _ l0 a1_1 t343 true _ ?sT (tC HR0 HB) HC0.out A3.out).mono ?_);(case sT => exact Gc1);rintro e z1_ ⟨z2_,rfl,z3_,hb⟩;refine ⟨_,rfl,?_⟩;have n0_:=am (Kd.R_lower z3_ (tS HB));have n1_:=am (blk_below (tK BK342) hb);have n2_:=am (below_step (tB HB) hb);revert n0_ n1_ n2_;clear BK342 HB;intro HO346 BK342 HB;(try clear hb);(try clear hb2);(try clear hk);(try clear hi);(try clear z3_))) | (have ma_:=ma11_;((with_reducible refine gate_callee (f:=79) rfl ?_);refine goesL_ (some 15) rfl rfl Tryz.func79 (by kernel_rfl) rfl #[.slice A0 l0.length c0] rfl Gc2 ?_;(with_reducible refine (Z0i.calls k _ _ l0 true _ (tC HR0 HB) HC0.out A4.out).mono ?_);rintro e w' ⟨rfl,⟨nd,rfl⟩⟩;refine ⟨_,rfl,?_⟩;have z1_:=cel2 BK342 0 rfl;have z2_:=cel2 BK342 1 rfl;have z3_:=cel2 BK342 2 rfl;have z4_:=cel2 BK342 3 rfl;have z5_:=cel2 BK342 4 rfl;have z6_:=cel2 BK342 5 rfl;have z7_:=blk_frozen BK342.out 0;have z8_:=blk_frozen BK342.out 1;have z9_:=blk_frozen BK342.out 2;have z10_:=blk_frozen BK342.out 3;have z11_:=blk_frozen BK342.out 4;have z12_:=blk_frozen BK342.out 5;obtain ⟨z13_,z14_,z15_⟩:=Kd.R_slice HO346.out;subst z15_)) | (have ma_:=ma12_;(go_at_call 80;(with_reducible refine (Z07.calls k _ _ l0 _ _ l1_2 false _ ?sT ?s1 HC0.out ?s3 HC1_2.out A9.out).mono ?_);(case sT => exact Gc1);(case s1 => exact Gc9);(case s3 => exact Gc13);rintro e z1_ ⟨rfl,hb⟩;have n0_:=am (Kd.R_below (dR HO346) hb);have n1_:=am (blk_below (tK BK342) hb);have n2_:=am (below_step (tB HB) hb);revert n0_ n1_ n2_;clear HO346 BK342 HB;intro HO346 BK342 HB;(try clear hb);(try clear hb2);(try clear hk);(try clear hi))) | (have ma_:=ma13_;(go_at_call 80;(with_reducible refine (Z07.calls k _ _ l0 _ _ l1_2 true _ ?sT ?s1 HC0.out ?s3 HC1_2.out A9.out).mono ?_);(case sT => exact Gc1);(case s1 => exact Gc9);(case s3 => exact Gc13);rintro e z1_ ⟨rfl,hb⟩;have n0_:=am (Kd.R_below (dR HO346) hb);have n1_:=am (blk_below (tK BK342) hb);have n2_:=am (below_step (tB HB) hb);revert n0_ n1_ n2_;clear HO346 BK342 HB;intro HO346 BK342 HB;(try clear hb);(try clear hb2);(try clear hk);(try clear hi);have z5_:=cel2 BK342 0 rfl;have z6_:=cel2 BK342 1 rfl;have z7_:=cel2 BK342 2 rfl;have z8_:=cel2 BK342 3 rfl;have z9_:=cel2 BK342 4 rfl;have z10_:=cel2 BK342 5 rfl;have z11_:=blk_frozen BK342.out 0;have z12_:=blk_frozen BK342.out 1;have z13_:=blk_frozen BK342.out 2;have z14_:=blk_frozen BK342.out 3;have z15_:=blk_frozen BK342.out 4;have z16_:=blk_frozen BK342.out 5)) | (have ma_:=ma14_;(go_at_call 80;(with_reducible refine (Z07.calls k _ _ l0 _ _ l1_3 t349 _ ?sT (tC HR0 HB) HC0.out (tC HR1_3 HB) HC1_3.out A11.out).mono ?_);(case sT => exact Gc1);rintro e z1_ ⟨rfl,hb⟩;have n0_:=am (Kd.R_below (dR HO346) hb);have n1_:=am (blk_below (tK BK342) hb);have n2_:=am (below_step (tB HB) hb);revert n0_ n1_ n2_;clear HO346 BK342 HB;intro HO346 BK342 HB;(try clear hb);(try clear hb2);(try clear hk);(try clear hi))))
  go_ret
  exact ⟨tE,by repeat (first | (with_reducible first | exact HB.out | apply below_alloc | apply pw_below_drewN | apply below_drew1 | refine below_set ?_ GE342.out) | exact HB.out)⟩):p:=h
set_option maxHeartbeats 8000000 in
set_option maxRecDepth 100000 in
theorem Z0s.calls (k:Nat) (A0:Option Addr) (c0:Nat) (l0:List (S68)) (a1_0:Int) (a1_1:ByteArray) (A1_2:Option Addr) (c1_2:Nat) (l1_2:List (S70)) (A1_3:Option Addr) (c1_3:Nat) (l1_3:List (S70)) (a1_4:Bool) (a1_5:Bool) (r:Bool) (w:World) (hT:Tabs w) (hr0:Kd.C k68 w A0 l0.length l0) (hc0:l0.length ≤ c0) (hr1_2:Kd.C k70 w A1_2 l1_2.length l1_2) (hc1_2:l1_2.length ≤ c1_2) (hr1_3:Kd.C k70 w A1_3 l1_3.length l1_3) (hc1_3:l1_3.length ≤ c1_3) (h:Z0s.f k l0 a1_0 a1_1 l1_2 l1_3 a1_4 a1_5 = some r) :
 Calls Tryz.prog 61 #[.slice A0 l0.length c0,.agg #[.int .i32 a1_0,.string a1_1,.slice A1_2 l1_2.length c1_2,.slice A1_3 l1_3.length c1_3,.bool a1_4,.bool a1_5]] w fun e w' => e = .returned (.bool r) ∧ Below w.heap.size w w':=by
 have HT:=am hT;clear hT;have hu73:=Tryz.underlying73;have HR0:=am hr0;have HC0:=am hc0;clear hr0 hc0;have HR1_2:=am hr1_2;have HC1_2:=am hc1_2;clear hr1_2 hc1_2;have HR1_3:=am hr1_3;have HC1_3:=am hc1_3;clear hr1_3 hc1_3;have HB:=am (Below.refl w.heap.size w);have H:((Z0w.f l0 a1_1).bind fun bt343 => ((Z0i.f k l0).bind fun t347 => (if t347 = true then (if a1_0 = 0 then (if bt343.2 = true then (if (bt343.1.length:Int) ≤ 4 then ((Z07.f k l0 l1_2).bind fun t348 => (if t348 = true then ((Z07.f k l0 l1_3).bind fun t349 => (some t349)) else (some false))) else (some false)) else (some false)) else ((Z0h.f k l0 a1_0).bind fun t350 => (if t350 ≥ 0 then (if bt343.2 = true then (if (bt343.1.length:Int) ≤ 4 then ((Z07.f k l0 l1_2).bind fun t351 => (if t351 = true then ((Z07.f k l0 l1_3).bind fun t352 => (some t352)) else (some false))) else (some false)) else (some false)) else (some false)))) else (some false)))) = some r:=h;clear h;replace H:=bI H;obtain ⟨⟨t343,t344⟩,A3,H⟩:=H;(try dsimp only at H);replace H:=bI H;obtain ⟨t347,A4,H⟩:=H;(try dsimp only at H)
 replace H:=iT H;obtain ⟨rfl,H⟩ | ⟨rfl,H⟩:=H
 ·
  replace H:=iE H;obtain ⟨-,c6b0,c6b1,H⟩ | ⟨c6,c6b0,c6b1,H⟩:=H
  ·
   replace H:=iT H;obtain ⟨rfl,H⟩ | ⟨rfl,H⟩:=H
   ·
    replace H:=iF H;obtain ⟨c8,H⟩ | ⟨c8,H⟩:=H
    ·
     have c8b0:decide ((t343.length:Int) ≤ 4) = true:=decide_eq_true c8;have c8b1:decide (t343.length ≤ 4) = true:=decide_eq_true (by omega);clear c8;replace H:=bI H;obtain ⟨t348,A9,H⟩:=H;(try dsimp only at H)
     replace H:=iT H;obtain ⟨rfl,H⟩ | ⟨rfl,H⟩:=H
     ·
      replace H:=bI H;obtain ⟨t349,A11,H⟩:=H;(try dsimp only at H);obtain rfl:=Option.some.inj H;have ma10_:=trivial;have ma11_:=trivial;have ma13_:=trivial;have ma14_:=trivial;exact Z4m
     ·
      obtain rfl:=Option.some.inj H;have ma10_:=trivial;have ma11_:=trivial;have ma12_:=trivial;exact Z4m
    ·
     have c8b0:decide ((t343.length:Int) ≤ 4) = false:=decide_eq_false c8;have c8b1:decide (t343.length ≤ 4) = false:=decide_eq_false (by omega);clear c8;obtain rfl:=Option.some.inj H;have ma10_:=trivial;have ma11_:=trivial;exact Z4m
   ·
    obtain rfl:=Option.some.inj H;have ma3_:=trivial;have ma4_:=trivial;exact Z4m
  ·
   replace H:=bI H;obtain ⟨t350,A35,H⟩:=H;(try dsimp only at H)
   replace H:=iF H;obtain ⟨c36,H⟩ | ⟨c36,H⟩:=H
   ·
    have c36b0:decide (0 ≤ t350) = true:=decide_eq_true c36;clear c36
    replace H:=iT H;obtain ⟨rfl,H⟩ | ⟨rfl,H⟩:=H
    ·
     replace H:=iF H;obtain ⟨c38,H⟩ | ⟨c38,H⟩:=H
     ·
      have c38b0:decide ((t343.length:Int) ≤ 4) = true:=decide_eq_true c38;have c38b1:decide (t343.length ≤ 4) = true:=decide_eq_true (by omega);clear c38;replace H:=bI H;obtain ⟨t351,A39,H⟩:=H;(try dsimp only at H)
      replace H:=iT H;obtain ⟨rfl,H⟩ | ⟨rfl,H⟩:=H
      ·
       replace H:=bI H;obtain ⟨t352,A41,H⟩:=H;(try dsimp only at H);obtain rfl:=Option.some.inj H;have ma10_:=trivial;have ma4_:=trivial;have ma6_:=trivial;have ma8_:=trivial;have ma9_:=trivial;exact Z4m
      ·
       obtain rfl:=Option.some.inj H;have ma10_:=trivial;have ma4_:=trivial;have ma6_:=trivial;have ma7_:=trivial;exact Z4m
     ·
      have c38b0:decide ((t343.length:Int) ≤ 4) = false:=decide_eq_false c38;have c38b1:decide (t343.length ≤ 4) = false:=decide_eq_false (by omega);clear c38;obtain rfl:=Option.some.inj H;have ma10_:=trivial;have ma4_:=trivial;have ma6_:=trivial;exact Z4m
    ·
     obtain rfl:=Option.some.inj H;have ma3_:=trivial;have ma4_:=trivial;have ma5_:=trivial;exact Z4m
   ·
    have c36b0:decide (0 ≤ t350) = false:=decide_eq_false c36;clear c36;obtain rfl:=Option.some.inj H;have ma1_:=trivial;have ma4_:=trivial;have ma5_:=trivial;exact Z4m
 ·
  obtain rfl:=Option.some.inj H;have ma1_:=trivial;have ma2_:=trivial;exact Z4m
mutual
def Z06.j0:Nat → List (S68) → List (S73) → Bool → Option (Bool)
 | 0,_,_,_ => none
 | k + 1,x0,x1,x21 => if x21 = true then (some false) else ((Z1g.f x0).bind fun t355 => (Z06.l0 k x1 t355 0))
def Z06.l0:Nat → List (S73) → List (S68) → Int → Option (Bool)
 | 0,_,_,_ => none
 | k + 1,x1,x5,x6 => if x6 < (x1.length:Int) then (if 0 ≤ x6 then ((Z0s.f k x5 ((Z03 x1 x6).f0) ((Z03 x1 x6).f1) ((Z03 x1 x6).f2) ((Z03 x1 x6).f3) ((Z03 x1 x6).f4) ((Z03 x1 x6).f5)).bind fun t360 => (if t360 = true then (Z06.j2 k x1 x5 x6 (((Z03 x1 x6).f0) == 61) ((Z03 x1 x6).f0) ((Z03 x1 x6).f1) ((Z03 x1 x6).f2) ((Z03 x1 x6).f3) ((Z03 x1 x6).f4) ((Z03 x1 x6).f5)) else (Z06.j2 k x1 x5 x6 true ((Z03 x1 x6).f0) ((Z03 x1 x6).f1) ((Z03 x1 x6).f2) ((Z03 x1 x6).f3) ((Z03 x1 x6).f4) ((Z03 x1 x6).f5)))) else (none)) else (some true)
def Z06.j2:Nat → List (S73) → List (S68) → Int → Bool → Int → ByteArray → List (S70) → List (S70) → Bool → Bool → Option (Bool)
 | 0,_,_,_,_,_,_,_,_,_,_ => none
 | k + 1,x1,x5,x6,x42,x360000,x360001,x360002,x360003,x360004,x360005 => if x42 = true then (some false) else (Z06.l1 k x1 x5 x6 0 x360000 x360001 x360002 x360003 x360004 x360005)
def Z06.l1:Nat → List (S73) → List (S68) → Int → Int → Int → ByteArray → List (S70) → List (S70) → Bool → Bool → Option (Bool)
 | 0,_,_,_,_,_,_,_,_,_,_ => none
 | k + 1,x1,x5,x6,x8,x360000,x360001,x360002,x360003,x360004,x360005 => if x8 < (x360001.size:Int) then (if 0 ≤ x8 then (if (bt x360001 x8) = 61 then (some false) else (Z06.l1 k x1 x5 x6 (wrap64 (x8 + 1)) x360000 x360001 x360002 x360003 x360004 x360005)) else (none)) else (Z06.l0 k x1 x5 (wrap64 (x6 + 1)))
end
def Z06.f (k:Nat) (l0:List (S68)) (l1:List (S73)):Option (Bool):=(Z1k.f k l0).bind fun t353 => (if t353 = true then ((Z0h.f k l0 61).bind fun t354 => (if t354 ≥ 0 then (Z06.j0 k l0 l1 true) else (Z06.j0 k l0 l1 (decide ((l1.length:Int) > 64))))) else (Z06.j0 k l0 l1 true))
theorem Zgc {p:Prop} (h:p:=by
  obtain rfl:=Option.some.inj H;go_wp2;go_ret
  exact ⟨tE,by repeat (first | (with_reducible first | exact HB.out | apply below_alloc | apply pw_below_drewN | apply below_drew1) | exact HB.out)⟩):p:=h
theorem Zgd {p:Prop} (h:p:=by
  go_wp2;go_ret
  exact ⟨tE,by repeat (first | (with_reducible first | exact HB.out | apply below_alloc | apply pw_below_drewN | apply below_drew1 | refine below_set ?_ GE359.out) | exact HB.out)⟩):p:=h
theorem Zcu {p:Prop} (h:p:=by
  clear c7
  (first | rw [c7b0] | (simp only [i64_w,i32_w];rw [c7b0]) | skip)
  have H':=am H;clear H
  go_wp2_with (first | ((with_reducible refine gate_callee (f:=58) rfl ?_);refine goesL_ (some 10) rfl rfl Tryz.func58 (by kernel_rfl) rfl #[.slice A0 l0.length c0] rfl Gc2 ?_;(with_reducible refine (Z1k.calls k _ _ l0 true _ (tC HR0 HB) HC0.out A4.out).mono ?_);rintro e w' ⟨rfl,⟨nd,rfl⟩⟩;refine ⟨_,rfl,?_⟩) | (go_at_call 59;(with_reducible refine (Z0h.calls k _ _ l0 61 t354 _ ?s1 HC0.out A6.out).mono ?_);(case s1 => exact Gc9);rintro e w' ⟨rfl,⟨nd,rfl⟩⟩))
  go_meet
  first
  | (have mk_:=mk0_
     case rel => exact ⟨_,(decide ((l1.length:Int) > 64)),tV1,H',⟨tU⟩,⟨tB HB⟩⟩)
  | (have mk_:=mk1_
     case rel => exact ⟨_,(true),tV1,H',⟨tU⟩,⟨tB HB⟩⟩)):p:=h
theorem Zcv {p:Prop} (h:p:=by
  obtain ⟨z1_,z2_,z3_,z4_,z5_,z6_,z7_,z8_,z9_,z10_,z11_,z12_⟩:=bx6 BK359;have z13_:0 ≤ (x8_4:Int):=oD;have z14_:x8_4 < (((Z03 l1 x6_2).f1).size:Int):=oD;have z15_:=bt_at ((Z03 l1 x6_2).f1) x8_4;replace z13_:=eq_true z13_;replace z14_:=eq_true z14_
  first
  | (have mk_:=mk0_
     go_wp2
     go_roundg k4
     case measure => have:=HJ2.out;have:=HK2.out;have:=HJ12.out;have:=HK4.out;omega
     case rel => exact ⟨(wrap64 (x8_4 + 1)),tV1,H',⟨by have:=HJ2.out;have:=HK2.out;have:=HJ12.out;have:=HK4.out;omega⟩,⟨dR HO_5⟩,⟨tK BK359⟩,⟨tB HB⟩⟩)
  | (have mk_:=mk1_
     exact Zgd)):p:=h
set_option maxHeartbeats 8000000 in
set_option maxRecDepth 100000 in
theorem Z06.calls (k:Nat) (A0:Option Addr) (c0:Nat) (l0:List (S68)) (A1:Option Addr) (c1:Nat) (l1:List (S73)) (r:Bool) (w:World) (hT:Tabs w) (hr0:Kd.C k68 w A0 l0.length l0) (hc0:l0.length ≤ c0) (hr1:Kd.C k73 w A1 l1.length l1) (hc1:l1.length ≤ c1) (h:Z06.f k l0 l1 = some r) :
 Calls Tryz.prog 40 #[.slice A0 l0.length c0,.slice A1 l1.length c1] w fun e w' => e = .returned (.bool r) ∧ Below w.heap.size w w':=by
 have HT:=am hT;clear hT;have hu73:=Tryz.underlying73;have HR0:=am hr0;have HC0:=am hc0;clear hr0 hc0;have HR1:=am hr1;have HC1:=am hc1;clear hr1 hc1;have HB:=am (Below.refl w.heap.size w);have H:((Z1k.f k l0).bind fun t353 => (if t353 = true then ((Z0h.f k l0 61).bind fun t354 => (if t354 ≥ 0 then (Z06.j0 k l0 l1 true) else (Z06.j0 k l0 l1 (decide ((l1.length:Int) > 64))))) else (Z06.j0 k l0 l1 true))) = some r:=h;clear h;have HC3:=am H;clear H;go_enter Tryz.func40,Tryz.ntmps40
 go_upto_region 1 with (fail)
 go_cut [21] (fun v21 wc => ∃ (kq:Nat) (x21_2:Bool),v21 = .bool x21_2 ∧ Aside0 (Z06.j0 kq l0 l1 x21_2 = some r) ∧ Aside0 (kq ≤ k) ∧ Aside0 (Below w.heap.size w wc))
 case first =>
  have H:=HC3.out;clear HC3;replace H:=bI H;obtain ⟨t353,A4,H⟩:=H;(try dsimp only at H)
  replace H:=iT H;obtain ⟨rfl,H⟩ | ⟨rfl,H⟩:=H
  ·
   replace H:=bI H;obtain ⟨t354,A6,H⟩:=H;(try dsimp only at H)
   replace H:=iF H;obtain ⟨c7,H⟩ | ⟨c7,H⟩:=H
   ·
    have c7b0:decide (0 ≤ t354) = true:=decide_eq_true c7;have mk1_:=trivial;exact Zcu
   ·
    have c7b0:decide (0 ≤ t354) = false:=decide_eq_false c7;have mk0_:=trivial;exact Zcu
  ·
   have H':=am H;clear H
   go_wp2_with (first | ((with_reducible refine gate_callee (f:=58) rfl ?_);refine goesL_ (some 10) rfl rfl Tryz.func58 (by kernel_rfl) rfl #[.slice A0 l0.length c0] rfl Gc2 ?_;(with_reducible refine (Z1k.calls k _ _ l0 false _ (tC HR0 HB) HC0.out A4.out).mono ?_);rintro e w' ⟨rfl,⟨nd,rfl⟩⟩;refine ⟨_,rfl,?_⟩))
   go_meet
   case rel => exact ⟨_,(true),tV1,H',⟨tU⟩,⟨tB HB⟩⟩
 case rest =>
  clear HC3;obtain ⟨kq,x21_2,rfl,HA,HJ2,HB⟩:=hcut
  cases kq with
  | zero => exact absurd HA.out (by simp [Z06.j0])
  | succ kj2 =>
   have H:=HA.out;clear HA;simp only [Z06.j0] at H
   replace H:=iT H;obtain ⟨rfl,H⟩ | ⟨rfl,H⟩:=H
   ·
    exact Zgc
   ·
    replace H:=bI H;obtain ⟨t355,A9,H⟩:=H;(try dsimp only at H);have H':=am H;clear H
    go_wp2_with (first | ((with_reducible refine gate_callee (f:=60) rfl ?_);refine goesL_ (some 23) rfl rfl Tryz.func60 (by kernel_rfl) rfl #[.slice A0 l0.length c0] rfl Gc2 ?_;(with_reducible refine (Z1g.calls _ _ l0 t355 _ (tC HR0 HB) HC0.out A9.out).mono ?_);rintro e w10 ⟨v356,rfl,ho0,hb⟩;refine ⟨_,rfl,?_⟩;have n0_:=am (Kd.R_lower ho0 (tS HB));have n1_:=am (below_step (tB HB) hb);revert n0_ n1_;clear HB;intro HO357 HB;(try clear hb);(try clear hb2);(try clear hk);(try clear hi);(try clear ho0)))
    go_loopg [6] kj2 (fun kq v6 w' => ∃ (x6_2:Int),v6 = .int .i64 x6_2 ∧ Aside0 (Z06.l0 kq l1 t355 x6_2 = some r) ∧ Aside0 (kq ≤ kj2) ∧ Aside0 (Kd.R k68 68 w' w.heap.size (fun _ => True) v356 t355) ∧ Aside0 (Below w.heap.size w w'))
    case atStart => exact ⟨(0),tV1,H',⟨Nat.le_refl _⟩,⟨dR HO357⟩,⟨tB HB⟩⟩
    case round =>
     clear H';(try clear c8);obtain ⟨x6_2,rfl,HA,HK2,HO_5,HB⟩:=hrel
     cases gk with
     | zero => exact absurd HA.out (by simp [Z06.l0])
     | succ k2 =>
      have H:=HA.out;clear HA;simp only [Z06.l0] at H
      replace H:=iF H;obtain ⟨c11,H⟩ | ⟨c11,H⟩:=H;rotate_left
      ·
       have c11b0:decide (x6_2 < (l1.length:Int)) = false:=decide_eq_false c11;clear c11;exact Zgc
      have c11b0:decide (x6_2 < (l1.length:Int)) = true:=decide_eq_true c11;clear c11;replace H:=iFn H;obtain ⟨c12,H⟩:=H;have c12b0:decide (0 ≤ x6_2) = true:=decide_eq_true c12;clear c12;have HC13:=am H;clear H;have p358:0 ≤ (x6_2:Int):=oD;have q358:x6_2 < (l1.length:Int):=oD;obtain ⟨ad358,A358_2,c358_2,A358_3,c358_3,e358,hx358_0,hx358_1,hx358_2,hx358_3,hx358_4,hx358_5,hl358_2,hi358_2,hl358_3,hi358_3⟩:=Zat HR1.out x6_2 p358 q358;cases e358;replace hx358_0:=celB HB hx358_0;replace hx358_1:=celB HB hx358_1;replace hx358_2:=celB HB hx358_2;replace hx358_3:=celB HB hx358_3;replace hx358_4:=celB HB hx358_4;replace hx358_5:=celB HB hx358_5;have HR358_2:=am hi358_2;have HC358_2:=am hl358_2;clear hi358_2 hl358_2;have HR358_3:=am hi358_3;have HC358_3:=am hl358_3;clear hi358_3 hl358_3;replace p358:=eq_true p358;replace q358:=eq_true q358
      go_upto_region 8 with (first | ((with_reducible refine gate_dst (N:=7) rfl ?_);(try (refine gate_guard (by rfl) ?_;dsimp only));refine box_event ?hg (N:=7) ?hd (cs:=#[.int .i32 0,.string (⟨#[]⟩:ByteArray),.slice none 0 0,.slice none 0 0,.bool false,.bool false]) (t:=73) ?hr ?_;(case hd => rfl);(case hg => rfl);(case hr => exact Gc5);intro gb359 hg w14 hbox hb;have n0_:=am (Kd.R_below (dR HO_5) hb);have n1_:=am (below_step (tB HB) hb);have n2_:=am (hbox);have n3_:=tZ hg (tS HB);have n4_:=tZ hg (tS HB);revert n0_ n1_ n2_ n3_ n4_;clear HO_5 HB;intro HO_5 HB BK359 GW359 GE359;clear hb hbox hg;have hcz15_0:=cel2 BK359 0 rfl;have hcz15_1:=cel2 BK359 1 rfl;have hcz15_2:=cel2 BK359 2 rfl;have hcz15_3:=cel2 BK359 3 rfl;have hcz15_4:=cel2 BK359 4 rfl;have hcz15_5:=cel2 BK359 5 rfl;have hfz15_0:=blk_frozen BK359.out 0;have hfz15_1:=blk_frozen BK359.out 1;have hfz15_2:=blk_frozen BK359.out 2;have hfz15_3:=blk_frozen BK359.out 3;have hfz15_4:=blk_frozen BK359.out 4;have hfz15_5:=blk_frozen BK359.out 5))
      (try simp only [Act.put,List.setIfInBounds_toArray,List.set_cons_zero,List.set_cons_succ])
      go_cut [42] (fun v42 wc => ∃ (kq:Nat) (x42_12:Bool),v42 = .bool x42_12 ∧ Aside0 (Z06.j2 kq l1 t355 x6_2 x42_12 ((Z03 l1 x6_2).f0) ((Z03 l1 x6_2).f1) ((Z03 l1 x6_2).f2) ((Z03 l1 x6_2).f3) ((Z03 l1 x6_2).f4) ((Z03 l1 x6_2).f5) = some r) ∧ Aside0 (kq ≤ k2) ∧ Aside0 (Kd.R k68 68 wc w.heap.size (fun _ => True) v356 t355) ∧ Aside0 (wc.heap[gb359]? = some (.cells #[.int .i32 ((Z03 l1 x6_2).f0),.string ((Z03 l1 x6_2).f1),(.slice A358_2 ((Z03 l1 x6_2).f2).length c358_2),(.slice A358_3 ((Z03 l1 x6_2).f3).length c358_3),.bool ((Z03 l1 x6_2).f4),.bool ((Z03 l1 x6_2).f5)] 73 (0,0))) ∧ Aside0 (Below w.heap.size w wc))
      case first =>
       have H:=HC13.out;clear HC13;replace H:=bI H;obtain ⟨t360,A16,H⟩:=H;(try dsimp only at H)
       replace H:=iT H;obtain ⟨rfl,H⟩ | ⟨rfl,H⟩:=H
       ·
        have H':=am H;clear H;obtain ⟨hcz18_0,hcz18_1,hcz18_2,hcz18_3,hcz18_4,hcz18_5,hfz18_0,hfz18_1,hfz18_2,hfz18_3,hfz18_4,hfz18_5⟩:=bx6 BK359;obtain ⟨Ao19,co19,eo19⟩:=Kd.R_slice HO_5.out;subst eo19
        go_wp2_with (first | ((with_reducible refine gate_callee (f:=61) rfl ?_);refine goesL_ (some 36) rfl rfl Tryz.func61 (by kernel_rfl) rfl #[.slice Ao19 t355.length co19,.agg #[.int .i32 ((Z03 l1 x6_2).f0),.string ((Z03 l1 x6_2).f1),.slice A358_2 ((Z03 l1 x6_2).f2).length c358_2,.slice A358_3 ((Z03 l1 x6_2).f3).length c358_3,.bool ((Z03 l1 x6_2).f4),.bool ((Z03 l1 x6_2).f5)]] rfl Gc2 ?_;(with_reducible refine (Z0s.calls k2 _ _ t355 ((Z03 l1 x6_2).f0) ((Z03 l1 x6_2).f1) _ _ ((Z03 l1 x6_2).f2) _ _ ((Z03 l1 x6_2).f3) ((Z03 l1 x6_2).f4) ((Z03 l1 x6_2).f5) true _ ?sT ?s1 ?s2 ?s3 ?s4 ?s5 ?s6 A16.out).mono ?_);(case sT => exact Gc1);(case s1 => refine (Kd.R_reads' (e:=68) (base:=w.heap.size) (ok:=fun k_ => True) (n:=t355.length) (c:=co19) ?_).2.2;exact Gc4);(case s2 => exact (Kd.R_reads' HO_5.out).2.1);(case s3 => exact Kd.C_below HR358_2.out (tB HB));(case s4 => exact HC358_2.out);(case s5 => exact Kd.C_below HR358_3.out (tB HB));(case s6 => exact HC358_3.out);rintro e w20 ⟨rfl,hb⟩;refine ⟨_,rfl,?_⟩;have n0_:=am (Kd.R_below Gc4 hb);have n1_:=am (blk_below (g:=gb359) (o:=.cells #[.int .i32 ((Z03 l1 x6_2).f0),.string ((Z03 l1 x6_2).f1),.slice A358_2 ((Z03 l1 x6_2).f2).length c358_2,.slice A358_3 ((Z03 l1 x6_2).f3).length c358_3,.bool ((Z03 l1 x6_2).f4),.bool ((Z03 l1 x6_2).f5)] 73 (0,0)) (tKp BK359) hb);have n2_:=am (below_step (tB HB) hb);revert n0_ n1_ n2_;clear HO_5 BK359 HB;intro HO_5 BK359 HB;(try clear hb);(try clear hb2);(try clear hk);(try clear hi);have hcz21_0:=cel2 BK359 0 rfl;have hcz21_1:=cel2 BK359 1 rfl;have hcz21_2:=cel2 BK359 2 rfl;have hcz21_3:=cel2 BK359 3 rfl;have hcz21_4:=cel2 BK359 4 rfl;have hcz21_5:=cel2 BK359 5 rfl;have hfz21_0:=blk_frozen BK359.out 0;have hfz21_1:=blk_frozen BK359.out 1;have hfz21_2:=blk_frozen BK359.out 2;have hfz21_3:=blk_frozen BK359.out 3;have hfz21_4:=blk_frozen BK359.out 4;have hfz21_5:=blk_frozen BK359.out 5))
        go_meet
        case rel => exact ⟨_,((((Z03 l1 x6_2).f0) == 61)),tV1,H',⟨by have:=HJ2.out;have:=HK2.out;first | omega | exact Nat.le_refl _⟩,⟨dR HO_5⟩,⟨tK BK359⟩,⟨tB HB⟩⟩
       ·
        have H':=am H;clear H;obtain ⟨hcz22_0,hcz22_1,hcz22_2,hcz22_3,hcz22_4,hcz22_5,hfz22_0,hfz22_1,hfz22_2,hfz22_3,hfz22_4,hfz22_5⟩:=bx6 BK359;obtain ⟨Ao23,co23,eo23⟩:=Kd.R_slice HO_5.out;subst eo23
        go_wp2_with (first | ((with_reducible refine gate_callee (f:=61) rfl ?_);refine goesL_ (some 36) rfl rfl Tryz.func61 (by kernel_rfl) rfl #[.slice Ao23 t355.length co23,.agg #[.int .i32 ((Z03 l1 x6_2).f0),.string ((Z03 l1 x6_2).f1),.slice A358_2 ((Z03 l1 x6_2).f2).length c358_2,.slice A358_3 ((Z03 l1 x6_2).f3).length c358_3,.bool ((Z03 l1 x6_2).f4),.bool ((Z03 l1 x6_2).f5)]] rfl Gc2 ?_;(with_reducible refine (Z0s.calls k2 _ _ t355 ((Z03 l1 x6_2).f0) ((Z03 l1 x6_2).f1) _ _ ((Z03 l1 x6_2).f2) _ _ ((Z03 l1 x6_2).f3) ((Z03 l1 x6_2).f4) ((Z03 l1 x6_2).f5) false _ ?sT ?s1 ?s2 ?s3 ?s4 ?s5 ?s6 A16.out).mono ?_);(case sT => exact Gc1);(case s1 => refine (Kd.R_reads' (e:=68) (base:=w.heap.size) (ok:=fun k_ => True) (n:=t355.length) (c:=co23) ?_).2.2;exact Gc4);(case s2 => exact (Kd.R_reads' HO_5.out).2.1);(case s3 => exact Kd.C_below HR358_2.out (tB HB));(case s4 => exact HC358_2.out);(case s5 => exact Kd.C_below HR358_3.out (tB HB));(case s6 => exact HC358_3.out);rintro e w24 ⟨rfl,hb⟩;refine ⟨_,rfl,?_⟩;have n0_:=am (Kd.R_below Gc4 hb);have n1_:=am (blk_below (g:=gb359) (o:=.cells #[.int .i32 ((Z03 l1 x6_2).f0),.string ((Z03 l1 x6_2).f1),.slice A358_2 ((Z03 l1 x6_2).f2).length c358_2,.slice A358_3 ((Z03 l1 x6_2).f3).length c358_3,.bool ((Z03 l1 x6_2).f4),.bool ((Z03 l1 x6_2).f5)] 73 (0,0)) (tKp BK359) hb);have n2_:=am (below_step (tB HB) hb);revert n0_ n1_ n2_;clear HO_5 BK359 HB;intro HO_5 BK359 HB;(try clear hb);(try clear hb2);(try clear hk);(try clear hi)))
        go_meet
        case rel => exact ⟨_,(true),tV1,H',⟨by have:=HJ2.out;have:=HK2.out;first | omega | exact Nat.le_refl _⟩,⟨dR HO_5⟩,⟨tK BK359⟩,⟨tB HB⟩⟩
      case rest =>
       clear HC13;(try clear c8);(try clear c11);(try clear c11b0);(try clear c12);(try clear c12b0);(try clear hcz15_0);(try clear hcz15_1);(try clear hcz15_2);(try clear hcz15_3);(try clear hcz15_4);(try clear hcz15_5);(try clear hfz15_0);(try clear hfz15_1);(try clear hfz15_2);(try clear hfz15_3);(try clear hfz15_4);(try clear hfz15_5);(try clear hx358_0);(try clear hx358_1);(try clear hx358_2);(try clear hx358_3);(try clear hx358_4);(try clear hx358_5);(try clear p358);(try clear q358);obtain ⟨kq,x42_12,rfl,HA,HJ12,HO_5,BK359,HB⟩:=hcut
       cases kq with
       | zero => exact absurd HA.out (by simp [Z06.j2])
       | succ kj12 =>
        have H:=HA.out;clear HA;simp only [Z06.j2] at H
        replace H:=iT H;obtain ⟨rfl,H⟩ | ⟨rfl,H⟩:=H
        ·
         obtain rfl:=Option.some.inj H;exact Zgd
        ·
         have H':=am H;clear H;go_wp2
         go_loopg [8] kj12 (fun kq v8 w' => ∃ (x8_4:Int),v8 = .int .i64 x8_4 ∧ Aside0 (Z06.l1 kq l1 t355 x6_2 x8_4 ((Z03 l1 x6_2).f0) ((Z03 l1 x6_2).f1) ((Z03 l1 x6_2).f2) ((Z03 l1 x6_2).f3) ((Z03 l1 x6_2).f4) ((Z03 l1 x6_2).f5) = some r) ∧ Aside0 (kq ≤ kj12) ∧ Aside0 (Kd.R k68 68 w' w.heap.size (fun _ => True) v356 t355) ∧ Aside0 (w'.heap[gb359]? = some (.cells #[.int .i32 ((Z03 l1 x6_2).f0),.string ((Z03 l1 x6_2).f1),(.slice A358_2 ((Z03 l1 x6_2).f2).length c358_2),(.slice A358_3 ((Z03 l1 x6_2).f3).length c358_3),.bool ((Z03 l1 x6_2).f4),.bool ((Z03 l1 x6_2).f5)] 73 (0,0))) ∧ Aside0 (Below w.heap.size w w'))
         case atStart => exact ⟨(0),tV1,H',⟨Nat.le_refl _⟩,⟨dR HO_5⟩,⟨tK BK359⟩,⟨tB HB⟩⟩
         case round =>
          clear H';(try clear c8);(try clear c11);(try clear c11b0);(try clear c12);(try clear c12b0);(try clear c25);(try clear hcz15_0);(try clear hcz15_1);(try clear hcz15_2);(try clear hcz15_3);(try clear hcz15_4);(try clear hcz15_5);(try clear hfz15_0);(try clear hfz15_1);(try clear hfz15_2);(try clear hfz15_3);(try clear hfz15_4);(try clear hfz15_5);(try clear hx358_0);(try clear hx358_1);(try clear hx358_2);(try clear hx358_3);(try clear hx358_4);(try clear hx358_5);(try clear p358);(try clear q358);obtain ⟨x8_4,rfl,HA,HK4,HO_5,BK359,HB⟩:=hrel
          cases gk with
          | zero => exact absurd HA.out (by simp [Z06.l1])
          | succ k4 =>
           have H:=HA.out;clear HA;simp only [Z06.l1] at H
           replace H:=iF H;obtain ⟨c26,H⟩ | ⟨c26,H⟩:=H
           ·
            have c26b0:decide (x8_4 < (((Z03 l1 x6_2).f1).size:Int)) = true:=decide_eq_true c26;clear c26;replace H:=iFn H;obtain ⟨c27,H⟩:=H;have c27b0:decide (0 ≤ x8_4) = true:=decide_eq_true c27;clear c27
            replace H:=iE H;obtain ⟨-,c29b0,c29b1,H⟩ | ⟨c29,c29b0,c29b1,H⟩:=H
            ·
             obtain rfl:=Option.some.inj H;have mk1_:=trivial;exact Zcv
            ·
             have H':=am H;clear H;have mk0_:=trivial;exact Zcv
           ·
            have c26b0:decide (x8_4 < (((Z03 l1 x6_2).f1).size:Int)) = false:=decide_eq_false c26;clear c26;have H':=am H;clear H;obtain ⟨hcz32_0,hcz32_1,hcz32_2,hcz32_3,hcz32_4,hcz32_5,hfz32_0,hfz32_1,hfz32_2,hfz32_3,hfz32_4,hfz32_5⟩:=bx6 BK359;go_wp2
            go_roundg k4
            case measure => have:=HJ2.out;have:=HK2.out;have:=HJ12.out;have:=HK4.out;omega
            case rel => exact ⟨(wrap64 (x6_2 + 1)),tV1,H',⟨by have:=HJ2.out;have:=HK2.out;have:=HJ12.out;have:=HK4.out;omega⟩,⟨dR HO_5⟩,⟨tB HB⟩⟩
def Z17.j0:Nat → List (S68) → ByteArray → Bool → Int → ByteArray → List (S70) → List (S70) → Bool → Bool → Option (ByteArray × Int)
 | 0,_,_,_,_,_,_,_,_,_ => none
 | k + 1,x0,x2,x18,x189000,x189001,x189002,x189003,x189004,x189005 => if x18 = true then (some ((⟨#[]⟩:ByteArray),1)) else ((Z3n.f x0 x189000 x189001 x189002 x189003 x189004 x189005 x2).bind fun t191 => ((Z3g.f x189000 x189001 x189002 x189003 x189004 x189005 t191 x2).bind fun t194 => ((Z1u.f t194).bind fun t195 => (if t195 > 40 then (some ((⟨#[]⟩:ByteArray),2)) else (some (t194,0))))))
def Z17.f (k:Nat) (l0:List (S68)) (a1_0:Int) (a1_1:ByteArray) (l1_2:List (S70)) (l1_3:List (S70)) (a1_4:Bool) (a1_5:Bool) (a2:ByteArray):Option (ByteArray × Int):=(Z1r.f l0 a1_0 a1_1 l1_2 l1_3 a1_4 a1_5).bind fun t189 => (if t189 = true then ((Z19.f l0 a2).bind fun t190 => (Z17.j0 k l0 a2 (!t190) a1_0 a1_1 l1_2 l1_3 a1_4 a1_5)) else (Z17.j0 k l0 a2 true a1_0 a1_1 l1_2 l1_3 a1_4 a1_5))
def Z17.T3:Bool × List (List Nat × List Nat):=(true,[([],[]),([],[]),([],[]),([],[]),([1,2,3],[1,2,3]),([],[]),([0,4,5,4],[0,4,5]),([6,6,0,1,2,3,4,5,6],[6])])
def Z17.B3:List Nat:=[0,0,0,0,14,0,63,127]
theorem Z17.tab3:rtab .any (opsOf Tryz.f93 3) = Z17.T3:=by kernel_rfl
theorem Z17.bits3:waitsOk Z17.T3.2 Z17.B3 = true:=by kernel_rfl
set_option maxRecDepth 1000000 in
theorem Zge {p:Prop} (h:p:=by
  clear c18;simp only [Option.some.injEq,Prod.mk.injEq] at H;obtain ⟨rfl,rfl⟩:=H
  try go_wp2
  have z1_:=am (blk_drew BK188.out);have z2_:=am (below_drew1 HB.out);revert z1_ z2_;clear BK188 HB;intro BK188 HB
  refine start_ (n:=8) (S:=fun w' => w'.cell? ⟨gb188,0,none⟩ = some (.int .i32 a1_0) ∧ w'.cell? ⟨gb188,1,none⟩ = some (.string a1_1) ∧ w'.cell? ⟨gb188,2,none⟩ = some (.slice A1_2 l1_2.length c1_2) ∧ w'.cell? ⟨gb188,3,none⟩ = some (.slice A1_3 l1_3.length c1_3) ∧ w'.cell? ⟨gb188,4,none⟩ = some (.bool a1_4) ∧ w'.cell? ⟨gb188,5,none⟩ = some (.bool a1_5)) (ds:=[]) #[false,false,false,false,false,false,false,false] (by kernel_rfl) rfl rfl ⟨(blk_cell BK188.out 0).trans rfl,(blk_cell BK188.out 1).trans rfl,(blk_cell BK188.out 2).trans rfl,(blk_cell BK188.out 3).trans rfl,(blk_cell BK188.out 4).trans rfl,(blk_cell BK188.out 5).trans rfl⟩ (fun hHeld => ?_);refine with_tabW Z17.tab3 Z17.bits3 (fun HT_ HW_ => ?_)
  generalize wc.drew = z3_ at BK188 HB hHeld ⊢
  refine pT 1 20 ?_
  refine pT 3 22 ?_
  refine pT 5 24 ?_
  refine tTt 0 19 hHeld ?_
  refine tTt 2 21 hHeld ?_
  refine one_ (i:=4) (N:=some 23) #[true,true,true,true,true,true,false,false] rfl rfl (one_of HT_.out (by kernel_rfl)) (by decide) (fun K hK => ?_)
  refine goes_ Tryz.func98 (by kernel_rfl) rfl #[.slice A0 l0.length c0,.agg #[.int .i32 a1_0,.string a1_1,.slice A1_2 l1_2.length c1_2,.slice A1_3 l1_3.length c1_3,.bool a1_4,.bool a1_5],.string a2] (by rfl) rfl rfl Gc2 ?_
  with_reducible refine (Z3n.calls _ _ l0 a1_0 a1_1 _ _ l1_2 _ _ l1_3 a1_4 a1_5 a2 t191 _ ?sT (tC HR0 HB) HC0.out (tC HR1_2 HB) HC1_2.out (tC HR1_3 HB) HC1_3.out A15.out).mono ?_
  (case sT => exact Gc1);rintro e z4_ ⟨z5_,rfl,z6_,hb⟩
  refine ⟨_,rfl,?_⟩
  have z1_:=am (Kd.R_lower z6_ (tS HB));have z2_:=am (blk_below (tK BK188) hb);have z7_:=am (below_step (tB HB) hb);revert z1_ z2_ z7_;clear BK188 HB;intro z8_ BK188 HB
  (try clear hb);(try clear z6_)
  obtain ⟨z9_,z10_,z11_⟩:=Kd.R_slice z8_.out
  (first | subst z11_ | (injection z11_ with f1_ f2_ f3_;have z12_:=f1_.symm;have z13_:=f3_.symm;clear f1_ f2_ f3_;subst z12_;subst z13_))
  refine hK.out _ _ ⟨(blk_cell BK188.out 0).trans rfl,(blk_cell BK188.out 1).trans rfl,(blk_cell BK188.out 2).trans rfl,(blk_cell BK188.out 3).trans rfl,(blk_cell BK188.out 4).trans rfl,(blk_cell BK188.out 5).trans rfl⟩ (fun hHeld => ?_)
  clear hK K
  refine nR 23 ?_
  refine one_ (i:=6) (N:=some 25) #[true,true,true,true,true,true,true,false] rfl rfl (one_of HT_.out (by kernel_rfl)) (by decide) (fun K hK => ?_)
  refine goes_ Tryz.func97 (by kernel_rfl) rfl #[.agg #[.int .i32 a1_0,.string a1_1,.slice A1_2 l1_2.length c1_2,.slice A1_3 l1_3.length c1_3,.bool a1_4,.bool a1_5],.slice z9_ t191.length z10_,.string a2] (by rfl) rfl rfl Gc2 ?_
  with_reducible refine (Z3g.calls a1_0 a1_1 _ _ l1_2 _ _ l1_3 a1_4 a1_5 _ _ t191 a2 t194 _ (tC HR1_2 HB) HC1_2.out (tC HR1_3 HB) HC1_3.out ?s5 ?s6 A16.out).mono ?_
  (case s5 => repeat (first | exact (Kd.R_reads' z8_.out).2.2 | (with_reducible refine Kd.C_alloc ?_ _) | (with_reducible refine Kd.C_drewN ?_ _) | (with_reducible refine Kd.C_drew ?_)));(case s6 => exact (Kd.R_reads' z8_.out).2.1);rintro e z14_ ⟨rfl,hb⟩
  refine ⟨_,rfl,?_⟩
  have z1_:=am (Kd.R_below (dR z8_) hb);have z2_:=am (blk_below (tK BK188) hb);have z7_:=am (below_step (tB HB) hb);revert z1_ z2_ z7_;clear z8_ BK188 HB;intro z8_ BK188 HB;(try clear hb)
  refine hK.out _ _ ⟨(blk_cell BK188.out 0).trans rfl,(blk_cell BK188.out 1).trans rfl,(blk_cell BK188.out 2).trans rfl,(blk_cell BK188.out 3).trans rfl,(blk_cell BK188.out 4).trans rfl,(blk_cell BK188.out 5).trans rfl⟩ (fun hHeld => ?_)
  clear hK K
  refine nR 25 ?_
  refine pT 7 8 ?_
  refine done_ (done_of HT_.out (by kernel_rfl)) ?_
  try go_wp2_with (first | ((with_reducible refine gate_callee (f:=72) rfl ?_);refine goesL_ (some 27) rfl rfl Tryz.func72 (by kernel_rfl) rfl #[.string t194] rfl Gc2 ?_;(with_reducible refine (Z1u.calls t194 t195 _ A17.out).mono ?_);rintro e z15_ ⟨rfl,hb⟩;refine ⟨_,rfl,?_⟩;have z1_:=am (Kd.R_below (dR z8_) hb);have z2_:=am (blk_below (tK BK188) hb);have z7_:=am (below_step (tB HB) hb);revert z1_ z2_ z7_;clear z8_ BK188 HB;intro z8_ BK188 HB;(try clear hb);(try clear hb2);(try clear hk);(try clear hi)))
  go_ret2
  exact ⟨tE,by repeat (first | (with_reducible first | exact HB.out | apply below_alloc | apply pw_below_drewN | apply below_drew1 | refine below_set ?_ GE188.out) | exact HB.out)⟩):p:=h
set_option maxHeartbeats 8000000 in
set_option maxRecDepth 100000 in
theorem Z17.calls (k:Nat) (A0:Option Addr) (c0:Nat) (l0:List (S68)) (a1_0:Int) (a1_1:ByteArray) (A1_2:Option Addr) (c1_2:Nat) (l1_2:List (S70)) (A1_3:Option Addr) (c1_3:Nat) (l1_3:List (S70)) (a1_4:Bool) (a1_5:Bool) (a2:ByteArray) (r1:ByteArray) (r2:Int) (w:World) (hT:Tabs w) (hr0:Kd.C k68 w A0 l0.length l0) (hc0:l0.length ≤ c0) (hr1_2:Kd.C k70 w A1_2 l1_2.length l1_2) (hc1_2:l1_2.length ≤ c1_2) (hr1_3:Kd.C k70 w A1_3 l1_3.length l1_3) (hc1_3:l1_3.length ≤ c1_3) (h:Z17.f k l0 a1_0 a1_1 l1_2 l1_3 a1_4 a1_5 a2 = some (r1,r2)) :
 Calls Tryz.prog 93 #[.slice A0 l0.length c0,.agg #[.int .i32 a1_0,.string a1_1,.slice A1_2 l1_2.length c1_2,.slice A1_3 l1_3.length c1_3,.bool a1_4,.bool a1_5],.string a2] w fun e w' => e = .returned (.tuple #[.string r1,.int .i64 r2]) ∧ Below w.heap.size w w':=by
 have HT:=am hT;clear hT;have hu73:=Tryz.underlying73;have HR0:=am hr0;have HC0:=am hc0;clear hr0 hc0;have HR1_2:=am hr1_2;have HC1_2:=am hc1_2;clear hr1_2 hc1_2;have HR1_3:=am hr1_3;have HC1_3:=am hc1_3;clear hr1_3 hc1_3;have HB:=am (Below.refl w.heap.size w);have H:((Z1r.f l0 a1_0 a1_1 l1_2 l1_3 a1_4 a1_5).bind fun t189 => (if t189 = true then ((Z19.f l0 a2).bind fun t190 => (Z17.j0 k l0 a2 (!t190) a1_0 a1_1 l1_2 l1_3 a1_4 a1_5)) else (Z17.j0 k l0 a2 true a1_0 a1_1 l1_2 l1_3 a1_4 a1_5))) = some (r1,r2):=h;clear h;have HC4:=am H;clear H;go_enter Tryz.func93,Tryz.ntmps93
 go_upto_region 1 with (first | ((with_reducible refine gate_dst (N:=4) rfl ?_);refine box_event ?hg (N:=4) ?hd (cs:=#[.int .i32 a1_0,.string a1_1,.slice A1_2 l1_2.length c1_2,.slice A1_3 l1_3.length c1_3,.bool a1_4,.bool a1_5]) (t:=73) ?hr ?_;(case hd => rfl);(case hg => rfl);(case hr => exact Gc5);intro gb188 hg w5 hbox hb;have n0_:=am (below_step (tB HB) hb);have n1_:=am (hbox);have n2_:=tZ hg (tS HB);have n3_:=tZ hg (tS HB);revert n0_ n1_ n2_ n3_;clear HB;intro HB BK188 GW188 GE188;clear hb hbox hg))
 (try simp only [Act.put,List.setIfInBounds_toArray,List.set_cons_zero,List.set_cons_succ])
 go_cut [18] (fun v18 wc => ∃ (kq:Nat) (x18_3:Bool),v18 = .bool x18_3 ∧ Aside0 (Z17.j0 kq l0 a2 x18_3 a1_0 a1_1 l1_2 l1_3 a1_4 a1_5 = some (r1,r2)) ∧ Aside0 (kq ≤ k) ∧ Aside0 (wc.heap[gb188]? = some (.cells #[.int .i32 a1_0,.string a1_1,(.slice A1_2 l1_2.length c1_2),(.slice A1_3 l1_3.length c1_3),.bool a1_4,.bool a1_5] 73 (0,0))) ∧ Aside0 (Below w.heap.size w wc))
 case first =>
  have H:=HC4.out;clear HC4;replace H:=bI H;obtain ⟨t189,A6,H⟩:=H;(try dsimp only at H)
  replace H:=iT H;obtain ⟨rfl,H⟩ | ⟨rfl,H⟩:=H
  ·
   replace H:=bI H;obtain ⟨t190,A8,H⟩:=H;(try dsimp only at H);have H':=am H;clear H;obtain ⟨hcz9_0,hcz9_1,hcz9_2,hcz9_3,hcz9_4,hcz9_5,hfz9_0,hfz9_1,hfz9_2,hfz9_3,hfz9_4,hfz9_5⟩:=bx6 BK188
   go_wp2_with (first | ((with_reducible refine gate_callee (f:=52) rfl ?_);refine goesL_ (some 11) rfl rfl Tryz.func52 (by kernel_rfl) rfl #[.slice A0 l0.length c0,.agg #[.int .i32 a1_0,.string a1_1,.slice A1_2 l1_2.length c1_2,.slice A1_3 l1_3.length c1_3,.bool a1_4,.bool a1_5]] rfl Gc2 ?_;(with_reducible refine (Z1r.calls _ _ l0 a1_0 a1_1 _ _ l1_2 _ _ l1_3 a1_4 a1_5 true _ ?sT (tC HR0 HB) HC0.out (tC HR1_2 HB) HC1_2.out (tC HR1_3 HB) HC1_3.out A6.out).mono ?_);(case sT => exact Gc1);rintro e w10 ⟨rfl,hb⟩;refine ⟨_,rfl,?_⟩;have n0_:=am (blk_below (tK BK188) hb);have n1_:=am (below_step (tB HB) hb);revert n0_ n1_;clear BK188 HB;intro BK188 HB;(try clear hb);(try clear hb2);(try clear hk);(try clear hi)) | (go_at_call 92;(with_reducible refine (Z19.calls _ _ l0 a2 t190 _ ?sT (tC HR0 HB) HC0.out A8.out).mono ?_);(case sT => exact Gc1);rintro e w11 ⟨rfl,hb⟩;have n0_:=am (blk_below (tK BK188) hb);have n1_:=am (below_step (tB HB) hb);revert n0_ n1_;clear BK188 HB;intro BK188 HB;(try clear hb);(try clear hb2);(try clear hk);(try clear hi)))
   go_meet
   case rel => exact ⟨_,(!t190),tV1,H',⟨tU⟩,⟨tK BK188⟩,⟨tB HB⟩⟩
  ·
   have H':=am H;clear H;obtain ⟨hcz12_0,hcz12_1,hcz12_2,hcz12_3,hcz12_4,hcz12_5,hfz12_0,hfz12_1,hfz12_2,hfz12_3,hfz12_4,hfz12_5⟩:=bx6 BK188
   go_wp2_with (first | ((with_reducible refine gate_callee (f:=52) rfl ?_);refine goesL_ (some 11) rfl rfl Tryz.func52 (by kernel_rfl) rfl #[.slice A0 l0.length c0,.agg #[.int .i32 a1_0,.string a1_1,.slice A1_2 l1_2.length c1_2,.slice A1_3 l1_3.length c1_3,.bool a1_4,.bool a1_5]] rfl Gc2 ?_;(with_reducible refine (Z1r.calls _ _ l0 a1_0 a1_1 _ _ l1_2 _ _ l1_3 a1_4 a1_5 false _ ?sT (tC HR0 HB) HC0.out (tC HR1_2 HB) HC1_2.out (tC HR1_3 HB) HC1_3.out A6.out).mono ?_);(case sT => exact Gc1);rintro e w13 ⟨rfl,hb⟩;refine ⟨_,rfl,?_⟩;have n0_:=am (blk_below (tK BK188) hb);have n1_:=am (below_step (tB HB) hb);revert n0_ n1_;clear BK188 HB;intro BK188 HB;(try clear hb);(try clear hb2);(try clear hk);(try clear hi)))
   go_meet
   case rel => exact ⟨_,(true),tV1,H',⟨tU⟩,⟨tK BK188⟩,⟨tB HB⟩⟩
 case rest =>
  clear HC4;obtain ⟨kq,x18_3,rfl,HA,HJ3,BK188,HB⟩:=hcut
  cases kq with
  | zero => exact absurd HA.out (by simp [Z17.j0])
  | succ kj3 =>
   have H:=HA.out;clear HA;simp only [Z17.j0] at H
   replace H:=iT H;obtain ⟨rfl,H⟩ | ⟨rfl,H⟩:=H
   ·
    simp only [Option.some.injEq,Prod.mk.injEq] at H;obtain ⟨rfl,rfl⟩:=H;go_wp2;go_ret2;exact ⟨tE,by repeat (first | (with_reducible first | exact HB.out | apply below_alloc | apply pw_below_drewN | apply below_drew1 | refine below_set ?_ GE188.out) | exact HB.out)⟩
   ·
    replace H:=bI H;obtain ⟨t191,A15,H⟩:=H;(try dsimp only at H);replace H:=bI H;obtain ⟨t194,A16,H⟩:=H;(try dsimp only at H);replace H:=bI H;obtain ⟨t195,A17,H⟩:=H;(try dsimp only at H)
    replace H:=iF H;obtain ⟨c18,H⟩ | ⟨c18,H⟩:=H
    ·
     have c18b0:decide (40 < t195) = true:=decide_eq_true c18;exact Zge
    ·
     have c18b0:decide (40 < t195) = false:=decide_eq_false c18;exact Zge
end Go.Proofs.YtfbhdjflkaldgaaGreatDoor.Pr
