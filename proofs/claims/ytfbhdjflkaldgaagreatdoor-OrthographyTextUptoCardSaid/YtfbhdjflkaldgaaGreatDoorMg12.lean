/- Several texts in one: PrF17, PrF90, PrF77, PrF58, PrF60. -/
import Derived.Test.YtfbhdjflkaldgaaGreatDoorMg1
import Derived.Test.YtfbhdjflkaldgaaGreatDoorMg2
import Derived.Test.YtfbhdjflkaldgaaGreatDoorMg3
import Derived.Test.YtfbhdjflkaldgaaGreatDoorMg11

namespace Go.Proofs.YtfbhdjflkaldgaaGreatDoor.Pr
open Go.Proofs.YtfbhdjflkaldgaaGreatDoor.Ct Go.RowKit Go.Proofs.YtfbhdjflkaldgaaGreatDoorW.PrintWords Go.Proofs.YtfbhdjflkaldgaaGreatDoorW.PrintLast Go.Proofs.YtfbhdjflkaldgaaGreatDoorW.PrintMore
attribute [local go_sem] max2_int min2_int max_two min_two max_three min_three max_four min_four
set_option linter.unusedVariables false
set_option linter.unusedSimpArgs false
def Z1p.f (k:Nat) (gL:Lg):Option (Bool):=(Z1x.f gL.vt).bind fun bt132 => ((Z0u.f k gL.v2 gL.v9).bind fun t134 => (if t134 = true then (if bt132.2 > 0 then (if bt132.2 = (gL.vt.size:Int) then (if bt132.1 = 65533 then (if bt132.2 = 3 then (if bt132.1 > 32 then (if bt132.1 = 45 then (some false) else (if bt132.1 = 61 then (some false) else ((Z1y.f gL.v2 bt132.1).bind fun t135 => (some (decide (t135 < 0)))))) else (some false)) else (some false)) else (if bt132.1 > 32 then (if bt132.1 = 45 then (some false) else (if bt132.1 = 61 then (some false) else ((Z1y.f gL.v2 bt132.1).bind fun t136 => (some (decide (t136 < 0)))))) else (some false))) else (some false)) else (some false)) else (some false)))
set_option maxRecDepth 1000000 in
theorem Z47 {p:Prop} (h:p:=by
  go_enter Tryz.func17,Tryz.ntmps17
  go_wp2_with (first | ((with_reducible refine Z0z (t:=41) (p:=1) rfl ?_);(try (refine gate_guard (by rfl) ?_;dsimp only));refine wpList_load_row rfl 41 (.tmp 1) rfl gb131 rfl 41 _ (0,0) _ (tK BK131) Tryz.underlying41 rfl (by kernel_rfl) ?_) | ((with_reducible refine gate_dst (N:=1) rfl ?_);(try (refine gate_guard (by rfl) ?_;dsimp only));refine box_event ?hg (N:=1) ?hd (cs:=?cs) (t:=41) ?hr ?_;(case hd => rfl);(case hg => rfl);(case hr => exact Gc5);intro gb131 hg z2_ hbox hb;have n0_:=am (below_step (tB HB) hb);have n1_:=am (hbox);have z5_:=tZ hg (tS HB);have z6_:=tZ hg (tS HB);revert n0_ n1_ z5_ z6_;clear HB;intro HB BK131 z8_ GE131;clear hb hbox hg;have z10_:=cel2 BK131 2 rfl;have z11_:=cel2 BK131 9 rfl;have z12_:=cel2 BK131 29 rfl;have z13_:=blk_frozen BK131.out 2;have z14_:=blk_frozen BK131.out 9;have z15_:=blk_frozen BK131.out 29) | ((with_reducible refine gate_callee (f:=29) rfl ?_);refine goesL_ (some 8) rfl rfl Tryz.func29 (by kernel_rfl) rfl #[.string gL.vt] rfl Gc2 ?_;(with_reducible refine (Z1x.calls gL.vt t132 t133 _ ?sT A2.out).mono ?_);(case sT => exact Gc1);rintro e z1_ ⟨rfl,hb⟩;refine ⟨_,rfl,?_⟩;have n0_:=am (blk_below (tK BK131) hb);have n1_:=am (below_step (tB HB) hb);revert n0_ n1_;clear BK131 HB;intro BK131 HB;(try clear hb);(try clear hb2);(try clear hk);(try clear hi);have z4_:=cel2 BK131 2 rfl;have z5_:=cel2 BK131 9 rfl;have z6_:=cel2 BK131 29 rfl;have z7_:=blk_frozen BK131.out 2;have z8_:=blk_frozen BK131.out 9;have z9_:=blk_frozen BK131.out 29) | (have ma_:=ma1_;((with_reducible refine gate_callee (f:=30) rfl ?_);refine goesL_ (some 16) rfl rfl Tryz.func30 (by kernel_rfl) rfl #[.slice pL.A2 gL.v2.length pL.c2,.slice pL.A9 gL.v9.length pL.c9] rfl Gc2 ?_;(with_reducible refine (Z0u.calls k _ _ gL.v2 _ _ gL.v9 false _ ?sT (tC ⟨HL.out.r2⟩ HB) HL.out.c2 (tC ⟨HL.out.r9⟩ HB) HL.out.c9 A3.out).mono ?_);(case sT => exact Gc1);rintro e z1_ ⟨rfl,hb⟩;refine ⟨_,rfl,?_⟩;have n0_:=am (blk_below (tK BK131) hb);have n1_:=am (below_step (tB HB) hb);revert n0_ n1_;clear BK131 HB;intro BK131 HB;(try clear hb);(try clear hb2);(try clear hk);(try clear hi))) | (have ma_:=ma2_;((with_reducible refine gate_callee (f:=30) rfl ?_);refine goesL_ (some 16) rfl rfl Tryz.func30 (by kernel_rfl) rfl #[.slice pL.A2 gL.v2.length pL.c2,.slice pL.A9 gL.v9.length pL.c9] rfl Gc2 ?_;(with_reducible refine (Z0u.calls k _ _ gL.v2 _ _ gL.v9 true _ ?sT (tC ⟨HL.out.r2⟩ HB) HL.out.c2 (tC ⟨HL.out.r9⟩ HB) HL.out.c9 A3.out).mono ?_);(case sT => exact Gc1);rintro e z1_ ⟨rfl,hb⟩;refine ⟨_,rfl,?_⟩;have n0_:=am (blk_below (tK BK131) hb);have n1_:=am (below_step (tB HB) hb);revert n0_ n1_;clear BK131 HB;intro BK131 HB;(try clear hb);(try clear hb2);(try clear hk);(try clear hi))) | (have ma_:=ma3_;((with_reducible refine gate_callee (f:=30) rfl ?_);refine goesL_ (some 16) rfl rfl Tryz.func30 (by kernel_rfl) rfl #[.slice pL.A2 gL.v2.length pL.c2,.slice pL.A9 gL.v9.length pL.c9] rfl Gc2 ?_;(with_reducible refine (Z0u.calls k _ _ gL.v2 _ _ gL.v9 true _ ?sT (tC ⟨HL.out.r2⟩ HB) HL.out.c2 (tC ⟨HL.out.r9⟩ HB) HL.out.c9 A3.out).mono ?_);(case sT => exact Gc1);rintro e z1_ ⟨rfl,hb⟩;refine ⟨_,rfl,?_⟩;have n0_:=am (blk_below (tK BK131) hb);have n1_:=am (below_step (tB HB) hb);revert n0_ n1_;clear BK131 HB;intro BK131 HB;(try clear hb);(try clear hb2);(try clear hk);(try clear hi);have z4_:=cel2 BK131 2 rfl;have z5_:=cel2 BK131 9 rfl;have z6_:=cel2 BK131 29 rfl;have z7_:=blk_frozen BK131.out 2;have z8_:=blk_frozen BK131.out 9;have z9_:=blk_frozen BK131.out 29)) | (have ma_:=ma4_;(go_at_call 31;(with_reducible refine (Z1y.calls _ _ gL.v2 t132 t136 _ (tC ⟨HL.out.r2⟩ HB) HL.out.c2 A59.out).mono ?_);rintro e z1_ ⟨rfl,hb⟩;have n0_:=am (blk_below (tK BK131) hb);have n1_:=am (below_step (tB HB) hb);revert n0_ n1_;clear BK131 HB;intro BK131 HB;(try clear hb);(try clear hb2);(try clear hk);(try clear hi))) | (have ma_:=ma5_;(go_at_call 31;(with_reducible refine (Z1y.calls _ _ gL.v2 t132 t135 _ (tC ⟨HL.out.r2⟩ HB) HL.out.c2 A24.out).mono ?_);rintro e z1_ ⟨rfl,hb⟩;have n0_:=am (blk_below (tK BK131) hb);have n1_:=am (below_step (tB HB) hb);revert n0_ n1_;clear BK131 HB;intro BK131 HB;(try clear hb);(try clear hb2);(try clear hk);(try clear hi))))
  go_ret
  exact ⟨tE,by repeat (first | (with_reducible first | exact HB.out | apply below_alloc | apply pw_below_drewN | apply below_drew1 | refine below_set ?_ GE131.out) | exact HB.out)⟩):p:=h
set_option maxHeartbeats 8000000 in
set_option maxRecDepth 100000 in
theorem Z1p.calls (k:Nat) (gL:Lg) (pL:La) (r:Bool) (w:World) (hT:Tabs w) (hL:Z2o gL pL w) (h:Z1p.f k gL = some r) :
 Calls Tryz.prog 17 #[.agg (lcs gL pL)] w fun e w' => e = .returned (.bool r) ∧ Below w.heap.size w w':=by
 have HT:=am hT;clear hT;have hu41:=Tryz.underlying41;have HL:=am hL;clear hL;have HB:=am (Below.refl w.heap.size w);have H:((Z1x.f gL.vt).bind fun bt132 => ((Z0u.f k gL.v2 gL.v9).bind fun t134 => (if t134 = true then (if bt132.2 > 0 then (if bt132.2 = (gL.vt.size:Int) then (if bt132.1 = 65533 then (if bt132.2 = 3 then (if bt132.1 > 32 then (if bt132.1 = 45 then (some false) else (if bt132.1 = 61 then (some false) else ((Z1y.f gL.v2 bt132.1).bind fun t135 => (some (decide (t135 < 0)))))) else (some false)) else (some false)) else (if bt132.1 > 32 then (if bt132.1 = 45 then (some false) else (if bt132.1 = 61 then (some false) else ((Z1y.f gL.v2 bt132.1).bind fun t136 => (some (decide (t136 < 0)))))) else (some false))) else (some false)) else (some false)) else (some false)))) = some r:=h;clear h;replace H:=bI H;obtain ⟨⟨t132,t133⟩,A2,H⟩:=H;(try dsimp only at H);replace H:=bI H;obtain ⟨t134,A3,H⟩:=H;(try dsimp only at H)
 replace H:=iT H;obtain ⟨rfl,H⟩ | ⟨rfl,H⟩:=H
 ·
  replace H:=iF H;obtain ⟨c5,H⟩ | ⟨c5,H⟩:=H
  ·
   have c5b0:decide (0 < t133) = true:=decide_eq_true c5;clear c5
   replace H:=iE H;obtain ⟨-,c6b0,c6b1,H⟩ | ⟨c6,c6b0,c6b1,H⟩:=H
   ·
    replace H:=iE H;obtain ⟨-,c7b0,c7b1,H⟩ | ⟨c7,c7b0,c7b1,H⟩:=H
    ·
     replace H:=iE H;obtain ⟨-,c8b0,c8b1,H⟩ | ⟨c8,c8b0,c8b1,H⟩:=H
     ·
      replace H:=iF H;obtain ⟨c9,H⟩ | ⟨c9,H⟩:=H
      ·
       have c9b0:decide (32 < t132) = true:=decide_eq_true c9;clear c9
       replace H:=iE H;obtain ⟨-,c10b0,c10b1,H⟩ | ⟨c10,c10b0,c10b1,H⟩:=H
       ·
        obtain rfl:=Option.some.inj H;have ma3_:=trivial;exact Z47
       ·
        replace H:=iE H;obtain ⟨-,c17b0,c17b1,H⟩ | ⟨c17,c17b0,c17b1,H⟩:=H
        ·
         obtain rfl:=Option.some.inj H;have ma3_:=trivial;exact Z47
        ·
         replace H:=bI H;obtain ⟨t135,A24,H⟩:=H;(try dsimp only at H);obtain rfl:=Option.some.inj H;have ma3_:=trivial;have ma5_:=trivial;exact Z47
      ·
       have c9b0:decide (32 < t132) = false:=decide_eq_false c9;clear c9;obtain rfl:=Option.some.inj H;have ma3_:=trivial;exact Z47
     ·
      obtain rfl:=Option.some.inj H;have ma3_:=trivial;exact Z47
    ·
     replace H:=iF H;obtain ⟨c44,H⟩ | ⟨c44,H⟩:=H
     ·
      have c44b0:decide (32 < t132) = true:=decide_eq_true c44;clear c44
      replace H:=iE H;obtain ⟨-,c45b0,c45b1,H⟩ | ⟨c45,c45b0,c45b1,H⟩:=H
      ·
       obtain rfl:=Option.some.inj H;have ma3_:=trivial;exact Z47
      ·
       replace H:=iE H;obtain ⟨-,c52b0,c52b1,H⟩ | ⟨c52,c52b0,c52b1,H⟩:=H
       ·
        obtain rfl:=Option.some.inj H;have ma3_:=trivial;exact Z47
       ·
        replace H:=bI H;obtain ⟨t136,A59,H⟩:=H;(try dsimp only at H);obtain rfl:=Option.some.inj H;have ma3_:=trivial;have ma4_:=trivial;exact Z47
     ·
      have c44b0:decide (32 < t132) = false:=decide_eq_false c44;clear c44;obtain rfl:=Option.some.inj H;have ma3_:=trivial;exact Z47
   ·
    obtain rfl:=Option.some.inj H;have ma3_:=trivial;exact Z47
  ·
   have c5b0:decide (0 < t133) = false:=decide_eq_false c5;clear c5;obtain rfl:=Option.some.inj H;have ma2_:=trivial;exact Z47
 ·
  obtain rfl:=Option.some.inj H;have ma1_:=trivial;exact Z47
def Z1v.f (a0:Int):Option (Bool):=if a0 > 32 then (if a0 < 55296 then (some (decide (a0 ≤ 1114111))) else (if a0 > 57343 then (some (decide (a0 ≤ 1114111))) else (some false))) else (some false)
theorem Z90 {p:Prop} (h:p:=by
  obtain rfl:=Option.some.inj H;go_enter Tryz.func90,Tryz.ntmps90;go_wp2;go_ret
  exact ⟨by first | rfl | (simp;done) | (simp [*];done),by repeat (first | exact Drawn0.refl _ | apply Drawn0.step)⟩):p:=h
set_option maxHeartbeats 8000000 in
set_option maxRecDepth 100000 in
theorem Z1v.calls (a0:Int) (r:Bool) (w:World) (h:Z1v.f a0 = some r) :
 Calls Tryz.prog 90 #[.int .i32 a0] w fun e w' => e = .returned (.bool r) ∧ Drawn0 w w':=by
 have H:(if a0 > 32 then (if a0 < 55296 then (some (decide (a0 ≤ 1114111))) else (if a0 > 57343 then (some (decide (a0 ≤ 1114111))) else (some false))) else (some false)) = some r:=h;clear h
 replace H:=iF H;obtain ⟨c2,H⟩ | ⟨c2,H⟩:=H;rotate_left
 ·
  have c2b0:decide (32 < a0) = false:=decide_eq_false c2;clear c2;exact Z90
 have c2b0:decide (32 < a0) = true:=decide_eq_true c2;clear c2
 replace H:=iF H;obtain ⟨c3,H⟩ | ⟨c3,H⟩:=H
 ·
  have c3b0:decide (a0 < 55296) = true:=decide_eq_true c3;clear c3;exact Z90
 ·
  have c3b0:decide (a0 < 55296) = false:=decide_eq_false c3;clear c3
  replace H:=iF H;obtain ⟨c4,H⟩ | ⟨c4,H⟩:=H
  ·
   have c4b0:decide (57343 < a0) = true:=decide_eq_true c4;clear c4;exact Z90
  ·
   have c4b0:decide (57343 < a0) = false:=decide_eq_false c4;clear c4;exact Z90
def Z0q.l0:Nat → List (S68) → Int → Option (Bool)
 | 0,_,_ => none
 | k + 1,x0,x3 => if x3 < (x0.length:Int) then (if 0 ≤ x3 then ((Z1v.f ((Z0v x0 x3).f0)).bind fun t314 => (if t314 = true then (if x3 ≤ (x0.length:Int) then ((Z0m.f k (x0.take (x3:Int).toNat) ((Z0v x0 x3).f0)).bind fun t320 => (if t320 ≥ 0 then (some false) else (Z0q.l0 k x0 (wrap64 (x3 + 1))))) else (none)) else (some false))) else (none)) else (some true)
def Z0q.f (k:Nat) (l0:List (S68)):Option (Bool):=if (l0.length:Int) > 65 then (some false) else (Z0q.l0 k l0 0)
theorem Zg9 {p:Prop} (h:p:=by
  go_wp2
  repeat (go_quiet (fail);try go_wp2)
  go_ret
  exact ⟨by first | rfl | (simp;done) | (simp [*];done),by repeat (first | exact Drawn0.refl _ | apply Drawn0.step)⟩):p:=h
set_option maxRecDepth 1000000 in
theorem Zcr {p:Prop} (h:p:=by
  have z1_:0 ≤ (x3_1:Int):=oD;have z2_:x3_1 < (l0.length:Int):=oD;obtain ⟨z3_,z4_,z5_,z6_⟩:=Z3s HR0.out x3_1 z1_ z2_;cases z4_;replace z1_:=eq_true z1_;replace z2_:=eq_true z2_
  go_wp2_with (first | (go_at_call 90;(with_reducible refine (Z1v.calls ((Z0v l0 x3_1).f0) true _ A5.out).mono ?_);rintro e w' ⟨rfl,⟨nd,rfl⟩⟩;(try first | exact ⟨rfl,_,World.drewN_drewN _ _ _⟩ | exact ⟨rfl,_,Eq.trans (World.drewN_drewN _ _ _) (congrArg (World.drewN _) (Nat.add_assoc _ _ _))⟩);have z7_:(x3_1:Int) ≤ ((l0.length:Int):Int):=oD;obtain ⟨z8_,z9_,_,z10_,_⟩:=info_parts Z7c;have z11_:l0.length ≤ c0:=HC0.out;have z12_:Kd.C k68 _ (some z3_) l0.length l0:=HR0.out;have z13_:=cut_to (P:=Tryz.prog) 22 68 .i64 Tryz.underlying22 z9_ (some z3_) l0.length c0 x3_1 (oD) z7_ z11_;have z14_:=Kd.C_take (m:=(x3_1:Int).toNat) z12_ (by omega);have z15_:y315.length = (x3_1:Int).toNat:=(by rw [Ny315.out,List.length_take];omega);rw [← Ny315.out] at z14_;rw [← z15_] at z13_;have z16_:=am z14_;have z17_:=am (show y315.length ≤ c0 from by omega);clear z14_ z12_ z11_ z9_ z10_;have z18_:=am z15_;clear z15_;replace z7_:=eq_true z7_;have z19_:0 ≤ (x3_1:Int):=oD;have z20_:x3_1 < (l0.length:Int):=oD;obtain ⟨z21_,z22_,z23_,z24_⟩:=Z3s HR0.out x3_1 z19_ z20_;obtain rfl:z3_ = z21_:=(by injection z22_);replace z19_:=eq_true z19_;replace z20_:=eq_true z20_) | (go_at_call 39;(with_reducible refine (Z0m.calls k1 _ _ y315 ((Z0v l0 x3_1).f0) t320 _ ?s1 ?s2 A9.out).mono ?_);(case s1 => exact Gc19);(case s2 => exact z17_.out);rintro e w' ⟨rfl,⟨nd,rfl⟩⟩;(try first | exact ⟨rfl,_,World.drewN_drewN _ _ _⟩ | exact ⟨rfl,_,Eq.trans (World.drewN_drewN _ _ _) (congrArg (World.drewN _) (Nat.add_assoc _ _ _))⟩)))
  repeat (go_quiet (first | (go_at_call 90;(with_reducible refine (Z1v.calls ((Z0v l0 x3_1).f0) true _ A5.out).mono ?_);rintro e w' ⟨rfl,⟨nd,rfl⟩⟩;(try first | exact ⟨rfl,_,World.drewN_drewN _ _ _⟩ | exact ⟨rfl,_,Eq.trans (World.drewN_drewN _ _ _) (congrArg (World.drewN _) (Nat.add_assoc _ _ _))⟩);have z7_:(x3_1:Int) ≤ ((l0.length:Int):Int):=oD;obtain ⟨z8_,z9_,_,z10_,_⟩:=info_parts Z7c;have z11_:l0.length ≤ c0:=HC0.out;have z12_:Kd.C k68 _ (some z3_) l0.length l0:=HR0.out;have z13_:=cut_to (P:=Tryz.prog) 22 68 .i64 Tryz.underlying22 z9_ (some z3_) l0.length c0 x3_1 (oD) z7_ z11_;have z14_:=Kd.C_take (m:=(x3_1:Int).toNat) z12_ (by omega);have z15_:y315.length = (x3_1:Int).toNat:=(by rw [Ny315.out,List.length_take];omega);rw [← Ny315.out] at z14_;rw [← z15_] at z13_;have z16_:=am z14_;have z17_:=am (show y315.length ≤ c0 from by omega);clear z14_ z12_ z11_ z9_ z10_;have z18_:=am z15_;clear z15_;replace z7_:=eq_true z7_;have z19_:0 ≤ (x3_1:Int):=oD;have z20_:x3_1 < (l0.length:Int):=oD;obtain ⟨z21_,z22_,z23_,z24_⟩:=Z3s HR0.out x3_1 z19_ z20_;obtain rfl:z3_ = z21_:=(by injection z22_);replace z19_:=eq_true z19_;replace z20_:=eq_true z20_) | (go_at_call 39;(with_reducible refine (Z0m.calls k1 _ _ y315 ((Z0v l0 x3_1).f0) t320 _ ?s1 ?s2 A9.out).mono ?_);(case s1 => exact Gc19);(case s2 => exact z17_.out);rintro e w' ⟨rfl,⟨nd,rfl⟩⟩;(try first | exact ⟨rfl,_,World.drewN_drewN _ _ _⟩ | exact ⟨rfl,_,Eq.trans (World.drewN_drewN _ _ _) (congrArg (World.drewN _) (Nat.add_assoc _ _ _))⟩)));try go_wp2_with (first | (go_at_call 90;(with_reducible refine (Z1v.calls ((Z0v l0 x3_1).f0) true _ A5.out).mono ?_);rintro e w' ⟨rfl,⟨nd,rfl⟩⟩;(try first | exact ⟨rfl,_,World.drewN_drewN _ _ _⟩ | exact ⟨rfl,_,Eq.trans (World.drewN_drewN _ _ _) (congrArg (World.drewN _) (Nat.add_assoc _ _ _))⟩);have z7_:(x3_1:Int) ≤ ((l0.length:Int):Int):=oD;obtain ⟨z8_,z9_,_,z10_,_⟩:=info_parts Z7c;have z11_:l0.length ≤ c0:=HC0.out;have z12_:Kd.C k68 _ (some z3_) l0.length l0:=HR0.out;have z13_:=cut_to (P:=Tryz.prog) 22 68 .i64 Tryz.underlying22 z9_ (some z3_) l0.length c0 x3_1 (oD) z7_ z11_;have z14_:=Kd.C_take (m:=(x3_1:Int).toNat) z12_ (by omega);have z15_:y315.length = (x3_1:Int).toNat:=(by rw [Ny315.out,List.length_take];omega);rw [← Ny315.out] at z14_;rw [← z15_] at z13_;have z16_:=am z14_;have z17_:=am (show y315.length ≤ c0 from by omega);clear z14_ z12_ z11_ z9_ z10_;have z18_:=am z15_;clear z15_;replace z7_:=eq_true z7_;have z19_:0 ≤ (x3_1:Int):=oD;have z20_:x3_1 < (l0.length:Int):=oD;obtain ⟨z21_,z22_,z23_,z24_⟩:=Z3s HR0.out x3_1 z19_ z20_;obtain rfl:z3_ = z21_:=(by injection z22_);replace z19_:=eq_true z19_;replace z20_:=eq_true z20_) | (go_at_call 39;(with_reducible refine (Z0m.calls k1 _ _ y315 ((Z0v l0 x3_1).f0) t320 _ ?s1 ?s2 A9.out).mono ?_);(case s1 => exact Gc19);(case s2 => exact z17_.out);rintro e w' ⟨rfl,⟨nd,rfl⟩⟩;(try first | exact ⟨rfl,_,World.drewN_drewN _ _ _⟩ | exact ⟨rfl,_,Eq.trans (World.drewN_drewN _ _ _) (congrArg (World.drewN _) (Nat.add_assoc _ _ _))⟩))))
  first
  | (have mk_:=mk0_
     go_roundg k1
     case measure => have:=HK1.out;omega
     case rel => exact ⟨(wrap64 (x3_1 + 1)),tV1,H',⟨by have:=HK1.out;omega⟩,by repeat (first | exact Drawn0.refl _ | apply Drawn0.step)⟩)
  | (have mk_:=mk1_
     go_ret
     exact ⟨by first | rfl | (simp;done) | (simp [*];done),by repeat (first | exact Drawn0.refl _ | apply Drawn0.step)⟩)):p:=h
set_option maxHeartbeats 8000000 in
set_option maxRecDepth 100000 in
theorem Z0q.calls (k:Nat) (A0:Option Addr) (c0:Nat) (l0:List (S68)) (r:Bool) (w:World) (hr0:Kd.C k68 w A0 l0.length l0) (hc0:l0.length ≤ c0) (h:Z0q.f k l0 = some r) :
 Calls Tryz.prog 77 #[.slice A0 l0.length c0] w fun e w' => e = .returned (.bool r) ∧ Drawn0 w w':=by
 have HR0:=am hr0;have HC0:=am hc0;clear hr0 hc0;have H:(if (l0.length:Int) > 65 then (some false) else (Z0q.l0 k l0 0)) = some r:=h;clear h
 replace H:=iF H;obtain ⟨c2,H⟩ | ⟨c2,H⟩:=H
 ·
  have c2b0:decide (65 < (l0.length:Int)) = true:=decide_eq_true c2;have c2b1:decide (65 < l0.length) = true:=decide_eq_true (by omega);clear c2;obtain rfl:=Option.some.inj H;go_enter Tryz.func77,Tryz.ntmps77;exact Zg9
 ·
  have c2b0:decide (65 < (l0.length:Int)) = false:=decide_eq_false c2;have c2b1:decide (65 < l0.length) = false:=decide_eq_false (by omega);clear c2;have H':=am H;clear H;go_enter Tryz.func77,Tryz.ntmps77;go_wp2
  repeat (go_quiet (fail);try go_wp2)
  go_loopg [3] k (fun kq v3 w' => ∃ (x3_1:Int),v3 = .int .i64 x3_1 ∧ Aside0 (Z0q.l0 kq l0 x3_1 = some r) ∧ Aside0 (kq ≤ k) ∧ Drawn0 w w')
  case atStart => exact ⟨(0),tV1,H',⟨Nat.le_refl _⟩,by repeat (first | exact Drawn0.refl _ | apply Drawn0.step)⟩
  case round =>
   clear H';(try clear c2);(try clear c2b0);(try clear c2b1);obtain ⟨x3_1,rfl,HA,HK1,⟨m1,rfl⟩⟩:=hrel
   cases gk with
   | zero => exact absurd HA.out (by simp [Z0q.l0])
   | succ k1 =>
    have H:=HA.out;clear HA;simp only [Z0q.l0] at H
    replace H:=iF H;obtain ⟨c3,H⟩ | ⟨c3,H⟩:=H;rotate_left
    ·
     have c3b0:decide (x3_1 < (l0.length:Int)) = false:=decide_eq_false c3;clear c3;obtain rfl:=Option.some.inj H;exact Zg9
    have c3b0:decide (x3_1 < (l0.length:Int)) = true:=decide_eq_true c3;clear c3;replace H:=iFn H;obtain ⟨c4,H⟩:=H;have c4b0:decide (0 ≤ x3_1) = true:=decide_eq_true c4;clear c4;replace H:=bI H;obtain ⟨t314,A5,H⟩:=H;(try dsimp only at H)
    replace H:=iT H;obtain ⟨rfl,H⟩ | ⟨rfl,H⟩:=H
    ·
     have c7b0:=eq_true (oD:0 ≤ x3_1);replace H:=iFn H;obtain ⟨c8,H⟩:=H;have c8b0:=eq_true c8;have c8b1:decide (x3_1 ≤ (l0.length:Int)) = true:=decide_eq_true c8;clear c8;obtain ⟨y315,hy315⟩:∃ y_:List (S68),y_ = (l0.take (x3_1:Int).toNat):=⟨_,rfl⟩
     replace H:((Z0m.f k1 y315 ((Z0v l0 x3_1).f0)).bind fun t320 => (if t320 ≥ 0 then (some false) else (Z0q.l0 k1 l0 (wrap64 (x3_1 + 1))))) = some r:=by first | (rw [hy315];with_reducible exact H) | (have H2_:=(Option.bind_some _ _).symm.trans H;rw [hy315];with_reducible exact H2_) | (have H2_:=(Option.bind_some _ _).symm.trans H;with_reducible exact H2_) | with_reducible exact H | (rw [hy315];exact H) | exact H
     have Ny315:=am hy315;clear hy315;replace H:=bI H;obtain ⟨t320,A9,H⟩:=H;(try dsimp only at H)
     replace H:=iF H;obtain ⟨c10,H⟩ | ⟨c10,H⟩:=H
     ·
      have c10b0:decide (0 ≤ t320) = true:=decide_eq_true c10;clear c10;obtain rfl:=Option.some.inj H;have mk1_:=trivial;exact Zcr
     ·
      have c10b0:decide (0 ≤ t320) = false:=decide_eq_false c10;clear c10;have H':=am H;clear H;have mk0_:=trivial;exact Zcr
    ·
     obtain rfl:=Option.some.inj H;have p313:0 ≤ (x3_1:Int):=oD;have q313:x3_1 < (l0.length:Int):=oD;obtain ⟨ad313,e313,hx313_0,hx313_1⟩:=Z3s HR0.out x3_1 p313 q313;cases e313;replace p313:=eq_true p313;replace q313:=eq_true q313
     go_wp2_with (first | (go_at_call 90;(with_reducible refine (Z1v.calls ((Z0v l0 x3_1).f0) false _ A5.out).mono ?_);rintro e w' ⟨rfl,⟨nd,rfl⟩⟩;(try first | exact ⟨rfl,_,World.drewN_drewN _ _ _⟩ | exact ⟨rfl,_,Eq.trans (World.drewN_drewN _ _ _) (congrArg (World.drewN _) (Nat.add_assoc _ _ _))⟩)))
     repeat (go_quiet (first | (go_at_call 90;(with_reducible refine (Z1v.calls ((Z0v l0 x3_1).f0) false _ A5.out).mono ?_);rintro e w' ⟨rfl,⟨nd,rfl⟩⟩;(try first | exact ⟨rfl,_,World.drewN_drewN _ _ _⟩ | exact ⟨rfl,_,Eq.trans (World.drewN_drewN _ _ _) (congrArg (World.drewN _) (Nat.add_assoc _ _ _))⟩)));try go_wp2_with (first | (go_at_call 90;(with_reducible refine (Z1v.calls ((Z0v l0 x3_1).f0) false _ A5.out).mono ?_);rintro e w' ⟨rfl,⟨nd,rfl⟩⟩;(try first | exact ⟨rfl,_,World.drewN_drewN _ _ _⟩ | exact ⟨rfl,_,Eq.trans (World.drewN_drewN _ _ _) (congrArg (World.drewN _) (Nat.add_assoc _ _ _))⟩))))
     go_ret;exact ⟨by first | rfl | (simp;done) | (simp [*];done),by repeat (first | exact Drawn0.refl _ | apply Drawn0.step)⟩
def Z1k.f (k:Nat) (l0:List (S68)):Option (Bool):=if (l0.length:Int) ≥ 1 then (if (l0.length:Int) ≤ 64 then ((Z0q.f k l0).bind fun t321 => (some t321)) else (some false)) else (some false)
theorem Zga {p:Prop} (h:p:=by
  obtain rfl:=Option.some.inj H;go_enter Tryz.func58,Tryz.ntmps58;go_wp2;go_ret
  exact ⟨by first | rfl | (simp;done) | (simp [*];done),by repeat (first | exact Drawn0.refl _ | apply Drawn0.step)⟩):p:=h
set_option maxHeartbeats 8000000 in
set_option maxRecDepth 100000 in
theorem Z1k.calls (k:Nat) (A0:Option Addr) (c0:Nat) (l0:List (S68)) (r:Bool) (w:World) (hr0:Kd.C k68 w A0 l0.length l0) (hc0:l0.length ≤ c0) (h:Z1k.f k l0 = some r) :
 Calls Tryz.prog 58 #[.slice A0 l0.length c0] w fun e w' => e = .returned (.bool r) ∧ Drawn0 w w':=by
 have HR0:=am hr0;have HC0:=am hc0;clear hr0 hc0;have H:(if (l0.length:Int) ≥ 1 then (if (l0.length:Int) ≤ 64 then ((Z0q.f k l0).bind fun t321 => (some t321)) else (some false)) else (some false)) = some r:=h;clear h
 replace H:=iF H;obtain ⟨c2,H⟩ | ⟨c2,H⟩:=H;rotate_left
 ·
  have c2b0:decide (1 ≤ (l0.length:Int)) = false:=decide_eq_false c2;have c2b1:decide (1 ≤ l0.length) = false:=decide_eq_false (by omega);clear c2;exact Zga
 have c2b0:decide (1 ≤ (l0.length:Int)) = true:=decide_eq_true c2;have c2b1:decide (1 ≤ l0.length) = true:=decide_eq_true (by omega);clear c2
 replace H:=iF H;obtain ⟨c3,H⟩ | ⟨c3,H⟩:=H
 ·
  have c3b0:decide ((l0.length:Int) ≤ 64) = true:=decide_eq_true c3;have c3b1:decide (l0.length ≤ 64) = true:=decide_eq_true (by omega);clear c3;replace H:=bI H;obtain ⟨t321,A4,H⟩:=H;(try dsimp only at H);obtain rfl:=Option.some.inj H;go_enter Tryz.func58,Tryz.ntmps58
  go_wp2_with (first | (go_at_call 77;(with_reducible refine (Z0q.calls k _ _ l0 t321 _ ?s1 HC0.out A4.out).mono ?_);(case s1 => exact Gc3);rintro e w' ⟨rfl,⟨nd,rfl⟩⟩))
  go_ret;exact ⟨by first | rfl | (simp;done) | (simp [*];done),by repeat (first | exact Drawn0.refl _ | apply Drawn0.step)⟩
 ·
  have c3b0:decide ((l0.length:Int) ≤ 64) = false:=decide_eq_false c3;have c3b1:decide (l0.length ≤ 64) = false:=decide_eq_false (by omega);clear c3;exact Zga
def Z1g.f (l0:List (S68)):Option ((List (S68))):=(some (([]:List (S68)):List (S68))).bind fun y323 => (if y323.length + l0.length < 17592186044416 then ((some (y323 ++ l0:List (S68))).bind fun y326 => (if y326.length < 17592186044416 then (some (y326 ++ [(⟨61,2147483648⟩:S68)])) else (none))) else (none))
set_option maxHeartbeats 8000000 in
set_option maxRecDepth 100000 in
theorem Z1g.calls (A0:Option Addr) (c0:Nat) (l0:List (S68)) (r:List (S68)) (w:World) (hr0:Kd.C k68 w A0 l0.length l0) (hc0:l0.length ≤ c0) (h:Z1g.f l0 = some r) :
 Calls Tryz.prog 60 #[.slice A0 l0.length c0] w fun e w' => ∃ v0_:Value,e = .returned (v0_) ∧ Kd.R k68 68 w' w.heap.size (fun _ => True) v0_ r ∧ Below w.heap.size w w':=by
 have hu68:=Tryz.underlying68;have HR0:=am hr0;have HC0:=am hc0;clear hr0 hc0;have HB:=am (Below.refl w.heap.size w);have H:((some (([]:List (S68)):List (S68))).bind fun y323 => (if y323.length + l0.length < 17592186044416 then ((some (y323 ++ l0:List (S68))).bind fun y326 => (if y326.length < 17592186044416 then (some (y326 ++ [(⟨61,2147483648⟩:S68)])) else (none))) else (none))) = some r:=h;clear h;obtain ⟨y323,hy323⟩:∃ y_:List (S68),y_ = (([]:List (S68))):=⟨_,rfl⟩
 replace H:(if y323.length + l0.length < 17592186044416 then ((some (y323 ++ l0:List (S68))).bind fun y326 => (if y326.length < 17592186044416 then (some (y326 ++ [(⟨61,2147483648⟩:S68)])) else (none))) else (none)) = some r:=by first | (rw [hy323];with_reducible exact H) | (have H2_:=(Option.bind_some _ _).symm.trans H;rw [hy323];with_reducible exact H2_) | (have H2_:=(Option.bind_some _ _).symm.trans H;with_reducible exact H2_) | with_reducible exact H | (rw [hy323];exact H) | exact H
 have Ny323:=am hy323;clear hy323;replace H:=iFn H;obtain ⟨c2,H⟩:=H;have LMc2:=am c2;clear c2;obtain ⟨y326,hy326⟩:∃ y_:List (S68),y_ = (y323 ++ l0):=⟨_,rfl⟩
 replace H:(if y326.length < 17592186044416 then (some (y326 ++ [(⟨61,2147483648⟩:S68)])) else (none)) = some r:=by first | (rw [hy326];with_reducible exact H) | (have H2_:=(Option.bind_some _ _).symm.trans H;rw [hy326];with_reducible exact H2_) | (have H2_:=(Option.bind_some _ _).symm.trans H;with_reducible exact H2_) | with_reducible exact H | (rw [hy326];exact H) | exact H
 have Ny326:=am hy326;clear hy326;replace H:=iFn H;obtain ⟨c3,H⟩:=H;have LMc3:=am c3;clear c3;obtain ⟨y329,hy329⟩:∃ y_:List (S68),y_ = (y326 ++ [(⟨61,2147483648⟩:S68)]):=⟨_,rfl⟩
 replace H:(some y329) = some r:=by first | (rw [hy329];with_reducible exact H) | (have H2_:=(Option.bind_some _ _).symm.trans H;rw [hy329];with_reducible exact H2_) | (have H2_:=(Option.bind_some _ _).symm.trans H;with_reducible exact H2_) | with_reducible exact H | (rw [hy329];exact H) | exact H
 have Ny329:=am hy329;clear hy329;obtain rfl:=Option.some.inj H;go_enter Tryz.func60,Tryz.ntmps60
 go_wp2_with (first | ((with_reducible refine gate_dst (N:=3) rfl ?_);refine Kd.R_lit k68 _ 68 ?hg (N:=3) ?hd (xs:=([]:List (S68))) (inner:=[]) (ok:=fun _ => True) (okp:=fun _ => True) ?hr ?hp (fun _ hk => hk) trivial (Below.refl _ _) (Nat.le_refl _) (by simp) ?_;(case hd => rfl);(case hg => rfl);(case hr => exact Gc5);(case hp => exact (Reps.none _ _));intro v324 w4 ho5 hb hg_ hnew_;clear hg_ hnew_;(first | rw [← Ny323.out] at ho5 | (simp only [Int.reduceToNat] at ho5;rw [← Ny323.out] at ho5));have n0_:=am (Kd.R_lower ho5 (tS HB));have n1_:=am (below_step (tB HB) hb);revert n0_ n1_;clear HB;intro HO325 HB;clear hb ho5) | ((with_reducible refine gate_builtin (b:=.append) (xs:=#[.tmp 3,.tmp 4]) rfl ?_);at_builtin;refine Kd.R_append_rows k68 (w0:=w) w.heap.size rfl (.tmp 3) (.tmp 4) 22 68 (.agg #[(.int .i32 0),(.int .u32 0)]) 8 rfl Tryz.underlying22 Z7c rfl (by decide) (by omega) v324 y323 l0 _ _ _ (fun _ => True) (fun _ => False) rfl rfl ?aO ?aR (fun _ _ h => h) (fun _ h => h.elim) ?aF ?aB ?aS ?aL ?_;(case aR => exact tC HR0 HB);(case aB => exact (tB HB));(case aF => exact Gc25);(case aO => exact (dR HO325));(case aS => exact (tS HB));(case aL => have:=LMc2.out;omega);intro v327 w6 ho hb hg hat;rw [← Ny326.out] at ho;have n0_:=am (hb);have n1_:=am (ho);revert n0_ n1_;clear HB HO325;intro HB HO328;clear ho hb hg hat) | ((with_reducible refine gate_builtin (b:=.append) (xs:=#[.tmp 5,.tmp 7]) rfl ?_);at_builtin;refine Kd.R_append k68 (w0:=w) w.heap.size rfl (.tmp 5) (.tmp 7) 22 68 (.agg #[(.int .i32 0),(.int .u32 0)]) 8 rfl Tryz.underlying22 Z7c rfl (by decide) (by omega) v327 y326 (⟨61,2147483648⟩:S68) [.int .i32 61,.int .u32 2147483648] (fun _ => True) (fun _ => False) rfl rfl ?aP (fun _ hk => hk.elim) ?aF ?aO ?aB ?aS ?aL ?_;(case aP => exact Zhz _ _ _ (⟨61,2147483648⟩:S68));(case aB => exact (tB HB));(case aF => exact Gc25);(case aO => exact (dR HO328));(case aS => exact (tS HB));(case aL => have:=LMc3.out;omega);intro v330 w7 ho hb hg hat;rw [← Ny329.out] at ho;have n0_:=am (hb);have n1_:=am (ho);revert n0_ n1_;clear HB HO328;intro HB HO331;clear ho hb hg hat))
 go_ret;exact ⟨_,tE,by (with_reducible repeat (first | apply Kd.R_alloc | apply Kd.R_drewN | apply Kd.R_drew));exact HO331.out,by repeat (first | (with_reducible first | exact HB.out | apply below_alloc | apply pw_below_drewN | apply below_drew1) | exact HB.out)⟩
end Go.Proofs.YtfbhdjflkaldgaaGreatDoor.Pr
