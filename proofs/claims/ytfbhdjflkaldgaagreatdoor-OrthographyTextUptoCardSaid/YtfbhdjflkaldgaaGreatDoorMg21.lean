/- Several texts in one: PrF107, PrF102, PrF103. -/
import Derived.Test.YtfbhdjflkaldgaaGreatDoorMg1
import Derived.Test.YtfbhdjflkaldgaaGreatDoorMg2
import Derived.Test.YtfbhdjflkaldgaaGreatDoorMg20

namespace Go.Proofs.YtfbhdjflkaldgaaGreatDoor.Pr
open Go.Proofs.YtfbhdjflkaldgaaGreatDoor.Ct Go.RowKit Go.Proofs.YtfbhdjflkaldgaaGreatDoorW.PrintWords Go.Proofs.YtfbhdjflkaldgaaGreatDoorW.PrintLast Go.Proofs.YtfbhdjflkaldgaaGreatDoorW.PrintMore
attribute [local go_sem] max2_int min2_int max_two min_two max_three min_three max_four min_four
set_option linter.unusedVariables false
set_option linter.unusedSimpArgs false
mutual
def Z00.j0:Nat → List (S68) → List (S70) → List Int → Bool → Option (Bool)
 | 0,_,_,_,_ => none
 | k + 1,x0,x1,x2,x23 => if x23 = true then (some true) else (if (x2.length:Int) = 0 then (Z00.j1 k x0 x1 x2 true) else (if 0 < (x1.length:Int) then (if 0 < (x2.length:Int) then ((Z1c.f k x0 ((Z16 x1 0).f0) ((Z16 x1 0).f1) ((Z16 x1 0).f2) ((Z16 x1 0).f3) (rd x2 0)).bind fun t414 => (Z00.j1 k x0 x1 x2 (!t414))) else (none)) else (none)))
def Z00.j1:Nat → List (S68) → List (S70) → List Int → Bool → Option (Bool)
 | 0,_,_,_,_ => none
 | k + 1,x0,x1,x2,x37 => if x37 = true then (some false) else (if 0 < (x1.length:Int) then (if (Z16 x1 0).f3 = true then (if 1 ≤ (x2.length:Int) then ((Z00.f k x0 x1 (x2.drop 1)).bind fun t417 => (some t417)) else (none)) else (if 1 ≤ (x1.length:Int) then (if 1 ≤ (x2.length:Int) then ((Z00.f k x0 (x1.drop 1) (x2.drop 1)).bind fun t423 => (some t423)) else (none)) else (none))) else (none))
def Z00.f:Nat → List (S68) → List (S70) → List Int → Option (Bool)
 | 0,_,_,_ => none
 | k + 1,l0,l1,l2 => if (l1.length:Int) = 0 then (some ((l2.length:Int) == 0)) else (if 0 < (l1.length:Int) then (if (Z16 l1 0).f3 = true then (if 1 ≤ (l1.length:Int) then ((Z00.f k l0 (l1.drop 1) l2).bind fun t411 => (Z00.j0 k l0 l1 l2 t411)) else (none)) else (Z00.j0 k l0 l1 l2 false)) else (none))
end
def Z00.T5:Bool × List (List Nat × List Nat):=(true,[([],[]),([0],[0]),([1],[1]),([2],[2]),([3],[3]),([3],[3]),([5,3],[3,5]),([6,3],[3,6]),([3],[3]),([8,3],[3,8]),([9,3],[3,9]),([4,7,10,3,3],[3,4,7,10]),([11,3],[3,11]),([3,12],[3,12])])
def Z00.B5:List Nat:=[0,1,3,7,15,15,47,111,15,271,783,2047,4095,8191]
theorem Z00.tab5:rtab .any (opsOf Tryz.f107 5) = Z00.T5:=by kernel_rfl
theorem Z00.bits5:waitsOk Z00.T5.2 Z00.B5 = true:=by kernel_rfl
theorem Za6 {p:Prop} (h:p:=by
  go_wp2;go_ret
  exact ⟨tE,by repeat (first | (with_reducible first | exact HB.out | apply below_alloc | apply pw_below_drewN | apply below_drew1) | exact HB.out)⟩):p:=h
set_option maxRecDepth 1000000 in
theorem Zba {p:Prop} (h:p:=by
  replace H:=iFn H;obtain ⟨z1_,H⟩:=H;have z2_:=eq_true z1_;have z3_:decide (1 ≤ (l2.length:Int)) = true:=decide_eq_true z1_;clear z1_;replace H:=bI H;obtain ⟨z4_,z5_,H⟩:=H;(try dsimp only at H);obtain rfl:=Option.some.inj H;have z6_:0 ≤ (0:Int):=(by omega);have z7_:0 < (l1.length:Int):=oD;obtain ⟨z8_,z9_,z10_,z11_,z12_,z13_⟩:=Z5x HR1.out 0 z6_ z7_;(try rw [← Nbq24.out] at z12_);(try rw [← Nbq24.out] at z13_);cases z9_;have z14_:(0 < l1.length) = True:=eq_true (by omega);(try rw [show ((0:Int)).toNat = 0 from rfl] at z10_);(try rw [show 0 * 4 = 0 from rfl] at z10_);(try rw [Addr.add_zero'] at z10_);(try rw [show ((0:Int)).toNat = 0 from rfl] at z11_);(try rw [show 0 * 4 = 0 from rfl] at z11_);(try rw [Addr.add_zero'] at z11_);(try rw [show ((0:Int)).toNat = 0 from rfl] at z12_);(try rw [show 0 * 4 = 0 from rfl] at z12_);(try rw [Addr.add_zero'] at z12_);(try rw [show ((0:Int)).toNat = 0 from rfl] at z13_);(try rw [show 0 * 4 = 0 from rfl] at z13_);(try rw [Addr.add_zero'] at z13_);replace z10_:=celB HB z10_;replace z11_:=celB HB z11_;replace z12_:=celB HB z12_;replace z13_:=celB HB z13_;replace z6_:=eq_true z6_;replace z7_:=eq_true z7_
  first
  | (have mk_:=mk0_
     try go_wp2
     have z15_:=am (below_drew1 HB.out);revert z15_;clear HB;intro HB;have z16_:(1:Int) ≤ ((l1.length:Int):Int):=oD;obtain ⟨z17_,z18_,_,z19_,_⟩:=info_parts Zhy;have z20_:l1.length ≤ c1:=HC1.out;have z21_:Kd.C k70 _ (some z8_) l1.length l1:=HR1.out;have z22_:=cut_from (P:=Tryz.prog) 71 70 .i64 Tryz.underlying71 z18_ 4 z19_ (some z8_) l1.length c1 1 (by omega) z16_;have z23_:=Kd.C_drop (m:=(1:Int).toNat) (c:=c1) z21_ (by omega) z20_;obtain ⟨z24_,z25_⟩:∃ Aq_,Aq_ = (if c1 = (1:Int).toNat then (some z8_) else ((some z8_):Option Addr).map (·.add ((1:Int).toNat * 4))):=⟨_,rfl⟩;obtain ⟨z26_,z27_⟩:∃ cq_,cq_ = c1 - (1:Int).toNat:=⟨_,rfl⟩;have z28_:y418.length = l1.length - (1:Int).toNat:=(by rw [Ny418.out,List.length_drop] <;> omega);rw [show (l1).drop (1:Int).toNat = y418 from Ny418.out.symm] at z23_;replace z23_:Kd.C k70 _ z24_ y418.length y418:=(by rw [z25_];exact z23_);rw [← z28_,← z25_,← z27_] at z22_;have z29_:=am z23_;have z30_:=am (show y418.length ≤ z26_ from by rw [z28_,z27_];exact Nat.sub_le_sub_right z20_ _);clear z23_ z21_ z20_ z18_ z19_ z27_;have z31_:=am z28_;have z32_:=am z25_;clear z28_ z25_;replace z16_:=eq_true z16_;obtain ⟨z33_,z34_,_,z35_,_⟩:=info_parts Z6n;obtain ⟨z36_,z37_,z38_,z39_⟩:=print_drop_of (P:=Tryz.prog) (Value.int .i32) 0 109 21 .i64 Tryz.underlying109 z34_ z35_ A2 c2 l2 1 (by omega) (oD) HC2.out;have z40_:=am (Kd.C_of_reads (h1:=fun _ => rfl) (z38_ _ (Kd.reads_of_C HR2.out)));have z41_:=am z39_;clear z38_ z39_ z34_ z35_
     refine start_ (n:=7) (S:=fun w' => True) (ds:=[]) #[false,false,false,false,false,false,false] (by kernel_rfl) rfl rfl trivial (fun hHeld => ?_)
     generalize wc.drew = z42_ at HB z29_ z40_ hHeld ⊢
     refine pK 0 47 ?_
     refine pK 1 48 ?_
     refine pK 2 49 ?_
     refine pK 3 50 ?_
     refine pK 4 51 ?_
     refine one_ (i:=5) (N:=some 52) #[true,true,true,true,true,true,false] rfl rfl (by kernel_rfl) (by decide) (fun K hK => ?_)
     refine goes_ Tryz.func107 (by kernel_rfl) rfl #[.slice A0 l0.length c0,.slice z24_ y418.length z26_,.slice z36_ (l2.drop 1).length (c2 - 1)] (by rfl) rfl rfl (by (try simp only [List.map_toArray,List.map_cons,List.map_nil]);first | done | (rw [show (l2.drop 1).length = (l2.length - 1) from List.length_drop] <;> rfl) | rfl | (simp only [List.length_drop,List.length_take];rfl)) ?_
     with_reducible refine (ih kj13 (by have:=HJ4.out;have:=HJ13.out;omega) _ _ l0 _ _ y418 _ _ (l2.drop 1) z4_ _ (tC HR0 HB) HC0.out ?s3 ?s4 ?s5 ?s6 z5_.out).mono ?_
     (case s3 => exact tC z29_ HB);(case s4 => exact z30_.out);(case s5 => exact tC z40_ HB);(case s6 => exact z41_.out);rintro e z43_ ⟨rfl,hb⟩
     refine ⟨_,rfl,?_⟩
     have z15_:=am (below_step (tB HB) hb);revert z15_;clear HB;intro HB;(try clear hb)
     refine hK.out _ _ trivial (fun hHeld => ?_)
     clear hK K
     refine nR 52 ?_
     refine pK 6 6 ?_
     refine done_ (by kernel_rfl) ?_
     try go_wp2
     go_ret
     exact ⟨tE,by repeat (first | (with_reducible first | exact HB.out | apply below_alloc | apply pw_below_drewN | apply below_drew1) | exact HB.out)⟩)
  | (have mk_:=mk1_
     obtain ⟨z15_,z16_,_,z17_,_⟩:=info_parts Z6n;obtain ⟨z18_,z19_,z20_,z21_⟩:=print_drop_of (P:=Tryz.prog) (Value.int .i32) 0 109 21 .i64 Tryz.underlying109 z16_ z17_ A2 c2 l2 1 (by omega) (oD) HC2.out;have z22_:=am (Kd.C_of_reads (h1:=fun _ => rfl) (z20_ _ (Kd.reads_of_C HR2.out)));have z23_:=am z21_;clear z20_ z21_ z16_ z17_
     go_wp2_with (first | ((with_reducible refine gate_callee (f:=107) rfl ?_);refine goesL_ (some 46) rfl rfl Tryz.func107 (by kernel_rfl) rfl #[.slice A0 l0.length c0,.slice (some z8_) l1.length c1,.slice z18_ (l2.drop 1).length (c2 - 1)] rfl (by (try simp only [List.map_toArray,List.map_cons,List.map_nil]);first | done | (rw [show (l2.drop 1).length = (l2.length - 1) from List.length_drop] <;> rfl) | rfl | (simp only [List.length_drop,List.length_take];rfl)) ?_;(with_reducible refine (ih kj13 (by have:=HJ4.out;have:=HJ13.out;omega) _ _ l0 _ _ l1 _ _ (l2.drop 1) z4_ _ (tC HR0 HB) HC0.out (tC HR1 HB) HC1.out ?s5 ?s6 z5_.out).mono ?_);(case s5 => exact tC z22_ HB);(case s6 => exact z23_.out);rintro e z24_ ⟨rfl,hb⟩;refine ⟨_,rfl,?_⟩;have z25_:=am (below_step (tB HB) hb);revert z25_;clear HB;intro HB;(try clear hb);(try clear hb2);(try clear hk);(try clear hi)))
     go_ret
     exact ⟨tE,by repeat (first | (with_reducible first | exact HB.out | apply below_alloc | apply pw_below_drewN | apply below_drew1) | exact HB.out)⟩)):p:=h
theorem Zbb {p:Prop} (h:p:=by
  have H':=am H;clear H;have z1_:0 ≤ (0:Int):=(by omega);have z2_:0 < (l1.length:Int):=oD;obtain ⟨z3_,z4_,z5_,z6_,z7_,z8_⟩:=Z5x HR1.out 0 z1_ z2_;(try rw [← Nbq7.out] at z7_);(try rw [← Nbq7.out] at z8_);cases z4_;have z9_:(0 < l1.length) = True:=eq_true (by omega);(try rw [show ((0:Int)).toNat = 0 from rfl] at z5_);(try rw [show 0 * 4 = 0 from rfl] at z5_);(try rw [Addr.add_zero'] at z5_);(try rw [show ((0:Int)).toNat = 0 from rfl] at z6_);(try rw [show 0 * 4 = 0 from rfl] at z6_);(try rw [Addr.add_zero'] at z6_);(try rw [show ((0:Int)).toNat = 0 from rfl] at z7_);(try rw [show 0 * 4 = 0 from rfl] at z7_);(try rw [Addr.add_zero'] at z7_);(try rw [show ((0:Int)).toNat = 0 from rfl] at z8_);(try rw [show 0 * 4 = 0 from rfl] at z8_);(try rw [Addr.add_zero'] at z8_);replace z5_:=celB HB z5_;replace z6_:=celB HB z6_;replace z7_:=celB HB z7_;replace z8_:=celB HB z8_;replace z1_:=eq_true z1_;replace z2_:=eq_true z2_
  first
  | (have mk_:=mk0_
     have z10_:(1:Int) ≤ ((l1.length:Int):Int):=oD;obtain ⟨z11_,z12_,_,z13_,_⟩:=info_parts Zhy;have z14_:l1.length ≤ c1:=HC1.out;have z15_:Kd.C k70 _ (some z3_) l1.length l1:=HR1.out;have z16_:=cut_from (P:=Tryz.prog) 71 70 .i64 Tryz.underlying71 z12_ 4 z13_ (some z3_) l1.length c1 1 (by omega) z10_;have z17_:=Kd.C_drop (m:=(1:Int).toNat) (c:=c1) z15_ (by omega) z14_;obtain ⟨z18_,z19_⟩:∃ Aq_,Aq_ = (if c1 = (1:Int).toNat then (some z3_) else ((some z3_):Option Addr).map (·.add ((1:Int).toNat * 4))):=⟨_,rfl⟩;obtain ⟨z20_,z21_⟩:∃ cq_,cq_ = c1 - (1:Int).toNat:=⟨_,rfl⟩;have z22_:y407.length = l1.length - (1:Int).toNat:=(by rw [Ny407.out,List.length_drop] <;> omega);rw [show (l1).drop (1:Int).toNat = y407 from Ny407.out.symm] at z17_;replace z17_:Kd.C k70 _ z18_ y407.length y407:=(by rw [z19_];exact z17_);rw [← z22_,← z19_,← z21_] at z16_;have z23_:=am z17_;have z24_:=am (show y407.length ≤ z20_ from by rw [z22_,z21_];exact Nat.sub_le_sub_right z14_ _);clear z17_ z15_ z14_ z12_ z13_ z21_;have z25_:=am z22_;have z26_:=am z19_;clear z22_ z19_;replace z10_:=eq_true z10_
     go_wp2_with (first | (go_at_call 107;(with_reducible refine (ih k (by omega) _ _ l0 _ _ y407 _ _ l2 t411 _ (tC HR0 HB) HC0.out ?s3 ?s4 (tC HR2 HB) HC2.out A10.out).mono ?_);(case s3 => exact tC z23_ HB);(case s4 => exact z24_.out);rintro e z27_ ⟨rfl,hb⟩;have z28_:=am (below_step (tB HB) hb);revert z28_;clear HB;intro HB;(try clear hb);(try clear hb2);(try clear hk);(try clear hi)))
     go_meet
     case rel => exact ⟨_,(t411),tV1,H',⟨tU⟩,⟨tB HB⟩⟩)
  | (have mk_:=mk1_
     go_wp2
     go_meet
     case rel => exact ⟨_,(false),tV1,H',⟨tU⟩,⟨tB HB⟩⟩)):p:=h
set_option maxHeartbeats 8000000 in
set_option maxRecDepth 100000 in
theorem Z00.calls (k:Nat):∀ (A0:Option Addr) (c0:Nat) (l0:List (S68)) (A1:Option Addr) (c1:Nat) (l1:List (S70)) (A2:Option Addr) (c2:Nat) (l2:List Int) (r:Bool) (w:World) (hr0:Kd.C k68 w A0 l0.length l0) (hc0:l0.length ≤ c0) (hr1:Kd.C k70 w A1 l1.length l1) (hc1:l1.length ≤ c1) (hr2:Kd.C (Kd.int .i32) w A2 l2.length l2) (hc2:l2.length ≤ c2) (h:Z00.f k l0 l1 l2 = some r),
 Calls Tryz.prog 107 #[.slice A0 l0.length c0,.slice A1 l1.length c1,.slice A2 l2.length c2] w fun e w' => e = .returned (.bool r) ∧ Below w.heap.size w w':=by
 induction k using Nat.strongRecOn with
 | _ k ih =>
 intro A0 c0 l0 A1 c1 l1 A2 c2 l2 r w hr0 hc0 hr1 hc1 hr2 hc2 h
 cases k with
 | zero => exact absurd h (by simp [Z00.f])
 | succ k =>
 simp only [Z00.f] at h;have hu70:=Tryz.underlying70;have HR0:=am hr0;have HC0:=am hc0;clear hr0 hc0;have HR1:=am hr1;have HC1:=am hc1;clear hr1 hc1;have HR2:=am hr2;have HC2:=am hc2;clear hr2 hc2;have HB:=am (Below.refl w.heap.size w);have H:(if (l1.length:Int) = 0 then (some ((l2.length:Int) == 0)) else (if 0 < (l1.length:Int) then (if (Z16 l1 0).f3 = true then (if 1 ≤ (l1.length:Int) then ((Z00.f k l0 (l1.drop 1) l2).bind fun t411 => (Z00.j0 k l0 l1 l2 t411)) else (none)) else (Z00.j0 k l0 l1 l2 false)) else (none))) = some r:=h;clear h
 replace H:=iE H;obtain ⟨-,c4b0,c4b1,H⟩ | ⟨c4,c4b0,c4b1,H⟩:=H
 ·
  obtain rfl:=Option.some.inj H;go_enter Tryz.func107,Tryz.ntmps107;exact Za6
 ·
  have c4b2:¬ (l1 = []):=fun h_ => c4 (by rw [h_];rfl)
  have HC5:=am H;clear H;go_enter Tryz.func107,Tryz.ntmps107
  go_upto_region 3 with (fail)
  go_cut [23] (fun v23 wc => ∃ (kq:Nat) (x23_4:Bool),v23 = .bool x23_4 ∧ Aside0 (Z00.j0 kq l0 l1 l2 x23_4 = some r) ∧ Aside0 (kq ≤ k) ∧ Aside0 (Below w.heap.size w wc))
  case first =>
   have H:=HC5.out;clear HC5;replace H:=iFn H;obtain ⟨c6,H⟩:=H;have c6b0:decide (0 < (l1.length:Int)) = true:=decide_eq_true c6;have c6b1:decide (0 < l1.length) = true:=decide_eq_true (by omega);clear c6
   (first | rw [c6b0] | (simp only [i64_w,i32_w];rw [c6b0]) | skip)
   obtain ⟨bq7,hbq7⟩:∃ b_:Bool,b_ = ((Z16 l1 0).f3):=⟨_,rfl⟩
   replace H:(if bq7 = true then (if 1 ≤ (l1.length:Int) then ((Z00.f k l0 (l1.drop 1) l2).bind fun t411 => (Z00.j0 k l0 l1 l2 t411)) else (none)) else (Z00.j0 k l0 l1 l2 false)) = some r:=by rw [← hbq7] at H;exact H
   have Nbq7:=am hbq7;clear hbq7
   replace H:=iT H;obtain ⟨rfl,H⟩ | ⟨rfl,H⟩:=H
   ·
    replace H:=iFn H;obtain ⟨c9,H⟩:=H;have c9b0:=eq_true c9;have c9b1:decide (1 ≤ (l1.length:Int)) = true:=decide_eq_true c9;clear c9;obtain ⟨y407,hy407⟩:∃ y_:List (S70),y_ = (l1.drop 1):=⟨_,rfl⟩
    replace H:((Z00.f k l0 y407 l2).bind fun t411 => (Z00.j0 k l0 l1 l2 t411)) = some r:=by first | (rw [hy407];with_reducible exact H) | (have H2_:=(Option.bind_some _ _).symm.trans H;rw [hy407];with_reducible exact H2_) | (have H2_:=(Option.bind_some _ _).symm.trans H;with_reducible exact H2_) | with_reducible exact H | (rw [hy407];exact H) | exact H
    have Ny407:=am hy407;clear hy407;replace H:=bI H;obtain ⟨t411,A10,H⟩:=H;(try dsimp only at H);have mk0_:=trivial;exact Zbb
   ·
    have mk1_:=trivial;exact Zbb
  case rest =>
   clear HC5;(try clear c1);(try clear c2);(try clear c4);(try clear c4b0);(try clear c4b1);(try clear c4b2);obtain ⟨kq,x23_4,rfl,HA,HJ4,HB⟩:=hcut
   cases kq with
   | zero => exact absurd HA.out (by simp [Z00.j0])
   | succ kj4 =>
    have H:=HA.out;clear HA;simp only [Z00.j0] at H
    replace H:=iT H;obtain ⟨rfl,H⟩ | ⟨rfl,H⟩:=H
    ·
     obtain rfl:=Option.some.inj H;exact Za6
    ·
     have HC14:=am H;clear H
     go_upto_region 5 with (fail)
     go_cut [37] (fun v37 wc => ∃ (kq:Nat) (x37_13:Bool),v37 = .bool x37_13 ∧ Aside0 (Z00.j1 kq l0 l1 l2 x37_13 = some r) ∧ Aside0 (kq ≤ kj4) ∧ Aside0 (Below w.heap.size w wc))
     case first =>
      have H:=HC14.out;clear HC14
      replace H:=iE H;obtain ⟨-,c15b0,c15b1,H⟩ | ⟨c15,c15b0,c15b1,H⟩:=H
      ·
       (first | rw [c15b0] | (simp only [i64_w,i32_w];rw [c15b0]) | skip)
       have H':=am H;clear H
       try go_wp2
       have n0_:=am (below_drew1 HB.out);revert n0_;clear HB;intro HB
       refine start_ (n:=14) (S:=fun w' => True) (ds:=[]) #[false,false,false,false,false,false,false,false,false,false,false,false,false,false] (by kernel_rfl) rfl rfl trivial (fun hHeld => ?_);refine with_tabW Z00.tab5 Z00.bits5 (fun HT_ HW_ => ?_)
       generalize wc.drew = w16 at HB hHeld ⊢
       refine pT 0 24 ?_
       refine pT 1 25 ?_
       refine pT 2 26 ?_
       refine pT 3 27 ?_
       refine uT 4 28 ?_
       refine uT 5 29 ?_
       refine uT 6 30 ?_
       refine uT 7 31 ?_
       refine uT 8 32 ?_
       refine uT 9 33 ?_
       refine uT 10 34 ?_
       refine uT 11 35 ?_
       refine uT 12 36 ?_
       refine pT 13 37 ?_
       refine done_ (done_of HT_.out (by kernel_rfl)) ?_
       try go_wp2
       go_meet
       case rel => exact ⟨_,(true),tV1,H',⟨by have:=HJ4.out;first | omega | exact Nat.le_refl _⟩,⟨tB HB⟩⟩
      ·
       have c15b2:¬ (l2 = []):=fun h_ => c15 (by rw [h_];rfl)
       (first | rw [c15b0] | (simp only [i64_w,i32_w];rw [c15b0]) | skip)
       replace H:=iFn H;obtain ⟨c17,H⟩:=H;have c17b0:decide (0 < (l1.length:Int)) = true:=decide_eq_true c17;have c17b1:decide (0 < l1.length) = true:=decide_eq_true (by omega);clear c17;replace H:=iFn H;obtain ⟨c18,H⟩:=H;have c18b0:decide (0 < (l2.length:Int)) = true:=decide_eq_true c18;have c18b1:decide (0 < l2.length) = true:=decide_eq_true (by omega);clear c18;replace H:=bI H;obtain ⟨t414,A19,H⟩:=H;(try dsimp only at H);have H':=am H;clear H
       try go_wp2
       have n0_:=am (below_drew1 HB.out);revert n0_;clear HB;intro HB;have p412:0 ≤ (0:Int):=(by omega);have q412:0 < (l1.length:Int):=oD;obtain ⟨ad412,e412,hx412_0,hx412_1,hx412_2,hx412_3⟩:=Z5x HR1.out 0 p412 q412;have hw412_3:=hx412_3;(try rw [show ((0:Int)).toNat = 0 from rfl] at hw412_3);(try rw [show 0 * 4 = 0 from rfl] at hw412_3);(try rw [Addr.add_zero'] at hw412_3);have hw412_2:=hx412_2;(try rw [show ((0:Int)).toNat = 0 from rfl] at hw412_2);(try rw [show 0 * 4 = 0 from rfl] at hw412_2);(try rw [Addr.add_zero'] at hw412_2);have hw412_1:=hx412_1;(try rw [show ((0:Int)).toNat = 0 from rfl] at hw412_1);(try rw [show 0 * 4 = 0 from rfl] at hw412_1);(try rw [Addr.add_zero'] at hw412_1);have hw412_0:=hx412_0;(try rw [show ((0:Int)).toNat = 0 from rfl] at hw412_0);(try rw [show 0 * 4 = 0 from rfl] at hw412_0);(try rw [Addr.add_zero'] at hw412_0);cases e412;have qi412:(0 < l1.length) = True:=eq_true (by omega);(try rw [show ((0:Int)).toNat = 0 from rfl] at hx412_0);(try rw [show 0 * 4 = 0 from rfl] at hx412_0);(try rw [Addr.add_zero'] at hx412_0);(try rw [show ((0:Int)).toNat = 0 from rfl] at hx412_1);(try rw [show 0 * 4 = 0 from rfl] at hx412_1);(try rw [Addr.add_zero'] at hx412_1);(try rw [show ((0:Int)).toNat = 0 from rfl] at hx412_2);(try rw [show 0 * 4 = 0 from rfl] at hx412_2);(try rw [Addr.add_zero'] at hx412_2);(try rw [show ((0:Int)).toNat = 0 from rfl] at hx412_3);(try rw [show 0 * 4 = 0 from rfl] at hx412_3);(try rw [Addr.add_zero'] at hx412_3);replace hx412_0:=celB HB hx412_0;replace hx412_1:=celB HB hx412_1;replace hx412_2:=celB HB hx412_2;replace hx412_3:=celB HB hx412_3;replace p412:=eq_true p412;replace q412:=eq_true q412;have p413:0 ≤ (0:Int):=(by omega);have q413:0 < (l2.length:Int):=oD;obtain ⟨ad413,e413,hx413_0⟩:=Kd.at_int HR2.out 0 p413 q413;have hw413_0:=hx413_0;(try rw [show ((0:Int)).toNat = 0 from rfl] at hw413_0);(try rw [show 0 * 1 = 0 from rfl] at hw413_0);(try rw [Addr.add_zero'] at hw413_0);cases e413;have qi413:(0 < l2.length) = True:=eq_true (by omega);(try rw [show ((0:Int)).toNat = 0 from rfl] at hx413_0);(try rw [Addr.add_zero'] at hx413_0);replace hx413_0:=celB HB hx413_0;replace p413:=eq_true p413;replace q413:=eq_true q413
       refine start_ (n:=14) (S:=fun w' => w'.cell? ad412 = some (.int .u32 ((Z16 l1 0).f0)) ∧ w'.cell? ⟨ad412.block,ad412.off + 1,none⟩ = some (.string ((Z16 l1 0).f1)) ∧ w'.cell? ⟨ad412.block,ad412.off + 2,none⟩ = some (.bool ((Z16 l1 0).f2)) ∧ w'.cell? ⟨ad412.block,ad412.off + 3,none⟩ = some (.bool ((Z16 l1 0).f3)) ∧ w'.cell? ad413 = some (.int .i32 (rd l2 0))) (ds:=[]) #[false,false,false,false,false,false,false,false,false,false,false,false,false,false] (by kernel_rfl) rfl rfl ⟨((HB.out.cell (World.block_lt_of_cell? w _ hw412_0)).trans hw412_0),((HB.out.cell (World.block_lt_of_cell? w _ hw412_1)).trans hw412_1),((HB.out.cell (World.block_lt_of_cell? w _ hw412_2)).trans hw412_2),((HB.out.cell (World.block_lt_of_cell? w _ hw412_3)).trans hw412_3),((HB.out.cell (World.block_lt_of_cell? w _ hw413_0)).trans hw413_0)⟩ (fun hHeld => ?_);refine with_tabW Z00.tab5 Z00.bits5 (fun HT_ HW_ => ?_)
       generalize wc.drew = w20 at HB hx412_0 hx412_1 hx412_2 hx412_3 hx413_0 hHeld ⊢
       refine pT 0 24 ?_
       refine pT 1 25 ?_
       refine pT 2 26 ?_
       refine pT 3 27 ?_
       refine pT 4 28 ?_
       refine pT 5 29 ?_
       refine pT 6 30 ?_
       refine pT 8 32 ?_
       refine pT 9 33 ?_
       refine tTt 7 31 hHeld ?_
       refine tTt 10 34 hHeld ?_
       refine one_ (i:=11) (N:=some 35) #[true,true,true,true,true,true,true,true,true,true,true,true,false,false] rfl rfl (one_of HT_.out (by kernel_rfl)) (by decide) (fun K hK => ?_)
       refine goes_ Tryz.func113 (by kernel_rfl) rfl #[.slice A0 l0.length c0,.agg #[.int .u32 ((Z16 l1 0).f0),.string ((Z16 l1 0).f1),.bool ((Z16 l1 0).f2),.bool ((Z16 l1 0).f3)],.int .i32 (rd l2 0)] (by rfl) rfl rfl Gc2 ?_
       with_reducible refine (Z1c.calls kj4 _ _ l0 ((Z16 l1 0).f0) ((Z16 l1 0).f1) ((Z16 l1 0).f2) ((Z16 l1 0).f3) (rd l2 0) t414 _ (tC HR0 HB) HC0.out A19.out).mono ?_
       rintro e w21 ⟨rfl,hb⟩
       refine ⟨_,rfl,?_⟩
       have n0_:=am (below_step (tB HB) hb);revert n0_;clear HB;intro HB;(try clear hb)
       refine hK.out _ _ ⟨((HB.out.cell (World.block_lt_of_cell? w _ hw412_0)).trans hw412_0),((HB.out.cell (World.block_lt_of_cell? w _ hw412_1)).trans hw412_1),((HB.out.cell (World.block_lt_of_cell? w _ hw412_2)).trans hw412_2),((HB.out.cell (World.block_lt_of_cell? w _ hw412_3)).trans hw412_3),((HB.out.cell (World.block_lt_of_cell? w _ hw413_0)).trans hw413_0)⟩ (fun hHeld => ?_)
       clear hK K
       refine nR 35 ?_
       refine pT 12 36 ?_
       refine pT 13 37 ?_
       refine done_ (done_of HT_.out (by kernel_rfl)) ?_
       try go_wp2
       go_meet
       case rel => exact ⟨_,(!t414),tV1,H',⟨by have:=HJ4.out;first | omega | exact Nat.le_refl _⟩,⟨tB HB⟩⟩
     case rest =>
      clear HC14;(try clear c1);(try clear c2);(try clear c4);(try clear c4b0);(try clear c4b1);(try clear c4b2);(try clear c13);obtain ⟨kq,x37_13,rfl,HA,HJ13,HB⟩:=hcut
      cases kq with
      | zero => exact absurd HA.out (by simp [Z00.j1])
      | succ kj13 =>
       have H:=HA.out;clear HA;simp only [Z00.j1] at H
       replace H:=iT H;obtain ⟨rfl,H⟩ | ⟨rfl,H⟩:=H
       ·
        obtain rfl:=Option.some.inj H;exact Za6
       ·
        replace H:=iFn H;obtain ⟨c23,H⟩:=H;have c23b0:decide (0 < (l1.length:Int)) = true:=decide_eq_true c23;have c23b1:decide (0 < l1.length) = true:=decide_eq_true (by omega);clear c23;obtain ⟨bq24,hbq24⟩:∃ b_:Bool,b_ = ((Z16 l1 0).f3):=⟨_,rfl⟩
        replace H:(if bq24 = true then (if 1 ≤ (l2.length:Int) then ((Z00.f kj13 l0 l1 (l2.drop 1)).bind fun t417 => (some t417)) else (none)) else (if 1 ≤ (l1.length:Int) then (if 1 ≤ (l2.length:Int) then ((Z00.f kj13 l0 (l1.drop 1) (l2.drop 1)).bind fun t423 => (some t423)) else (none)) else (none))) = some r:=by rw [← hbq24] at H;exact H
        have Nbq24:=am hbq24;clear hbq24
        replace H:=iT H;obtain ⟨rfl,H⟩ | ⟨rfl,H⟩:=H
        ·
         have mk1_:=trivial;exact Zba
        ·
         replace H:=iFn H;obtain ⟨c30,H⟩:=H;have c30b0:=eq_true c30;have c30b1:decide (1 ≤ (l1.length:Int)) = true:=decide_eq_true c30;clear c30;obtain ⟨y418,hy418⟩:∃ y_:List (S70),y_ = (l1.drop 1):=⟨_,rfl⟩
         replace H:(if 1 ≤ (l2.length:Int) then ((Z00.f kj13 l0 y418 (l2.drop 1)).bind fun t423 => (some t423)) else (none)) = some r:=by first | (rw [hy418];with_reducible exact H) | (have H2_:=(Option.bind_some _ _).symm.trans H;rw [hy418];with_reducible exact H2_) | (have H2_:=(Option.bind_some _ _).symm.trans H;with_reducible exact H2_) | with_reducible exact H | (rw [hy418];exact H) | exact H
         have Ny418:=am hy418;clear hy418;have mk0_:=trivial;exact Zba
def Z10.l0:Nat → List (S68) → List Int → Int → Int → ByteArray → List (S70) → List (S70) → Bool → Bool → Option (Bool)
 | 0,_,_,_,_,_,_,_,_,_ => none
 | k + 1,x0,x2,x7,x425000,x425001,x425002,x425003,x425004,x425005 => if x7 ≤ (x2.length:Int) then (if 0 ≤ x7 then ((Z00.f k x0 x425002 (x2.drop (x7:Int).toNat)).bind fun t427 => (if t427 = true then (some true) else (Z10.l0 k x0 x2 (wrap64 (x7 + 1)) x425000 x425001 x425002 x425003 x425004 x425005))) else (none)) else (some false)
def Z10.f (k:Nat) (l0:List (S68)) (a1_0:Int) (a1_1:ByteArray) (l1_2:List (S70)) (l1_3:List (S70)) (a1_4:Bool) (a1_5:Bool) (l2:List Int):Option (Bool):=if a1_4 = true then ((Z00.f k l0 l1_2 l2).bind fun t425 => (some t425)) else (Z10.l0 k l0 l2 0 a1_0 a1_1 l1_2 l1_3 a1_4 a1_5)
theorem Za7 {p:Prop} (h:p:=by
  go_ret
  exact ⟨tE,by repeat (first | (with_reducible first | exact HB.out | apply below_alloc | apply pw_below_drewN | apply below_drew1 | refine below_set ?_ GE424.out) | exact HB.out)⟩):p:=h
theorem Zbc {p:Prop} (h:p:=by
  try go_wp2
  have z1_:=am (blk_drew BK424.out);have z2_:=am (below_drew1 HB.out);revert z1_ z2_;clear BK424 HB;intro BK424 HB;obtain ⟨z3_,z4_,_,z5_,_⟩:=info_parts Z6n;obtain ⟨z6_,z7_,z8_,z9_⟩:=print_drop_of (P:=Tryz.prog) (Value.int .i32) 0 109 21 .i64 Tryz.underlying109 z4_ z5_ A2 c2 l2 x7_1 (oD) (oD) HC2.out;have z10_:=am (Kd.C_of_reads (h1:=fun _ => rfl) (z8_ _ (Kd.reads_of_C HR2.out)));have z11_:=am z9_;clear z8_ z9_ z4_ z5_
  refine start_ (n:=7) (S:=fun w' => w'.cell? ⟨gb424,0,none⟩ = some (.int .i32 a1_0) ∧ w'.cell? ⟨gb424,1,none⟩ = some (.string a1_1) ∧ w'.cell? ⟨gb424,2,none⟩ = some (.slice A1_2 l1_2.length c1_2) ∧ w'.cell? ⟨gb424,3,none⟩ = some (.slice A1_3 l1_3.length c1_3) ∧ w'.cell? ⟨gb424,4,none⟩ = some (.bool false) ∧ w'.cell? ⟨gb424,5,none⟩ = some (.bool a1_5)) (ds:=[]) #[false,false,false,false,false,false,false] (by kernel_rfl) rfl rfl ⟨(blk_cell BK424.out 0).trans rfl,(blk_cell BK424.out 1).trans rfl,(blk_cell BK424.out 2).trans rfl,(blk_cell BK424.out 3).trans rfl,(blk_cell BK424.out 4).trans rfl,(blk_cell BK424.out 5).trans rfl⟩ (fun hHeld => ?_)
  generalize wr.drew = z12_ at BK424 HB z10_ hHeld ⊢
  refine pK 0 21 ?_
  refine pK 1 22 ?_
  refine pK 3 24 ?_
  refine pK 4 25 ?_
  refine pK 5 26 ?_
  refine tKt 2 23 hHeld ?_
  refine one_ (i:=6) (N:=some 27) #[true,true,true,true,true,true,true] rfl rfl (by kernel_rfl) (by decide) (fun K hK => ?_)
  refine goes_ Tryz.func107 (by kernel_rfl) rfl #[.slice A0 l0.length c0,.slice A1_2 l1_2.length c1_2,.slice z6_ (l2.drop (x7_1:Int).toNat).length (c2 - x7_1.toNat)] (by rfl) rfl rfl (by (try simp only [List.map_toArray,List.map_cons,List.map_nil]);first | done | (rw [show (l2.drop (x7_1:Int).toNat).length = (l2.length - x7_1.toNat) from List.length_drop] <;> rfl) | rfl | (simp only [List.length_drop,List.length_take];rfl)) ?_
  first
  | (have mk_:=mk0_
     with_reducible refine (Z00.calls k1 _ _ l0 _ _ l1_2 _ _ (l2.drop (x7_1:Int).toNat) false _ (tC HR0 HB) HC0.out (tC HR1_2 HB) HC1_2.out ?s5 ?s6 A14.out).mono ?_
     (case s5 => exact tC z10_ HB);(case s6 => exact z11_.out);rintro e z13_ ⟨rfl,hb⟩
     refine ⟨_,rfl,?_⟩
     have z1_:=am (blk_below (tK BK424) hb);have z2_:=am (below_step (tB HB) hb);revert z1_ z2_;clear BK424 HB;intro BK424 HB;(try clear hb)
     refine hK.out _ _ ⟨(blk_cell BK424.out 0).trans rfl,(blk_cell BK424.out 1).trans rfl,(blk_cell BK424.out 2).trans rfl,(blk_cell BK424.out 3).trans rfl,(blk_cell BK424.out 4).trans rfl,(blk_cell BK424.out 5).trans rfl⟩ (fun hHeld => ?_)
     clear hK K
     refine nR 27 ?_
     refine done_ (by kernel_rfl) ?_
     try go_wp2
     go_roundg k1
     case measure => have:=HK1.out;omega
     case rel => exact ⟨(wrap64 (x7_1 + 1)),tV1,H',⟨by have:=HK1.out;omega⟩,⟨tK BK424⟩,⟨tB HB⟩⟩)
  | (have mk_:=mk1_
     with_reducible refine (Z00.calls k1 _ _ l0 _ _ l1_2 _ _ (l2.drop (x7_1:Int).toNat) true _ (tC HR0 HB) HC0.out (tC HR1_2 HB) HC1_2.out ?s5 ?s6 A14.out).mono ?_
     (case s5 => exact tC z10_ HB);(case s6 => exact z11_.out);rintro e z13_ ⟨rfl,hb⟩
     refine ⟨_,rfl,?_⟩
     have z1_:=am (blk_below (tK BK424) hb);have z2_:=am (below_step (tB HB) hb);revert z1_ z2_;clear BK424 HB;intro BK424 HB;(try clear hb)
     refine hK.out _ _ ⟨(blk_cell BK424.out 0).trans rfl,(blk_cell BK424.out 1).trans rfl,(blk_cell BK424.out 2).trans rfl,(blk_cell BK424.out 3).trans rfl,(blk_cell BK424.out 4).trans rfl,(blk_cell BK424.out 5).trans rfl⟩ (fun hHeld => ?_)
     clear hK K
     refine nR 27 ?_
     refine done_ (by kernel_rfl) ?_
     try go_wp2
     exact Za7)):p:=h
set_option maxHeartbeats 8000000 in
set_option maxRecDepth 100000 in
theorem Z10.calls (k:Nat) (A0:Option Addr) (c0:Nat) (l0:List (S68)) (a1_0:Int) (a1_1:ByteArray) (A1_2:Option Addr) (c1_2:Nat) (l1_2:List (S70)) (A1_3:Option Addr) (c1_3:Nat) (l1_3:List (S70)) (a1_4:Bool) (a1_5:Bool) (A2:Option Addr) (c2:Nat) (l2:List Int) (r:Bool) (w:World) (hr0:Kd.C k68 w A0 l0.length l0) (hc0:l0.length ≤ c0) (hr1_2:Kd.C k70 w A1_2 l1_2.length l1_2) (hc1_2:l1_2.length ≤ c1_2) (hr1_3:Kd.C k70 w A1_3 l1_3.length l1_3) (hc1_3:l1_3.length ≤ c1_3) (hr2:Kd.C (Kd.int .i32) w A2 l2.length l2) (hc2:l2.length ≤ c2) (h:Z10.f k l0 a1_0 a1_1 l1_2 l1_3 a1_4 a1_5 l2 = some r) :
 Calls Tryz.prog 102 #[.slice A0 l0.length c0,.agg #[.int .i32 a1_0,.string a1_1,.slice A1_2 l1_2.length c1_2,.slice A1_3 l1_3.length c1_3,.bool a1_4,.bool a1_5],.slice A2 l2.length c2] w fun e w' => e = .returned (.bool r) ∧ Below w.heap.size w w':=by
 have hu73:=Tryz.underlying73;have HR0:=am hr0;have HC0:=am hc0;clear hr0 hc0;have HR1_2:=am hr1_2;have HC1_2:=am hc1_2;clear hr1_2 hc1_2;have HR1_3:=am hr1_3;have HC1_3:=am hc1_3;clear hr1_3 hc1_3;have HR2:=am hr2;have HC2:=am hc2;clear hr2 hc2;have HB:=am (Below.refl w.heap.size w);have H:(if a1_4 = true then ((Z00.f k l0 l1_2 l2).bind fun t425 => (some t425)) else (Z10.l0 k l0 l2 0 a1_0 a1_1 l1_2 l1_3 a1_4 a1_5)) = some r:=h;clear h
 replace H:=iT H;obtain ⟨rfl,H⟩ | ⟨rfl,H⟩:=H
 ·
  replace H:=bI H;obtain ⟨t425,A5,H⟩:=H;(try dsimp only at H);obtain rfl:=Option.some.inj H;go_enter Tryz.func102,Tryz.ntmps102
  go_wp2_with (first | ((with_reducible refine gate_dst (N:=4) rfl ?_);refine box_event ?hg (N:=4) ?hd (cs:=#[.int .i32 a1_0,.string a1_1,.slice A1_2 l1_2.length c1_2,.slice A1_3 l1_3.length c1_3,.bool true,.bool a1_5]) (t:=73) ?hr ?_;(case hd => rfl);(case hg => rfl);(case hr => exact Gc5);intro gb424 hg w6 hbox hb;have n0_:=am (below_step (tB HB) hb);have n1_:=am (hbox);have n2_:=tZ hg (tS HB);have n3_:=tZ hg (tS HB);revert n0_ n1_ n2_ n3_;clear HB;intro HB BK424 GW424 GE424;clear hb hbox hg;have hcz7_0:=cel2 BK424 0 rfl;have hcz7_1:=cel2 BK424 1 rfl;have hcz7_2:=cel2 BK424 2 rfl;have hcz7_3:=cel2 BK424 3 rfl;have hcz7_4:=cel2 BK424 4 rfl;have hcz7_5:=cel2 BK424 5 rfl;have hfz7_0:=blk_frozen BK424.out 0;have hfz7_1:=blk_frozen BK424.out 1;have hfz7_2:=blk_frozen BK424.out 2;have hfz7_3:=blk_frozen BK424.out 3;have hfz7_4:=blk_frozen BK424.out 4;have hfz7_5:=blk_frozen BK424.out 5) | ((with_reducible refine gate_callee (f:=107) rfl ?_);refine goesL_ (some 14) rfl rfl Tryz.func107 (by kernel_rfl) rfl #[.slice A0 l0.length c0,.slice A1_2 l1_2.length c1_2,.slice A2 l2.length c2] rfl Gc2 ?_;(with_reducible refine (Z00.calls k _ _ l0 _ _ l1_2 _ _ l2 t425 _ (tC HR0 HB) HC0.out (tC HR1_2 HB) HC1_2.out (tC HR2 HB) HC2.out A5.out).mono ?_);rintro e w8 ⟨rfl,hb⟩;refine ⟨_,rfl,?_⟩;have n0_:=am (blk_below (tK BK424) hb);have n1_:=am (below_step (tB HB) hb);revert n0_ n1_;clear BK424 HB;intro BK424 HB;(try clear hb);(try clear hb2);(try clear hk);(try clear hi)))
  exact Za7
 ·
  have H':=am H;clear H;go_enter Tryz.func102,Tryz.ntmps102
  go_wp2_with (first | ((with_reducible refine gate_dst (N:=4) rfl ?_);refine box_event ?hg (N:=4) ?hd (cs:=#[.int .i32 a1_0,.string a1_1,.slice A1_2 l1_2.length c1_2,.slice A1_3 l1_3.length c1_3,.bool false,.bool a1_5]) (t:=73) ?hr ?_;(case hd => rfl);(case hg => rfl);(case hr => exact Gc5);intro gb424 hg w9 hbox hb;have n0_:=am (below_step (tB HB) hb);have n1_:=am (hbox);have n2_:=tZ hg (tS HB);have n3_:=tZ hg (tS HB);revert n0_ n1_ n2_ n3_;clear HB;intro HB BK424 GW424 GE424;clear hb hbox hg;have hcz10_0:=cel2 BK424 0 rfl;have hcz10_1:=cel2 BK424 1 rfl;have hcz10_2:=cel2 BK424 2 rfl;have hcz10_3:=cel2 BK424 3 rfl;have hcz10_4:=cel2 BK424 4 rfl;have hcz10_5:=cel2 BK424 5 rfl;have hfz10_0:=blk_frozen BK424.out 0;have hfz10_1:=blk_frozen BK424.out 1;have hfz10_2:=blk_frozen BK424.out 2;have hfz10_3:=blk_frozen BK424.out 3;have hfz10_4:=blk_frozen BK424.out 4;have hfz10_5:=blk_frozen BK424.out 5))
  go_loopg [7] k (fun kq v7 w' => ∃ (x7_1:Int),v7 = .int .i64 x7_1 ∧ Aside0 (Z10.l0 kq l0 l2 x7_1 a1_0 a1_1 l1_2 l1_3 false a1_5 = some r) ∧ Aside0 (kq ≤ k) ∧ Aside0 (w'.heap[gb424]? = some (.cells #[.int .i32 a1_0,.string a1_1,(.slice A1_2 l1_2.length c1_2),(.slice A1_3 l1_3.length c1_3),.bool false,.bool a1_5] 73 (0,0))) ∧ Aside0 (Below w.heap.size w w'))
  case atStart => exact ⟨(0),tV1,H',⟨Nat.le_refl _⟩,⟨tK BK424⟩,⟨tB HB⟩⟩
  case round =>
   clear H';(try clear c4);(try clear hcz10_0);(try clear hcz10_1);(try clear hcz10_2);(try clear hcz10_3);(try clear hcz10_4);(try clear hcz10_5);(try clear hfz10_0);(try clear hfz10_1);(try clear hfz10_2);(try clear hfz10_3);(try clear hfz10_4);(try clear hfz10_5);obtain ⟨x7_1,rfl,HA,HK1,BK424,HB⟩:=hrel
   cases gk with
   | zero => exact absurd HA.out (by simp [Z10.l0])
   | succ k1 =>
    have H:=HA.out;clear HA;simp only [Z10.l0] at H
    replace H:=iF H;obtain ⟨c11,H⟩ | ⟨c11,H⟩:=H;rotate_left
    ·
     have c11b0:decide (x7_1 ≤ (l2.length:Int)) = false:=decide_eq_false c11;clear c11;obtain rfl:=Option.some.inj H;go_wp2;exact Za7
    have c11b0:decide (x7_1 ≤ (l2.length:Int)) = true:=decide_eq_true c11;clear c11;replace H:=iFn H;obtain ⟨c12,H⟩:=H;have c12b0:=eq_true c12;have c12b1:decide (0 ≤ x7_1) = true:=decide_eq_true c12;clear c12;have c13b0:=eq_true (oD:x7_1 ≤ (l2.length:Int));replace H:=bI H;obtain ⟨t427,A14,H⟩:=H;(try dsimp only at H)
    replace H:=iT H;obtain ⟨rfl,H⟩ | ⟨rfl,H⟩:=H
    ·
     obtain rfl:=Option.some.inj H;have mk1_:=trivial;exact Zbc
    ·
     have H':=am H;clear H;have mk0_:=trivial;exact Zbc
def Z0t.l0:Nat → List (S68) → List Int → Int → Int → ByteArray → List (S70) → List (S70) → Bool → Bool → Option (Bool)
 | 0,_,_,_,_,_,_,_,_,_ => none
 | k + 1,x0,x2,x7,x429000,x429001,x429002,x429003,x429004,x429005 => if x7 ≤ (x2.length:Int) then (if 0 ≤ x7 then ((Z00.f k x0 x429003 (x2.take (x7:Int).toNat)).bind fun t431 => (if t431 = true then (some true) else (Z0t.l0 k x0 x2 (wrap64 (x7 + 1)) x429000 x429001 x429002 x429003 x429004 x429005))) else (none)) else (some false)
def Z0t.f (k:Nat) (l0:List (S68)) (a1_0:Int) (a1_1:ByteArray) (l1_2:List (S70)) (l1_3:List (S70)) (a1_4:Bool) (a1_5:Bool) (l2:List Int):Option (Bool):=if a1_5 = true then ((Z00.f k l0 l1_3 l2).bind fun t429 => (some t429)) else (Z0t.l0 k l0 l2 0 a1_0 a1_1 l1_2 l1_3 a1_4 a1_5)
theorem Za8 {p:Prop} (h:p:=by
  go_ret
  exact ⟨tE,by repeat (first | (with_reducible first | exact HB.out | apply below_alloc | apply pw_below_drewN | apply below_drew1 | refine below_set ?_ GE428.out) | exact HB.out)⟩):p:=h
theorem Zbd {p:Prop} (h:p:=by
  try go_wp2
  have z1_:=am (blk_drew BK428.out);have z2_:=am (below_drew1 HB.out);revert z1_ z2_;clear BK428 HB;intro BK428 HB;obtain ⟨z3_,z4_,_,z5_,_⟩:=info_parts Z6n;obtain ⟨z6_,z7_,z8_⟩:=print_take_of (P:=Tryz.prog) (Value.int .i32) 0 109 21 .i64 Tryz.underlying109 z4_ z5_ A2 c2 l2 x7_1 (oD) (oD) HC2.out;have z9_:=am (Kd.C_of_reads (h1:=fun _ => rfl) (z7_ _ (Kd.reads_of_C HR2.out)));have z10_:=am z8_;clear z7_ z8_ z4_ z5_
  refine start_ (n:=7) (S:=fun w' => w'.cell? ⟨gb428,0,none⟩ = some (.int .i32 a1_0) ∧ w'.cell? ⟨gb428,1,none⟩ = some (.string a1_1) ∧ w'.cell? ⟨gb428,2,none⟩ = some (.slice A1_2 l1_2.length c1_2) ∧ w'.cell? ⟨gb428,3,none⟩ = some (.slice A1_3 l1_3.length c1_3) ∧ w'.cell? ⟨gb428,4,none⟩ = some (.bool a1_4) ∧ w'.cell? ⟨gb428,5,none⟩ = some (.bool false)) (ds:=[]) #[false,false,false,false,false,false,false] (by kernel_rfl) rfl rfl ⟨(blk_cell BK428.out 0).trans rfl,(blk_cell BK428.out 1).trans rfl,(blk_cell BK428.out 2).trans rfl,(blk_cell BK428.out 3).trans rfl,(blk_cell BK428.out 4).trans rfl,(blk_cell BK428.out 5).trans rfl⟩ (fun hHeld => ?_)
  generalize wr.drew = z11_ at BK428 HB z9_ hHeld ⊢
  refine pK 0 21 ?_
  refine pK 1 22 ?_
  refine pK 3 24 ?_
  refine pK 4 25 ?_
  refine pK 5 26 ?_
  refine tKt 2 23 hHeld ?_
  refine one_ (i:=6) (N:=some 27) #[true,true,true,true,true,true,true] rfl rfl (by kernel_rfl) (by decide) (fun K hK => ?_)
  refine goes_ Tryz.func107 (by kernel_rfl) rfl #[.slice A0 l0.length c0,.slice A1_3 l1_3.length c1_3,.slice A2 (l2.take (x7_1:Int).toNat).length c2] (by rfl) rfl rfl (by (try simp only [List.map_toArray,List.map_cons,List.map_nil]);first | done | (rw [show (l2.take (x7_1:Int).toNat).length = x7_1.toNat from (by rw [List.length_take];have h_:(x7_1:Int) ≤ (l2.length:Int):=oD;omega)] <;> rfl) | rfl | (simp only [List.length_drop,List.length_take];rfl)) ?_
  first
  | (have mk_:=mk0_
     with_reducible refine (Z00.calls k1 _ _ l0 _ _ l1_3 _ _ (l2.take (x7_1:Int).toNat) false _ (tC HR0 HB) HC0.out (tC HR1_3 HB) HC1_3.out ?s5 ?s6 A14.out).mono ?_
     (case s5 => exact tC z9_ HB);(case s6 => exact z10_.out);rintro e z12_ ⟨rfl,hb⟩
     refine ⟨_,rfl,?_⟩
     have z1_:=am (blk_below (tK BK428) hb);have z2_:=am (below_step (tB HB) hb);revert z1_ z2_;clear BK428 HB;intro BK428 HB;(try clear hb)
     refine hK.out _ _ ⟨(blk_cell BK428.out 0).trans rfl,(blk_cell BK428.out 1).trans rfl,(blk_cell BK428.out 2).trans rfl,(blk_cell BK428.out 3).trans rfl,(blk_cell BK428.out 4).trans rfl,(blk_cell BK428.out 5).trans rfl⟩ (fun hHeld => ?_)
     clear hK K
     refine nR 27 ?_
     refine done_ (by kernel_rfl) ?_
     try go_wp2
     go_roundg k1
     case measure => have:=HK1.out;omega
     case rel => exact ⟨(wrap64 (x7_1 + 1)),tV1,H',⟨by have:=HK1.out;omega⟩,⟨tK BK428⟩,⟨tB HB⟩⟩)
  | (have mk_:=mk1_
     with_reducible refine (Z00.calls k1 _ _ l0 _ _ l1_3 _ _ (l2.take (x7_1:Int).toNat) true _ (tC HR0 HB) HC0.out (tC HR1_3 HB) HC1_3.out ?s5 ?s6 A14.out).mono ?_
     (case s5 => exact tC z9_ HB);(case s6 => exact z10_.out);rintro e z12_ ⟨rfl,hb⟩
     refine ⟨_,rfl,?_⟩
     have z1_:=am (blk_below (tK BK428) hb);have z2_:=am (below_step (tB HB) hb);revert z1_ z2_;clear BK428 HB;intro BK428 HB;(try clear hb)
     refine hK.out _ _ ⟨(blk_cell BK428.out 0).trans rfl,(blk_cell BK428.out 1).trans rfl,(blk_cell BK428.out 2).trans rfl,(blk_cell BK428.out 3).trans rfl,(blk_cell BK428.out 4).trans rfl,(blk_cell BK428.out 5).trans rfl⟩ (fun hHeld => ?_)
     clear hK K
     refine nR 27 ?_
     refine done_ (by kernel_rfl) ?_
     try go_wp2
     exact Za8)):p:=h
set_option maxHeartbeats 8000000 in
set_option maxRecDepth 100000 in
theorem Z0t.calls (k:Nat) (A0:Option Addr) (c0:Nat) (l0:List (S68)) (a1_0:Int) (a1_1:ByteArray) (A1_2:Option Addr) (c1_2:Nat) (l1_2:List (S70)) (A1_3:Option Addr) (c1_3:Nat) (l1_3:List (S70)) (a1_4:Bool) (a1_5:Bool) (A2:Option Addr) (c2:Nat) (l2:List Int) (r:Bool) (w:World) (hr0:Kd.C k68 w A0 l0.length l0) (hc0:l0.length ≤ c0) (hr1_2:Kd.C k70 w A1_2 l1_2.length l1_2) (hc1_2:l1_2.length ≤ c1_2) (hr1_3:Kd.C k70 w A1_3 l1_3.length l1_3) (hc1_3:l1_3.length ≤ c1_3) (hr2:Kd.C (Kd.int .i32) w A2 l2.length l2) (hc2:l2.length ≤ c2) (h:Z0t.f k l0 a1_0 a1_1 l1_2 l1_3 a1_4 a1_5 l2 = some r) :
 Calls Tryz.prog 103 #[.slice A0 l0.length c0,.agg #[.int .i32 a1_0,.string a1_1,.slice A1_2 l1_2.length c1_2,.slice A1_3 l1_3.length c1_3,.bool a1_4,.bool a1_5],.slice A2 l2.length c2] w fun e w' => e = .returned (.bool r) ∧ Below w.heap.size w w':=by
 have hu73:=Tryz.underlying73;have HR0:=am hr0;have HC0:=am hc0;clear hr0 hc0;have HR1_2:=am hr1_2;have HC1_2:=am hc1_2;clear hr1_2 hc1_2;have HR1_3:=am hr1_3;have HC1_3:=am hc1_3;clear hr1_3 hc1_3;have HR2:=am hr2;have HC2:=am hc2;clear hr2 hc2;have HB:=am (Below.refl w.heap.size w);have H:(if a1_5 = true then ((Z00.f k l0 l1_3 l2).bind fun t429 => (some t429)) else (Z0t.l0 k l0 l2 0 a1_0 a1_1 l1_2 l1_3 a1_4 a1_5)) = some r:=h;clear h
 replace H:=iT H;obtain ⟨rfl,H⟩ | ⟨rfl,H⟩:=H
 ·
  replace H:=bI H;obtain ⟨t429,A5,H⟩:=H;(try dsimp only at H);obtain rfl:=Option.some.inj H;go_enter Tryz.func103,Tryz.ntmps103
  go_wp2_with (first | ((with_reducible refine gate_dst (N:=4) rfl ?_);refine box_event ?hg (N:=4) ?hd (cs:=#[.int .i32 a1_0,.string a1_1,.slice A1_2 l1_2.length c1_2,.slice A1_3 l1_3.length c1_3,.bool a1_4,.bool true]) (t:=73) ?hr ?_;(case hd => rfl);(case hg => rfl);(case hr => exact Gc5);intro gb428 hg w6 hbox hb;have n0_:=am (below_step (tB HB) hb);have n1_:=am (hbox);have n2_:=tZ hg (tS HB);have n3_:=tZ hg (tS HB);revert n0_ n1_ n2_ n3_;clear HB;intro HB BK428 GW428 GE428;clear hb hbox hg;have hcz7_0:=cel2 BK428 0 rfl;have hcz7_1:=cel2 BK428 1 rfl;have hcz7_2:=cel2 BK428 2 rfl;have hcz7_3:=cel2 BK428 3 rfl;have hcz7_4:=cel2 BK428 4 rfl;have hcz7_5:=cel2 BK428 5 rfl;have hfz7_0:=blk_frozen BK428.out 0;have hfz7_1:=blk_frozen BK428.out 1;have hfz7_2:=blk_frozen BK428.out 2;have hfz7_3:=blk_frozen BK428.out 3;have hfz7_4:=blk_frozen BK428.out 4;have hfz7_5:=blk_frozen BK428.out 5) | ((with_reducible refine gate_callee (f:=107) rfl ?_);refine goesL_ (some 14) rfl rfl Tryz.func107 (by kernel_rfl) rfl #[.slice A0 l0.length c0,.slice A1_3 l1_3.length c1_3,.slice A2 l2.length c2] rfl Gc2 ?_;(with_reducible refine (Z00.calls k _ _ l0 _ _ l1_3 _ _ l2 t429 _ (tC HR0 HB) HC0.out (tC HR1_3 HB) HC1_3.out (tC HR2 HB) HC2.out A5.out).mono ?_);rintro e w8 ⟨rfl,hb⟩;refine ⟨_,rfl,?_⟩;have n0_:=am (blk_below (tK BK428) hb);have n1_:=am (below_step (tB HB) hb);revert n0_ n1_;clear BK428 HB;intro BK428 HB;(try clear hb);(try clear hb2);(try clear hk);(try clear hi)))
  exact Za8
 ·
  have H':=am H;clear H;go_enter Tryz.func103,Tryz.ntmps103
  go_wp2_with (first | ((with_reducible refine gate_dst (N:=4) rfl ?_);refine box_event ?hg (N:=4) ?hd (cs:=#[.int .i32 a1_0,.string a1_1,.slice A1_2 l1_2.length c1_2,.slice A1_3 l1_3.length c1_3,.bool a1_4,.bool false]) (t:=73) ?hr ?_;(case hd => rfl);(case hg => rfl);(case hr => exact Gc5);intro gb428 hg w9 hbox hb;have n0_:=am (below_step (tB HB) hb);have n1_:=am (hbox);have n2_:=tZ hg (tS HB);have n3_:=tZ hg (tS HB);revert n0_ n1_ n2_ n3_;clear HB;intro HB BK428 GW428 GE428;clear hb hbox hg;have hcz10_0:=cel2 BK428 0 rfl;have hcz10_1:=cel2 BK428 1 rfl;have hcz10_2:=cel2 BK428 2 rfl;have hcz10_3:=cel2 BK428 3 rfl;have hcz10_4:=cel2 BK428 4 rfl;have hcz10_5:=cel2 BK428 5 rfl;have hfz10_0:=blk_frozen BK428.out 0;have hfz10_1:=blk_frozen BK428.out 1;have hfz10_2:=blk_frozen BK428.out 2;have hfz10_3:=blk_frozen BK428.out 3;have hfz10_4:=blk_frozen BK428.out 4;have hfz10_5:=blk_frozen BK428.out 5))
  go_loopg [7] k (fun kq v7 w' => ∃ (x7_1:Int),v7 = .int .i64 x7_1 ∧ Aside0 (Z0t.l0 kq l0 l2 x7_1 a1_0 a1_1 l1_2 l1_3 a1_4 false = some r) ∧ Aside0 (kq ≤ k) ∧ Aside0 (w'.heap[gb428]? = some (.cells #[.int .i32 a1_0,.string a1_1,(.slice A1_2 l1_2.length c1_2),(.slice A1_3 l1_3.length c1_3),.bool a1_4,.bool false] 73 (0,0))) ∧ Aside0 (Below w.heap.size w w'))
  case atStart => exact ⟨(0),tV1,H',⟨Nat.le_refl _⟩,⟨tK BK428⟩,⟨tB HB⟩⟩
  case round =>
   clear H';(try clear c4);(try clear hcz10_0);(try clear hcz10_1);(try clear hcz10_2);(try clear hcz10_3);(try clear hcz10_4);(try clear hcz10_5);(try clear hfz10_0);(try clear hfz10_1);(try clear hfz10_2);(try clear hfz10_3);(try clear hfz10_4);(try clear hfz10_5);obtain ⟨x7_1,rfl,HA,HK1,BK428,HB⟩:=hrel
   cases gk with
   | zero => exact absurd HA.out (by simp [Z0t.l0])
   | succ k1 =>
    have H:=HA.out;clear HA;simp only [Z0t.l0] at H
    replace H:=iF H;obtain ⟨c11,H⟩ | ⟨c11,H⟩:=H;rotate_left
    ·
     have c11b0:decide (x7_1 ≤ (l2.length:Int)) = false:=decide_eq_false c11;clear c11;obtain rfl:=Option.some.inj H;go_wp2;exact Za8
    have c11b0:decide (x7_1 ≤ (l2.length:Int)) = true:=decide_eq_true c11;clear c11;replace H:=iFn H;obtain ⟨c12,H⟩:=H;have c12b0:=eq_true c12;have c12b1:decide (0 ≤ x7_1) = true:=decide_eq_true c12;clear c12;have c13b0:=eq_true (oD:x7_1 ≤ (l2.length:Int));replace H:=bI H;obtain ⟨t431,A14,H⟩:=H;(try dsimp only at H)
    replace H:=iT H;obtain ⟨rfl,H⟩ | ⟨rfl,H⟩:=H
    ·
     obtain rfl:=Option.some.inj H;have mk1_:=trivial;exact Zbd
    ·
     have H':=am H;clear H;have mk0_:=trivial;exact Zbd
end Go.Proofs.YtfbhdjflkaldgaaGreatDoor.Pr
