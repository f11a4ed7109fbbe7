/- Several texts in one: PrF96, PrF91. -/
import Derived.Test.YtfbhdjflkaldgaaGreatDoorMg1
import Derived.Test.YtfbhdjflkaldgaaGreatDoorMg2
import Derived.Test.YtfbhdjflkaldgaaGreatDoorMg13
import Derived.Test.YtfbhdjflkaldgaaGreatDoorMg20
import Derived.Test.YtfbhdjflkaldgaaGreatDoorPrF99
import Derived.Test.YtfbhdjflkaldgaaGreatDoorMg3
import Derived.Test.YtfbhdjflkaldgaaGreatDoorWRepsOne

namespace Go.Proofs.YtfbhdjflkaldgaaGreatDoor.Pr
open Go.Proofs.YtfbhdjflkaldgaaGreatDoor.Ct Go.RowKit Go.Proofs.YtfbhdjflkaldgaaGreatDoorW.PrintWords Go.Proofs.YtfbhdjflkaldgaaGreatDoorW.PrintLast Go.Proofs.YtfbhdjflkaldgaaGreatDoorW.PrintMore
attribute [local go_sem] max2_int min2_int max_two min_two max_three min_three max_four min_four
set_option linter.unusedVariables false
set_option linter.unusedSimpArgs false
mutual
def Z05.j0:Nat → List (S68) → ByteArray → Bool → Int → ByteArray → List (S70) → List (S70) → Bool → Bool → Option (ByteArray × Int)
 | 0,_,_,_,_,_,_,_,_,_ => none
 | k + 1,x0,x2,x23,x456000,x456001,x456002,x456003,x456004,x456005 => if x23 = true then (some ((⟨#[]⟩:ByteArray),1)) else ((Z01.f k x0 x456000 x456001 x456002 x456003 x456004 x456005 x2).bind fun t458 => (if x2.size ≤ 70368744177664 then (Z05.l0 k t458 (Z0d x2) (⟨#[]⟩:ByteArray) 0 0 x456000 x456001 x456002 x456003 x456004 x456005) else (none)))
def Z05.l0:Nat → List Int → List Int → ByteArray → Int → Int → Int → ByteArray → List (S70) → List (S70) → Bool → Bool → Option (ByteArray × Int)
 | 0,_,_,_,_,_,_,_,_,_,_,_ => none
 | k + 1,x8,x9,x10,x11,x12,x456000,x456001,x456002,x456003,x456004,x456005 => if x12 ≤ (x9.length:Int) then (if x11 < (x8.length:Int) then (if 0 ≤ x11 then (Z05.j2 k x8 x9 x10 x11 x12 ((rd x8 x11) == x12) x456000 x456001 x456002 x456003 x456004 x456005) else (none)) else (Z05.j2 k x8 x9 x10 x11 x12 false x456000 x456001 x456002 x456003 x456004 x456005)) else (if x10.size ≤ 70368744177664 then (if ((Z0d x10).length:Int) > 40 then (some ((⟨#[]⟩:ByteArray),2)) else (some (x10,0))) else (none))
def Z05.j2:Nat → List Int → List Int → ByteArray → Int → Int → Bool → Int → ByteArray → List (S70) → List (S70) → Bool → Bool → Option (ByteArray × Int)
 | 0,_,_,_,_,_,_,_,_,_,_,_,_ => none
 | k + 1,x8,x9,x10,x11,x12,x13,x456000,x456001,x456002,x456003,x456004,x456005 => if x13 = true then (if x10.size + x456001.size ≤ 9223372036854775807 then (if x12 < (x9.length:Int) then (if x456000 = 0 then (if 0 ≤ x12 then (if (x10 ++ x456001).size + (Go.Utf8.encode (rd x9 x12)).size ≤ 9223372036854775807 then (Z05.l0 k x8 x9 ((x10 ++ x456001) ++ (Go.Utf8.encode (rd x9 x12))) (wrap64 (x11 + 1)) (wrap64 (x12 + 1)) x456000 x456001 x456002 x456003 x456004 x456005) else (none)) else (none)) else (Z05.l0 k x8 x9 (x10 ++ x456001) (wrap64 (x11 + 1)) (wrap64 (x12 + 1)) x456000 x456001 x456002 x456003 x456004 x456005)) else (Z05.l0 k x8 x9 (x10 ++ x456001) (wrap64 (x11 + 1)) (wrap64 (x12 + 1)) x456000 x456001 x456002 x456003 x456004 x456005)) else (none)) else (if x12 < (x9.length:Int) then (if 0 ≤ x12 then (if x10.size + (Go.Utf8.encode (rd x9 x12)).size ≤ 9223372036854775807 then (Z05.l0 k x8 x9 (x10 ++ (Go.Utf8.encode (rd x9 x12))) x11 (wrap64 (x12 + 1)) x456000 x456001 x456002 x456003 x456004 x456005) else (none)) else (none)) else (Z05.l0 k x8 x9 x10 x11 (wrap64 (x12 + 1)) x456000 x456001 x456002 x456003 x456004 x456005))
end
def Z05.f (k:Nat) (l0:List (S68)) (a1_0:Int) (a1_1:ByteArray) (l1_2:List (S70)) (l1_3:List (S70)) (a1_4:Bool) (a1_5:Bool) (a2:ByteArray):Option (ByteArray × Int):=(Z0s.f k l0 a1_0 a1_1 l1_2 l1_3 a1_4 a1_5).bind fun t456 => (if t456 = true then ((Z15.f l0 a2).bind fun t457 => (Z05.j0 k l0 a2 (!t457) a1_0 a1_1 l1_2 l1_3 a1_4 a1_5)) else (Z05.j0 k l0 a2 true a1_0 a1_1 l1_2 l1_3 a1_4 a1_5))
theorem Zgv {p:Prop} (h:p:=by
  clear c41;simp only [Option.some.injEq,Prod.mk.injEq] at H;obtain ⟨rfl,rfl⟩:=H;obtain ⟨z1_,z2_,z3_⟩:=Kd.R_slice HO_9.out;subst z3_
  go_wp2_with (first | ((with_reducible refine gate_dst (N:=76) rfl ?_);refine Z79 _ rfl (N:=76) rfl _ rfl x10_2 rfl (oD) (Below.refl _ _) (Nat.le_refl _) ?_;intro z4_ z5_ z6_ hb hg_ hnew_;clear hg_ hnew_;(first | rw [← Ny464.out] at z6_ | (simp only [Int.reduceToNat] at z6_;rw [← Ny464.out] at z6_));have z7_:=am (Kd.R_below (dR HO_8) hb);have z8_:=am (Kd.R_elder' (dR HO_9) (Kd.R_base z6_) hb);have z9_:=am (Kd.R_lower (Kd.R_new' z6_ (Kd.R_lt (dR HO_9))) (tS HB));have z10_:=am (blk_below (tK BK455) hb);have z11_:=am (below_step (tB HB) hb);revert z7_ z8_ z9_ z10_ z11_;clear HO_8 HO_9 BK455 HB;intro HO_8 HO_9 z12_ BK455 HB;clear hb z6_;obtain ⟨z13_,z14_,z15_⟩:=Kd.R_slice z12_.out;subst z15_))
  go_ret2
  exact ⟨tE,by repeat (first | (with_reducible first | exact HB.out | apply below_alloc | apply pw_below_drewN | apply below_drew1 | refine below_set ?_ GE455.out) | exact HB.out)⟩):p:=h
theorem Zgw {p:Prop} (h:p:=by
  have H':=am H;clear H;obtain ⟨z1_,z2_,z3_,z4_,z5_,z6_,z7_,z8_,z9_,z10_,z11_,z12_⟩:=bx6 BK455;go_wp2
  go_roundg kj21
  case measure => have:=HJ3.out;have:=HK2.out;have:=HJ21.out;omega
  case rel => exact ⟨(x10_2 ++ a1_1),(wrap64 (x11_2 + 1)),(wrap64 (x12_2 + 1)),tV1,tV1,tV1,H',⟨by have:=HJ3.out;have:=HK2.out;have:=HJ21.out;omega⟩,⟨dR HO_8⟩,⟨dR HO_9⟩,⟨tK BK455⟩,⟨tB HB⟩⟩):p:=h
theorem Zdg {p:Prop} (h:p:=by
  have z1_:0 ≤ (x12_2:Int):=oD;have z2_:x12_2 < (y461.length:Int):=oD;obtain ⟨z3_,z4_,z5_⟩:=Kd.at_int (Kd.R_reads' HO_9.out).2.2 x12_2 z1_ z2_;cases z4_;replace z1_:=eq_true z1_;replace z2_:=eq_true z2_;go_wp2
  go_roundg kj21
  case measure => have:=HJ3.out;have:=HK2.out;have:=HJ21.out;omega
  first
  | (have mk_:=mk0_
     case rel => exact ⟨((x10_2 ++ a1_1) ++ (Go.Utf8.encode (rd y461 x12_2))),(wrap64 (x11_2 + 1)),(wrap64 (x12_2 + 1)),tV1,tV1,tV1,H',⟨by have:=HJ3.out;have:=HK2.out;have:=HJ21.out;omega⟩,⟨dR HO_8⟩,⟨dR HO_9⟩,⟨tK BK455⟩,⟨tB HB⟩⟩)
  | (have mk_:=mk1_
     case rel => exact ⟨(x10_2 ++ (Go.Utf8.encode (rd y461 x12_2))),(x11_2),(wrap64 (x12_2 + 1)),tV1,tV1,tV1,H',⟨by have:=HJ3.out;have:=HK2.out;have:=HJ21.out;omega⟩,⟨dR HO_8⟩,⟨dR HO_9⟩,⟨tK BK455⟩,⟨tB HB⟩⟩)):p:=h
set_option maxHeartbeats 8000000 in
set_option maxRecDepth 100000 in
theorem Z05.calls (k:Nat) (A0:Option Addr) (c0:Nat) (l0:List (S68)) (a1_0:Int) (a1_1:ByteArray) (A1_2:Option Addr) (c1_2:Nat) (l1_2:List (S70)) (A1_3:Option Addr) (c1_3:Nat) (l1_3:List (S70)) (a1_4:Bool) (a1_5:Bool) (a2:ByteArray) (r1:ByteArray) (r2:Int) (w:World) (hT:Tabs w) (hr0:Kd.C k68 w A0 l0.length l0) (hc0:l0.length ≤ c0) (hr1_2:Kd.C k70 w A1_2 l1_2.length l1_2) (hc1_2:l1_2.length ≤ c1_2) (hr1_3:Kd.C k70 w A1_3 l1_3.length l1_3) (hc1_3:l1_3.length ≤ c1_3) (h:Z05.f k l0 a1_0 a1_1 l1_2 l1_3 a1_4 a1_5 a2 = some (r1,r2)) :
 Calls Tryz.prog 96 #[.slice A0 l0.length c0,.agg #[.int .i32 a1_0,.string a1_1,.slice A1_2 l1_2.length c1_2,.slice A1_3 l1_3.length c1_3,.bool a1_4,.bool a1_5],.string a2] w fun e w' => e = .returned (.tuple #[.string r1,.int .i64 r2]) ∧ Below w.heap.size w w':=by
 have HT:=am hT;clear hT;have hu73:=Tryz.underlying73;have HR0:=am hr0;have HC0:=am hc0;clear hr0 hc0;have HR1_2:=am hr1_2;have HC1_2:=am hc1_2;clear hr1_2 hc1_2;have HR1_3:=am hr1_3;have HC1_3:=am hc1_3;clear hr1_3 hc1_3;have HB:=am (Below.refl w.heap.size w);have H:((Z0s.f k l0 a1_0 a1_1 l1_2 l1_3 a1_4 a1_5).bind fun t456 => (if t456 = true then ((Z15.f l0 a2).bind fun t457 => (Z05.j0 k l0 a2 (!t457) a1_0 a1_1 l1_2 l1_3 a1_4 a1_5)) else (Z05.j0 k l0 a2 true a1_0 a1_1 l1_2 l1_3 a1_4 a1_5))) = some (r1,r2):=h;clear h;have HC4:=am H;clear H;go_enter Tryz.func96,Tryz.ntmps96
 go_upto_region 1 with (first | ((with_reducible refine gate_dst (N:=4) rfl ?_);refine box_event ?hg (N:=4) ?hd (cs:=#[.int .i32 a1_0,.string a1_1,.slice A1_2 l1_2.length c1_2,.slice A1_3 l1_3.length c1_3,.bool a1_4,.bool a1_5]) (t:=73) ?hr ?_;(case hd => rfl);(case hg => rfl);(case hr => exact Gc5);intro gb455 hg w5 hbox hb;have n0_:=am (below_step (tB HB) hb);have n1_:=am (hbox);have n2_:=tZ hg (tS HB);have n3_:=tZ hg (tS HB);revert n0_ n1_ n2_ n3_;clear HB;intro HB BK455 GW455 GE455;clear hb hbox hg))
 (try simp only [Act.put,List.setIfInBounds_toArray,List.set_cons_zero,List.set_cons_succ])
 go_cut [23] (fun v23 wc => ∃ (kq:Nat) (x23_3:Bool),v23 = .bool x23_3 ∧ Aside0 (Z05.j0 kq l0 a2 x23_3 a1_0 a1_1 l1_2 l1_3 a1_4 a1_5 = some (r1,r2)) ∧ Aside0 (kq ≤ k) ∧ Aside0 (wc.heap[gb455]? = some (.cells #[.int .i32 a1_0,.string a1_1,(.slice A1_2 l1_2.length c1_2),(.slice A1_3 l1_3.length c1_3),.bool a1_4,.bool a1_5] 73 (0,0))) ∧ Aside0 (Below w.heap.size w wc))
 case first =>
  have H:=HC4.out;clear HC4;replace H:=bI H;obtain ⟨t456,A6,H⟩:=H;(try dsimp only at H)
  replace H:=iT H;obtain ⟨rfl,H⟩ | ⟨rfl,H⟩:=H
  ·
   replace H:=bI H;obtain ⟨t457,A8,H⟩:=H;(try dsimp only at H);have H':=am H;clear H;obtain ⟨hcz9_0,hcz9_1,hcz9_2,hcz9_3,hcz9_4,hcz9_5,hfz9_0,hfz9_1,hfz9_2,hfz9_3,hfz9_4,hfz9_5⟩:=bx6 BK455
   go_wp2_with (first | ((with_reducible refine gate_callee (f:=61) rfl ?_);refine goesL_ (some 16) rfl rfl Tryz.func61 (by kernel_rfl) rfl #[.slice A0 l0.length c0,.agg #[.int .i32 a1_0,.string a1_1,.slice A1_2 l1_2.length c1_2,.slice A1_3 l1_3.length c1_3,.bool a1_4,.bool a1_5]] rfl Gc2 ?_;(with_reducible refine (Z0s.calls k _ _ l0 a1_0 a1_1 _ _ l1_2 _ _ l1_3 a1_4 a1_5 true _ ?sT (tC HR0 HB) HC0.out (tC HR1_2 HB) HC1_2.out (tC HR1_3 HB) HC1_3.out A6.out).mono ?_);(case sT => exact Gc1);rintro e w10 ⟨rfl,hb⟩;refine ⟨_,rfl,?_⟩;have n0_:=am (blk_below (tK BK455) hb);have n1_:=am (below_step (tB HB) hb);revert n0_ n1_;clear BK455 HB;intro BK455 HB;(try clear hb);(try clear hb2);(try clear hk);(try clear hi)) | (go_at_call 82;(with_reducible refine (Z15.calls _ _ l0 a2 t457 _ ?sT (tC HR0 HB) HC0.out A8.out).mono ?_);(case sT => exact Gc1);rintro e w11 ⟨rfl,hb⟩;have n0_:=am (blk_below (tK BK455) hb);have n1_:=am (below_step (tB HB) hb);revert n0_ n1_;clear BK455 HB;intro BK455 HB;(try clear hb);(try clear hb2);(try clear hk);(try clear hi)))
   go_meet
   case rel => exact ⟨_,(!t457),tV1,H',⟨tU⟩,⟨tK BK455⟩,⟨tB HB⟩⟩
  ·
   have H':=am H;clear H;obtain ⟨hcz12_0,hcz12_1,hcz12_2,hcz12_3,hcz12_4,hcz12_5,hfz12_0,hfz12_1,hfz12_2,hfz12_3,hfz12_4,hfz12_5⟩:=bx6 BK455
   go_wp2_with (first | ((with_reducible refine gate_callee (f:=61) rfl ?_);refine goesL_ (some 16) rfl rfl Tryz.func61 (by kernel_rfl) rfl #[.slice A0 l0.length c0,.agg #[.int .i32 a1_0,.string a1_1,.slice A1_2 l1_2.length c1_2,.slice A1_3 l1_3.length c1_3,.bool a1_4,.bool a1_5]] rfl Gc2 ?_;(with_reducible refine (Z0s.calls k _ _ l0 a1_0 a1_1 _ _ l1_2 _ _ l1_3 a1_4 a1_5 false _ ?sT (tC HR0 HB) HC0.out (tC HR1_2 HB) HC1_2.out (tC HR1_3 HB) HC1_3.out A6.out).mono ?_);(case sT => exact Gc1);rintro e w13 ⟨rfl,hb⟩;refine ⟨_,rfl,?_⟩;have n0_:=am (blk_below (tK BK455) hb);have n1_:=am (below_step (tB HB) hb);revert n0_ n1_;clear BK455 HB;intro BK455 HB;(try clear hb);(try clear hb2);(try clear hk);(try clear hi)))
   go_meet
   case rel => exact ⟨_,(true),tV1,H',⟨tU⟩,⟨tK BK455⟩,⟨tB HB⟩⟩
 case rest =>
  clear HC4;obtain ⟨kq,x23_3,rfl,HA,HJ3,BK455,HB⟩:=hcut
  cases kq with
  | zero => exact absurd HA.out (by simp [Z05.j0])
  | succ kj3 =>
   have H:=HA.out;clear HA;simp only [Z05.j0] at H
   replace H:=iT H;obtain ⟨rfl,H⟩ | ⟨rfl,H⟩:=H
   ·
    simp only [Option.some.injEq,Prod.mk.injEq] at H;obtain ⟨rfl,rfl⟩:=H;go_wp2;go_ret2;exact ⟨tE,by repeat (first | (with_reducible first | exact HB.out | apply below_alloc | apply pw_below_drewN | apply below_drew1 | refine below_set ?_ GE455.out) | exact HB.out)⟩
   ·
    replace H:=bI H;obtain ⟨t458,A15,H⟩:=H;(try dsimp only at H);replace H:=iFn H;obtain ⟨c16,H⟩:=H;have c16b0:=eq_true c16;have c16b1:decide (a2.size ≤ 70368744177664) = true:=decide_eq_true c16;clear c16;obtain ⟨y461,hy461⟩:∃ y_:List Int,y_ = (Z0d a2):=⟨_,rfl⟩
    replace H:(Z05.l0 kj3 t458 y461 (⟨#[]⟩:ByteArray) 0 0 a1_0 a1_1 l1_2 l1_3 a1_4 a1_5) = some (r1,r2):=by first | (rw [hy461];with_reducible exact H) | (have H2_:=(Option.bind_some _ _).symm.trans H;rw [hy461];with_reducible exact H2_) | (have H2_:=(Option.bind_some _ _).symm.trans H;with_reducible exact H2_) | with_reducible exact H | (rw [hy461];exact H) | exact H
    have Ny461:=am hy461;clear hy461;have H':=am H;clear H;obtain ⟨hcz17_0,hcz17_1,hcz17_2,hcz17_3,hcz17_4,hcz17_5,hfz17_0,hfz17_1,hfz17_2,hfz17_3,hfz17_4,hfz17_5⟩:=bx6 BK455
    go_wp2_with (first | ((with_reducible refine gate_callee (f:=99) rfl ?_);refine goesL_ (some 27) rfl rfl Tryz.func99 (by kernel_rfl) rfl #[.slice A0 l0.length c0,.agg #[.int .i32 a1_0,.string a1_1,.slice A1_2 l1_2.length c1_2,.slice A1_3 l1_3.length c1_3,.bool a1_4,.bool a1_5],.string a2] rfl Gc2 ?_;(with_reducible refine (Z01.calls kj3 _ _ l0 a1_0 a1_1 _ _ l1_2 _ _ l1_3 a1_4 a1_5 a2 t458 _ ?sT (tC HR0 HB) HC0.out (tC HR1_2 HB) HC1_2.out (tC HR1_3 HB) HC1_3.out A15.out).mono ?_);(case sT => exact Gc1);rintro e w18 ⟨v459,rfl,ho0,hb⟩;refine ⟨_,rfl,?_⟩;have n0_:=am (Kd.R_lower ho0 (tS HB));have n1_:=am (blk_below (tK BK455) hb);have n2_:=am (below_step (tB HB) hb);revert n0_ n1_ n2_;clear BK455 HB;intro HO460 BK455 HB;(try clear hb);(try clear hb2);(try clear hk);(try clear hi);(try clear ho0)) | ((with_reducible refine gate_dst (N:=29) rfl ?_);refine Z79 _ rfl (N:=29) rfl _ rfl a2 rfl (oD) (Below.refl _ _) (Nat.le_refl _) ?_;intro v462 w19 ho20 hb hg_ hnew_;clear hg_ hnew_;(first | rw [← Ny461.out] at ho20 | (simp only [Int.reduceToNat] at ho20;rw [← Ny461.out] at ho20));have n0_:=am (Kd.R_below (dR HO460) hb);have n1_:=am (Kd.R_lower ho20 (tS HB));have n2_:=am (blk_below (tK BK455) hb);have n3_:=am (below_step (tB HB) hb);revert n0_ n1_ n2_ n3_;clear HO460 BK455 HB;intro HO460 HO463 BK455 HB;clear hb ho20))
    go_loopg [10,11,12] kj3 (fun kq v10 v11 v12 w' => ∃ (x10_2:ByteArray) (x11_2:Int) (x12_2:Int),v10 = .string x10_2 ∧ v11 = .int .i64 x11_2 ∧ v12 = .int .i64 x12_2 ∧ Aside0 (Z05.l0 kq t458 y461 x10_2 x11_2 x12_2 a1_0 a1_1 l1_2 l1_3 a1_4 a1_5 = some (r1,r2)) ∧ Aside0 (kq ≤ kj3) ∧ Aside0 (Kd.R (Kd.int .i64) 3 w' w.heap.size (fun _ => True) v459 t458) ∧ Aside0 (Kd.R (Kd.int .i32) 21 w' w.heap.size (fun _ => True) v462 y461) ∧ Aside0 (w'.heap[gb455]? = some (.cells #[.int .i32 a1_0,.string a1_1,(.slice A1_2 l1_2.length c1_2),(.slice A1_3 l1_3.length c1_3),.bool a1_4,.bool a1_5] 73 (0,0))) ∧ Aside0 (Below w.heap.size w w'))
    case atStart => exact ⟨((⟨#[]⟩:ByteArray)),(0),(0),tV1,tV1,tV1,H',⟨Nat.le_refl _⟩,⟨dR HO460⟩,⟨dR HO463⟩,⟨tK BK455⟩,⟨tB HB⟩⟩
    case round =>
     clear H';(try clear c14);(try clear c16);(try clear c16b0);(try clear c16b1);(try clear hcz17_0);(try clear hcz17_1);(try clear hcz17_2);(try clear hcz17_3);(try clear hcz17_4);(try clear hcz17_5);(try clear hfz17_0);(try clear hfz17_1);(try clear hfz17_2);(try clear hfz17_3);(try clear hfz17_4);(try clear hfz17_5);obtain ⟨x10_2,x11_2,x12_2,rfl,rfl,rfl,HA,HK2,HO_8,HO_9,BK455,HB⟩:=hrel
     cases gk with
     | zero => exact absurd HA.out (by simp [Z05.l0])
     | succ k2 =>
      have H:=HA.out;clear HA;simp only [Z05.l0] at H
      replace H:=iF H;obtain ⟨c21,H⟩ | ⟨c21,H⟩:=H
      ·
       have c21b0:decide (x12_2 ≤ (y461.length:Int)) = true:=decide_eq_true c21;clear c21;have HC22:=am H;clear H;obtain ⟨Ao23,co23,eo23⟩:=Kd.R_slice HO_9.out;subst eo23
       go_upto_region 10 with (fail)
       go_cut [13] (fun v13 wc => ∃ (kq:Nat) (x13_21:Bool),v13 = .bool x13_21 ∧ Aside0 (Z05.j2 kq t458 y461 x10_2 x11_2 x12_2 x13_21 a1_0 a1_1 l1_2 l1_3 a1_4 a1_5 = some (r1,r2)) ∧ Aside0 (kq ≤ k2) ∧ Aside0 (Kd.R (Kd.int .i64) 3 wc w.heap.size (fun _ => True) v459 t458) ∧ Aside0 (Kd.R (Kd.int .i32) 21 wc w.heap.size (fun _ => True) (.slice Ao23 y461.length co23) y461) ∧ Aside0 (wc.heap[gb455]? = some (.cells #[.int .i32 a1_0,.string a1_1,(.slice A1_2 l1_2.length c1_2),(.slice A1_3 l1_3.length c1_3),.bool a1_4,.bool a1_5] 73 (0,0))) ∧ Aside0 (Below w.heap.size w wc))
       case first =>
        have H:=HC22.out;clear HC22
        replace H:=iF H;obtain ⟨c24,H⟩ | ⟨c24,H⟩:=H
        ·
         have c24b0:decide (x11_2 < (t458.length:Int)) = true:=decide_eq_true c24;clear c24
         (first | rw [c24b0] | (simp only [i64_w,i32_w];rw [c24b0]) | skip)
         replace H:=iFn H;obtain ⟨c25,H⟩:=H;have c25b0:decide (0 ≤ x11_2) = true:=decide_eq_true c25;clear c25;have H':=am H;clear H;obtain ⟨Ao26,co26,eo26⟩:=Kd.R_slice HO_8.out;subst eo26;have p467:0 ≤ (x11_2:Int):=oD;have q467:x11_2 < (t458.length:Int):=oD;obtain ⟨ad467,e467,hx467_0⟩:=Kd.at_int (Kd.R_reads' HO_8.out).2.2 x11_2 p467 q467;cases e467;replace p467:=eq_true p467;replace q467:=eq_true q467;go_wp2
         go_meet
         case rel => exact ⟨_,(((rd t458 x11_2) == x12_2)),tV1,H',⟨by have:=HJ3.out;have:=HK2.out;first | omega | exact Nat.le_refl _⟩,⟨dR HO_8⟩,⟨dR HO_9⟩,⟨tK BK455⟩,⟨tB HB⟩⟩
        ·
         have c24b0:decide (x11_2 < (t458.length:Int)) = false:=decide_eq_false c24;clear c24
         (first | rw [c24b0] | (simp only [i64_w,i32_w];rw [c24b0]) | skip)
         have H':=am H;clear H;obtain ⟨Ao27,co27,eo27⟩:=Kd.R_slice HO_8.out;subst eo27;go_wp2
         go_meet
         case rel => exact ⟨_,(false),tV1,H',⟨by have:=HJ3.out;have:=HK2.out;first | omega | exact Nat.le_refl _⟩,⟨dR HO_8⟩,⟨dR HO_9⟩,⟨tK BK455⟩,⟨tB HB⟩⟩
       case rest =>
        clear HC22;(try clear c14);(try clear c16);(try clear c16b0);(try clear c16b1);(try clear c21);(try clear c21b0);(try clear hcz17_0);(try clear hcz17_1);(try clear hcz17_2);(try clear hcz17_3);(try clear hcz17_4);(try clear hcz17_5);(try clear hfz17_0);(try clear hfz17_1);(try clear hfz17_2);(try clear hfz17_3);(try clear hfz17_4);(try clear hfz17_5);obtain ⟨kq,x13_21,rfl,HA,HJ21,HO_8,HO_9,BK455,HB⟩:=hcut
        cases kq with
        | zero => exact absurd HA.out (by simp [Z05.j2])
        | succ kj21 =>
         have H:=HA.out;clear HA;simp only [Z05.j2] at H
         replace H:=iT H;obtain ⟨rfl,H⟩ | ⟨rfl,H⟩:=H
         ·
          replace H:=iFn H;obtain ⟨c29,H⟩:=H;have c29b0:=eq_true c29;have c29b1:decide (x10_2.size + a1_1.size ≤ 9223372036854775807) = true:=decide_eq_true c29
          try have c29b2:(9223372036854775807 < x10_2.size + a1_1.size) = False:=eq_false (Nat.not_lt.2 c29)
          replace H:=iF H;obtain ⟨c30,H⟩ | ⟨c30,H⟩:=H
          ·
           have c30b0:decide (x12_2 < (y461.length:Int)) = true:=decide_eq_true c30;clear c30
           replace H:=iE H;obtain ⟨-,c31b0,c31b1,H⟩ | ⟨c31,c31b0,c31b1,H⟩:=H
           ·
            replace H:=iFn H;obtain ⟨c32,H⟩:=H;have c32b0:decide (0 ≤ x12_2) = true:=decide_eq_true c32;clear c32;replace H:=iFn H;obtain ⟨c33,H⟩:=H;have c33b0:=eq_true c33;have c33b1:decide ((x10_2 ++ a1_1).size + (Go.Utf8.encode (rd y461 x12_2)).size ≤ 9223372036854775807) = true:=decide_eq_true c33
            try have c33b2:(9223372036854775807 < (x10_2 ++ a1_1).size + (Go.Utf8.encode (rd y461 x12_2)).size) = False:=eq_false (Nat.not_lt.2 c33)
            have H':=am H;clear H;obtain ⟨hcz34_0,hcz34_1,hcz34_2,hcz34_3,hcz34_4,hcz34_5,hfz34_0,hfz34_1,hfz34_2,hfz34_3,hfz34_4,hfz34_5⟩:=bx6 BK455;have mk0_:=trivial;exact Zdg
           ·
            exact Zgw
          ·
           have c30b0:decide (x12_2 < (y461.length:Int)) = false:=decide_eq_false c30;clear c30;exact Zgw
         ·
          replace H:=iF H;obtain ⟨c37,H⟩ | ⟨c37,H⟩:=H
          ·
           have c37b0:decide (x12_2 < (y461.length:Int)) = true:=decide_eq_true c37;clear c37;replace H:=iFn H;obtain ⟨c38,H⟩:=H;have c38b0:decide (0 ≤ x12_2) = true:=decide_eq_true c38;clear c38;replace H:=iFn H;obtain ⟨c39,H⟩:=H;have c39b0:=eq_true c39;have c39b1:decide (x10_2.size + (Go.Utf8.encode (rd y461 x12_2)).size ≤ 9223372036854775807) = true:=decide_eq_true c39
           try have c39b2:(9223372036854775807 < x10_2.size + (Go.Utf8.encode (rd y461 x12_2)).size) = False:=eq_false (Nat.not_lt.2 c39)
           have H':=am H;clear H;have mk1_:=trivial;exact Zdg
          ·
           have c37b0:decide (x12_2 < (y461.length:Int)) = false:=decide_eq_false c37;clear c37;have H':=am H;clear H;go_wp2
           go_roundg kj21
           case measure => have:=HJ3.out;have:=HK2.out;have:=HJ21.out;omega
           case rel => exact ⟨(x10_2),(x11_2),(wrap64 (x12_2 + 1)),tV1,tV1,tV1,H',⟨by have:=HJ3.out;have:=HK2.out;have:=HJ21.out;omega⟩,⟨dR HO_8⟩,⟨dR HO_9⟩,⟨tK BK455⟩,⟨tB HB⟩⟩
      ·
       have c21b0:decide (x12_2 ≤ (y461.length:Int)) = false:=decide_eq_false c21;clear c21;replace H:=iFn H;obtain ⟨c40,H⟩:=H;have c40b0:=eq_true c40;have c40b1:decide (x10_2.size ≤ 70368744177664) = true:=decide_eq_true c40;clear c40;obtain ⟨y464,hy464⟩:∃ y_:List Int,y_ = (Z0d x10_2):=⟨_,rfl⟩
       replace H:(if (y464.length:Int) > 40 then (some ((⟨#[]⟩:ByteArray),2)) else (some (x10_2,0))) = some (r1,r2):=by first | (rw [hy464];with_reducible exact H) | (have H2_:=(Option.bind_some _ _).symm.trans H;rw [hy464];with_reducible exact H2_) | (have H2_:=(Option.bind_some _ _).symm.trans H;with_reducible exact H2_) | with_reducible exact H | (rw [hy464];exact H) | exact H
       have Ny464:=am hy464;clear hy464
       replace H:=iF H;obtain ⟨c41,H⟩ | ⟨c41,H⟩:=H
       ·
        have c41b0:decide (40 < (y464.length:Int)) = true:=decide_eq_true c41;have c41b1:decide (40 < y464.length) = true:=decide_eq_true (by omega);exact Zgv
       ·
        have c41b0:decide (40 < (y464.length:Int)) = false:=decide_eq_false c41;have c41b1:decide (40 < y464.length) = false:=decide_eq_false (by omega);exact Zgv
def Z0j.l0:Nat → List (S68) → List (S73) → List ByteArray → Int → Option (List ByteArray × Int)
 | 0,_,_,_,_ => none
 | k + 1,x0,x1,x8,x9 => if x9 < (x1.length:Int) then (if 0 ≤ x9 then (if x9 < (x8.length:Int) then ((Z05.f k x0 ((Z03 x1 x9).f0) ((Z03 x1 x9).f1) ((Z03 x1 x9).f2) ((Z03 x1 x9).f3) ((Z03 x1 x9).f4) ((Z03 x1 x9).f5) (rdOf ByteArray.empty x8 x9)).bind fun bt476 => (if bt476.2 = 0 then (if x8.length < 8796093022208 then (Z0j.l0 k x0 x1 (x8 ++ [bt476.1]) (wrap64 (x9 + 1))) else (none)) else (some (([]:List ByteArray),bt476.2)))) else (none)) else (none)) else (some (x8,0))
def Z0j.f (k:Nat) (l0:List (S68)) (l1:List (S73)) (a2:ByteArray):Option (List ByteArray × Int):=(Z14.f k l0 l1 a2).bind fun t470 => (if t470 = true then (Z0j.l0 k l0 l1 (([a2]:List ByteArray)) 0) else (some (([]:List ByteArray),1)))
def Z0j.T7:Bool × List (List Nat × List Nat):=(true,[([],[]),([],[]),([],[]),([1,2],[1,2]),([3],[3]),([],[]),([],[]),([5,6],[5,6]),([7],[7]),([0,4,8],[0,4,8]),([9],[9]),([10],[10]),([10],[10]),([11,9,0,1,2,3,4,5,6,7,8,9,10,11],[11]),([12,13,0,1,2,3,4,5,6,7,8,9,10,11,12,13],[12])])
def Z0j.B7:List Nat:=[0,0,0,6,14,0,0,96,224,511,1023,2047,2047,4095,16383]
theorem Z0j.tab7:rtab .any (opsOf Tryz.f91 7) = Z0j.T7:=by kernel_rfl
theorem Z0j.bits7:waitsOk Z0j.T7.2 Z0j.B7 = true:=by kernel_rfl
theorem Zgx {p:Prop} (h:p:=by
  go_ret2
  exact ⟨_,tE,by first | exact Kd.R_nil _ _ _ _ _ | exact Kd.N_nil _ _ _ _ _ | exact Kd.V_nil _ _ _ _ _ | exact Kd.Q_nil _ _ _ _ _ | exact Kd.S_nil _ _ _ _ _,by repeat (first | (with_reducible first | exact HB.out | apply below_alloc | apply pw_below_drewN | apply below_drew1) | exact HB.out)⟩):p:=h
set_option maxRecDepth 1000000 in
theorem Zdh {p:Prop} (h:p:=by
  try go_wp2
  have z1_:=am (Kd.R_drew HO_8.out);have z2_:=am (below_drew1 HB.out);revert z1_ z2_;clear HO_8 HB;intro HO_8 HB;have z3_:0 ≤ (x9_1:Int):=oD;have z4_:x9_1 < (l1.length:Int):=oD;obtain ⟨z5_,z6_,z7_,z8_,z9_,z10_,z11_,z12_,z13_,z14_,z15_,z16_,z17_,z18_,z19_,z20_⟩:=Zat HR1.out x9_1 z3_ z4_;have z21_:=z16_;have z22_:=z15_;have z23_:=z14_;have z24_:=z13_;have z25_:=z12_;have z26_:=z11_;cases z10_;replace z11_:=celB HB z11_;replace z12_:=celB HB z12_;replace z13_:=celB HB z13_;replace z14_:=celB HB z14_;replace z15_:=celB HB z15_;replace z16_:=celB HB z16_;have z27_:=am z18_;have z28_:=am z17_;clear z18_ z17_;have z29_:=am z20_;have z30_:=am z19_;clear z20_ z19_;replace z3_:=eq_true z3_;replace z4_:=eq_true z4_;obtain ⟨z31_,z32_,z33_⟩:=Kd.R_slice HO_8.out
  (first | subst z33_ | (injection z33_ with f1_ f2_ f3_;have z34_:=f1_.symm;have z35_:=f3_.symm;clear f1_ f2_ f3_;subst z34_;subst z35_))
  have z36_:0 ≤ (x9_1:Int):=oD;have z37_:x9_1 < (x8_1.length:Int):=oD;obtain ⟨z38_,z39_,z40_⟩:=Kd.at_string (Kd.R_reads' HO_8.out).2.2 x9_1 z36_ z37_;cases z39_;replace z36_:=eq_true z36_;replace z37_:=eq_true z37_
  refine start_ (n:=15) (S:=fun w' => w'.cell? (z5_.add ((x9_1).toNat * 6)) = some (.int .i32 ((Z03 l1 x9_1).f0)) ∧ w'.cell? ⟨(z5_.add ((x9_1).toNat * 6)).block,(z5_.add ((x9_1).toNat * 6)).off + 1,none⟩ = some (.string ((Z03 l1 x9_1).f1)) ∧ w'.cell? ⟨(z5_.add ((x9_1).toNat * 6)).block,(z5_.add ((x9_1).toNat * 6)).off + 2,none⟩ = some (.slice z6_ ((Z03 l1 x9_1).f2).length z7_) ∧ w'.cell? ⟨(z5_.add ((x9_1).toNat * 6)).block,(z5_.add ((x9_1).toNat * 6)).off + 3,none⟩ = some (.slice z8_ ((Z03 l1 x9_1).f3).length z9_) ∧ w'.cell? ⟨(z5_.add ((x9_1).toNat * 6)).block,(z5_.add ((x9_1).toNat * 6)).off + 4,none⟩ = some (.bool ((Z03 l1 x9_1).f4)) ∧ w'.cell? ⟨(z5_.add ((x9_1).toNat * 6)).block,(z5_.add ((x9_1).toNat * 6)).off + 5,none⟩ = some (.bool ((Z03 l1 x9_1).f5)) ∧ w'.cell? (z38_.add (x9_1).toNat) = some (.string (rdOf ByteArray.empty x8_1 x9_1))) (ds:=[]) #[false,false,false,false,false,false,false,false,false,false,false,false,false,false,false] (by kernel_rfl) rfl rfl ⟨((HB.out.cell (World.block_lt_of_cell? w _ z26_)).trans z26_),((HB.out.cell (World.block_lt_of_cell? w _ z25_)).trans z25_),((HB.out.cell (World.block_lt_of_cell? w _ z24_)).trans z24_),((HB.out.cell (World.block_lt_of_cell? w _ z23_)).trans z23_),((HB.out.cell (World.block_lt_of_cell? w _ z22_)).trans z22_),((HB.out.cell (World.block_lt_of_cell? w _ z21_)).trans z21_),z40_⟩ (fun hHeld => ?_);refine with_tabW Z0j.tab7 Z0j.bits7 (fun HT_ HW_ => ?_)
  generalize wr.drew = z41_ at HO_8 HB z27_ z29_ z11_ z12_ z13_ z14_ z15_ z16_ z40_ hHeld ⊢
  refine pT 0 26 ?_
  refine pT 1 27 ?_
  refine pT 2 28 ?_
  refine pT 3 29 ?_
  refine pT 5 31 ?_
  refine pT 6 32 ?_
  refine pT 7 33 ?_
  refine tTt 4 30 hHeld ?_
  refine tTt 8 34 hHeld ?_
  refine one_ (i:=9) (N:=some 35) #[true,true,true,true,true,true,true,true,true,true,false,false,false,false,false] rfl rfl (one_of HT_.out (by kernel_rfl)) (by decide) (fun K hK => ?_)
  refine goes_ Tryz.func96 (by kernel_rfl) rfl #[.slice A0 l0.length c0,.agg #[.int .i32 ((Z03 l1 x9_1).f0),.string ((Z03 l1 x9_1).f1),.slice z6_ ((Z03 l1 x9_1).f2).length z7_,.slice z8_ ((Z03 l1 x9_1).f3).length z9_,.bool ((Z03 l1 x9_1).f4),.bool ((Z03 l1 x9_1).f5)],.string (rdOf ByteArray.empty x8_1 x9_1)] (by rfl) rfl rfl Gc2 ?_
  with_reducible refine (Z05.calls k1 _ _ l0 ((Z03 l1 x9_1).f0) ((Z03 l1 x9_1).f1) _ _ ((Z03 l1 x9_1).f2) _ _ ((Z03 l1 x9_1).f3) ((Z03 l1 x9_1).f4) ((Z03 l1 x9_1).f5) (rdOf ByteArray.empty x8_1 x9_1) t476 t477 _ ?sT (tC HR0 HB) HC0.out ?s3 ?s4 ?s5 ?s6 A12.out).mono ?_
  (case sT => exact Gc1);(case s3 => exact tC z27_ HB);(case s4 => exact z28_.out);(case s5 => exact tC z29_ HB);(case s6 => exact z30_.out);rintro e z42_ ⟨rfl,hb⟩;have z43_:=(hb.cell (World.block_lt_of_cell? _ _ (hHeld.2.2.2.2.2.2))).trans (hHeld.2.2.2.2.2.2)
  refine ⟨_,rfl,?_⟩
  have z1_:=am (Kd.R_below (dR HO_8) hb);have z2_:=am (below_step (tB HB) hb);revert z1_ z2_;clear HO_8 HB;intro HO_8 HB
  (try clear hb);(try clear hk)
  refine hK.out _ _ ⟨((HB.out.cell (World.block_lt_of_cell? w _ z26_)).trans z26_),((HB.out.cell (World.block_lt_of_cell? w _ z25_)).trans z25_),((HB.out.cell (World.block_lt_of_cell? w _ z24_)).trans z24_),((HB.out.cell (World.block_lt_of_cell? w _ z23_)).trans z23_),((HB.out.cell (World.block_lt_of_cell? w _ z22_)).trans z22_),((HB.out.cell (World.block_lt_of_cell? w _ z21_)).trans z21_),z43_⟩ (fun hHeld => ?_)
  clear hK K
  refine nR 35 ?_
  refine pT 10 25 ?_
  refine pT 11 36 ?_
  refine pT 12 37 ?_
  refine pT 13 10 ?_
  refine pT 14 11 ?_
  refine done_ (done_of HT_.out (by kernel_rfl)) ?_
  first
  | (have mk_:=mk0_
     try go_wp2_with (first | ((with_reducible refine gate_builtin (b:=.append) (xs:=#[.tmp 41,.tmp 43]) rfl ?_);at_builtin;refine Kd.R_append Kd.string (w0:=w) w.heap.size rfl (.tmp 41) (.tmp 43) 31 9 (.string ⟨#[]⟩) 16 rfl Tryz.underlying31 Z95 rfl (by decide) (by omega) (.slice (some z38_) x8_1.length z32_) x8_1 t476 [.string t476] (fun _ => True) (fun _ => False) rfl rfl ?aP (fun _ hk => hk.elim) ?aF ?aO ?aB ?aS ?aL ?_;(case aP => exact rfl);(case aB => exact (tB HB));(case aF => exact Gc25);(case aO => exact (dR HO_8));(case aS => exact (tS HB));(case aL => have:=LMc14.out;omega);intro z44_ z45_ ho hb hg hat;rw [← Ny478.out] at ho;have z1_:=am (hb);have z2_:=am (ho);revert z1_ z2_;clear HB HO_8;intro HB z46_;clear ho hb hg hat))
     go_roundg k1
     case measure => have:=HK1.out;omega
     case rel => exact ⟨(y478),(wrap64 (x9_1 + 1)),tV1,H',⟨by have:=HK1.out;omega⟩,⟨dR z46_⟩,⟨tB HB⟩⟩)
  | (have mk_:=mk1_
     try go_wp2
     exact Zgx)):p:=h
set_option maxHeartbeats 8000000 in
set_option maxRecDepth 100000 in
theorem Z0j.calls (k:Nat) (A0:Option Addr) (c0:Nat) (l0:List (S68)) (A1:Option Addr) (c1:Nat) (l1:List (S73)) (a2:ByteArray) (r1:List ByteArray) (r2:Int) (w:World) (hT:Tabs w) (hr0:Kd.C k68 w A0 l0.length l0) (hc0:l0.length ≤ c0) (hr1:Kd.C k73 w A1 l1.length l1) (hc1:l1.length ≤ c1) (h:Z0j.f k l0 l1 a2 = some (r1,r2)) :
 Calls Tryz.prog 91 #[.slice A0 l0.length c0,.slice A1 l1.length c1,.string a2] w fun e w' => ∃ v0_:Value,e = .returned (.tuple #[v0_,.int .i64 r2]) ∧ Kd.R Kd.string 9 w' w.heap.size (fun _ => True) v0_ r1 ∧ Below w.heap.size w w':=by
 have HT:=am hT;clear hT;have hu73:=Tryz.underlying73;have HR0:=am hr0;have HC0:=am hc0;clear hr0 hc0;have HR1:=am hr1;have HC1:=am hc1;clear hr1 hc1;have HB:=am (Below.refl w.heap.size w);have H:((Z14.f k l0 l1 a2).bind fun t470 => (if t470 = true then (Z0j.l0 k l0 l1 (([a2]:List ByteArray)) 0) else (some (([]:List ByteArray),1)))) = some (r1,r2):=h;clear h;replace H:=bI H;obtain ⟨t470,A4,H⟩:=H;(try dsimp only at H)
 replace H:=iT H;obtain ⟨rfl,H⟩ | ⟨rfl,H⟩:=H
 ·
  obtain ⟨y471,hy471⟩:∃ y_:List ByteArray,y_ = (([a2]:List ByteArray)):=⟨_,rfl⟩
  replace H:(Z0j.l0 k l0 l1 y471 0) = some (r1,r2):=by first | (rw [hy471];with_reducible exact H) | (have H2_:=(Option.bind_some _ _).symm.trans H;rw [hy471];with_reducible exact H2_) | (have H2_:=(Option.bind_some _ _).symm.trans H;with_reducible exact H2_) | with_reducible exact H | (rw [hy471];exact H) | exact H
  have Ny471:=am hy471;clear hy471;have H':=am H;clear H;go_enter Tryz.func91,Tryz.ntmps91
  go_wp2_with (first | ((with_reducible refine gate_callee (f:=95) rfl ?_);refine goesL_ (some 15) rfl rfl Tryz.func95 (by kernel_rfl) rfl #[.slice A0 l0.length c0,.slice A1 l1.length c1,.string a2] rfl Gc2 ?_;(with_reducible refine (Z14.calls k _ _ l0 _ _ l1 a2 true _ ?sT ?s1 HC0.out ?s3 HC1.out A4.out).mono ?_);(case sT => exact Gc1);(case s1 => exact Gc3);(case s3 => exact Gc8);rintro e w6 ⟨rfl,hb⟩;refine ⟨_,rfl,?_⟩;have n0_:=am (below_step (tB HB) hb);revert n0_;clear HB;intro HB;(try clear hb);(try clear hb2);(try clear hk);(try clear hi)) | ((with_reducible refine gate_dst (N:=18) rfl ?_);refine Kd.R_lit Kd.string _ 9 ?hg (N:=18) ?hd (xs:=([a2]:List ByteArray)) (inner:=[.string a2]) (ok:=fun _ => True) (okp:=fun _ => True) ?hr ?hp (fun _ hk => hk) trivial (Below.refl _ _) (Nat.le_refl _) (by simp) ?_;(case hd => rfl);(case hg => rfl);(case hr => exact Gc5);(case hp => exact (Reps.one (show Kd.M Kd.string _ _ _ a2 [.string a2] from rfl) (Reps.none _ _)));intro v472 w7 ho8 hb hg_ hnew_;clear hg_ hnew_;(first | rw [← Ny471.out] at ho8 | (simp only [Int.reduceToNat] at ho8;rw [← Ny471.out] at ho8));have n0_:=am (Kd.R_lower ho8 (tS HB));have n1_:=am (below_step (tB HB) hb);revert n0_ n1_;clear HB;intro HO473 HB;clear hb ho8))
  go_loopg [8,9] k (fun kq v8 v9 w' => ∃ (x8_1:List ByteArray) (x9_1:Int),v9 = .int .i64 x9_1 ∧ Aside0 (Z0j.l0 kq l0 l1 x8_1 x9_1 = some (r1,r2)) ∧ Aside0 (kq ≤ k) ∧ Aside0 (Kd.R Kd.string 9 w' w.heap.size (fun _ => True) v8 x8_1) ∧ Aside0 (Below w.heap.size w w'))
  case atStart => exact ⟨(y471),(0),tV1,H',⟨Nat.le_refl _⟩,⟨dR HO473⟩,⟨tB HB⟩⟩
  case round =>
   clear H';(try clear c5);obtain ⟨x8_1,x9_1,rfl,HA,HK1,HO_8,HB⟩:=hrel
   cases gk with
   | zero => exact absurd HA.out (by simp [Z0j.l0])
   | succ k1 =>
    have H:=HA.out;clear HA;simp only [Z0j.l0] at H
    replace H:=iF H;obtain ⟨c9,H⟩ | ⟨c9,H⟩:=H
    ·
     have c9b0:decide (x9_1 < (l1.length:Int)) = true:=decide_eq_true c9;clear c9;replace H:=iFn H;obtain ⟨c10,H⟩:=H;have c10b0:decide (0 ≤ x9_1) = true:=decide_eq_true c10;clear c10;replace H:=iFn H;obtain ⟨c11,H⟩:=H;have c11b0:decide (x9_1 < (x8_1.length:Int)) = true:=decide_eq_true c11;clear c11;replace H:=bI H;obtain ⟨⟨t476,t477⟩,A12,H⟩:=H;(try dsimp only at H)
     replace H:=iE H;obtain ⟨-,c13b0,c13b1,H⟩ | ⟨c13,c13b0,c13b1,H⟩:=H
     ·
      replace H:=iFn H;obtain ⟨c14,H⟩:=H;have LMc14:=am c14;clear c14;obtain ⟨y478,hy478⟩:∃ y_:List ByteArray,y_ = (x8_1 ++ [t476]):=⟨_,rfl⟩
      replace H:(Z0j.l0 k1 l0 l1 y478 (wrap64 (x9_1 + 1))) = some (r1,r2):=by first | (rw [hy478];with_reducible exact H) | (have H2_:=(Option.bind_some _ _).symm.trans H;rw [hy478];with_reducible exact H2_) | (have H2_:=(Option.bind_some _ _).symm.trans H;with_reducible exact H2_) | with_reducible exact H | (rw [hy478];exact H) | exact H
      have Ny478:=am hy478;clear hy478;have H':=am H;clear H;have mk0_:=trivial;exact Zdh
     ·
      simp only [Option.some.injEq,Prod.mk.injEq] at H;obtain ⟨rfl,rfl⟩:=H;have mk1_:=trivial;exact Zdh
    ·
     have c9b0:decide (x9_1 < (l1.length:Int)) = false:=decide_eq_false c9;clear c9;simp only [Option.some.injEq,Prod.mk.injEq] at H;obtain ⟨rfl,rfl⟩:=H;go_wp2;go_ret2;exact ⟨_,tE,by (with_reducible repeat (first | apply Kd.R_alloc | apply Kd.R_drewN | apply Kd.R_drew));exact HO_8.out,by repeat (first | (with_reducible first | exact HB.out | apply below_alloc | apply pw_below_drewN | apply below_drew1) | exact HB.out)⟩
 ·
  simp only [Option.some.injEq,Prod.mk.injEq] at H;obtain ⟨rfl,rfl⟩:=H;go_enter Tryz.func91,Tryz.ntmps91
  go_wp2_with (first | ((with_reducible refine gate_callee (f:=95) rfl ?_);refine goesL_ (some 15) rfl rfl Tryz.func95 (by kernel_rfl) rfl #[.slice A0 l0.length c0,.slice A1 l1.length c1,.string a2] rfl Gc2 ?_;(with_reducible refine (Z14.calls k _ _ l0 _ _ l1 a2 false _ ?sT ?s1 HC0.out ?s3 HC1.out A4.out).mono ?_);(case sT => exact Gc1);(case s1 => exact Gc3);(case s3 => exact Gc8);rintro e w22 ⟨rfl,hb⟩;refine ⟨_,rfl,?_⟩;have n0_:=am (below_step (tB HB) hb);revert n0_;clear HB;intro HB;(try clear hb);(try clear hb2);(try clear hk);(try clear hi)))
  exact Zgx
end Go.Proofs.YtfbhdjflkaldgaaGreatDoor.Pr
