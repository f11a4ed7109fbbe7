-- Written by a program of this session (ownprint.py, over the kit's printer). Not trusted: Lean checks it.
import Derived.Test.YtfbhdjflkaldgaaGreatDoorMg1
import Derived.Test.YtfbhdjflkaldgaaGreatDoorMg2
import Derived.Test.YtfbhdjflkaldgaaGreatDoorMg21
import Derived.Test.YtfbhdjflkaldgaaGreatDoorMg13
import Derived.Test.YtfbhdjflkaldgaaGreatDoorMg20
import Derived.Test.YtfbhdjflkaldgaaGreatDoorMg3
namespace Go.Proofs.YtfbhdjflkaldgaaGreatDoor.Pr
open Go.Proofs.YtfbhdjflkaldgaaGreatDoor.Ct Go.RowKit Go.Proofs.YtfbhdjflkaldgaaGreatDoorW.PrintWords Go.Proofs.YtfbhdjflkaldgaaGreatDoorW.PrintLast Go.Proofs.YtfbhdjflkaldgaaGreatDoorW.PrintMore
attribute [local go_sem] max2_int min2_int max_two min_two max_three min_three max_four min_four
set_option linter.unusedVariables false
set_option linter.unusedSimpArgs false
mutual
def Z01.j0:Nat → List (S68) → ByteArray → List Int → Bool → Int → ByteArray → List (S70) → List (S70) → Bool → Bool → Option (List Int)
 | 0,_,_,_,_,_,_,_,_,_,_ => none
 | k + 1,x0,x2,x7,x21,x433000,x433001,x433002,x433003,x433004,x433005 => if x21 = true then (some x7) else (if x2.size ≤ 70368744177664 then (Z01.l0 k x0 x7 (Z0d x2) 0 x433000 x433001 x433002 x433003 x433004 x433005) else (none))
def Z01.l0:Nat → List (S68) → List Int → List Int → Int → Int → ByteArray → List (S70) → List (S70) → Bool → Bool → Option (List Int)
 | 0,_,_,_,_,_,_,_,_,_,_ => none
 | k + 1,x0,x7,x8,x9,x433000,x433001,x433002,x433003,x433004,x433005 => if x9 ≤ (x8.length:Int) then (if x433000 = 0 then (Z01.j2 k x0 x7 x8 x9 x9 x433000 x433001 x433002 x433003 x433004 x433005) else (if x9 = (x8.length:Int) then (Z01.l0 k x0 x7 x8 (wrap64 (x9 + 1)) x433000 x433001 x433002 x433003 x433004 x433005) else (if 0 ≤ x9 then (if x9 < (x8.length:Int) then (if (rd x8 x9) = x433000 then (Z01.j2 k x0 x7 x8 x9 (wrap64 (x9 + 1)) x433000 x433001 x433002 x433003 x433004 x433005) else (Z01.l0 k x0 x7 x8 (wrap64 (x9 + 1)) x433000 x433001 x433002 x433003 x433004 x433005)) else (none)) else (none)))) else (some x7)
def Z01.j2:Nat → List (S68) → List Int → List Int → Int → Int → Int → ByteArray → List (S70) → List (S70) → Bool → Bool → Option (List Int)
 | 0,_,_,_,_,_,_,_,_,_,_,_ => none
 | k + 1,x0,x7,x8,x9,x10,x433000,x433001,x433002,x433003,x433004,x433005 => if 0 ≤ x9 then (if x9 ≤ (x8.length:Int) then ((Z10.f k x0 x433000 x433001 x433002 x433003 x433004 x433005 (x8.take (x9:Int).toNat)).bind fun t446 => (if t446 = true then (if 0 ≤ x10 then (if x10 ≤ (x8.length:Int) then ((Z0t.f k x0 x433000 x433001 x433002 x433003 x433004 x433005 (x8.drop (x10:Int).toNat)).bind fun t451 => (if t451 = true then (if x7.length < 17592186044416 then (Z01.l0 k x0 (x7 ++ [x9]) x8 (wrap64 (x9 + 1)) x433000 x433001 x433002 x433003 x433004 x433005) else (none)) else (Z01.l0 k x0 x7 x8 (wrap64 (x9 + 1)) x433000 x433001 x433002 x433003 x433004 x433005))) else (none)) else (none)) else (Z01.l0 k x0 x7 x8 (wrap64 (x9 + 1)) x433000 x433001 x433002 x433003 x433004 x433005))) else (none)) else (none)
end
def Z01.f (k:Nat) (l0:List (S68)) (a1_0:Int) (a1_1:ByteArray) (l1_2:List (S70)) (l1_3:List (S70)) (a1_4:Bool) (a1_5:Bool) (a2:ByteArray):Option (List Int):=(some (([]:List Int):List Int)).bind fun y433 => ((Z0s.f k l0 a1_0 a1_1 l1_2 l1_3 a1_4 a1_5).bind fun t436 => (if t436 = true then ((Z15.f l0 a2).bind fun t437 => (Z01.j0 k l0 a2 y433 (!t437) a1_0 a1_1 l1_2 l1_3 a1_4 a1_5)) else (Z01.j0 k l0 a2 y433 true a1_0 a1_1 l1_2 l1_3 a1_4 a1_5)))
def Z01.T10:Bool × List (List Nat × List Nat):=(true,[([],[]),([],[]),([1],[1]),([0,2],[0,2]),([3],[3]),([4],[4]),([4],[4]),([5,6,4],[4,5,6]),([7,4],[4,7]),([4],[4]),([9,4],[4,9]),([8,10,4],[4,8,10]),([4,11],[4,11])])
def Z01.B10:List Nat:=[0,0,2,7,15,31,31,127,255,31,543,2047,4095]
theorem Z01.tab10:rtab .any (opsOf Tryz.f99 10) = Z01.T10:=by kernel_rfl
theorem Z01.bits10:waitsOk Z01.T10.2 Z01.B10 = true:=by kernel_rfl
def Z01.T12:Bool × List (List Nat × List Nat):=(true,[([],[]),([],[]),([],[]),([],[]),([2,3],[2,3]),([0,1,4],[0,1,4]),([5,5],[5]),([6],[6]),([6],[6]),([6],[6]),([6],[6]),([9,10,6],[6,9,10]),([7,8,11,6,6],[6,7,8,11]),([6,12],[6,12])])
def Z01.B12:List Nat:=[0,0,0,0,12,31,63,127,127,127,127,1663,4095,8191]
theorem Z01.tab12:rtab .any (opsOf Tryz.f99 12) = Z01.T12:=by kernel_rfl
theorem Z01.bits12:waitsOk Z01.T12.2 Z01.B12 = true:=by kernel_rfl
theorem Zgs {p:Prop} (h:p:=by
  refine pT 13 63 ?_
  refine done_ (done_of HT_.out (by kernel_rfl)) ?_
  try go_wp2
  go_roundg kj20
  case measure => have:=HJ3.out;have:=HK2.out;have:=HJ20.out;omega
  case rel => exact ⟨(x7_2),(wrap64 (x9_2 + 1)),tV1,H',⟨by have:=HJ3.out;have:=HK2.out;have:=HJ20.out;omega⟩,⟨dR HO_7⟩,⟨dR HO_8⟩,⟨tK BK432⟩,⟨tB HB⟩⟩):p:=h
theorem Zgt {p:Prop} (h:p:=by
  refine pT 12 47 ?_
  refine done_ (done_of HT_.out (by kernel_rfl)) ?_
  try go_wp2
  go_roundg k2
  case measure => have:=HJ3.out;have:=HK2.out;omega
  case rel => exact ⟨(x7_2),(wrap64 (x9_2 + 1)),tV1,H',⟨by have:=HJ3.out;have:=HK2.out;omega⟩,⟨dR HO_7⟩,⟨dR HO_8⟩,⟨tK BK432⟩,⟨tB HB⟩⟩):p:=h
theorem Zgu {p:Prop} (h:p:=by
  go_wp2;go_ret
  exact ⟨_,tE,by (with_reducible repeat (first | apply Kd.R_alloc | apply Kd.R_drewN | apply Kd.R_drew));exact HO_7.out,by repeat (first | (with_reducible first | exact HB.out | apply below_alloc | apply pw_below_drewN | apply below_drew1 | refine below_set ?_ GE432.out) | exact HB.out)⟩):p:=h
set_option maxRecDepth 1000000 in
theorem Zdd {p:Prop} (h:p:=by
  have H':=am H;clear H
  try go_wp2
  have z1_:=am (Kd.R_drew HO_7.out);have z2_:=am (Kd.R_drew HO_8.out);have z3_:=am (blk_drew BK432.out);have z4_:=am (below_drew1 HB.out);revert z1_ z2_ z3_ z4_;clear HO_7 HO_8 BK432 HB;intro HO_7 HO_8 BK432 HB;have z5_:(x9_2:Int) ≤ ((y438.length:Int):Int):=oD;obtain ⟨z6_,z7_,_,z8_,_⟩:=info_parts Z6n;have z9_:y438.length ≤ co22:=(Kd.R_reads' HO_8.out).2.1;have z10_:Kd.C (Kd.int .i32) _ Ao22 y438.length y438:=(Kd.R_reads' HO_8.out).2.2;have z11_:=cut_to (P:=Tryz.prog) 109 21 .i64 Tryz.underlying109 z7_ Ao22 y438.length co22 x9_2 (oD) z5_ z9_;have z12_:=Kd.C_take (m:=(x9_2:Int).toNat) z10_ (by omega);have z13_:y442.length = (x9_2:Int).toNat:=(by rw [Ny442.out,List.length_take];omega);rw [← Ny442.out] at z12_;rw [← z13_] at z11_;have z14_:=am z12_;have z15_:=am (show y442.length ≤ co22 from by omega);clear z12_ z10_ z9_ z7_ z8_;have z16_:=am z13_;clear z13_;have z17_:=am (show (x9_2:Int).toNat ≤ y438.length from by omega);replace z5_:=eq_true z5_
  refine start_ (n:=14) (S:=fun w' => w'.cell? ⟨gb432,0,none⟩ = some (.int .i32 a1_0) ∧ w'.cell? ⟨gb432,1,none⟩ = some (.string a1_1) ∧ w'.cell? ⟨gb432,2,none⟩ = some (.slice A1_2 l1_2.length c1_2) ∧ w'.cell? ⟨gb432,3,none⟩ = some (.slice A1_3 l1_3.length c1_3) ∧ w'.cell? ⟨gb432,4,none⟩ = some (.bool a1_4) ∧ w'.cell? ⟨gb432,5,none⟩ = some (.bool a1_5)) (ds:=[]) #[false,false,false,false,false,false,false,false,false,false,false,false,false,false] (by kernel_rfl) rfl rfl ⟨(blk_cell BK432.out 0).trans rfl,(blk_cell BK432.out 1).trans rfl,(blk_cell BK432.out 2).trans rfl,(blk_cell BK432.out 3).trans rfl,(blk_cell BK432.out 4).trans rfl,(blk_cell BK432.out 5).trans rfl⟩ (fun hHeld => ?_);refine with_tabW Z01.tab12 Z01.bits12 (fun HT_ HW_ => ?_)
  generalize wc.drew = z18_ at HO_7 HO_8 BK432 HB z14_ hHeld ⊢
  refine pT 0 50 ?_
  refine pT 2 52 ?_
  refine pT 3 53 ?_
  refine pT 4 54 ?_
  refine tTt 1 51 hHeld ?_
  refine one_ (i:=5) (N:=some 55) #[true,true,true,true,true,true,false,false,false,false,false,false,false,false] rfl rfl (one_of HT_.out (by kernel_rfl)) (by decide) (fun K hK => ?_)
  refine goes_ Tryz.func102 (by kernel_rfl) rfl #[.slice A0 l0.length c0,.agg #[.int .i32 a1_0,.string a1_1,.slice A1_2 l1_2.length c1_2,.slice A1_3 l1_3.length c1_3,.bool a1_4,.bool a1_5],.slice Ao22 y442.length co22] (by rfl) rfl rfl Gc2 ?_
  with_reducible refine (Z10.calls kj20 _ _ l0 a1_0 a1_1 _ _ l1_2 _ _ l1_3 a1_4 a1_5 _ _ y442 true _ (tC HR0 HB) HC0.out (tC HR1_2 HB) HC1_2.out (tC HR1_3 HB) HC1_3.out ?s7 ?s8 A34.out).mono ?_
  (case s7 => repeat (first | exact Gc10 | (with_reducible refine Kd.C_alloc ?_ _) | (with_reducible refine Kd.C_drewN ?_ _) | (with_reducible refine Kd.C_drew ?_)));(case s8 => exact z15_.out);rintro e z19_ ⟨rfl,hb⟩
  refine ⟨_,rfl,?_⟩
  have z1_:=am (Kd.R_below (dR HO_7) hb);have z2_:=am (Kd.R_below (dR HO_8) hb);have z3_:=am (blk_below (tK BK432) hb);have z4_:=am (Kd.C_below Gc10 hb);have z20_:=am (below_step (tB HB) hb);revert z1_ z2_ z3_ z4_ z20_;clear HO_7 HO_8 BK432 z14_ HB;intro HO_7 HO_8 BK432 z14_ HB
  (try clear hb);(try clear hk)
  have z21_:(x10_20:Int) ≤ ((y438.length:Int):Int):=oD;obtain ⟨z22_,z23_,_,z24_,_⟩:=info_parts Z6n;have z25_:y438.length ≤ co22:=(Kd.R_reads' HO_8.out).2.1;have z26_:Kd.C (Kd.int .i32) _ Ao22 y438.length y438:=(Kd.R_reads' HO_8.out).2.2;have z27_:(0:Int) ≤ (x10_20:Int):=oD;have z28_:=cut_from (P:=Tryz.prog) 109 21 .i64 Tryz.underlying109 z23_ 1 z24_ Ao22 y438.length co22 x10_20 z27_ z21_;have z29_:=Kd.C_drop (m:=(x10_20:Int).toNat) (c:=co22) z26_ (by omega) z25_;obtain ⟨z30_,z31_⟩:∃ Aq_,Aq_ = (if co22 = (x10_20:Int).toNat then Ao22 else (Ao22:Option Addr).map (·.add ((x10_20:Int).toNat * 1))):=⟨_,rfl⟩;obtain ⟨z32_,z33_⟩:∃ cq_,cq_ = co22 - (x10_20:Int).toNat:=⟨_,rfl⟩;have z34_:y447.length = y438.length - (x10_20:Int).toNat:=(by rw [Ny447.out,List.length_drop] <;> omega);rw [show (y438).drop (x10_20:Int).toNat = y447 from Ny447.out.symm] at z29_;replace z29_:Kd.C (Kd.int .i32) _ z30_ y447.length y447:=(by rw [z31_];exact z29_);rw [← z34_,← z31_,← z33_] at z28_;have z35_:=am z29_;have z36_:=am (show y447.length ≤ z32_ from by rw [z34_,z33_];exact Nat.sub_le_sub_right z25_ _);clear z29_ z26_ z25_ z23_ z24_ z33_;have z37_:=am z34_;have z38_:=am z31_;clear z34_ z31_;have z39_:=am (show (x10_20:Int).toNat ≤ y438.length from by omega);replace z21_:=eq_true z21_
  refine hK.out _ _ ⟨(blk_cell BK432.out 0).trans rfl,(blk_cell BK432.out 1).trans rfl,(blk_cell BK432.out 2).trans rfl,(blk_cell BK432.out 3).trans rfl,(blk_cell BK432.out 4).trans rfl,(blk_cell BK432.out 5).trans rfl⟩ (fun hHeld => ?_)
  clear hK K
  refine nR 55 ?_
  refine pT 6 56 ?_
  refine pT 7 57 ?_
  refine pT 9 59 ?_
  refine pT 10 60 ?_
  refine pT 11 61 ?_
  refine tTt 8 58 hHeld ?_
  refine one_ (i:=12) (N:=some 62) #[true,true,true,true,true,true,true,true,true,true,true,true,true,false] rfl rfl (one_of HT_.out (by kernel_rfl)) (by decide) (fun K hK => ?_)
  refine goes_ Tryz.func103 (by kernel_rfl) rfl #[.slice A0 l0.length c0,.agg #[.int .i32 a1_0,.string a1_1,.slice A1_2 l1_2.length c1_2,.slice A1_3 l1_3.length c1_3,.bool a1_4,.bool a1_5],.slice z30_ y447.length z32_] (by rfl) rfl rfl Gc2 ?_
  first
  | (have mk_:=mk0_
     with_reducible refine (Z0t.calls kj20 _ _ l0 a1_0 a1_1 _ _ l1_2 _ _ l1_3 a1_4 a1_5 _ _ y447 true _ (tC HR0 HB) HC0.out (tC HR1_2 HB) HC1_2.out (tC HR1_3 HB) HC1_3.out ?s7 ?s8 A38.out).mono ?_
     (case s7 => repeat (first | exact Gc12 | (with_reducible refine Kd.C_alloc ?_ _) | (with_reducible refine Kd.C_drewN ?_ _) | (with_reducible refine Kd.C_drew ?_)));(case s8 => exact z36_.out);rintro e z40_ ⟨rfl,hb⟩
     refine ⟨_,rfl,?_⟩
     have z1_:=am (Kd.R_below (dR HO_7) hb);have z2_:=am (Kd.R_below (dR HO_8) hb);have z3_:=am (blk_below (tK BK432) hb);have z4_:=am (Kd.C_below Gc10 hb);have z20_:=am (Kd.C_below Gc12 hb);have z41_:=am (below_step (tB HB) hb);revert z1_ z2_ z3_ z4_ z20_ z41_;clear HO_7 HO_8 BK432 z14_ z35_ HB;intro HO_7 HO_8 BK432 z14_ z35_ HB
     (try clear hb);(try clear hk)
     refine hK.out _ _ ⟨(blk_cell BK432.out 0).trans rfl,(blk_cell BK432.out 1).trans rfl,(blk_cell BK432.out 2).trans rfl,(blk_cell BK432.out 3).trans rfl,(blk_cell BK432.out 4).trans rfl,(blk_cell BK432.out 5).trans rfl⟩ (fun hHeld => ?_)
     clear hK K
     refine nR 62 ?_
     refine pT 13 63 ?_
     refine done_ (done_of HT_.out (by kernel_rfl)) ?_
     try go_wp2_with (first | ((with_reducible refine gate_builtin (b:=.append) (xs:=#[.tmp 64,.tmp 66]) rfl ?_);at_builtin;refine Kd.R_append (Kd.int .i64) (w0:=w) w.heap.size rfl (.tmp 64) (.tmp 66) 139 3 (.int .i64 0) 8 rfl Tryz.underlying139 Zhx rfl (by decide) (by omega) u7 x7_2 x9_2 [.int .i64 x9_2] (fun _ => True) (fun _ => False) rfl rfl ?aP (fun _ hk => hk.elim) ?aF ?aO ?aB ?aS ?aL ?_;(case aP => exact rfl);(case aB => exact (tB HB));(case aF => exact Gc25);(case aO => exact (dR HO_7));(case aS => exact (tS HB));(case aL => have:=LMc40.out;omega);intro z42_ z43_ ho hb hg hat;rw [← Ny452.out] at ho;have z1_:=am (Kd.R_over' (dR HO_8) (Kd.R_typed (dR HO_7)) (by decide) hg);have z2_:=am (blk_grown (tK BK432) hg (Kd.R_ne HO_7.out BK432.out (by decide)));have z3_:=am (hb);have z4_:=am ((show Kd.C (Kd.int .i32) z43_ Ao22 y442.length y442 from by rw [Ny442.out];exact Kd.C_take (m:=(x9_2:Int).toNat) ((Kd.R_reads' (Kd.R_over' (dR HO_8) (Kd.R_typed (dR HO_7)) (by decide) hg)).2.2) z17_.out));have z20_:=am ((show Kd.C (Kd.int .i32) z43_ z30_ y447.length y447 from by rw [Ny447.out,z38_.out];exact Kd.C_drop (m:=(x10_20:Int).toNat) (c:=co22) ((Kd.R_reads' (Kd.R_over' (dR HO_8) (Kd.R_typed (dR HO_7)) (by decide) hg)).2.2) z39_.out ((Kd.R_reads' (Kd.R_over' (dR HO_8) (Kd.R_typed (dR HO_7)) (by decide) hg)).2.1)));have z41_:=am (ho);revert z1_ z2_ z3_ z4_ z20_ z41_;clear HO_8 BK432 HB z14_ z35_ HO_7;intro HO_8 BK432 HB z14_ z35_ z44_;clear ho hb hg hat))
     go_roundg kj20
     case measure => have:=HJ3.out;have:=HK2.out;have:=HJ20.out;omega
     case rel => exact ⟨(y452),(wrap64 (x9_2 + 1)),tV1,H',⟨by have:=HJ3.out;have:=HK2.out;have:=HJ20.out;omega⟩,⟨dR z44_⟩,⟨dR HO_8⟩,⟨tK BK432⟩,⟨tB HB⟩⟩)
  | (have mk_:=mk1_
     with_reducible refine (Z0t.calls kj20 _ _ l0 a1_0 a1_1 _ _ l1_2 _ _ l1_3 a1_4 a1_5 _ _ y447 false _ (tC HR0 HB) HC0.out (tC HR1_2 HB) HC1_2.out (tC HR1_3 HB) HC1_3.out ?s7 ?s8 A38.out).mono ?_
     (case s7 => repeat (first | exact Gc12 | (with_reducible refine Kd.C_alloc ?_ _) | (with_reducible refine Kd.C_drewN ?_ _) | (with_reducible refine Kd.C_drew ?_)));(case s8 => exact z36_.out);rintro e z40_ ⟨rfl,hb⟩
     refine ⟨_,rfl,?_⟩
     have z1_:=am (Kd.R_below (dR HO_7) hb);have z2_:=am (Kd.R_below (dR HO_8) hb);have z3_:=am (blk_below (tK BK432) hb);have z4_:=am (Kd.C_below Gc10 hb);have z20_:=am (Kd.C_below Gc12 hb);have z41_:=am (below_step (tB HB) hb);revert z1_ z2_ z3_ z4_ z20_ z41_;clear HO_7 HO_8 BK432 z14_ z35_ HB;intro HO_7 HO_8 BK432 z14_ z35_ HB
     (try clear hb);(try clear hk)
     refine hK.out _ _ ⟨(blk_cell BK432.out 0).trans rfl,(blk_cell BK432.out 1).trans rfl,(blk_cell BK432.out 2).trans rfl,(blk_cell BK432.out 3).trans rfl,(blk_cell BK432.out 4).trans rfl,(blk_cell BK432.out 5).trans rfl⟩ (fun hHeld => ?_)
     clear hK K
     refine nR 62 ?_
     exact Zgs)):p:=h
theorem Zde {p:Prop} (h:p:=by
  have H':=am H;clear H
  try go_wp2
  have z1_:=am (Kd.R_drew HO_7.out);have z2_:=am (Kd.R_drew HO_8.out);have z3_:=am (blk_drew BK432.out);have z4_:=am (below_drew1 HB.out);revert z1_ z2_ z3_ z4_;clear HO_7 HO_8 BK432 HB;intro HO_7 HO_8 BK432 HB;have z5_:0 ≤ (x9_2:Int):=oD;have z6_:x9_2 < (y438.length:Int):=oD;obtain ⟨z7_,z8_,z9_⟩:=Kd.at_int (Kd.R_reads' HO_8.out).2.2 x9_2 z5_ z6_;cases z8_;replace z5_:=eq_true z5_;replace z6_:=eq_true z6_
  refine start_ (n:=13) (S:=fun w' => w'.cell? ⟨gb432,0,none⟩ = some (.int .i32 a1_0) ∧ w'.cell? ⟨gb432,1,none⟩ = some (.string a1_1) ∧ w'.cell? ⟨gb432,2,none⟩ = some (.slice A1_2 l1_2.length c1_2) ∧ w'.cell? ⟨gb432,3,none⟩ = some (.slice A1_3 l1_3.length c1_3) ∧ w'.cell? ⟨gb432,4,none⟩ = some (.bool a1_4) ∧ w'.cell? ⟨gb432,5,none⟩ = some (.bool a1_5) ∧ w'.cell? (z7_.add (x9_2).toNat) = some (.int .i32 (rd y438 x9_2))) (ds:=[]) #[false,false,false,false,false,false,false,false,false,false,false,false,false] (by kernel_rfl) rfl rfl ⟨(blk_cell BK432.out 0).trans rfl,(blk_cell BK432.out 1).trans rfl,(blk_cell BK432.out 2).trans rfl,(blk_cell BK432.out 3).trans rfl,(blk_cell BK432.out 4).trans rfl,(blk_cell BK432.out 5).trans rfl,z9_⟩ (fun hHeld => ?_);refine with_tabW Z01.tab10 Z01.bits10 (fun HT_ HW_ => ?_)
  generalize wr.drew = z10_ at HO_7 HO_8 BK432 HB z9_ hHeld ⊢
  refine pT 0 35 ?_
  refine pT 1 36 ?_
  refine pT 2 37 ?_
  refine pT 3 38 ?_
  refine pT 4 39 ?_
  refine pT 5 40 ?_
  refine pT 6 41 ?_
  refine pT 7 42 ?_
  refine pT 9 44 ?_
  refine tTt 8 43 hHeld ?_
  refine tTt 10 45 hHeld ?_
  refine pT 11 46 ?_
  first
  | (have mk_:=mk0_
     refine pT 12 47 ?_
     refine done_ (done_of HT_.out (by kernel_rfl)) ?_
     try go_wp2
     go_meet
     case rel => exact ⟨_,(wrap64 (x9_2 + 1)),tV1,H',⟨by have:=HJ3.out;have:=HK2.out;first | omega | exact Nat.le_refl _⟩,⟨dR HO_7⟩,⟨dR HO_8⟩,⟨tK BK432⟩,⟨tB HB⟩⟩)
  | (have mk_:=mk1_
     exact Zgt)):p:=h
set_option maxRecDepth 1000000 in
theorem Zdf {p:Prop} (h:p:=by
  have H':=am H;clear H
  try go_wp2
  have z1_:=am (Kd.R_drew HO_7.out);have z2_:=am (Kd.R_drew HO_8.out);have z3_:=am (blk_drew BK432.out);have z4_:=am (below_drew1 HB.out);revert z1_ z2_ z3_ z4_;clear HO_7 HO_8 BK432 HB;intro HO_7 HO_8 BK432 HB
  first
  | (have mk_:=mk0_
     have z5_:(x9_2:Int) ≤ ((y438.length:Int):Int):=oD;obtain ⟨z6_,z7_,_,z8_,_⟩:=info_parts Z6n;have z9_:y438.length ≤ co22:=(Kd.R_reads' HO_8.out).2.1;have z10_:Kd.C (Kd.int .i32) _ Ao22 y438.length y438:=(Kd.R_reads' HO_8.out).2.2;have z11_:=cut_to (P:=Tryz.prog) 109 21 .i64 Tryz.underlying109 z7_ Ao22 y438.length co22 x9_2 (oD) z5_ z9_;have z12_:=Kd.C_take (m:=(x9_2:Int).toNat) z10_ (by omega);have z13_:y442.length = (x9_2:Int).toNat:=(by rw [Ny442.out,List.length_take];omega);rw [← Ny442.out] at z12_;rw [← z13_] at z11_;have z14_:=am z12_;have z15_:=am (show y442.length ≤ co22 from by omega);clear z12_ z10_ z9_ z7_ z8_;have z16_:=am z13_;clear z13_;have z17_:=am (show (x9_2:Int).toNat ≤ y438.length from by omega);replace z5_:=eq_true z5_
     refine start_ (n:=14) (S:=fun w' => w'.cell? ⟨gb432,0,none⟩ = some (.int .i32 a1_0) ∧ w'.cell? ⟨gb432,1,none⟩ = some (.string a1_1) ∧ w'.cell? ⟨gb432,2,none⟩ = some (.slice A1_2 l1_2.length c1_2) ∧ w'.cell? ⟨gb432,3,none⟩ = some (.slice A1_3 l1_3.length c1_3) ∧ w'.cell? ⟨gb432,4,none⟩ = some (.bool a1_4) ∧ w'.cell? ⟨gb432,5,none⟩ = some (.bool a1_5)) (ds:=[]) #[false,false,false,false,false,false,false,false,false,false,false,false,false,false] (by kernel_rfl) rfl rfl ⟨(blk_cell BK432.out 0).trans rfl,(blk_cell BK432.out 1).trans rfl,(blk_cell BK432.out 2).trans rfl,(blk_cell BK432.out 3).trans rfl,(blk_cell BK432.out 4).trans rfl,(blk_cell BK432.out 5).trans rfl⟩ (fun hHeld => ?_);refine with_tabW Z01.tab12 Z01.bits12 (fun HT_ HW_ => ?_)
     generalize wc.drew = z18_ at HO_7 HO_8 BK432 HB z14_ hHeld ⊢
     refine pT 0 50 ?_
     refine pT 2 52 ?_
     refine pT 3 53 ?_
     refine pT 4 54 ?_
     refine tTt 1 51 hHeld ?_
     refine one_ (i:=5) (N:=some 55) #[true,true,true,true,true,true,false,false,false,false,false,false,false,false] rfl rfl (one_of HT_.out (by kernel_rfl)) (by decide) (fun K hK => ?_)
     refine goes_ Tryz.func102 (by kernel_rfl) rfl #[.slice A0 l0.length c0,.agg #[.int .i32 a1_0,.string a1_1,.slice A1_2 l1_2.length c1_2,.slice A1_3 l1_3.length c1_3,.bool a1_4,.bool a1_5],.slice Ao22 y442.length co22] (by rfl) rfl rfl Gc2 ?_
     with_reducible refine (Z10.calls kj20 _ _ l0 a1_0 a1_1 _ _ l1_2 _ _ l1_3 a1_4 a1_5 _ _ y442 false _ (tC HR0 HB) HC0.out (tC HR1_2 HB) HC1_2.out (tC HR1_3 HB) HC1_3.out ?s7 ?s8 A34.out).mono ?_
     (case s7 => repeat (first | exact Gc10 | (with_reducible refine Kd.C_alloc ?_ _) | (with_reducible refine Kd.C_drewN ?_ _) | (with_reducible refine Kd.C_drew ?_)));(case s8 => exact z15_.out);rintro e z19_ ⟨rfl,hb⟩
     refine ⟨_,rfl,?_⟩
     have z1_:=am (Kd.R_below (dR HO_7) hb);have z2_:=am (Kd.R_below (dR HO_8) hb);have z3_:=am (blk_below (tK BK432) hb);have z4_:=am (Kd.C_below Gc10 hb);have z20_:=am (below_step (tB HB) hb);revert z1_ z2_ z3_ z4_ z20_;clear HO_7 HO_8 BK432 z14_ HB;intro HO_7 HO_8 BK432 z14_ HB
     (try clear hb);(try clear hk)
     refine hK.out _ _ ⟨(blk_cell BK432.out 0).trans rfl,(blk_cell BK432.out 1).trans rfl,(blk_cell BK432.out 2).trans rfl,(blk_cell BK432.out 3).trans rfl,(blk_cell BK432.out 4).trans rfl,(blk_cell BK432.out 5).trans rfl⟩ (fun hHeld => ?_)
     clear hK K
     refine nR 55 ?_
     refine pT 6 56 ?_
     refine uT 7 57 ?_
     refine uT 8 58 ?_
     refine uT 9 59 ?_
     refine uT 10 60 ?_
     refine uT 11 61 ?_
     refine uT 12 62 ?_
     exact Zgs)
  | (have mk_:=mk1_
     refine start_ (n:=13) (S:=fun w' => True) (ds:=[]) #[false,false,false,false,false,false,false,false,false,false,false,false,false] (by kernel_rfl) rfl rfl trivial (fun hHeld => ?_);refine with_tabW Z01.tab10 Z01.bits10 (fun HT_ HW_ => ?_)
     generalize wr.drew = z5_ at HO_7 HO_8 BK432 HB hHeld ⊢
     refine pT 0 35 ?_
     refine pT 1 36 ?_
     refine pT 2 37 ?_
     refine pT 3 38 ?_
     refine pT 4 39 ?_
     refine uT 5 40 ?_
     refine uT 6 41 ?_
     refine uT 7 42 ?_
     refine uT 8 43 ?_
     refine uT 9 44 ?_
     refine uT 10 45 ?_
     refine uT 11 46 ?_
     exact Zgt)):p:=h
set_option maxHeartbeats 8000000 in
set_option maxRecDepth 100000 in
theorem Z01.calls (k:Nat) (A0:Option Addr) (c0:Nat) (l0:List (S68)) (a1_0:Int) (a1_1:ByteArray) (A1_2:Option Addr) (c1_2:Nat) (l1_2:List (S70)) (A1_3:Option Addr) (c1_3:Nat) (l1_3:List (S70)) (a1_4:Bool) (a1_5:Bool) (a2:ByteArray) (r:List Int) (w:World) (hT:Tabs w) (hr0:Kd.C k68 w A0 l0.length l0) (hc0:l0.length ≤ c0) (hr1_2:Kd.C k70 w A1_2 l1_2.length l1_2) (hc1_2:l1_2.length ≤ c1_2) (hr1_3:Kd.C k70 w A1_3 l1_3.length l1_3) (hc1_3:l1_3.length ≤ c1_3) (h:Z01.f k l0 a1_0 a1_1 l1_2 l1_3 a1_4 a1_5 a2 = some r) :
 Calls Tryz.prog 99 #[.slice A0 l0.length c0,.agg #[.int .i32 a1_0,.string a1_1,.slice A1_2 l1_2.length c1_2,.slice A1_3 l1_3.length c1_3,.bool a1_4,.bool a1_5],.string a2] w fun e w' => ∃ v0_:Value,e = .returned (v0_) ∧ Kd.R (Kd.int .i64) 3 w' w.heap.size (fun _ => True) v0_ r ∧ Below w.heap.size w w':=by
 have HT:=am hT;clear hT;have hu73:=Tryz.underlying73;have HR0:=am hr0;have HC0:=am hc0;clear hr0 hc0;have HR1_2:=am hr1_2;have HC1_2:=am hc1_2;clear hr1_2 hc1_2;have HR1_3:=am hr1_3;have HC1_3:=am hc1_3;clear hr1_3 hc1_3;have HB:=am (Below.refl w.heap.size w);have H:((some (([]:List Int):List Int)).bind fun y433 => ((Z0s.f k l0 a1_0 a1_1 l1_2 l1_3 a1_4 a1_5).bind fun t436 => (if t436 = true then ((Z15.f l0 a2).bind fun t437 => (Z01.j0 k l0 a2 y433 (!t437) a1_0 a1_1 l1_2 l1_3 a1_4 a1_5)) else (Z01.j0 k l0 a2 y433 true a1_0 a1_1 l1_2 l1_3 a1_4 a1_5)))) = some r:=h;clear h;obtain ⟨y433,hy433⟩:∃ y_:List Int,y_ = (([]:List Int)):=⟨_,rfl⟩
 replace H:((Z0s.f k l0 a1_0 a1_1 l1_2 l1_3 a1_4 a1_5).bind fun t436 => (if t436 = true then ((Z15.f l0 a2).bind fun t437 => (Z01.j0 k l0 a2 y433 (!t437) a1_0 a1_1 l1_2 l1_3 a1_4 a1_5)) else (Z01.j0 k l0 a2 y433 true a1_0 a1_1 l1_2 l1_3 a1_4 a1_5))) = some r:=by first | (rw [hy433];with_reducible exact H) | (have H2_:=(Option.bind_some _ _).symm.trans H;rw [hy433];with_reducible exact H2_) | (have H2_:=(Option.bind_some _ _).symm.trans H;with_reducible exact H2_) | with_reducible exact H | (rw [hy433];exact H) | exact H
 have Ny433:=am hy433;clear hy433;have HC4:=am H;clear H;go_enter Tryz.func99,Tryz.ntmps99
 go_upto_region 2 with (first | ((with_reducible refine gate_dst (N:=4) rfl ?_);refine box_event ?hg (N:=4) ?hd (cs:=#[.int .i32 a1_0,.string a1_1,.slice A1_2 l1_2.length c1_2,.slice A1_3 l1_3.length c1_3,.bool a1_4,.bool a1_5]) (t:=73) ?hr ?_;(case hd => rfl);(case hg => rfl);(case hr => exact Gc5);intro gb432 hg w5 hbox hb;have n0_:=am (below_step (tB HB) hb);have n1_:=am (hbox);have n2_:=tZ hg (tS HB);have n3_:=tZ hg (tS HB);revert n0_ n1_ n2_ n3_;clear HB;intro HB BK432 GW432 GE432;clear hb hbox hg) | ((with_reducible refine gate_dst (N:=11) rfl ?_);refine Kd.R_lit (Kd.int .i64) _ 3 ?hg (N:=11) ?hd (xs:=([]:List Int)) (inner:=[]) (ok:=fun _ => True) (okp:=fun _ => True) ?hr ?hp (fun _ hk => hk) trivial (Below.refl _ _) (Nat.le_refl _) (by simp) ?_;(case hd => rfl);(case hg => rfl);(case hr => exact Gc5);(case hp => exact (Reps.none _ _));intro v434 w6 ho7 hb hg_ hnew_;clear hg_ hnew_;(first | rw [← Ny433.out] at ho7 | (simp only [Int.reduceToNat] at ho7;rw [← Ny433.out] at ho7));have n0_:=am (Kd.R_lower ho7 (tS HB));have n1_:=am (blk_below (tK BK432) hb);have n2_:=am (below_step (tB HB) hb);revert n0_ n1_ n2_;clear BK432 HB;intro HO435 BK432 HB;clear hb ho7))
 (try simp only [Act.put,List.setIfInBounds_toArray,List.set_cons_zero,List.set_cons_succ])
 go_cut [21] (fun v21 wc => ∃ (kq:Nat) (x21_3:Bool),v21 = .bool x21_3 ∧ Aside0 (Z01.j0 kq l0 a2 y433 x21_3 a1_0 a1_1 l1_2 l1_3 a1_4 a1_5 = some r) ∧ Aside0 (kq ≤ k) ∧ Aside0 (Kd.R (Kd.int .i64) 3 wc w.heap.size (fun _ => True) v434 y433) ∧ Aside0 (wc.heap[gb432]? = some (.cells #[.int .i32 a1_0,.string a1_1,(.slice A1_2 l1_2.length c1_2),(.slice A1_3 l1_3.length c1_3),.bool a1_4,.bool a1_5] 73 (0,0))) ∧ Aside0 (Below w.heap.size w wc))
 case first =>
  have H:=HC4.out;clear HC4;replace H:=bI H;obtain ⟨t436,A8,H⟩:=H;(try dsimp only at H)
  replace H:=iT H;obtain ⟨rfl,H⟩ | ⟨rfl,H⟩:=H
  ·
   replace H:=bI H;obtain ⟨t437,A10,H⟩:=H;(try dsimp only at H);have H':=am H;clear H;obtain ⟨hcz11_0,hcz11_1,hcz11_2,hcz11_3,hcz11_4,hcz11_5,hfz11_0,hfz11_1,hfz11_2,hfz11_3,hfz11_4,hfz11_5⟩:=bx6 BK432
   go_wp2_with (first | ((with_reducible refine gate_callee (f:=61) rfl ?_);refine goesL_ (some 14) rfl rfl Tryz.func61 (by kernel_rfl) rfl #[.slice A0 l0.length c0,.agg #[.int .i32 a1_0,.string a1_1,.slice A1_2 l1_2.length c1_2,.slice A1_3 l1_3.length c1_3,.bool a1_4,.bool a1_5]] rfl Gc2 ?_;(with_reducible refine (Z0s.calls k _ _ l0 a1_0 a1_1 _ _ l1_2 _ _ l1_3 a1_4 a1_5 true _ ?sT (tC HR0 HB) HC0.out (tC HR1_2 HB) HC1_2.out (tC HR1_3 HB) HC1_3.out A8.out).mono ?_);(case sT => exact Gc1);rintro e w12 ⟨rfl,hb⟩;refine ⟨_,rfl,?_⟩;have n0_:=am (Kd.R_below (dR HO435) hb);have n1_:=am (blk_below (tK BK432) hb);have n2_:=am (below_step (tB HB) hb);revert n0_ n1_ n2_;clear HO435 BK432 HB;intro HO435 BK432 HB;(try clear hb);(try clear hb2);(try clear hk);(try clear hi)) | (go_at_call 82;(with_reducible refine (Z15.calls _ _ l0 a2 t437 _ ?sT (tC HR0 HB) HC0.out A10.out).mono ?_);(case sT => exact Gc1);rintro e w13 ⟨rfl,hb⟩;have n0_:=am (Kd.R_below (dR HO435) hb);have n1_:=am (blk_below (tK BK432) hb);have n2_:=am (below_step (tB HB) hb);revert n0_ n1_ n2_;clear HO435 BK432 HB;intro HO435 BK432 HB;(try clear hb);(try clear hb2);(try clear hk);(try clear hi)))
   go_meet
   case rel => exact ⟨_,(!t437),tV1,H',⟨tU⟩,⟨dR HO435⟩,⟨tK BK432⟩,⟨tB HB⟩⟩
  ·
   have H':=am H;clear H;obtain ⟨hcz14_0,hcz14_1,hcz14_2,hcz14_3,hcz14_4,hcz14_5,hfz14_0,hfz14_1,hfz14_2,hfz14_3,hfz14_4,hfz14_5⟩:=bx6 BK432
   go_wp2_with (first | ((with_reducible refine gate_callee (f:=61) rfl ?_);refine goesL_ (some 14) rfl rfl Tryz.func61 (by kernel_rfl) rfl #[.slice A0 l0.length c0,.agg #[.int .i32 a1_0,.string a1_1,.slice A1_2 l1_2.length c1_2,.slice A1_3 l1_3.length c1_3,.bool a1_4,.bool a1_5]] rfl Gc2 ?_;(with_reducible refine (Z0s.calls k _ _ l0 a1_0 a1_1 _ _ l1_2 _ _ l1_3 a1_4 a1_5 false _ ?sT (tC HR0 HB) HC0.out (tC HR1_2 HB) HC1_2.out (tC HR1_3 HB) HC1_3.out A8.out).mono ?_);(case sT => exact Gc1);rintro e w15 ⟨rfl,hb⟩;refine ⟨_,rfl,?_⟩;have n0_:=am (Kd.R_below (dR HO435) hb);have n1_:=am (blk_below (tK BK432) hb);have n2_:=am (below_step (tB HB) hb);revert n0_ n1_ n2_;clear HO435 BK432 HB;intro HO435 BK432 HB;(try clear hb);(try clear hb2);(try clear hk);(try clear hi)))
   go_meet
   case rel => exact ⟨_,(true),tV1,H',⟨tU⟩,⟨dR HO435⟩,⟨tK BK432⟩,⟨tB HB⟩⟩
 case rest =>
  clear HC4;obtain ⟨kq,x21_3,rfl,HA,HJ3,HO_7,BK432,HB⟩:=hcut
  cases kq with
  | zero => exact absurd HA.out (by simp [Z01.j0])
  | succ kj3 =>
   have H:=HA.out;clear HA;simp only [Z01.j0] at H
   replace H:=iT H;obtain ⟨rfl,H⟩ | ⟨rfl,H⟩:=H
   ·
    obtain rfl:=Option.some.inj H;exact Zgu
   ·
    replace H:=iFn H;obtain ⟨c17,H⟩:=H;have c17b0:=eq_true c17;have c17b1:decide (a2.size ≤ 70368744177664) = true:=decide_eq_true c17;clear c17;obtain ⟨y438,hy438⟩:∃ y_:List Int,y_ = (Z0d a2):=⟨_,rfl⟩
    replace H:(Z01.l0 kj3 l0 y433 y438 0 a1_0 a1_1 l1_2 l1_3 a1_4 a1_5) = some r:=by first | (rw [hy438];with_reducible exact H) | (have H2_:=(Option.bind_some _ _).symm.trans H;rw [hy438];with_reducible exact H2_) | (have H2_:=(Option.bind_some _ _).symm.trans H;with_reducible exact H2_) | with_reducible exact H | (rw [hy438];exact H) | exact H
    have Ny438:=am hy438;clear hy438;have H':=am H;clear H
    go_wp2_with (first | ((with_reducible refine gate_dst (N:=24) rfl ?_);refine Z79 _ rfl (N:=24) rfl _ rfl a2 rfl (oD) (Below.refl _ _) (Nat.le_refl _) ?_;intro v439 w18 ho19 hb hg_ hnew_;clear hg_ hnew_;(first | rw [← Ny438.out] at ho19 | (simp only [Int.reduceToNat] at ho19;rw [← Ny438.out] at ho19));have n0_:=am (Kd.R_below (dR HO_7) hb);have n1_:=am (Kd.R_lower ho19 (tS HB));have n2_:=am (blk_below (tK BK432) hb);have n3_:=am (below_step (tB HB) hb);revert n0_ n1_ n2_ n3_;clear HO_7 BK432 HB;intro HO_7 HO440 BK432 HB;clear hb ho19))
    go_loopg [7,9] kj3 (fun kq v7 v9 w' => ∃ (x7_2:List Int) (x9_2:Int),v9 = .int .i64 x9_2 ∧ Aside0 (Z01.l0 kq l0 x7_2 y438 x9_2 a1_0 a1_1 l1_2 l1_3 a1_4 a1_5 = some r) ∧ Aside0 (kq ≤ kj3) ∧ Aside0 (Kd.R (Kd.int .i64) 3 w' w.heap.size (fun _ => True) v7 x7_2) ∧ Aside0 (Kd.R (Kd.int .i32) 21 w' w.heap.size (fun _ => True) v439 y438) ∧ Aside0 (w'.heap[gb432]? = some (.cells #[.int .i32 a1_0,.string a1_1,(.slice A1_2 l1_2.length c1_2),(.slice A1_3 l1_3.length c1_3),.bool a1_4,.bool a1_5] 73 (0,0))) ∧ Aside0 (Below w.heap.size w w'))
    case atStart => exact ⟨(y433),(0),tV1,H',⟨Nat.le_refl _⟩,⟨dR HO_7⟩,⟨dR HO440⟩,⟨tK BK432⟩,⟨tB HB⟩⟩
    case round =>
     clear H';(try clear c16);(try clear c17);(try clear c17b0);(try clear c17b1);obtain ⟨x7_2,x9_2,rfl,HA,HK2,HO_7,HO_8,BK432,HB⟩:=hrel
     cases gk with
     | zero => exact absurd HA.out (by simp [Z01.l0])
     | succ k2 =>
      have H:=HA.out;clear HA;simp only [Z01.l0] at H
      replace H:=iF H;obtain ⟨c20,H⟩ | ⟨c20,H⟩:=H
      ·
       have c20b0:decide (x9_2 ≤ (y438.length:Int)) = true:=decide_eq_true c20;clear c20;have HC21:=am H;clear H;obtain ⟨Ao22,co22,eo22⟩:=Kd.R_slice HO_8.out;subst eo22;obtain ⟨hcz23_0,hcz23_1,hcz23_2,hcz23_3,hcz23_4,hcz23_5,hfz23_0,hfz23_1,hfz23_2,hfz23_3,hfz23_4,hfz23_5⟩:=bx6 BK432
       go_upto_if 34 with (fail)
       go_cut [10] (fun v10 wc => ∃ (kq:Nat) (x10_20:Int),v10 = .int .i64 x10_20 ∧ Aside0 (Z01.j2 kq l0 x7_2 y438 x9_2 x10_20 a1_0 a1_1 l1_2 l1_3 a1_4 a1_5 = some r) ∧ Aside0 (kq ≤ k2) ∧ Aside0 (Kd.R (Kd.int .i64) 3 wc w.heap.size (fun _ => True) u7 x7_2) ∧ Aside0 (Kd.R (Kd.int .i32) 21 wc w.heap.size (fun _ => True) (.slice Ao22 y438.length co22) y438) ∧ Aside0 (wc.heap[gb432]? = some (.cells #[.int .i32 a1_0,.string a1_1,(.slice A1_2 l1_2.length c1_2),(.slice A1_3 l1_3.length c1_3),.bool a1_4,.bool a1_5] 73 (0,0))) ∧ Aside0 (Below w.heap.size w wc))
       case first =>
        have H:=HC21.out;clear HC21
        replace H:=iE H;obtain ⟨-,c24b0,c24b1,H⟩ | ⟨c24,c24b0,c24b1,H⟩:=H
        ·
         (first | rw [c24b0] | (simp only [i64_w,i32_w];rw [c24b0]) | skip)
         have H':=am H;clear H;go_wp2
         go_meet
         case rel => exact ⟨_,(x9_2),tV1,H',⟨by have:=HJ3.out;have:=HK2.out;first | omega | exact Nat.le_refl _⟩,⟨dR HO_7⟩,⟨dR HO_8⟩,⟨tK BK432⟩,⟨tB HB⟩⟩
        ·
         (first | rw [c24b0] | (simp only [i64_w,i32_w];rw [c24b0]) | skip)
         replace H:=iE H;obtain ⟨-,c25b0,c25b1,H⟩ | ⟨c25,c25b0,c25b1,H⟩:=H
         ·
          have mk1_:=trivial;exact Zdf
         ·
          replace H:=iFn H;obtain ⟨c27,H⟩:=H;have c27b0:decide (0 ≤ x9_2) = true:=decide_eq_true c27;clear c27;replace H:=iFn H;obtain ⟨c28,H⟩:=H;have c28b0:decide (x9_2 < (y438.length:Int)) = true:=decide_eq_true c28;clear c28
          replace H:=iE H;obtain ⟨-,c29b0,c29b1,H⟩ | ⟨c29,c29b0,c29b1,H⟩:=H
          ·
           have mk0_:=trivial;exact Zde
          ·
           have mk1_:=trivial;exact Zde
       case rest =>
        clear HC21;(try clear c16);(try clear c17);(try clear c17b0);(try clear c17b1);(try clear c20);(try clear c20b0);(try clear hcz23_0);(try clear hcz23_1);(try clear hcz23_2);(try clear hcz23_3);(try clear hcz23_4);(try clear hcz23_5);(try clear hfz23_0);(try clear hfz23_1);(try clear hfz23_2);(try clear hfz23_3);(try clear hfz23_4);(try clear hfz23_5);obtain ⟨kq,x10_20,rfl,HA,HJ20,HO_7,HO_8,BK432,HB⟩:=hcut
        cases kq with
        | zero => exact absurd HA.out (by simp [Z01.j2])
        | succ kj20 =>
         have H:=HA.out;clear HA;simp only [Z01.j2] at H;replace H:=iFn H;obtain ⟨c32,H⟩:=H;have c32b0:=eq_true c32;have c32b1:decide (0 ≤ x9_2) = true:=decide_eq_true c32;clear c32;replace H:=iFn H;obtain ⟨c33,H⟩:=H;have c33b0:=eq_true c33;have c33b1:decide (x9_2 ≤ (y438.length:Int)) = true:=decide_eq_true c33;clear c33;obtain ⟨y442,hy442⟩:∃ y_:List Int,y_ = (y438.take (x9_2:Int).toNat):=⟨_,rfl⟩
         replace H:((Z10.f kj20 l0 a1_0 a1_1 l1_2 l1_3 a1_4 a1_5 y442).bind fun t446 => (if t446 = true then (if 0 ≤ x10_20 then (if x10_20 ≤ (y438.length:Int) then ((Z0t.f kj20 l0 a1_0 a1_1 l1_2 l1_3 a1_4 a1_5 (y438.drop (x10_20:Int).toNat)).bind fun t451 => (if t451 = true then (if x7_2.length < 17592186044416 then (Z01.l0 kj20 l0 (x7_2 ++ [x9_2]) y438 (wrap64 (x9_2 + 1)) a1_0 a1_1 l1_2 l1_3 a1_4 a1_5) else (none)) else (Z01.l0 kj20 l0 x7_2 y438 (wrap64 (x9_2 + 1)) a1_0 a1_1 l1_2 l1_3 a1_4 a1_5))) else (none)) else (none)) else (Z01.l0 kj20 l0 x7_2 y438 (wrap64 (x9_2 + 1)) a1_0 a1_1 l1_2 l1_3 a1_4 a1_5))) = some r:=by first | (rw [hy442];with_reducible exact H) | (have H2_:=(Option.bind_some _ _).symm.trans H;rw [hy442];with_reducible exact H2_) | (have H2_:=(Option.bind_some _ _).symm.trans H;with_reducible exact H2_) | with_reducible exact H | (rw [hy442];exact H) | exact H
         have Ny442:=am hy442;clear hy442;replace H:=bI H;obtain ⟨t446,A34,H⟩:=H;(try dsimp only at H)
         replace H:=iT H;obtain ⟨rfl,H⟩ | ⟨rfl,H⟩:=H
         ·
          replace H:=iFn H;obtain ⟨c36,H⟩:=H;have c36b0:=eq_true c36;have c36b1:decide (0 ≤ x10_20) = true:=decide_eq_true c36;clear c36;replace H:=iFn H;obtain ⟨c37,H⟩:=H;have c37b0:=eq_true c37;have c37b1:decide (x10_20 ≤ (y438.length:Int)) = true:=decide_eq_true c37;clear c37;obtain ⟨y447,hy447⟩:∃ y_:List Int,y_ = (y438.drop (x10_20:Int).toNat):=⟨_,rfl⟩
          replace H:((Z0t.f kj20 l0 a1_0 a1_1 l1_2 l1_3 a1_4 a1_5 y447).bind fun t451 => (if t451 = true then (if x7_2.length < 17592186044416 then (Z01.l0 kj20 l0 (x7_2 ++ [x9_2]) y438 (wrap64 (x9_2 + 1)) a1_0 a1_1 l1_2 l1_3 a1_4 a1_5) else (none)) else (Z01.l0 kj20 l0 x7_2 y438 (wrap64 (x9_2 + 1)) a1_0 a1_1 l1_2 l1_3 a1_4 a1_5))) = some r:=by first | (rw [hy447];with_reducible exact H) | (have H2_:=(Option.bind_some _ _).symm.trans H;rw [hy447];with_reducible exact H2_) | (have H2_:=(Option.bind_some _ _).symm.trans H;with_reducible exact H2_) | with_reducible exact H | (rw [hy447];exact H) | exact H
          have Ny447:=am hy447;clear hy447;replace H:=bI H;obtain ⟨t451,A38,H⟩:=H;(try dsimp only at H)
          replace H:=iT H;obtain ⟨rfl,H⟩ | ⟨rfl,H⟩:=H
          ·
           replace H:=iFn H;obtain ⟨c40,H⟩:=H;have LMc40:=am c40;clear c40;obtain ⟨y452,hy452⟩:∃ y_:List Int,y_ = (x7_2 ++ [x9_2]):=⟨_,rfl⟩
           replace H:(Z01.l0 kj20 l0 y452 y438 (wrap64 (x9_2 + 1)) a1_0 a1_1 l1_2 l1_3 a1_4 a1_5) = some r:=by first | (rw [hy452];with_reducible exact H) | (have H2_:=(Option.bind_some _ _).symm.trans H;rw [hy452];with_reducible exact H2_) | (have H2_:=(Option.bind_some _ _).symm.trans H;with_reducible exact H2_) | with_reducible exact H | (rw [hy452];exact H) | exact H
           have Ny452:=am hy452;clear hy452;have mk0_:=trivial;exact Zdd
          ·
           have mk1_:=trivial;exact Zdd
         ·
          have mk0_:=trivial;exact Zdf
      ·
       have c20b0:decide (x9_2 ≤ (y438.length:Int)) = false:=decide_eq_false c20;clear c20;obtain rfl:=Option.some.inj H;obtain ⟨Ao55,co55,eo55⟩:=Kd.R_slice HO_8.out;subst eo55;exact Zgu
end Go.Proofs.YtfbhdjflkaldgaaGreatDoor.Pr
