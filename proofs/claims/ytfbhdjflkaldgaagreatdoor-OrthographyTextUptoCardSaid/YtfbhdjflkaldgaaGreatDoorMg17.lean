/- Several texts in one: PrF8, PrF10, PrF15, Aw0. -/
import Derived.Test.YtfbhdjflkaldgaaGreatDoorMg1
import Derived.Test.YtfbhdjflkaldgaaGreatDoorMg2
import Derived.Test.YtfbhdjflkaldgaaGreatDoorMg3
import Derived.Test.YtfbhdjflkaldgaaGreatDoorMg12
import Derived.Test.YtfbhdjflkaldgaaGreatDoorMg16
import Derived.Test.YtfbhdjflkaldgaaGreatDoorMg10
import Derived.Test.YtfbhdjflkaldgaaGreatDoorMg15
import Derived.KernelRfl
/- awake of chapter 42: what its calls answer. -/
namespace Go.Proofs.YtfbhdjflkaldgaaGreatDoor.Pr
open Go.Proofs.YtfbhdjflkaldgaaGreatDoor.Ct Go.RowKit Go.Proofs.YtfbhdjflkaldgaaGreatDoorW.PrintWords Go.Proofs.YtfbhdjflkaldgaaGreatDoorW.PrintLast Go.Proofs.YtfbhdjflkaldgaaGreatDoorW.PrintMore
attribute [local go_sem] max2_int min2_int max_two min_two max_three min_three max_four min_four
set_option linter.unusedVariables false
set_option linter.unusedSimpArgs false
mutual
def Z0c.j0:Nat → List (S60) → Bool → Lg → Option (ByteArray × Int)
 | 0,_,_,_ => none
 | k + 1,x6,x25,gx273 => if x25 = true then (some ((⟨#[]⟩:ByteArray),1)) else (if 0 ≤ (x6.length:Int) then (if ((x6.length:Int):Int).toNat ≤ 17592186044416 then (Z0c.l0 k (List.replicate ((x6.length:Int):Int).toNat (⟨#[]⟩:ByteArray)) x6 (x6.length:Int) 0 gx273) else (none)) else (none))
def Z0c.l0:Nat → List ByteArray → List (S60) → Int → Int → Lg → Option (ByteArray × Int)
 | 0,_,_,_,_,_ => none
 | k + 1,x8,x29,x30,x31,gx273 => if x31 < x30 then (if 0 ≤ x31 then (if x31 < (x29.length:Int) then ((Z0n.f k gx273.v2 gx273.v9 ((Z1w x29 x31).f0) ((Z1w x29 x31).f1)).bind fun bt283 => (if bt283.2 = 0 then (if x31 < (x8.length:Int) then (Z0c.l0 k (x8.set (x31:Int).toNat bt283.1) x29 x30 (wrap64 (x31 + 1)) gx273) else (none)) else (some ((⟨#[]⟩:ByteArray),bt283.2)))) else (none)) else (none)) else ((Z1i.f k x8 (⟨#[]⟩:ByteArray)).bind fun t286 => (if t286 = true then (some ((⟨#[]⟩:ByteArray),1)) else ((Z2j.f x8 (⟨#[32]⟩:ByteArray)).bind fun t287 => (if t287.size + gx273.vt.size ≤ 9223372036854775807 then (some (t287 ++ gx273.vt,0)) else (none)))))
end
def Z0c.f (k:Nat) (gL:Lg) (l1:List ByteArray):Option (ByteArray × Int):=(Z2a.f gL l1).bind fun bt273 => (if bt273.2 = true then ((Z1p.f k gL).bind fun t277 => (Z0c.j0 k bt273.1 (!t277) gL)) else (Z0c.j0 k bt273.1 true gL))
theorem Zel {p:Prop} (h:p:=by
  go_ret2
  exact ⟨tE,by repeat (first | (with_reducible first | exact HB.out | apply below_alloc | apply pw_below_drewN | apply below_drew1 | refine below_set ?_ GE272.out) | exact HB.out)⟩):p:=h
set_option maxRecDepth 1000000 in
theorem Zgm {p:Prop} (h:p:=by
  have z1_:0 ≤ (x31_2:Int):=oD;have z2_:x31_2 < (t273.length:Int):=oD;obtain ⟨z3_,z4_,z5_,z6_,z7_,z8_,z9_,z10_⟩:=Zfd (Kd.S_reads' HO_29.out).2.2 x31_2 z1_ z2_;cases z6_;obtain ⟨z11_,z12_,z13_,z14_⟩:=Kd.S_get HO_29.out z60 x31_2 z1_ (by first | exact z2_ | exact oD | (have e_:=(Kd.S_reads' HO_29.out).1;omega));obtain ⟨z15_,rfl,z16_⟩:=Z61 z13_;have z17_:=z14_ 1 _ rfl;rw [add_field _ _ 1 (by omega)] at z17_;replace z17_:=Option.some.inj (z17_.symm.trans z8_);rw [z17_] at z16_;have z18_:=am (show Kd.R Kd.string 9 _ _ _ _ ((Z1w t273 x31_2).f1) from z16_);clear z17_ z16_;clear z14_ z12_;have z19_:=am z10_;have z20_:=am z9_;clear z10_ z9_;replace z1_:=eq_true z1_;replace z2_:=eq_true z2_
  first
  | (have mk_:=mk0_
     go_wp2_with (first | ((with_reducible refine Z0z (t:=41) (p:=2) rfl ?_);(try (refine gate_guard (by rfl) ?_;dsimp only));refine wpList_load_row rfl 41 (.tmp 2) rfl gb272 rfl 41 _ (0,0) _ (tK BK272) Tryz.underlying41 rfl (by kernel_rfl) ?_) | ((with_reducible refine gate_dst (N:=10) rfl ?_);refine box_event ?hg (N:=10) ?hd (cs:=#[.string (⟨#[]⟩:ByteArray),.slice none 0 0]) (t:=60) ?hr ?_;(case hd => rfl);(case hg => rfl);(case hr => exact Gc5);intro z21_ hg z22_ hbox hb;have z23_:=am (Kd.R_below (dR HO_8) hb);have z24_:=am (Kd.S_below (Kd.S_elderB (dS HO_29) z21_ (Nat.le_of_eq hg.symm)) hb);have z25_:=am (Kd.R_below (dR z18_) hb);have z26_:=am (blk_below (tK BK272) hb);have z27_:=am (Kd.C_below (by repeat (first | (with_reducible exact z19_.out) | (with_reducible refine Kd.C_alloc ?_ _) | (with_reducible refine Kd.C_drewN ?_ _) | (with_reducible refine Kd.C_drew ?_) | exact z19_.out)) hb);have z28_:=am (below_step (tB HB) hb);have z29_:=am (hbox);have z30_:=tZ hg (tS HB);have z31_:=tZ hg (tS HB);have z32_:=tL hg (tK BK272);have z33_:=tG hg (tK BK272);revert z23_ z24_ z25_ z26_ z27_ z28_ z29_ z30_ z31_ z32_ z33_;clear HO_8 HO_29 z18_ BK272 z19_ HB;intro HO_8 HO_29 z18_ BK272 z19_ HB z34_ z35_ z36_ z37_ z38_;clear hb hbox hg;have z39_:=z38_.out;have z40_:=z37_.out;have z41_:=cel2 z34_ 0 rfl;have z42_:=cel2 z34_ 1 rfl;have z43_:=blk_frozen z34_.out 0;have z44_:=blk_frozen z34_.out 1;have z45_:=cel2 BK272 2 rfl;have z46_:=cel2 BK272 9 rfl;have z47_:=cel2 BK272 29 rfl;have z48_:=blk_frozen BK272.out 2;have z49_:=blk_frozen BK272.out 9;have z50_:=blk_frozen BK272.out 29) | ((with_reducible refine gate_callee (f:=18) rfl ?_);refine goesL_ (some 43) rfl rfl Tryz.func18 (by kernel_rfl) rfl #[.slice pL.A2 gL.v2.length pL.c2,.slice pL.A9 gL.v9.length pL.c9,.agg #[.string ((Z1w t273 x31_2).f0),.slice z4_ ((Z1w t273 x31_2).f1).length z5_]] rfl Gc2 ?_;(with_reducible refine (Z0n.calls k2 _ _ gL.v2 _ _ gL.v9 ((Z1w t273 x31_2).f0) _ _ ((Z1w t273 x31_2).f1) t283 t284 _ ?sT ?s1 HL.out.c2 ?s3 HL.out.c9 ?s5 ?s6 A21.out).mono ?_);(case sT => exact Gc1);(case s1 => exact Kd.C_below HL.out.r2 (tB HB));(case s3 => exact Kd.C_below HL.out.r9 (tB HB));(case s5 => repeat (first | exact ((Kd.R_reads' Gc7).2.2) | (with_reducible refine Kd.C_alloc ?_ _) | (with_reducible refine Kd.C_drewN ?_ _) | (with_reducible refine Kd.C_drew ?_)));(case s6 => exact z20_.out);rintro e z51_ ⟨rfl,hb⟩;refine ⟨_,rfl,?_⟩;have z23_:=am (Kd.R_below (by (with_reducible repeat (first | apply Kd.R_alloc | apply Kd.R_drewN | apply Kd.R_drew));exact (Kd.R_mono (Kd.R_far (p:=⟨z21_,1,none⟩) (Kd.R_far (p:=⟨z21_,0,none⟩) (Kd.R_types HO_8.out z34_.out (by decide)) (fun _ hk => hk.2) (.string ((Z1w t273 x31_2).f0))) (fun _ hk => hk.2) (.slice z4_ ((Z1w t273 x31_2).f1).length z5_)) (fun _ h_ => h_.1))) hb);have z24_:=am (Kd.S_below (dS HO_29) hb);have z25_:=am (Kd.R_below Gc7 hb);have z26_:=am (blk_below (tK BK272) hb);have z27_:=am (Kd.C_below ((Kd.R_reads' Gc7).2.2) hb);have z28_:=am (blk_below (g:=z21_) (o:=.cells #[.string ((Z1w t273 x31_2).f0),.slice z4_ ((Z1w t273 x31_2).f1).length z5_] 60 (0,0)) (tKp z34_) hb);have z29_:=am (below_step (tB HB) hb);revert z23_ z24_ z25_ z26_ z27_ z28_ z29_;clear HO_8 HO_29 z18_ BK272 z19_ z34_ HB;intro HO_8 HO_29 z18_ BK272 z19_ z34_ HB;(try clear hb);(try clear hb2);(try clear hk);(try clear hi);have z52_:0 ≤ (x31_2:Int):=oD;have z53_:(x31_2:Int) < ((x8_2.length:Int):Int):=oD;obtain ⟨z54_,z55_,z56_,z57_,z58_,z59_,z60_⟩:=Kd.R_form HO_8.out (by omega);(first | cases z56_ | (injection z56_ with ea_ en_ ec_;(first | subst ea_ | (injection ea_ with ea_;subst ea_));subst ec_;clear en_));have z61_:=am z57_;have z62_:=am z60_;clear z57_ z58_ z60_;obtain ⟨z63_,z64_⟩:=Kd.R_celln (⟨#[]⟩:ByteArray) HO_8.out (x31_2:Int) z52_ z53_;replace z52_:=eq_true z52_;replace z53_:=eq_true z53_;obtain ⟨z65_,z66_⟩:=Kd.R_celln (⟨#[]⟩:ByteArray) HO_8.out (x31_2:Int) (oD) (oD);have z67_:=Kd.R_putg HO_8.out (x31_2:Int) t283) | ((with_reducible refine gate_store (t:=9) (p:=52) rfl ?_);refine store_event (t:=9) (p:=52) (v:=?vo_w31) (w1:=(z51_.setCell ⟨z54_,(x31_2:Int).toNat,none⟩ (.string t283))) ?hg ?ho ?hn ?hr ?_;(case ho => rfl);(case hg => rfl);(case hn => rfl);(case hr => exact Gc5);intro z68_ hw;have hg:z51_.grownBy z68_ (some z54_):=(by rw [hw];exact z67_.2);have hp_:Kd.R Kd.string 9 z68_ w.heap.size (fun _ => True) (.slice (some ⟨z54_,0,none⟩) x8_2.length z55_) y285:=(by rw [hw,Ny285.out];exact z67_.1);clear z67_;have z23_:=am (hp_);have z24_:=am (Kd.S_after (v:=(.slice (some ⟨z54_,0,none⟩) x8_2.length z55_)) (v1:=(.slice (some ⟨z54_,0,none⟩) x8_2.length z55_)) (ok:=(fun k_ => k_ ≠ z21_)) (dS HO_29) hg (.inl rfl));have z25_:=am (blk_grown (tK BK272) hg (Kd.R_ne HO_8.out BK272.out (by decide)));have z26_:=am (Kd.R_after (v:=(.slice (some ⟨z54_,0,none⟩) x8_2.length z55_)) (v1:=(.slice (some ⟨z54_,0,none⟩) x8_2.length z55_)) (ok:=(fun k_ => some k_ ≠ (.slice (some z3_) t273.length co15:Value).ownBlock)) (dR z18_) hg (.inl rfl));have z27_:=am (blk_grown (tK z34_) hg (Kd.R_ne HO_8.out z34_.out (by decide)));have z28_:=am ((by rw [hw];exact below_set (HB.out) z61_.out:Below w.heap.size w z68_));revert z23_ z24_ z25_ z26_ z27_ z28_;clear HO_8 HO_29 BK272 z18_ z34_ HB;intro HO_8 HO_29 BK272 z18_ z34_ HB;clear hg hw hp_))
     go_roundg k2
     case measure => have:=HJ3.out;have:=HK2.out;omega
     case rel => exact ⟨(y285),(wrap64 (x31_2 + 1)),tV1,H',⟨by have:=HJ3.out;have:=HK2.out;omega⟩,⟨dR HO_8⟩,⟨dS HO_29⟩,⟨tK BK272⟩,⟨tB HB⟩⟩)
  | (have mk_:=mk1_
     go_wp2_with (first | ((with_reducible refine Z0z (t:=41) (p:=2) rfl ?_);(try (refine gate_guard (by rfl) ?_;dsimp only));refine wpList_load_row rfl 41 (.tmp 2) rfl gb272 rfl 41 _ (0,0) _ (tK BK272) Tryz.underlying41 rfl (by kernel_rfl) ?_) | ((with_reducible refine gate_dst (N:=10) rfl ?_);refine box_event ?hg (N:=10) ?hd (cs:=#[.string (⟨#[]⟩:ByteArray),.slice none 0 0]) (t:=60) ?hr ?_;(case hd => rfl);(case hg => rfl);(case hr => exact Gc5);intro z21_ hg z22_ hbox hb;have z23_:=am (Kd.R_below (dR HO_8) hb);have z24_:=am (Kd.S_below (Kd.S_elderB (dS HO_29) z21_ (Nat.le_of_eq hg.symm)) hb);have z25_:=am (Kd.R_below (dR z18_) hb);have z26_:=am (blk_below (tK BK272) hb);have z27_:=am (Kd.C_below (by repeat (first | (with_reducible exact z19_.out) | (with_reducible refine Kd.C_alloc ?_ _) | (with_reducible refine Kd.C_drewN ?_ _) | (with_reducible refine Kd.C_drew ?_) | exact z19_.out)) hb);have z28_:=am (below_step (tB HB) hb);have z29_:=am (hbox);have z30_:=tZ hg (tS HB);have z31_:=tZ hg (tS HB);have z32_:=tL hg (tK BK272);have z33_:=tG hg (tK BK272);revert z23_ z24_ z25_ z26_ z27_ z28_ z29_ z30_ z31_ z32_ z33_;clear HO_8 HO_29 z18_ BK272 z19_ HB;intro HO_8 HO_29 z18_ BK272 z19_ HB z34_ z35_ z36_ z37_ z38_;clear hb hbox hg;have z39_:=z38_.out;have z40_:=z37_.out;have z41_:=cel2 z34_ 0 rfl;have z42_:=cel2 z34_ 1 rfl;have z43_:=blk_frozen z34_.out 0;have z44_:=blk_frozen z34_.out 1;have z45_:=cel2 BK272 2 rfl;have z46_:=cel2 BK272 9 rfl;have z47_:=cel2 BK272 29 rfl;have z48_:=blk_frozen BK272.out 2;have z49_:=blk_frozen BK272.out 9;have z50_:=blk_frozen BK272.out 29) | ((with_reducible refine gate_callee (f:=18) rfl ?_);refine goesL_ (some 43) rfl rfl Tryz.func18 (by kernel_rfl) rfl #[.slice pL.A2 gL.v2.length pL.c2,.slice pL.A9 gL.v9.length pL.c9,.agg #[.string ((Z1w t273 x31_2).f0),.slice z4_ ((Z1w t273 x31_2).f1).length z5_]] rfl Gc2 ?_;(with_reducible refine (Z0n.calls k2 _ _ gL.v2 _ _ gL.v9 ((Z1w t273 x31_2).f0) _ _ ((Z1w t273 x31_2).f1) t283 t284 _ ?sT ?s1 HL.out.c2 ?s3 HL.out.c9 ?s5 ?s6 A21.out).mono ?_);(case sT => exact Gc1);(case s1 => exact Kd.C_below HL.out.r2 (tB HB));(case s3 => exact Kd.C_below HL.out.r9 (tB HB));(case s5 => repeat (first | exact ((Kd.R_reads' Gc7).2.2) | (with_reducible refine Kd.C_alloc ?_ _) | (with_reducible refine Kd.C_drewN ?_ _) | (with_reducible refine Kd.C_drew ?_)));(case s6 => exact z20_.out);rintro e z51_ ⟨rfl,hb⟩;refine ⟨_,rfl,?_⟩;have z23_:=am (Kd.R_below (by (with_reducible repeat (first | apply Kd.R_alloc | apply Kd.R_drewN | apply Kd.R_drew));exact (Kd.R_mono (Kd.R_far (p:=⟨z21_,1,none⟩) (Kd.R_far (p:=⟨z21_,0,none⟩) (Kd.R_types HO_8.out z34_.out (by decide)) (fun _ hk => hk.2) (.string ((Z1w t273 x31_2).f0))) (fun _ hk => hk.2) (.slice z4_ ((Z1w t273 x31_2).f1).length z5_)) (fun _ h_ => h_.1))) hb);have z24_:=am (Kd.S_below (dS HO_29) hb);have z25_:=am (Kd.R_below Gc7 hb);have z26_:=am (blk_below (tK BK272) hb);have z27_:=am (Kd.C_below ((Kd.R_reads' Gc7).2.2) hb);have z28_:=am (blk_below (g:=z21_) (o:=.cells #[.string ((Z1w t273 x31_2).f0),.slice z4_ ((Z1w t273 x31_2).f1).length z5_] 60 (0,0)) (tKp z34_) hb);have z29_:=am (below_step (tB HB) hb);revert z23_ z24_ z25_ z26_ z27_ z28_ z29_;clear HO_8 HO_29 z18_ BK272 z19_ z34_ HB;intro HO_8 HO_29 z18_ BK272 z19_ z34_ HB;(try clear hb);(try clear hb2);(try clear hk);(try clear hi)))
     go_ret2
     exact ⟨tE,by repeat (first | (with_reducible first | exact HB.out | apply below_alloc | apply pw_below_drewN | apply below_drew1 | refine below_set ?_ GE272.out | refine below_set ?_ z36_.out) | exact HB.out)⟩)):p:=h
set_option maxHeartbeats 8000000 in
set_option maxRecDepth 100000 in
theorem Z0c.calls (k:Nat) (gL:Lg) (pL:La) (A1:Option Addr) (c1:Nat) (l1:List ByteArray) (r1:ByteArray) (r2:Int) (w:World) (hT:Tabs w) (hL:Z2o gL pL w) (hr1:Kd.C Kd.string w A1 l1.length l1) (hc1:l1.length ≤ c1) (h:Z0c.f k gL l1 = some (r1,r2)) :
 Calls Tryz.prog 8 #[.agg (lcs gL pL),.slice A1 l1.length c1] w fun e w' => e = .returned (.tuple #[.string r1,.int .i64 r2]) ∧ Below w.heap.size w w':=by
 have HT:=am hT;clear hT;have hu41:=Tryz.underlying41;have hu60:=Tryz.underlying60;have HL:=am hL;clear hL;have HR1:=am hr1;have HC1:=am hc1;clear hr1 hc1;have HB:=am (Below.refl w.heap.size w);have H:((Z2a.f gL l1).bind fun bt273 => (if bt273.2 = true then ((Z1p.f k gL).bind fun t277 => (Z0c.j0 k bt273.1 (!t277) gL)) else (Z0c.j0 k bt273.1 true gL))) = some (r1,r2):=h;clear h;replace H:=bI H;obtain ⟨⟨t273,t276⟩,A3,H⟩:=H;(try dsimp only at H);have HC4:=am H;clear H;go_enter Tryz.func8,Tryz.ntmps8
 go_upto_region 2 with (first | ((with_reducible refine Z0z (t:=41) (p:=2) rfl ?_);(try (refine gate_guard (by rfl) ?_;dsimp only));refine wpList_load_row rfl 41 (.tmp 2) rfl gb272 rfl 41 _ (0,0) _ (tK BK272) Tryz.underlying41 rfl (by kernel_rfl) ?_) | ((with_reducible refine gate_dst (N:=2) rfl ?_);refine box_event ?hg (N:=2) ?hd (cs:=?cs) (t:=41) ?hr ?_;(case hd => rfl);(case hg => rfl);(case hr => exact Gc5);intro gb272 hg w5 hbox hb;have n0_:=am (below_step (tB HB) hb);have n1_:=am (hbox);have n2_:=tZ hg (tS HB);have n3_:=tZ hg (tS HB);revert n0_ n1_ n2_ n3_;clear HB;intro HB BK272 GW272 GE272;clear hb hbox hg;have hcz6_2:=cel2 BK272 2 rfl;have hcz6_9:=cel2 BK272 9 rfl;have hcz6_29:=cel2 BK272 29 rfl;have hfz6_2:=blk_frozen BK272.out 2;have hfz6_9:=blk_frozen BK272.out 9;have hfz6_29:=blk_frozen BK272.out 29) | ((with_reducible refine gate_callee (f:=16) rfl ?_);refine goesL_ (some 16) rfl rfl Tryz.func16 (by kernel_rfl) rfl #[.agg _,.slice A1 l1.length c1] rfl Gc2 ?_;(with_reducible refine (Z2a.calls gL pL _ _ l1 t273 t276 _ ?sT (lB HL HB) (tC HR1 HB) HC1.out A3.out).mono ?_);(case sT => exact Gc1);rintro e w7 ⟨v274,rfl,ho0,hb⟩;refine ⟨_,rfl,?_⟩;have n0_:=am (Kd.S_lower ho0 (tS HB));have n1_:=am (blk_below (tK BK272) hb);have n2_:=am (below_step (tB HB) hb);revert n0_ n1_ n2_;clear BK272 HB;intro HO275 BK272 HB;(try clear hb);(try clear hb2);(try clear hk);(try clear hi);(try clear ho0)))
 (try simp only [Act.put,List.setIfInBounds_toArray,List.set_cons_zero,List.set_cons_succ])
 go_cut [25] (fun v25 wc => ∃ (kq:Nat) (x25_3:Bool),v25 = .bool x25_3 ∧ Aside0 (Z0c.j0 kq t273 x25_3 gL = some (r1,r2)) ∧ Aside0 (kq ≤ k) ∧ Aside0 (Kd.S k60 60 wc w.heap.size (fun _ => True) v274 t273) ∧ Aside0 (wc.heap[gb272]? = some (.cells (lcs gL pL) 41 (0,0))) ∧ Aside0 (Below w.heap.size w wc))
 case first =>
  have H:=HC4.out;clear HC4
  replace H:=iT H;obtain ⟨rfl,H⟩ | ⟨rfl,H⟩:=H
  ·
   replace H:=bI H;obtain ⟨t277,A9,H⟩:=H;(try dsimp only at H);have H':=am H;clear H;have hcz10_2:=cel2 BK272 2 rfl;have hcz10_9:=cel2 BK272 9 rfl;have hcz10_29:=cel2 BK272 29 rfl;have hfz10_2:=blk_frozen BK272.out 2;have hfz10_9:=blk_frozen BK272.out 9;have hfz10_29:=blk_frozen BK272.out 29
   go_wp2_with (first | ((with_reducible refine Z0z (t:=41) (p:=2) rfl ?_);(try (refine gate_guard (by rfl) ?_;dsimp only));refine wpList_load_row rfl 41 (.tmp 2) rfl gb272 rfl 41 _ (0,0) _ (tK BK272) Tryz.underlying41 rfl (by kernel_rfl) ?_) | (go_at_call 17;(with_reducible refine (Z1p.calls k gL pL t277 _ ?sT (lB HL HB) A9.out).mono ?_);(case sT => exact Gc1);rintro e w11 ⟨rfl,hb⟩;have n0_:=am (Kd.S_below (dS HO275) hb);have n1_:=am (blk_below (tK BK272) hb);have n2_:=am (below_step (tB HB) hb);revert n0_ n1_ n2_;clear HO275 BK272 HB;intro HO275 BK272 HB;(try clear hb);(try clear hb2);(try clear hk);(try clear hi)))
   go_meet
   case rel => exact ⟨_,(!t277),tV1,H',⟨tU⟩,⟨dS HO275⟩,⟨tK BK272⟩,⟨tB HB⟩⟩
  ·
   have H':=am H;clear H;go_wp2
   go_meet
   case rel => exact ⟨_,(true),tV1,H',⟨tU⟩,⟨dS HO275⟩,⟨tK BK272⟩,⟨tB HB⟩⟩
 case rest =>
  clear HC4;(try clear hcz6_2);(try clear hcz6_29);(try clear hcz6_9);(try clear hfz6_2);(try clear hfz6_29);(try clear hfz6_9);obtain ⟨kq,x25_3,rfl,HA,HJ3,HO_6,BK272,HB⟩:=hcut
  cases kq with
  | zero => exact absurd HA.out (by simp [Z0c.j0])
  | succ kj3 =>
   have H:=HA.out;clear HA;simp only [Z0c.j0] at H
   replace H:=iT H;obtain ⟨rfl,H⟩ | ⟨rfl,H⟩:=H
   ·
    simp only [Option.some.injEq,Prod.mk.injEq] at H;obtain ⟨rfl,rfl⟩:=H;go_wp2;exact Zel
   ·
    replace H:=iFn H;obtain ⟨c13,H⟩:=H;have c13b0:=eq_true c13;have c13b1:decide (0 ≤ (t273.length:Int)) = true:=decide_eq_true c13;clear c13;replace H:=iFn H;obtain ⟨c14,H⟩:=H;have c14b0:=eq_true c14;have c14b1:decide (((t273.length:Int):Int).toNat ≤ 17592186044416) = true:=decide_eq_true c14;clear c14;obtain ⟨y278,hy278⟩:∃ y_:List ByteArray,y_ = (List.replicate ((t273.length:Int):Int).toNat (⟨#[]⟩:ByteArray)):=⟨_,rfl⟩
    replace H:(Z0c.l0 kj3 y278 t273 (t273.length:Int) 0 gL) = some (r1,r2):=by first | (rw [hy278];with_reducible exact H) | (have H2_:=(Option.bind_some _ _).symm.trans H;rw [hy278];with_reducible exact H2_) | (have H2_:=(Option.bind_some _ _).symm.trans H;with_reducible exact H2_) | with_reducible exact H | (rw [hy278];exact H) | exact H
    have Ny278:=am hy278;clear hy278;have H':=am H;clear H;obtain ⟨Ao15,co15,eo15⟩:=Kd.S_slice HO_6.out;subst eo15
    go_wp2_with (first | ((with_reducible refine Z0z (t:=41) (p:=2) rfl ?_);(try (refine gate_guard (by rfl) ?_;dsimp only));refine wpList_load_row rfl 41 (.tmp 2) rfl gb272 rfl 41 _ (0,0) _ (tK BK272) Tryz.underlying41 rfl (by kernel_rfl) ?_) | ((with_reducible refine gate_dst (N:=28) rfl ?_);refine Kd.R_make Kd.string _ 9 rfl (N:=28) rfl 31 _ _ rfl (t273.length:Int) rfl rfl Tryz.underlying31 (.string ⟨#[]⟩) 16 Z95 rfl (by decide) (by omega) (⟨#[]⟩:ByteArray) (ok:=fun _ => True) (okp:=fun _ => True) rfl (fun _ hk => hk) trivial (oD) (Nat.le_trans (Nat.mul_le_mul_right _ (oD:(t273.length:Int).toNat ≤ 17592186044416)) (by omega)) (Below.refl _ _) (Nat.le_refl _) ?_;intro v279 w16 ho17 hb hg_ hnew_;clear hg_ hnew_;(first | rw [← Ny278.out] at ho17 | (simp only [Int.reduceToNat] at ho17;rw [← Ny278.out] at ho17));have n0_:=am (Kd.S_elder' (dS HO_6) (Kd.R_base ho17) hb);have n1_:=am (Kd.R_lower ho17 (tS HB));have n2_:=am (blk_below (tK BK272) hb);have n3_:=am (below_step (tB HB) hb);revert n0_ n1_ n2_ n3_;clear HO_6 BK272 HB;intro HO_6 HO280 BK272 HB;clear hb ho17))
    go_loopg [31] kj3 (fun kq v31 w' => ∃ (x8_2:List ByteArray) (x31_2:Int),v31 = .int .i64 x31_2 ∧ Aside0 (Z0c.l0 kq x8_2 t273 (t273.length:Int) x31_2 gL = some (r1,r2)) ∧ Aside0 (kq ≤ kj3) ∧ Aside0 (Kd.R Kd.string 9 w' w.heap.size (fun _ => True) v279 x8_2) ∧ Aside0 (Kd.S k60 60 w' w.heap.size (fun k_ => some k_ ≠ (v279:Value).ownBlock) (.slice Ao15 t273.length co15) t273) ∧ Aside0 (w'.heap[gb272]? = some (.cells (lcs gL pL) 41 (0,0))) ∧ Aside0 (Below w.heap.size w w'))
    case atStart => exact ⟨(y278),(0),tV1,H',⟨Nat.le_refl _⟩,⟨dR HO280⟩,⟨dS HO_6⟩,⟨tK BK272⟩,⟨tB HB⟩⟩
    case round =>
     clear H';(try clear c12);(try clear c13);(try clear c13b0);(try clear c13b1);(try clear c14);(try clear c14b0);(try clear c14b1);(try clear hcz6_2);(try clear hcz6_29);(try clear hcz6_9);(try clear hfz6_2);(try clear hfz6_29);(try clear hfz6_9);obtain ⟨x8_2,x31_2,rfl,HA,HK2,HO_8,HO_29,BK272,HB⟩:=hrel
     cases gk with
     | zero => exact absurd HA.out (by simp [Z0c.l0])
     | succ k2 =>
      have H:=HA.out;clear HA;simp only [Z0c.l0] at H
      replace H:=iF H;obtain ⟨c18,H⟩ | ⟨c18,H⟩:=H
      ·
       have c18b0:decide (x31_2 < (t273.length:Int)) = true:=decide_eq_true c18;clear c18;replace H:=iFn H;obtain ⟨c19,H⟩:=H;have c19b0:decide (0 ≤ x31_2) = true:=decide_eq_true c19;clear c19;replace H:=iFn H;obtain ⟨c20,H⟩:=H;have c20b0:decide (x31_2 < (t273.length:Int)) = true:=decide_eq_true c20;clear c20;replace H:=bI H;obtain ⟨⟨t283,t284⟩,A21,H⟩:=H;(try dsimp only at H)
       replace H:=iE H;obtain ⟨-,c22b0,c22b1,H⟩ | ⟨c22,c22b0,c22b1,H⟩:=H
       ·
        replace H:=iFn H;obtain ⟨c23,H⟩:=H;have c23b0:decide (x31_2 < (x8_2.length:Int)) = true:=decide_eq_true c23;clear c23;obtain ⟨y285,hy285⟩:∃ y_:List ByteArray,y_ = (x8_2.set (x31_2:Int).toNat t283):=⟨_,rfl⟩
        replace H:(Z0c.l0 k2 y285 t273 (t273.length:Int) (wrap64 (x31_2 + 1)) gL) = some (r1,r2):=by first | (rw [hy285];with_reducible exact H) | (have H2_:=(Option.bind_some _ _).symm.trans H;rw [hy285];with_reducible exact H2_) | (have H2_:=(Option.bind_some _ _).symm.trans H;with_reducible exact H2_) | with_reducible exact H | (rw [hy285];exact H) | exact H
        have Ny285:=am hy285;clear hy285;have H':=am H;clear H;have mk0_:=trivial;exact Zgm
       ·
        simp only [Option.some.injEq,Prod.mk.injEq] at H;obtain ⟨rfl,rfl⟩:=H;have mk1_:=trivial;exact Zgm
      ·
       have c18b0:decide (x31_2 < (t273.length:Int)) = false:=decide_eq_false c18;clear c18;replace H:=bI H;obtain ⟨t286,A37,H⟩:=H;(try dsimp only at H)
       replace H:=iT H;obtain ⟨rfl,H⟩ | ⟨rfl,H⟩:=H
       ·
        simp only [Option.some.injEq,Prod.mk.injEq] at H;obtain ⟨rfl,rfl⟩:=H;obtain ⟨Ao39,co39,eo39⟩:=Kd.R_slice HO_8.out;subst eo39
        go_wp2_with (first | ((with_reducible refine Z0z (t:=41) (p:=2) rfl ?_);(try (refine gate_guard (by rfl) ?_;dsimp only));refine wpList_load_row rfl 41 (.tmp 2) rfl gb272 rfl 41 _ (0,0) _ (tK BK272) Tryz.underlying41 rfl (by kernel_rfl) ?_) | ((with_reducible refine gate_callee (f:=19) rfl ?_);refine goesL_ (some 55) rfl rfl Tryz.func19 (by kernel_rfl) rfl #[.slice Ao39 x8_2.length co39,.string (⟨#[]⟩:ByteArray)] rfl Gc2 ?_;(with_reducible refine (Z1i.calls k2 _ _ x8_2 (⟨#[]⟩:ByteArray) true _ ?s1 ?s2 A37.out).mono ?_);(case s1 => exact Gc18);(case s2 => exact (Kd.R_reads' HO_8.out).2.1);rintro e w' ⟨rfl,⟨nd,rfl⟩⟩;refine ⟨_,rfl,?_⟩))
        exact Zel
       ·
        replace H:=bI H;obtain ⟨t287,A40,H⟩:=H;(try dsimp only at H);replace H:=iFn H;obtain ⟨c41,H⟩:=H;have c41b0:=eq_true c41;have c41b1:decide (t287.size + gL.vt.size ≤ 9223372036854775807) = true:=decide_eq_true c41
        try have c41b2:(9223372036854775807 < t287.size + gL.vt.size) = False:=eq_false (Nat.not_lt.2 c41)
        simp only [Option.some.injEq,Prod.mk.injEq] at H;obtain ⟨rfl,rfl⟩:=H;obtain ⟨Ao42,co42,eo42⟩:=Kd.R_slice HO_8.out;subst eo42
        try go_wp2_with (first | ((with_reducible refine Z0z (t:=41) (p:=2) rfl ?_);(try (refine gate_guard (by rfl) ?_;dsimp only));refine wpList_load_row rfl 41 (.tmp 2) rfl gb272 rfl 41 _ (0,0) _ (tK BK272) Tryz.underlying41 rfl (by kernel_rfl) ?_) | ((with_reducible refine gate_callee (f:=19) rfl ?_);refine goesL_ (some 55) rfl rfl Tryz.func19 (by kernel_rfl) rfl #[.slice Ao42 x8_2.length co42,.string (⟨#[]⟩:ByteArray)] rfl Gc2 ?_;(with_reducible refine (Z1i.calls k2 _ _ x8_2 (⟨#[]⟩:ByteArray) false _ ?s1 ?s2 A37.out).mono ?_);(case s1 => exact Gc18);(case s2 => exact (Kd.R_reads' HO_8.out).2.1);rintro e w' ⟨rfl,⟨nd,rfl⟩⟩;refine ⟨_,rfl,?_⟩))
        (try (rw [drewN_self wr];generalize hq_:World.drewN wr _ = wr;have n0_:Aside0 (Kd.S k60 60 wr w.heap.size (fun k_ => some k_ ≠ (.slice Ao42 x8_2.length co42:Value).ownBlock) (.slice Ao15 t273.length co15) t273):=⟨by rw [← hq_];exact (dS HO_29)⟩;have n1_:Aside0 (Kd.R Kd.string 9 wr w.heap.size (fun _ => True) (.slice Ao42 x8_2.length co42) x8_2):=⟨by rw [← hq_];exact (dR HO_8)⟩;have n2_:Aside0 (wr.heap[gb272]? = some (.cells (lcs gL pL) 41 (0,0))):=⟨by rw [← hq_];exact (tK BK272)⟩;have n3_:Aside0 (Below w.heap.size w wr):=⟨by rw [← hq_];exact (tB HB)⟩;clear HO_29 HO_8 BK272 HB hq_;have HO_29:=n0_;have HO_8:=n1_;have BK272:=n2_;have HB:=n3_;clear n0_ n1_ n2_ n3_));have n0_:=am (Kd.R_drew HO_8.out);have n1_:=am (Kd.S_drew HO_29.out);have n2_:=am (blk_drew BK272.out);have n3_:=am (below_drew1 HB.out);revert n0_ n1_ n2_ n3_;clear HO_8 HO_29 BK272 HB;intro HO_8 HO_29 BK272 HB
        refine start_ (n:=7) (S:=fun w' => w'.heap[gb272]? = some (.cells (lcs gL pL) 41 (0,0))) (ds:=[]) #[false,false,false,false,false,false,false] (by kernel_rfl) rfl rfl BK272.out (fun hHeld => ?_)
        generalize wr.drew = w43 at HO_8 HO_29 BK272 HB hHeld ⊢
        refine pK 0 56 ?_
        refine pK 2 58 ?_
        refine take_ (i:=3) (N:=some 59) (v:=?_) (a':=?_) #[true,false,true,true,false,false,false] rfl rfl (by kernel_rfl) (fun _ _ _ h => h) (Or.inl ⟨by rfl,?_⟩) hHeld ?_ ?_
        rotate_left
        ·
         intro w' s0
         first | refine Eq.trans (Z5b 41 (.tmp 2) (by rfl) gb272 (by rfl) 41 _ _ s0 Tryz.underlying41 (by rfl) (by kernel_rfl)) ?_ | (have s2_:World.cell? w' ⟨gb272,2,none⟩ = some (.slice pL.A2 gL.v2.length pL.c2):=(blk_cell s0 2).trans rfl;have s9_:World.cell? w' ⟨gb272,9,none⟩ = some (.slice pL.A9 gL.v9.length pL.c9):=(blk_cell s0 9).trans rfl;have s29_:World.cell? w' ⟨gb272,29,none⟩ = some (.string gL.vt):=(blk_cell s0 29).trans rfl;go_simp)
         with_reducible rfl
        rotate_left
        ·
         exact GpR
        refine one_ (i:=1) (N:=some 57) #[true,true,true,true,false,false,false] rfl rfl (by kernel_rfl) (by decide) (fun K hK => ?_)
        refine goes_ Tryz.func20 (by kernel_rfl) rfl #[.slice Ao42 x8_2.length co42,.string (⟨#[32]⟩:ByteArray)] (by rfl) rfl rfl Gc2 ?_
        with_reducible refine (Z2j.calls _ _ x8_2 (⟨#[32]⟩:ByteArray) t287 _ ?s1 ?s2 A40.out).mono ?_
        (case s1 => exact Gc18);(case s2 => exact (Kd.R_reads' HO_8.out).2.1);rintro e w44 ⟨rfl,hb⟩
        refine ⟨_,rfl,?_⟩
        have n0_:=am (Kd.R_below (dR HO_8) hb);have n1_:=am (Kd.S_below (dS HO_29) hb);have n2_:=am (blk_below (tK BK272) hb);have n3_:=am (below_step (tB HB) hb);revert n0_ n1_ n2_ n3_;clear HO_8 HO_29 BK272 HB;intro HO_8 HO_29 BK272 HB
        (try clear hb);(try clear hk)
        refine hK.out _ _ BK272.out (fun hHeld => ?_)
        clear hK K
        refine nR 57 ?_
        refine pK 4 60 ?_
        refine pK 5 4 ?_
        refine pK 6 5 ?_
        refine done_ (by kernel_rfl) ?_
        try go_wp2
        exact Zel
mutual
def Z0o.j0:Nat → List (List ByteArray) → Bool → Lg → Option (ByteArray × Int)
 | 0,_,_,_ => none
 | k + 1,x1,x23,gx289 => if x23 = true then (some ((⟨#[]⟩:ByteArray),1)) else (Z0o.l0 k ([]:List ByteArray) x1 (x1.length:Int) 0 gx289)
def Z0o.l0:Nat → List ByteArray → List (List ByteArray) → Int → Int → Lg → Option (ByteArray × Int)
 | 0,_,_,_,_,_ => none
 | k + 1,x6,x24,x25,x26,gx289 => if x26 < x25 then (if 0 ≤ x26 then (if x26 < (x24.length:Int) then ((Z0c.f k gx289 (Z3h x24 x26)).bind fun bt291 => (if bt291.2 = 0 then (if x6.length < 8796093022208 then (Z0o.l0 k (x6 ++ [bt291.1]) x24 x25 (wrap64 (x26 + 1)) gx289) else (none)) else (some ((⟨#[]⟩:ByteArray),bt291.2)))) else (none)) else (none)) else ((Z2j.f x6 (⟨#[32]⟩:ByteArray)).bind fun t296 => (some (t296,0)))
end
def Z0o.f (k:Nat) (gL:Lg) (l1:List (List ByteArray)):Option (ByteArray × Int):=(Z1p.f k gL).bind fun t289 => (if t289 = true then (if (l1.length:Int) < 1 then (Z0o.j0 k l1 true gL) else (Z0o.j0 k l1 (decide ((l1.length:Int) > 8)) gL)) else (Z0o.j0 k l1 true gL))
theorem Zbx {p:Prop} (h:p:=by
  go_ret2
  exact ⟨tE,by repeat (first | (with_reducible first | exact HB.out | apply below_alloc | apply pw_below_drewN | apply below_drew1 | refine below_set ?_ GE288.out) | exact HB.out)⟩):p:=h
theorem Zd5 {p:Prop} (h:p:=by
  clear c7
  (first | rw [c7b0] | (simp only [i64_w,i32_w];rw [c7b0]) | skip)
  have H':=am H;clear H
  go_wp2_with (first | ((with_reducible refine Z0z (t:=41) (p:=2) rfl ?_);(try (refine gate_guard (by rfl) ?_;dsimp only));refine wpList_load_row rfl 41 (.tmp 2) rfl gb288 rfl 41 _ (0,0) _ (tK BK288) Tryz.underlying41 rfl (by kernel_rfl) ?_) | ((with_reducible refine gate_callee (f:=17) rfl ?_);refine goesL_ (some 12) rfl rfl Tryz.func17 (by kernel_rfl) rfl #[.agg _] rfl Gc2 ?_;(with_reducible refine (Z1p.calls k gL pL true _ ?sT (lB HL HB) A5.out).mono ?_);(case sT => exact Gc1);rintro e z1_ ⟨rfl,hb⟩;refine ⟨_,rfl,?_⟩;have z2_:=am (blk_below (tK BK288) hb);have z3_:=am (below_step (tB HB) hb);revert z2_ z3_;clear BK288 HB;intro BK288 HB;(try clear hb);(try clear hb2);(try clear hk);(try clear hi)))
  go_meet
  first
  | (have mk_:=mk0_
     case rel => exact ⟨_,(decide ((l1.length:Int) > 8)),tV1,H',⟨tU⟩,⟨tK BK288⟩,⟨tB HB⟩⟩)
  | (have mk_:=mk1_
     case rel => exact ⟨_,(true),tV1,H',⟨tU⟩,⟨tK BK288⟩,⟨tB HB⟩⟩)):p:=h
set_option maxRecDepth 1000000 in
theorem Zd6 {p:Prop} (h:p:=by
  have z1_:0 ≤ (x26_2:Int):=oD;have z2_:x26_2 < (l1.length:Int):=oD;obtain ⟨z3_,z4_,z5_,z6_,z7_,z8_,z9_⟩:=Zi1 HR1.out x26_2 z1_ z2_;cases z6_;replace z7_:=celB HB z7_;have z10_:=am z9_;have z11_:=am z8_;clear z9_ z8_;replace z1_:=eq_true z1_;replace z2_:=eq_true z2_
  first
  | (have mk_:=mk0_
     go_wp2_with (first | ((with_reducible refine Z0z (t:=41) (p:=2) rfl ?_);(try (refine gate_guard (by rfl) ?_;dsimp only));refine wpList_load_row rfl 41 (.tmp 2) rfl gb288 rfl 41 _ (0,0) _ (tK BK288) Tryz.underlying41 rfl (by kernel_rfl) ?_) | ((with_reducible refine gate_callee (f:=8) rfl ?_);refine goesL_ (some 33) rfl rfl Tryz.func8 (by kernel_rfl) rfl #[.agg _,.slice z4_ (Z3h l1 x26_2).length z5_] rfl Gc2 ?_;(with_reducible refine (Z0c.calls k2 gL pL _ _ (Z3h l1 x26_2) t291 t292 _ ?sT (lB HL HB) ?s33 ?s34 A18.out).mono ?_);(case sT => exact Gc1);(case s33 => exact tC z10_ HB);(case s34 => exact z11_.out);rintro e z12_ ⟨rfl,hb⟩;refine ⟨_,rfl,?_⟩;have z13_:=am (Kd.R_below (dR HO_6) hb);have z14_:=am (blk_below (tK BK288) hb);have z15_:=am (below_step (tB HB) hb);revert z13_ z14_ z15_;clear HO_6 BK288 HB;intro HO_6 BK288 HB;(try clear hb);(try clear hb2);(try clear hk);(try clear hi)) | ((with_reducible refine gate_builtin (b:=.append) (xs:=#[.tmp 39,.tmp 41]) rfl ?_);(try (refine gate_guard (by rfl) ?_;dsimp only));at_builtin;refine Kd.R_append Kd.string (w0:=w) w.heap.size rfl (.tmp 39) (.tmp 41) 31 9 (.string ⟨#[]⟩) 16 rfl Tryz.underlying31 Z95 rfl (by decide) (by omega) u6 x6_2 t291 [.string t291] (fun _ => True) (fun _ => False) rfl rfl ?aP (fun _ hk => hk.elim) ?aF ?aO ?aB ?aS ?aL ?_;(case aP => exact rfl);(case aB => exact (tB HB));(case aF => exact Gc25);(case aO => exact (dR HO_6));(case aS => exact (tS HB));(case aL => have:=LMc20.out;omega);intro z16_ z17_ ho hb hg hat;rw [← Ny293.out] at ho;have z13_:=am (blk_grown (tK BK288) hg (Kd.R_ne HO_6.out BK288.out (by decide)));have z14_:=am (hb);have z15_:=am (ho);revert z13_ z14_ z15_;clear BK288 HB HO_6;intro BK288 HB z18_;clear ho hb hg hat))
     go_roundg k2
     case measure => have:=HJ2.out;have:=HK2.out;omega
     case rel => exact ⟨(y293),(wrap64 (x26_2 + 1)),tV1,H',⟨by have:=HJ2.out;have:=HK2.out;omega⟩,⟨dR z18_⟩,⟨tK BK288⟩,⟨tB HB⟩⟩)
  | (have mk_:=mk1_
     go_wp2_with (first | ((with_reducible refine Z0z (t:=41) (p:=2) rfl ?_);(try (refine gate_guard (by rfl) ?_;dsimp only));refine wpList_load_row rfl 41 (.tmp 2) rfl gb288 rfl 41 _ (0,0) _ (tK BK288) Tryz.underlying41 rfl (by kernel_rfl) ?_) | ((with_reducible refine gate_callee (f:=8) rfl ?_);refine goesL_ (some 33) rfl rfl Tryz.func8 (by kernel_rfl) rfl #[.agg _,.slice z4_ (Z3h l1 x26_2).length z5_] rfl Gc2 ?_;(with_reducible refine (Z0c.calls k2 gL pL _ _ (Z3h l1 x26_2) t291 t292 _ ?sT (lB HL HB) ?s33 ?s34 A18.out).mono ?_);(case sT => exact Gc1);(case s33 => exact tC z10_ HB);(case s34 => exact z11_.out);rintro e z12_ ⟨rfl,hb⟩;refine ⟨_,rfl,?_⟩;have z13_:=am (Kd.R_below (dR HO_6) hb);have z14_:=am (blk_below (tK BK288) hb);have z15_:=am (below_step (tB HB) hb);revert z13_ z14_ z15_;clear HO_6 BK288 HB;intro HO_6 BK288 HB;(try clear hb);(try clear hb2);(try clear hk);(try clear hi)))
     exact Zbx)):p:=h
set_option maxHeartbeats 8000000 in
set_option maxRecDepth 100000 in
theorem Z0o.calls (k:Nat) (gL:Lg) (pL:La) (A1:Option Addr) (c1:Nat) (l1:List (List ByteArray)) (r1:ByteArray) (r2:Int) (w:World) (hT:Tabs w) (hL:Z2o gL pL w) (hr1:Kd.C (Kd.slice 9 Kd.string) w A1 l1.length l1) (hc1:l1.length ≤ c1) (h:Z0o.f k gL l1 = some (r1,r2)) :
 Calls Tryz.prog 10 #[.agg (lcs gL pL),.slice A1 l1.length c1] w fun e w' => e = .returned (.tuple #[.string r1,.int .i64 r2]) ∧ Below w.heap.size w w':=by
 have HT:=am hT;clear hT;have hu41:=Tryz.underlying41;have HL:=am hL;clear hL;have HR1:=am hr1;have HC1:=am hc1;clear hr1 hc1;have HB:=am (Below.refl w.heap.size w);have H:((Z1p.f k gL).bind fun t289 => (if t289 = true then (if (l1.length:Int) < 1 then (Z0o.j0 k l1 true gL) else (Z0o.j0 k l1 (decide ((l1.length:Int) > 8)) gL)) else (Z0o.j0 k l1 true gL))) = some (r1,r2):=h;clear h;have HC3:=am H;clear H;go_enter Tryz.func10,Tryz.ntmps10
 go_upto_region 1 with (first | ((with_reducible refine Z0z (t:=41) (p:=2) rfl ?_);(try (refine gate_guard (by rfl) ?_;dsimp only));refine wpList_load_row rfl 41 (.tmp 2) rfl gb288 rfl 41 _ (0,0) _ (tK BK288) Tryz.underlying41 rfl (by kernel_rfl) ?_) | ((with_reducible refine gate_dst (N:=2) rfl ?_);(try (refine gate_guard (by rfl) ?_;dsimp only));refine box_event ?hg (N:=2) ?hd (cs:=?cs) (t:=41) ?hr ?_;(case hd => rfl);(case hg => rfl);(case hr => exact Gc5);intro gb288 hg w4 hbox hb;have n0_:=am (below_step (tB HB) hb);have n1_:=am (hbox);have n2_:=tZ hg (tS HB);have n3_:=tZ hg (tS HB);revert n0_ n1_ n2_ n3_;clear HB;intro HB BK288 GW288 GE288;clear hb hbox hg))
 (try simp only [Act.put,List.setIfInBounds_toArray,List.set_cons_zero,List.set_cons_succ])
 go_cut [23] (fun v23 wc => ∃ (kq:Nat) (x23_2:Bool),v23 = .bool x23_2 ∧ Aside0 (Z0o.j0 kq l1 x23_2 gL = some (r1,r2)) ∧ Aside0 (kq ≤ k) ∧ Aside0 (wc.heap[gb288]? = some (.cells (lcs gL pL) 41 (0,0))) ∧ Aside0 (Below w.heap.size w wc))
 case first =>
  have H:=HC3.out;clear HC3;replace H:=bI H;obtain ⟨t289,A5,H⟩:=H;(try dsimp only at H)
  replace H:=iT H;obtain ⟨rfl,H⟩ | ⟨rfl,H⟩:=H
  ·
   replace H:=iF H;obtain ⟨c7,H⟩ | ⟨c7,H⟩:=H
   ·
    have c7b0:decide ((l1.length:Int) < 1) = true:=decide_eq_true c7;have c7b1:decide (l1.length < 1) = true:=decide_eq_true (by omega);have mk1_:=trivial;exact Zd5
   ·
    have c7b0:decide ((l1.length:Int) < 1) = false:=decide_eq_false c7;have c7b1:decide (l1.length < 1) = false:=decide_eq_false (by omega);have mk0_:=trivial;exact Zd5
  ·
   have H':=am H;clear H
   go_wp2_with (first | ((with_reducible refine Z0z (t:=41) (p:=2) rfl ?_);(try (refine gate_guard (by rfl) ?_;dsimp only));refine wpList_load_row rfl 41 (.tmp 2) rfl gb288 rfl 41 _ (0,0) _ (tK BK288) Tryz.underlying41 rfl (by kernel_rfl) ?_) | ((with_reducible refine gate_callee (f:=17) rfl ?_);refine goesL_ (some 12) rfl rfl Tryz.func17 (by kernel_rfl) rfl #[.agg _] rfl Gc2 ?_;(with_reducible refine (Z1p.calls k gL pL false _ ?sT (lB HL HB) A5.out).mono ?_);(case sT => exact Gc1);rintro e w13 ⟨rfl,hb⟩;refine ⟨_,rfl,?_⟩;have n0_:=am (blk_below (tK BK288) hb);have n1_:=am (below_step (tB HB) hb);revert n0_ n1_;clear BK288 HB;intro BK288 HB;(try clear hb);(try clear hb2);(try clear hk);(try clear hi)))
   go_meet
   case rel => exact ⟨_,(true),tV1,H',⟨tU⟩,⟨tK BK288⟩,⟨tB HB⟩⟩
 case rest =>
  clear HC3;obtain ⟨kq,x23_2,rfl,HA,HJ2,BK288,HB⟩:=hcut
  cases kq with
  | zero => exact absurd HA.out (by simp [Z0o.j0])
  | succ kj2 =>
   have H:=HA.out;clear HA;simp only [Z0o.j0] at H
   replace H:=iT H;obtain ⟨rfl,H⟩ | ⟨rfl,H⟩:=H
   ·
    simp only [Option.some.injEq,Prod.mk.injEq] at H;obtain ⟨rfl,rfl⟩:=H;go_wp2;exact Zbx
   ·
    have H':=am H;clear H;go_wp2
    go_loopg [6,26] kj2 (fun kq v6 v26 w' => ∃ (x6_2:List ByteArray) (x26_2:Int),v26 = .int .i64 x26_2 ∧ Aside0 (Z0o.l0 kq x6_2 l1 (l1.length:Int) x26_2 gL = some (r1,r2)) ∧ Aside0 (kq ≤ kj2) ∧ Aside0 (Kd.R Kd.string 9 w' w.heap.size (fun _ => True) v6 x6_2) ∧ Aside0 (w'.heap[gb288]? = some (.cells (lcs gL pL) 41 (0,0))) ∧ Aside0 (Below w.heap.size w w'))
    case atStart => exact ⟨(([]:List ByteArray)),(0),tV1,H',⟨Nat.le_refl _⟩,⟨by first | exact Kd.R_nil _ _ _ _ _ | exact Kd.N_nil _ _ _ _ _ | exact Kd.V_nil _ _ _ _ _ | exact Kd.Q_nil _ _ _ _ _ | exact Kd.S_nil _ _ _ _ _⟩,⟨tK BK288⟩,⟨tB HB⟩⟩
    case round =>
     clear H';(try clear c14);obtain ⟨x6_2,x26_2,rfl,HA,HK2,HO_6,BK288,HB⟩:=hrel
     cases gk with
     | zero => exact absurd HA.out (by simp [Z0o.l0])
     | succ k2 =>
      have H:=HA.out;clear HA;simp only [Z0o.l0] at H
      replace H:=iF H;obtain ⟨c15,H⟩ | ⟨c15,H⟩:=H
      ·
       have c15b0:decide (x26_2 < (l1.length:Int)) = true:=decide_eq_true c15;clear c15;replace H:=iFn H;obtain ⟨c16,H⟩:=H;have c16b0:decide (0 ≤ x26_2) = true:=decide_eq_true c16;clear c16;replace H:=iFn H;obtain ⟨c17,H⟩:=H;have c17b0:decide (x26_2 < (l1.length:Int)) = true:=decide_eq_true c17;clear c17;replace H:=bI H;obtain ⟨⟨t291,t292⟩,A18,H⟩:=H;(try dsimp only at H)
       replace H:=iE H;obtain ⟨-,c19b0,c19b1,H⟩ | ⟨c19,c19b0,c19b1,H⟩:=H
       ·
        replace H:=iFn H;obtain ⟨c20,H⟩:=H;have LMc20:=am c20;clear c20;obtain ⟨y293,hy293⟩:∃ y_:List ByteArray,y_ = (x6_2 ++ [t291]):=⟨_,rfl⟩
        replace H:(Z0o.l0 k2 y293 l1 (l1.length:Int) (wrap64 (x26_2 + 1)) gL) = some (r1,r2):=by first | (rw [hy293];with_reducible exact H) | (have H2_:=(Option.bind_some _ _).symm.trans H;rw [hy293];with_reducible exact H2_) | (have H2_:=(Option.bind_some _ _).symm.trans H;with_reducible exact H2_) | with_reducible exact H | (rw [hy293];exact H) | exact H
        have Ny293:=am hy293;clear hy293;have H':=am H;clear H;have mk0_:=trivial;exact Zd6
       ·
        simp only [Option.some.injEq,Prod.mk.injEq] at H;obtain ⟨rfl,rfl⟩:=H;have mk1_:=trivial;exact Zd6
      ·
       have c15b0:decide (x26_2 < (l1.length:Int)) = false:=decide_eq_false c15;clear c15;replace H:=bI H;obtain ⟨t296,A26,H⟩:=H;(try dsimp only at H);simp only [Option.some.injEq,Prod.mk.injEq] at H;obtain ⟨rfl,rfl⟩:=H;obtain ⟨Ao27,co27,eo27⟩:=Kd.R_slice HO_6.out;subst eo27
       go_wp2_with (first | ((with_reducible refine Z0z (t:=41) (p:=2) rfl ?_);(try (refine gate_guard (by rfl) ?_;dsimp only));refine wpList_load_row rfl 41 (.tmp 2) rfl gb288 rfl 41 _ (0,0) _ (tK BK288) Tryz.underlying41 rfl (by kernel_rfl) ?_) | ((with_reducible refine gate_callee (f:=20) rfl ?_);refine goesL_ (some 45) rfl rfl Tryz.func20 (by kernel_rfl) rfl #[.slice Ao27 x6_2.length co27,.string (⟨#[32]⟩:ByteArray)] rfl Gc2 ?_;(with_reducible refine (Z2j.calls _ _ x6_2 (⟨#[32]⟩:ByteArray) t296 _ ?s1 ?s2 A26.out).mono ?_);(case s1 => repeat (first | exact (Kd.R_reads' HO_6.out).2.2 | (with_reducible refine Kd.C_alloc ?_ _) | (with_reducible refine Kd.C_drewN ?_ _) | (with_reducible refine Kd.C_drew ?_)));(case s2 => exact (Kd.R_reads' HO_6.out).2.1);rintro e w28 ⟨rfl,hb⟩;refine ⟨_,rfl,?_⟩;have n0_:=am (Kd.R_below (dR HO_6) hb);have n1_:=am (blk_below (tK BK288) hb);have n2_:=am (below_step (tB HB) hb);revert n0_ n1_ n2_;clear HO_6 BK288 HB;intro HO_6 BK288 HB;(try clear hb);(try clear hb2);(try clear hk);(try clear hi)))
       exact Zbx
def Z1l.l0:Nat → List ByteArray → List ByteArray → Int → Option (Bool)
 | 0,_,_,_ => none
 | k + 1,x0,x1,x5 => if x5 < (x0.length:Int) then (if 0 ≤ x5 then (if x5 < (x1.length:Int) then (if (rdOf ByteArray.empty x0 x5).toList = (rdOf ByteArray.empty x1 x5).toList then (Z1l.l0 k x0 x1 (wrap64 (x5 + 1))) else (some false)) else (none)) else (none)) else (some true)
def Z1l.f (k:Nat) (l0:List ByteArray) (l1:List ByteArray):Option (Bool):=if (l0.length:Int) = (l1.length:Int) then (Z1l.l0 k l0 l1 0) else (some false)
theorem Zby {p:Prop} (h:p:=by
  go_wp2
  repeat (go_quiet (fail);try go_wp2)
  go_ret
  exact ⟨by first | rfl | (simp;done) | (simp [*];done),by repeat (first | exact Drawn0.refl _ | apply Drawn0.step)⟩):p:=h
theorem Zd7 {p:Prop} (h:p:=by
  have z1_:0 ≤ (x5_1:Int):=oD;have z2_:x5_1 < (l0.length:Int):=oD;obtain ⟨z3_,z4_,z5_⟩:=Kd.at_string HR0.out x5_1 z1_ z2_;cases z4_;replace z1_:=eq_true z1_;replace z2_:=eq_true z2_;have z6_:0 ≤ (x5_1:Int):=oD;have z7_:x5_1 < (l1.length:Int):=oD;obtain ⟨z8_,z9_,z10_⟩:=Kd.at_string HR1.out x5_1 z6_ z7_;cases z9_;replace z6_:=eq_true z6_;replace z7_:=eq_true z7_
  first
  | (have mk_:=mk0_
     go_wp2
     repeat (go_quiet (fail);try go_wp2)
     go_roundg k1
     case measure => have:=HK1.out;omega
     case rel => exact ⟨(wrap64 (x5_1 + 1)),tV1,H',⟨by have:=HK1.out;omega⟩,by repeat (first | exact Drawn0.refl _ | apply Drawn0.step)⟩)
  | (have mk_:=mk1_
     exact Zby)):p:=h
set_option maxHeartbeats 8000000 in
set_option maxRecDepth 100000 in
theorem Z1l.calls (k:Nat) (A0:Option Addr) (c0:Nat) (l0:List ByteArray) (A1:Option Addr) (c1:Nat) (l1:List ByteArray) (r:Bool) (w:World) (hr0:Kd.C Kd.string w A0 l0.length l0) (hc0:l0.length ≤ c0) (hr1:Kd.C Kd.string w A1 l1.length l1) (hc1:l1.length ≤ c1) (h:Z1l.f k l0 l1 = some r) :
 Calls Tryz.prog 15 #[.slice A0 l0.length c0,.slice A1 l1.length c1] w fun e w' => e = .returned (.bool r) ∧ Drawn0 w w':=by
 have HR0:=am hr0;have HC0:=am hc0;clear hr0 hc0;have HR1:=am hr1;have HC1:=am hc1;clear hr1 hc1;have H:(if (l0.length:Int) = (l1.length:Int) then (Z1l.l0 k l0 l1 0) else (some false)) = some r:=h;clear h
 replace H:=iE H;obtain ⟨c3,c3b0,c3b1,H⟩ | ⟨c3,c3b0,c3b1,H⟩:=H;rotate_left
 ·
  obtain ⟨_,_,c3b2⟩:=eN2 c3;obtain rfl:=Option.some.inj H;go_enter Tryz.func15,Tryz.ntmps15;exact Zby
 obtain ⟨_,_,c3b2⟩:=eP2 c3;clear c3;have H':=am H;clear H;go_enter Tryz.func15,Tryz.ntmps15;go_wp2
 repeat (go_quiet (fail);try go_wp2)
 go_loopg [5] k (fun kq v5 w' => ∃ (x5_1:Int),v5 = .int .i64 x5_1 ∧ Aside0 (Z1l.l0 kq l0 l1 x5_1 = some r) ∧ Aside0 (kq ≤ k) ∧ Drawn0 w w')
 case atStart => exact ⟨(0),tV1,H',⟨Nat.le_refl _⟩,by repeat (first | exact Drawn0.refl _ | apply Drawn0.step)⟩
 case round =>
  clear H';(try clear c3);(try clear c3b0);(try clear c3b1);(try clear c3b2);obtain ⟨x5_1,rfl,HA,HK1,⟨m1,rfl⟩⟩:=hrel
  cases gk with
  | zero => exact absurd HA.out (by simp [Z1l.l0])
  | succ k1 =>
   have H:=HA.out;clear HA;simp only [Z1l.l0] at H
   replace H:=iF H;obtain ⟨c4,H⟩ | ⟨c4,H⟩:=H;rotate_left
   ·
    have c4b0:decide (x5_1 < (l0.length:Int)) = false:=decide_eq_false c4;clear c4;obtain rfl:=Option.some.inj H;exact Zby
   have c4b0:decide (x5_1 < (l0.length:Int)) = true:=decide_eq_true c4;clear c4;replace H:=iFn H;obtain ⟨c5,H⟩:=H;have c5b0:decide (0 ≤ x5_1) = true:=decide_eq_true c5;clear c5;replace H:=iFn H;obtain ⟨c6,H⟩:=H;have c6b0:decide (x5_1 < (l1.length:Int)) = true:=decide_eq_true c6;clear c6
   replace H:=iE H;obtain ⟨-,c7b0,c7b1,H⟩ | ⟨c7,c7b0,c7b1,H⟩:=H
   ·
    have H':=am H;clear H;have mk0_:=trivial;exact Zd7
   ·
    obtain rfl:=Option.some.inj H;have mk1_:=trivial;exact Zd7
end Go.Proofs.YtfbhdjflkaldgaaGreatDoor.Pr

namespace Go.Proofs.YtfbhdjflkaldgaaGreatDoor.Pr
open Go.Proofs.YtfbhdjflkaldgaaGreatDoor.Ct Go.RowKit Go.Maps Go.Lib Go.Proofs.YtfbhdjflkaldgaaGreatDoorW.PrintWords Go.Proofs.YtfbhdjflkaldgaaGreatDoorW.PrintLast Go.Proofs.YtfbhdjflkaldgaaGreatDoorW.PrintMore
def awA:List S68:=[⟨97,1⟩,⟨101,1⟩,⟨116,2⟩,⟨110,2⟩]
def awI:List S70:=[⟨2147483648,⟨#[]⟩,false,false⟩]
def awR:List S73:=[⟨101,⟨#[]⟩,[],awI,false,false⟩]
def awS:ByteArray:=⟨#[46]⟩
def awG:Lg:=⟨⟨#[]⟩,false,awA,[],[],[],[],0,0,awR,0,[],[],false,⟨#[]⟩,0,⟨#[]⟩,false,0,0,[],[],[],[],[],false,[],[],[],awS⟩
theorem aw1:Z0c.f 60 awG [⟨#[116,97,110,101]⟩,⟨#[61,97]⟩,⟨#[101,116]⟩] = some (⟨#[116,97,110,97,32,101,116,46]⟩,0):=by kernel_rfl
theorem aw2:Z0c.f 60 awG [⟨#[61,97]⟩,⟨#[101,116]⟩] = some (⟨#[]⟩,1):=by kernel_rfl
theorem aw3:Z0o.f 60 awG [[⟨#[116,97,110]⟩],[⟨#[101,116]⟩,⟨#[61,110,97]⟩]] = some (⟨#[116,97,110,46,32,101,116,110,97,46]⟩,0):=by kernel_rfl
theorem aw4:Z2r.f awG ⟨#[116,97,110,46,32,101,116,110,97,46]⟩ = some ([⟨#[116,97,110,46]⟩,⟨#[101,116,110,97,46]⟩],0):=by kernel_rfl
theorem aw5:Z2w.f awG ⟨#[116,97,110,97,32,101,116,46]⟩ = some ([⟨#[116,97,110,97]⟩,⟨#[101,116]⟩],0):=by kernel_rfl
theorem aw6:Z2w.f awG ⟨#[116,97,110,32,32,101,116,46]⟩ = some ([],3):=by kernel_rfl
theorem aw7:Z1l.f 9 [⟨#[116,97,110,46]⟩,⟨#[101,116,110,97,46]⟩] [⟨#[116,97,110,46]⟩,⟨#[101,116,110,97,46]⟩] = some true:=by kernel_rfl
theorem aw8:Z1l.f 9 [⟨#[116,97,110,97]⟩,⟨#[101,116]⟩] [⟨#[116,97,110,97]⟩,⟨#[101,116]⟩] = some true:=by kernel_rfl
end Go.Proofs.YtfbhdjflkaldgaaGreatDoor.Pr
