-- Written by a program of this session (ownprint.py, over the kit's printer). Not trusted: Lean checks it.
import Derived.Test.YtfbhdjflkaldgaaGreatDoorMg1
import Derived.Test.YtfbhdjflkaldgaaGreatDoorMg2
import Derived.Test.YtfbhdjflkaldgaaGreatDoorMg7
import Derived.Test.YtfbhdjflkaldgaaGreatDoorMg13
import Derived.Test.YtfbhdjflkaldgaaGreatDoorMg8
import Derived.Test.YtfbhdjflkaldgaaGreatDoorMg3
import Derived.Test.YtfbhdjflkaldgaaGreatDoorWRepsOne
namespace Go.Proofs.YtfbhdjflkaldgaaGreatDoor.Pr
open Go.Proofs.YtfbhdjflkaldgaaGreatDoor.Ct Go.RowKit Go.Proofs.YtfbhdjflkaldgaaGreatDoorW.PrintWords Go.Proofs.YtfbhdjflkaldgaaGreatDoorW.PrintLast Go.Proofs.YtfbhdjflkaldgaaGreatDoorW.PrintMore
attribute [local go_sem] max2_int min2_int max_two min_two max_three min_three max_four min_four
set_option linter.unusedVariables false
set_option linter.unusedSimpArgs false
mutual
def Z0g.j0:Nat → List (S68) → List (S73) → ByteArray → Bool → Option (List ByteArray × Int)
 | 0,_,_,_,_ => none
 | k + 1,x0,x1,x2,x28 => if x28 = true then (some (([]:List ByteArray),1)) else (Z0g.l0 k x0 x1 x2 x1 (x1.length:Int) 0)
def Z0g.l0:Nat → List (S68) → List (S73) → ByteArray → List (S73) → Int → Int → Option (List ByteArray × Int)
 | 0,_,_,_,_,_,_ => none
 | k + 1,x0,x1,x2,x29,x30,x31 => if x31 < x30 then (if 0 ≤ x31 then (if x31 < (x29.length:Int) then ((Z1r.f x0 ((Z03 x29 x31).f0) ((Z03 x29 x31).f1) ((Z03 x29 x31).f2) ((Z03 x29 x31).f3) ((Z03 x29 x31).f4) ((Z03 x29 x31).f5)).bind fun t200 => (if t200 = true then (Z0g.l0 k x0 x1 x2 x29 x30 (wrap64 (x31 + 1))) else (some (([]:List ByteArray),1)))) else (none)) else (none)) else (Z0g.l1 k x0 (([x2]:List ByteArray)) x1 (x1.length:Int) 0)
def Z0g.l1:Nat → List (S68) → List ByteArray → List (S73) → Int → Int → Option (List ByteArray × Int)
 | 0,_,_,_,_,_ => none
 | k + 1,x0,x10,x42,x43,x44 => if x44 < x43 then (if 0 ≤ x44 then (if x44 < (x42.length:Int) then (if 0 ≤ (wrap64 ((x10.length:Int) - 1)) then (if (wrap64 ((x10.length:Int) - 1)) < (x10.length:Int) then ((Z17.f k x0 ((Z03 x42 x44).f0) ((Z03 x42 x44).f1) ((Z03 x42 x44).f2) ((Z03 x42 x44).f3) ((Z03 x42 x44).f4) ((Z03 x42 x44).f5) (rdOf ByteArray.empty x10 (wrap64 ((x10.length:Int) - 1)))).bind fun bt207 => (if bt207.2 = 0 then (if x10.length < 8796093022208 then (Z0g.l1 k x0 (x10 ++ [bt207.1]) x42 x43 (wrap64 (x44 + 1))) else (none)) else (some (([]:List ByteArray),bt207.2)))) else (none)) else (none)) else (none)) else (none)) else (some (x10,0))
end
def Z0g.f (k:Nat) (l0:List (S68)) (l1:List (S73)) (a2:ByteArray):Option (List ByteArray × Int):=if (l1.length:Int) > 64 then (Z0g.j0 k l0 l1 a2 true) else ((Z02.f k l0).bind fun t196 => (if t196 = true then ((Z19.f l0 a2).bind fun t197 => (Z0g.j0 k l0 l1 a2 (!t197))) else (Z0g.j0 k l0 l1 a2 true)))
def Z0g.T13:Bool × List (List Nat × List Nat):=(true,[([],[]),([],[]),([],[]),([],[]),([3],[3]),([4],[4]),([2,5],[2,5]),([6],[6]),([0,1,7],[0,1,7]),([8],[8]),([9],[9]),([9],[9]),([10,8,0,1,2,3,4,5,6,7,8,9,10],[10]),([11,12,0,1,2,3,4,5,6,7,8,9,10,11,12],[11])])
def Z0g.B13:List Nat:=[0,0,0,0,8,24,60,124,255,511,1023,1023,2047,8191]
theorem Z0g.tab13:rtab .any (opsOf Tryz.f88 13) = Z0g.T13:=by kernel_rfl
theorem Z0g.bits13:waitsOk Z0g.T13.2 Z0g.B13 = true:=by kernel_rfl
set_option maxRecDepth 1000000 in
theorem Zcw {p:Prop} (h:p:=by
  have z1_:0 ≤ (x44_3:Int):=oD;have z2_:x44_3 < (l1.length:Int):=oD;obtain ⟨z3_,z4_,z5_,z6_,z7_,z8_,z9_,z10_,z11_,z12_,z13_,z14_,z15_,z16_,z17_,z18_⟩:=Zat HR1.out x44_3 z1_ z2_;cases z8_;replace z9_:=celB HB z9_;replace z10_:=celB HB z10_;replace z11_:=celB HB z11_;replace z12_:=celB HB z12_;replace z13_:=celB HB z13_;replace z14_:=celB HB z14_;have z19_:=am z16_;have z20_:=am z15_;clear z16_ z15_;have z21_:=am z18_;have z22_:=am z17_;clear z18_ z17_;replace z1_:=eq_true z1_;replace z2_:=eq_true z2_
  try go_wp2_with (first | ((with_reducible refine gate_dst (N:=12) rfl ?_);refine box_event ?hg (N:=12) ?hd (cs:=#[.int .i32 0,.string (⟨#[]⟩:ByteArray),.slice none 0 0,.slice none 0 0,.bool false,.bool false]) (t:=73) ?hr ?_;(case hd => rfl);(case hg => rfl);(case hr => exact Gc5);intro z23_ hg z24_ hbox hb;have z25_:=am (Kd.R_below (dR HO_10) hb);have z26_:=am (below_step (tB HB) hb);have z27_:=am (hbox);have z28_:=tZ hg (tS HB);have z29_:=tZ hg (tS HB);revert z25_ z26_ z27_ z28_ z29_;clear HO_10 HB;intro HO_10 HB z30_ z31_ z32_;clear hb hbox hg;have z33_:=cel2 z30_ 0 rfl;have z34_:=cel2 z30_ 1 rfl;have z35_:=cel2 z30_ 2 rfl;have z36_:=cel2 z30_ 3 rfl;have z37_:=cel2 z30_ 4 rfl;have z38_:=cel2 z30_ 5 rfl;have z39_:=blk_frozen z30_.out 0;have z40_:=blk_frozen z30_.out 1;have z41_:=blk_frozen z30_.out 2;have z42_:=blk_frozen z30_.out 3;have z43_:=blk_frozen z30_.out 4;have z44_:=blk_frozen z30_.out 5))
  have z25_:Aside0 (Kd.R Kd.string 9 ((((((z24_.setCell ⟨z23_,0,none⟩ (.int .i32 ((Z03 l1 x44_3).f0))).setCell ⟨z23_,1,none⟩ (.string ((Z03 l1 x44_3).f1))).setCell ⟨z23_,2,none⟩ (.slice z4_ ((Z03 l1 x44_3).f2).length z5_)).setCell ⟨z23_,3,none⟩ (.slice z6_ ((Z03 l1 x44_3).f3).length z7_)).setCell ⟨z23_,4,none⟩ (.bool ((Z03 l1 x44_3).f4))).setCell ⟨z23_,5,none⟩ (.bool ((Z03 l1 x44_3).f5))) w.heap.size (fun _ => True) u10 x10_3):=⟨by (with_reducible repeat (first | apply Kd.R_alloc | apply Kd.R_drewN | apply Kd.R_drew));exact Kd.R_mono (Kd.R_far (p:=⟨z23_,5,none⟩) (Kd.R_far (p:=⟨z23_,4,none⟩) (Kd.R_far (p:=⟨z23_,3,none⟩) (Kd.R_far (p:=⟨z23_,2,none⟩) (Kd.R_far (p:=⟨z23_,1,none⟩) (Kd.R_far (p:=⟨z23_,0,none⟩) (Kd.R_types HO_10.out z30_.out (by decide)) (fun _ hk => hk.2) (.int .i32 ((Z03 l1 x44_3).f0))) (fun _ hk => hk.2) (.string ((Z03 l1 x44_3).f1))) (fun _ hk => hk.2) (.slice z4_ ((Z03 l1 x44_3).f2).length z5_)) (fun _ hk => hk.2) (.slice z6_ ((Z03 l1 x44_3).f3).length z7_)) (fun _ hk => hk.2) (.bool ((Z03 l1 x44_3).f4))) (fun _ hk => hk.2) (.bool ((Z03 l1 x44_3).f5))) (fun _ hk => trivial)⟩;have z26_:Aside0 (((((((z24_.setCell ⟨z23_,0,none⟩ (.int .i32 ((Z03 l1 x44_3).f0))).setCell ⟨z23_,1,none⟩ (.string ((Z03 l1 x44_3).f1))).setCell ⟨z23_,2,none⟩ (.slice z4_ ((Z03 l1 x44_3).f2).length z5_)).setCell ⟨z23_,3,none⟩ (.slice z6_ ((Z03 l1 x44_3).f3).length z7_)).setCell ⟨z23_,4,none⟩ (.bool ((Z03 l1 x44_3).f4))).setCell ⟨z23_,5,none⟩ (.bool ((Z03 l1 x44_3).f5))).heap[z23_]? = some (.cells #[.int .i32 ((Z03 l1 x44_3).f0),.string ((Z03 l1 x44_3).f1),.slice z4_ ((Z03 l1 x44_3).f2).length z5_,.slice z6_ ((Z03 l1 x44_3).f3).length z7_,.bool ((Z03 l1 x44_3).f4),.bool ((Z03 l1 x44_3).f5)] 73 (0,0))):=⟨tKp z30_⟩;have z27_:Aside0 (Below w.heap.size w ((((((z24_.setCell ⟨z23_,0,none⟩ (.int .i32 ((Z03 l1 x44_3).f0))).setCell ⟨z23_,1,none⟩ (.string ((Z03 l1 x44_3).f1))).setCell ⟨z23_,2,none⟩ (.slice z4_ ((Z03 l1 x44_3).f2).length z5_)).setCell ⟨z23_,3,none⟩ (.slice z6_ ((Z03 l1 x44_3).f3).length z7_)).setCell ⟨z23_,4,none⟩ (.bool ((Z03 l1 x44_3).f4))).setCell ⟨z23_,5,none⟩ (.bool ((Z03 l1 x44_3).f5)))):=⟨tB HB⟩
  (try clear HO_10);(try clear z30_);(try clear HB)
  generalize ((((((z24_.setCell ⟨z23_,0,none⟩ (.int .i32 ((Z03 l1 x44_3).f0))).setCell ⟨z23_,1,none⟩ (.string ((Z03 l1 x44_3).f1))).setCell ⟨z23_,2,none⟩ (.slice z4_ ((Z03 l1 x44_3).f2).length z5_)).setCell ⟨z23_,3,none⟩ (.slice z6_ ((Z03 l1 x44_3).f3).length z7_)).setCell ⟨z23_,4,none⟩ (.bool ((Z03 l1 x44_3).f4))).setCell ⟨z23_,5,none⟩ (.bool ((Z03 l1 x44_3).f5))) = z45_ at z25_ z26_ z27_ ⊢;have HO_10:=z25_;have z30_:=z26_;have HB:=z27_;clear z25_ z26_ z27_;have z25_:=am (Kd.R_drew HO_10.out);have z26_:=am (blk_drew z30_.out);have z27_:=am (below_drew1 HB.out);revert z25_ z26_ z27_;clear HO_10 z30_ HB;intro HO_10 z30_ HB;obtain ⟨z46_,z47_,z48_⟩:=Kd.R_slice HO_10.out
  (first | subst z48_ | (injection z48_ with f1_ f2_ f3_;have z49_:=f1_.symm;have z50_:=f3_.symm;clear f1_ f2_ f3_;subst z49_;subst z50_))
  have z51_:0 ≤ ((ji29):Int):=oD;have z52_:(ji29) < (x10_3.length:Int):=oD;obtain ⟨z53_,z54_,z55_⟩:=Kd.at_string (Kd.R_reads' HO_10.out).2.2 (ji29) z51_ z52_;cases z54_;replace z51_:=eq_true z51_;replace z52_:=eq_true z52_
  refine start_ (n:=14) (S:=fun w' => w'.cell? ⟨z23_,0,none⟩ = some (.int .i32 ((Z03 l1 x44_3).f0)) ∧ w'.cell? ⟨z23_,1,none⟩ = some (.string ((Z03 l1 x44_3).f1)) ∧ w'.cell? ⟨z23_,2,none⟩ = some (.slice z4_ ((Z03 l1 x44_3).f2).length z5_) ∧ w'.cell? ⟨z23_,3,none⟩ = some (.slice z6_ ((Z03 l1 x44_3).f3).length z7_) ∧ w'.cell? ⟨z23_,4,none⟩ = some (.bool ((Z03 l1 x44_3).f4)) ∧ w'.cell? ⟨z23_,5,none⟩ = some (.bool ((Z03 l1 x44_3).f5)) ∧ w'.cell? (z53_.add ((ji29)).toNat) = some (.string (rdOf ByteArray.empty x10_3 (ji29)))) (ds:=[]) #[false,false,false,false,false,false,false,false,false,false,false,false,false,false] (by kernel_rfl) rfl rfl ⟨(blk_cell z30_.out 0).trans rfl,(blk_cell z30_.out 1).trans rfl,(blk_cell z30_.out 2).trans rfl,(blk_cell z30_.out 3).trans rfl,(blk_cell z30_.out 4).trans rfl,(blk_cell z30_.out 5).trans rfl,z55_⟩ (fun hHeld => ?_);refine with_tabW Z0g.tab13 Z0g.bits13 (fun HT_ HW_ => ?_)
  generalize z45_.drew = z56_ at HO_10 z30_ HB z55_ hHeld ⊢
  refine pT 0 49 ?_
  refine pT 2 51 ?_
  refine pT 3 52 ?_
  refine pT 4 53 ?_
  refine pT 5 54 ?_
  refine pT 6 55 ?_
  refine tTt 1 50 hHeld ?_
  refine tTt 7 56 hHeld ?_
  refine one_ (i:=8) (N:=some 57) #[true,true,true,true,true,true,true,true,true,false,false,false,false,false] rfl rfl (one_of HT_.out (by kernel_rfl)) (by decide) (fun K hK => ?_)
  refine goes_ Tryz.func93 (by kernel_rfl) rfl #[.slice A0 l0.length c0,.agg #[.int .i32 ((Z03 l1 x44_3).f0),.string ((Z03 l1 x44_3).f1),.slice z4_ ((Z03 l1 x44_3).f2).length z5_,.slice z6_ ((Z03 l1 x44_3).f3).length z7_,.bool ((Z03 l1 x44_3).f4),.bool ((Z03 l1 x44_3).f5)],.string (rdOf ByteArray.empty x10_3 (ji29))] (by rfl) rfl rfl (by (try simp only [List.map_toArray,List.map_cons,List.map_nil]);first | done | (simp only [hji29];rfl) | rfl | (simp only [List.length_drop,List.length_take];rfl)) ?_
  with_reducible refine (Z17.calls k3 _ _ l0 ((Z03 l1 x44_3).f0) ((Z03 l1 x44_3).f1) _ _ ((Z03 l1 x44_3).f2) _ _ ((Z03 l1 x44_3).f3) ((Z03 l1 x44_3).f4) ((Z03 l1 x44_3).f5) (rdOf ByteArray.empty x10_3 (ji29)) t207 t208 _ ?sT (tC HR0 HB) HC0.out ?s3 ?s4 ?s5 ?s6 A32.out).mono ?_
  (case sT => exact Gc1);(case s3 => exact tC z19_ HB);(case s4 => exact z20_.out);(case s5 => exact tC z21_ HB);(case s6 => exact z22_.out);rintro e z57_ ⟨rfl,hb⟩;have z58_:=(hb.cell (World.block_lt_of_cell? _ _ (hHeld.2.2.2.2.2.2))).trans (hHeld.2.2.2.2.2.2)
  refine ⟨_,rfl,?_⟩
  have z25_:=am (Kd.R_below (dR HO_10) hb);have z26_:=am (blk_below (tK z30_) hb);have z27_:=am (below_step (tB HB) hb);revert z25_ z26_ z27_;clear HO_10 z30_ HB;intro HO_10 z30_ HB
  (try clear hb);(try clear hk)
  refine hK.out _ _ ⟨(blk_cell z30_.out 0).trans rfl,(blk_cell z30_.out 1).trans rfl,(blk_cell z30_.out 2).trans rfl,(blk_cell z30_.out 3).trans rfl,(blk_cell z30_.out 4).trans rfl,(blk_cell z30_.out 5).trans rfl,z58_⟩ (fun hHeld => ?_)
  clear hK K
  refine nR 57 ?_
  refine pT 9 48 ?_
  refine pT 10 58 ?_
  refine pT 11 59 ?_
  refine pT 12 13 ?_
  refine pT 13 14 ?_
  refine done_ (done_of HT_.out (by kernel_rfl)) ?_
  first
  | (have mk_:=mk0_
     try go_wp2_with (first | ((with_reducible refine gate_builtin (b:=.append) (xs:=#[.tmp 63,.tmp 65]) rfl ?_);at_builtin;refine Kd.R_append Kd.string (w0:=w) w.heap.size rfl (.tmp 63) (.tmp 65) 31 9 (.string ⟨#[]⟩) 16 rfl Tryz.underlying31 Z95 rfl (by decide) (by omega) (.slice (some z53_) x10_3.length z47_) x10_3 t207 [.string t207] (fun _ => True) (fun _ => False) rfl rfl ?aP (fun _ hk => hk.elim) ?aF ?aO ?aB ?aS ?aL ?_;(case aP => exact rfl);(case aB => exact (tB HB));(case aF => exact Gc25);(case aO => exact (dR HO_10));(case aS => exact (tS HB));(case aL => have:=LMc34.out;omega);intro z59_ z60_ ho hb hg hat;rw [← Ny209.out] at ho;have z25_:=am (blk_grown (tK z30_) hg (Kd.R_ne HO_10.out z30_.out (by decide)));have z26_:=am (hb);have z27_:=am (ho);revert z25_ z26_ z27_;clear z30_ HB HO_10;intro z30_ HB z61_;clear ho hb hg hat))
     go_roundg k3
     case measure => have:=HJ3.out;have:=HK2.out;have:=HK3.out;omega
     case rel => exact ⟨(y209),(wrap64 (x44_3 + 1)),tV1,H',⟨by have:=HJ3.out;have:=HK2.out;have:=HK3.out;omega⟩,⟨dR z61_⟩,⟨tB HB⟩⟩)
  | (have mk_:=mk1_
     try go_wp2
     go_ret2
     exact ⟨_,by first | rfl | (simp [Z3e,Z3f] <;> rfl) | (simp only [← hji29];first | rfl | (simp [Z3e,Z3f] <;> rfl)) | (simp [*,Z3e,Z3f] <;> rfl),by first | exact Kd.R_nil _ _ _ _ _ | exact Kd.N_nil _ _ _ _ _ | exact Kd.V_nil _ _ _ _ _ | exact Kd.Q_nil _ _ _ _ _ | exact Kd.S_nil _ _ _ _ _,by repeat (first | (with_reducible first | exact HB.out | apply below_alloc | apply pw_below_drewN | apply below_drew1 | refine below_set ?_ z32_.out) | exact HB.out)⟩)):p:=h
set_option maxRecDepth 1000000 in
theorem Zcx {p:Prop} (h:p:=by
  have z1_:0 ≤ (x31_2:Int):=oD;have z2_:x31_2 < (l1.length:Int):=oD;obtain ⟨z3_,z4_,z5_,z6_,z7_,z8_,z9_,z10_,z11_,z12_,z13_,z14_,z15_,z16_,z17_,z18_⟩:=Zat HR1.out x31_2 z1_ z2_;cases z8_;replace z9_:=celB HB z9_;replace z10_:=celB HB z10_;replace z11_:=celB HB z11_;replace z12_:=celB HB z12_;replace z13_:=celB HB z13_;replace z14_:=celB HB z14_;have z19_:=am z16_;have z20_:=am z15_;clear z16_ z15_;have z21_:=am z18_;have z22_:=am z17_;clear z18_ z17_;replace z1_:=eq_true z1_;replace z2_:=eq_true z2_
  first
  | (have mk_:=mk0_
     go_wp2_with (first | ((with_reducible refine gate_dst (N:=9) rfl ?_);refine box_event ?hg (N:=9) ?hd (cs:=#[.int .i32 0,.string (⟨#[]⟩:ByteArray),.slice none 0 0,.slice none 0 0,.bool false,.bool false]) (t:=73) ?hr ?_;(case hd => rfl);(case hg => rfl);(case hr => exact Gc5);intro z23_ hg z24_ hbox hb;have z25_:=am (below_step (tB HB) hb);have z26_:=am (hbox);have z27_:=tZ hg (tS HB);have z28_:=tZ hg (tS HB);revert z25_ z26_ z27_ z28_;clear HB;intro HB z29_ z30_ z31_;clear hb hbox hg;have z32_:=cel2 z29_ 0 rfl;have z33_:=cel2 z29_ 1 rfl;have z34_:=cel2 z29_ 2 rfl;have z35_:=cel2 z29_ 3 rfl;have z36_:=cel2 z29_ 4 rfl;have z37_:=cel2 z29_ 5 rfl;have z38_:=blk_frozen z29_.out 0;have z39_:=blk_frozen z29_.out 1;have z40_:=blk_frozen z29_.out 2;have z41_:=blk_frozen z29_.out 3;have z42_:=blk_frozen z29_.out 4;have z43_:=blk_frozen z29_.out 5) | ((with_reducible refine gate_callee (f:=52) rfl ?_);refine goesL_ (some 37) rfl rfl Tryz.func52 (by kernel_rfl) rfl #[.slice A0 l0.length c0,.agg #[.int .i32 ((Z03 l1 x31_2).f0),.string ((Z03 l1 x31_2).f1),.slice z4_ ((Z03 l1 x31_2).f2).length z5_,.slice z6_ ((Z03 l1 x31_2).f3).length z7_,.bool ((Z03 l1 x31_2).f4),.bool ((Z03 l1 x31_2).f5)]] rfl Gc2 ?_;(with_reducible refine (Z1r.calls _ _ l0 ((Z03 l1 x31_2).f0) ((Z03 l1 x31_2).f1) _ _ ((Z03 l1 x31_2).f2) _ _ ((Z03 l1 x31_2).f3) ((Z03 l1 x31_2).f4) ((Z03 l1 x31_2).f5) false _ ?sT ?s1 HC0.out ?s3 ?s4 ?s5 ?s6 A16.out).mono ?_);(case sT => exact Gc1);(case s1 => exact Kd.C_below HR0.out (tB HB));(case s3 => exact Kd.C_below z19_.out (tB HB));(case s4 => exact z20_.out);(case s5 => exact Kd.C_below z21_.out (tB HB));(case s6 => exact z22_.out);rintro e z44_ ⟨rfl,hb⟩;refine ⟨_,rfl,?_⟩;have z25_:=am (blk_below (g:=z23_) (o:=.cells #[.int .i32 ((Z03 l1 x31_2).f0),.string ((Z03 l1 x31_2).f1),.slice z4_ ((Z03 l1 x31_2).f2).length z5_,.slice z6_ ((Z03 l1 x31_2).f3).length z7_,.bool ((Z03 l1 x31_2).f4),.bool ((Z03 l1 x31_2).f5)] 73 (0,0)) (tKp z29_) hb);have z26_:=am (below_step (tB HB) hb);revert z25_ z26_;clear z29_ HB;intro z29_ HB;(try clear hb);(try clear hb2);(try clear hk);(try clear hi)))
     go_ret2
     exact ⟨_,tE,by first | exact Kd.R_nil _ _ _ _ _ | exact Kd.N_nil _ _ _ _ _ | exact Kd.V_nil _ _ _ _ _ | exact Kd.Q_nil _ _ _ _ _ | exact Kd.S_nil _ _ _ _ _,by repeat (first | (with_reducible first | exact HB.out | apply below_alloc | apply pw_below_drewN | apply below_drew1 | refine below_set ?_ z31_.out) | exact HB.out)⟩)
  | (have mk_:=mk1_
     go_wp2_with (first | ((with_reducible refine gate_dst (N:=9) rfl ?_);refine box_event ?hg (N:=9) ?hd (cs:=#[.int .i32 0,.string (⟨#[]⟩:ByteArray),.slice none 0 0,.slice none 0 0,.bool false,.bool false]) (t:=73) ?hr ?_;(case hd => rfl);(case hg => rfl);(case hr => exact Gc5);intro z23_ hg z24_ hbox hb;have z25_:=am (below_step (tB HB) hb);have z26_:=am (hbox);have z27_:=tZ hg (tS HB);have z28_:=tZ hg (tS HB);revert z25_ z26_ z27_ z28_;clear HB;intro HB z29_ z30_ z31_;clear hb hbox hg;have z32_:=cel2 z29_ 0 rfl;have z33_:=cel2 z29_ 1 rfl;have z34_:=cel2 z29_ 2 rfl;have z35_:=cel2 z29_ 3 rfl;have z36_:=cel2 z29_ 4 rfl;have z37_:=cel2 z29_ 5 rfl;have z38_:=blk_frozen z29_.out 0;have z39_:=blk_frozen z29_.out 1;have z40_:=blk_frozen z29_.out 2;have z41_:=blk_frozen z29_.out 3;have z42_:=blk_frozen z29_.out 4;have z43_:=blk_frozen z29_.out 5) | ((with_reducible refine gate_callee (f:=52) rfl ?_);refine goesL_ (some 37) rfl rfl Tryz.func52 (by kernel_rfl) rfl #[.slice A0 l0.length c0,.agg #[.int .i32 ((Z03 l1 x31_2).f0),.string ((Z03 l1 x31_2).f1),.slice z4_ ((Z03 l1 x31_2).f2).length z5_,.slice z6_ ((Z03 l1 x31_2).f3).length z7_,.bool ((Z03 l1 x31_2).f4),.bool ((Z03 l1 x31_2).f5)]] rfl Gc2 ?_;(with_reducible refine (Z1r.calls _ _ l0 ((Z03 l1 x31_2).f0) ((Z03 l1 x31_2).f1) _ _ ((Z03 l1 x31_2).f2) _ _ ((Z03 l1 x31_2).f3) ((Z03 l1 x31_2).f4) ((Z03 l1 x31_2).f5) true _ ?sT ?s1 HC0.out ?s3 ?s4 ?s5 ?s6 A16.out).mono ?_);(case sT => exact Gc1);(case s1 => exact Kd.C_below HR0.out (tB HB));(case s3 => exact Kd.C_below z19_.out (tB HB));(case s4 => exact z20_.out);(case s5 => exact Kd.C_below z21_.out (tB HB));(case s6 => exact z22_.out);rintro e z44_ ⟨rfl,hb⟩;refine ⟨_,rfl,?_⟩;have z25_:=am (blk_below (g:=z23_) (o:=.cells #[.int .i32 ((Z03 l1 x31_2).f0),.string ((Z03 l1 x31_2).f1),.slice z4_ ((Z03 l1 x31_2).f2).length z5_,.slice z6_ ((Z03 l1 x31_2).f3).length z7_,.bool ((Z03 l1 x31_2).f4),.bool ((Z03 l1 x31_2).f5)] 73 (0,0)) (tKp z29_) hb);have z26_:=am (below_step (tB HB) hb);revert z25_ z26_;clear z29_ HB;intro z29_ HB;(try clear hb);(try clear hb2);(try clear hk);(try clear hi)))
     go_roundg k2
     case measure => have:=HJ3.out;have:=HK2.out;omega
     case rel => exact ⟨(wrap64 (x31_2 + 1)),tV1,H',⟨by have:=HJ3.out;have:=HK2.out;omega⟩,⟨tB HB⟩⟩)):p:=h
set_option maxHeartbeats 8000000 in
set_option maxRecDepth 100000 in
theorem Z0g.calls (k:Nat) (A0:Option Addr) (c0:Nat) (l0:List (S68)) (A1:Option Addr) (c1:Nat) (l1:List (S73)) (a2:ByteArray) (r1:List ByteArray) (r2:Int) (w:World) (hT:Tabs w) (hr0:Kd.C k68 w A0 l0.length l0) (hc0:l0.length ≤ c0) (hr1:Kd.C k73 w A1 l1.length l1) (hc1:l1.length ≤ c1) (h:Z0g.f k l0 l1 a2 = some (r1,r2)) :
 Calls Tryz.prog 88 #[.slice A0 l0.length c0,.slice A1 l1.length c1,.string a2] w fun e w' => ∃ v0_:Value,e = .returned (.tuple #[v0_,.int .i64 r2]) ∧ Kd.R Kd.string 9 w' w.heap.size (fun _ => True) v0_ r1 ∧ Below w.heap.size w w':=by
 have HT:=am hT;clear hT;have hu73:=Tryz.underlying73;have HR0:=am hr0;have HC0:=am hc0;clear hr0 hc0;have HR1:=am hr1;have HC1:=am hc1;clear hr1 hc1;have HB:=am (Below.refl w.heap.size w);have H:(if (l1.length:Int) > 64 then (Z0g.j0 k l0 l1 a2 true) else ((Z02.f k l0).bind fun t196 => (if t196 = true then ((Z19.f l0 a2).bind fun t197 => (Z0g.j0 k l0 l1 a2 (!t197))) else (Z0g.j0 k l0 l1 a2 true)))) = some (r1,r2):=h;clear h;have HC4:=am H;clear H;go_enter Tryz.func88,Tryz.ntmps88
 go_upto_region 1 with (fail)
 go_cut [28] (fun v28 wc => ∃ (kq:Nat) (x28_3:Bool),v28 = .bool x28_3 ∧ Aside0 (Z0g.j0 kq l0 l1 a2 x28_3 = some (r1,r2)) ∧ Aside0 (kq ≤ k) ∧ Aside0 (Below w.heap.size w wc))
 case first =>
  have H:=HC4.out;clear HC4
  replace H:=iF H;obtain ⟨c5,H⟩ | ⟨c5,H⟩:=H
  ·
   have c5b0:decide (64 < (l1.length:Int)) = true:=decide_eq_true c5;have c5b1:decide (64 < l1.length) = true:=decide_eq_true (by omega);clear c5
   (first | rw [c5b0] | (simp only [i64_w,i32_w];rw [c5b0]) | skip)
   have H':=am H;clear H;go_wp2
   go_meet
   case rel => exact ⟨_,(true),tV1,H',⟨tU⟩,⟨tB HB⟩⟩
  ·
   have c5b0:decide (64 < (l1.length:Int)) = false:=decide_eq_false c5;have c5b1:decide (64 < l1.length) = false:=decide_eq_false (by omega);clear c5
   (first | rw [c5b0] | (simp only [i64_w,i32_w];rw [c5b0]) | skip)
   replace H:=bI H;obtain ⟨t196,A6,H⟩:=H;(try dsimp only at H)
   replace H:=iT H;obtain ⟨rfl,H⟩ | ⟨rfl,H⟩:=H
   ·
    replace H:=bI H;obtain ⟨t197,A8,H⟩:=H;(try dsimp only at H);have H':=am H;clear H
    go_wp2_with (first | (go_at_call 68;(with_reducible refine (Z02.calls k _ _ l0 true _ (tC HR0 HB) HC0.out A6.out).mono ?_);rintro e w9 ⟨rfl,hb⟩;have n0_:=am (below_step (tB HB) hb);revert n0_;clear HB;intro HB;(try clear hb);(try clear hb2);(try clear hk);(try clear hi)) | (go_at_call 92;(with_reducible refine (Z19.calls _ _ l0 a2 t197 _ ?sT (tC HR0 HB) HC0.out A8.out).mono ?_);(case sT => exact Gc1);rintro e w10 ⟨rfl,hb⟩;have n0_:=am (below_step (tB HB) hb);revert n0_;clear HB;intro HB;(try clear hb);(try clear hb2);(try clear hk);(try clear hi)))
    go_meet
    case rel => exact ⟨_,(!t197),tV1,H',⟨tU⟩,⟨tB HB⟩⟩
   ·
    have H':=am H;clear H
    go_wp2_with (first | (go_at_call 68;(with_reducible refine (Z02.calls k _ _ l0 false _ (tC HR0 HB) HC0.out A6.out).mono ?_);rintro e w11 ⟨rfl,hb⟩;have n0_:=am (below_step (tB HB) hb);revert n0_;clear HB;intro HB;(try clear hb);(try clear hb2);(try clear hk);(try clear hi)))
    go_meet
    case rel => exact ⟨_,(true),tV1,H',⟨tU⟩,⟨tB HB⟩⟩
 case rest =>
  clear HC4;obtain ⟨kq,x28_3,rfl,HA,HJ3,HB⟩:=hcut
  cases kq with
  | zero => exact absurd HA.out (by simp [Z0g.j0])
  | succ kj3 =>
   have H:=HA.out;clear HA;simp only [Z0g.j0] at H
   replace H:=iT H;obtain ⟨rfl,H⟩ | ⟨rfl,H⟩:=H
   ·
    simp only [Option.some.injEq,Prod.mk.injEq] at H;obtain ⟨rfl,rfl⟩:=H;go_wp2;go_ret2;exact ⟨_,tE,by first | exact Kd.R_nil _ _ _ _ _ | exact Kd.N_nil _ _ _ _ _ | exact Kd.V_nil _ _ _ _ _ | exact Kd.Q_nil _ _ _ _ _ | exact Kd.S_nil _ _ _ _ _,by repeat (first | (with_reducible first | exact HB.out | apply below_alloc | apply pw_below_drewN | apply below_drew1) | exact HB.out)⟩
   ·
    have H':=am H;clear H;go_wp2
    go_loopg [31] kj3 (fun kq v31 w' => ∃ (x31_2:Int),v31 = .int .i64 x31_2 ∧ Aside0 (Z0g.l0 kq l0 l1 a2 l1 (l1.length:Int) x31_2 = some (r1,r2)) ∧ Aside0 (kq ≤ kj3) ∧ Aside0 (Below w.heap.size w w'))
    case atStart => exact ⟨(0),tV1,H',⟨Nat.le_refl _⟩,⟨tB HB⟩⟩
    case round =>
     clear H';(try clear c12);obtain ⟨x31_2,rfl,HA,HK2,HB⟩:=hrel
     cases gk with
     | zero => exact absurd HA.out (by simp [Z0g.l0])
     | succ k2 =>
      have H:=HA.out;clear HA;simp only [Z0g.l0] at H
      replace H:=iF H;obtain ⟨c13,H⟩ | ⟨c13,H⟩:=H
      ·
       have c13b0:decide (x31_2 < (l1.length:Int)) = true:=decide_eq_true c13;clear c13;replace H:=iFn H;obtain ⟨c14,H⟩:=H;have c14b0:decide (0 ≤ x31_2) = true:=decide_eq_true c14;clear c14;replace H:=iFn H;obtain ⟨c15,H⟩:=H;have c15b0:decide (x31_2 < (l1.length:Int)) = true:=decide_eq_true c15;clear c15;replace H:=bI H;obtain ⟨t200,A16,H⟩:=H;(try dsimp only at H)
       replace H:=iT H;obtain ⟨rfl,H⟩ | ⟨rfl,H⟩:=H
       ·
        have H':=am H;clear H;have mk1_:=trivial;exact Zcx
       ·
        simp only [Option.some.injEq,Prod.mk.injEq] at H;obtain ⟨rfl,rfl⟩:=H;have mk0_:=trivial;exact Zcx
      ·
       have c13b0:decide (x31_2 < (l1.length:Int)) = false:=decide_eq_false c13;clear c13;obtain ⟨y201,hy201⟩:∃ y_:List ByteArray,y_ = (([a2]:List ByteArray)):=⟨_,rfl⟩
       replace H:(Z0g.l1 k2 l0 y201 l1 (l1.length:Int) 0) = some (r1,r2):=by first | (rw [hy201];with_reducible exact H) | (have H2_:=(Option.bind_some _ _).symm.trans H;rw [hy201];with_reducible exact H2_) | (have H2_:=(Option.bind_some _ _).symm.trans H;with_reducible exact H2_) | with_reducible exact H | (rw [hy201];exact H) | exact H
       have Ny201:=am hy201;clear hy201;have H':=am H;clear H
       go_wp2_with (first | ((with_reducible refine gate_dst (N:=41) rfl ?_);refine Kd.R_lit Kd.string _ 9 ?hg (N:=41) ?hd (xs:=([a2]:List ByteArray)) (inner:=[.string a2]) (ok:=fun _ => True) (okp:=fun _ => True) ?hr ?hp (fun _ hk => hk) trivial (Below.refl _ _) (Nat.le_refl _) (by simp) ?_;(case hd => rfl);(case hg => rfl);(case hr => exact Gc5);(case hp => exact (Reps.one (show Kd.M Kd.string _ _ _ a2 [.string a2] from rfl) (Reps.none _ _)));intro v202 w24 ho25 hb hg_ hnew_;clear hg_ hnew_;(first | rw [← Ny201.out] at ho25 | (simp only [Int.reduceToNat] at ho25;rw [← Ny201.out] at ho25));have n0_:=am (Kd.R_lower ho25 (tS HB));have n1_:=am (below_step (tB HB) hb);revert n0_ n1_;clear HB;intro HO203 HB;clear hb ho25))
       go_loopg [10,44] k2 (fun kq v10 v44 w' => ∃ (x10_3:List ByteArray) (x44_3:Int),v44 = .int .i64 x44_3 ∧ Aside0 (Z0g.l1 kq l0 x10_3 l1 (l1.length:Int) x44_3 = some (r1,r2)) ∧ Aside0 (kq ≤ k2) ∧ Aside0 (Kd.R Kd.string 9 w' w.heap.size (fun _ => True) v10 x10_3) ∧ Aside0 (Below w.heap.size w w'))
       case atStart => exact ⟨(y201),(0),tV1,H',⟨Nat.le_refl _⟩,⟨dR HO203⟩,⟨tB HB⟩⟩
       case round =>
        clear H';(try clear c12);(try clear c13);(try clear c13b0);obtain ⟨x10_3,x44_3,rfl,HA,HK3,HO_10,HB⟩:=hrel
        cases gk with
        | zero => exact absurd HA.out (by simp [Z0g.l1])
        | succ k3 =>
         have H:=HA.out;clear HA;simp only [Z0g.l1] at H
         replace H:=iF H;obtain ⟨c26,H⟩ | ⟨c26,H⟩:=H
         ·
          have c26b0:decide (x44_3 < (l1.length:Int)) = true:=decide_eq_true c26;clear c26;replace H:=iFn H;obtain ⟨c27,H⟩:=H;have c27b0:decide (0 ≤ x44_3) = true:=decide_eq_true c27;clear c27;replace H:=iFn H;obtain ⟨c28,H⟩:=H;have c28b0:decide (x44_3 < (l1.length:Int)) = true:=decide_eq_true c28;clear c28;obtain ⟨ji29,hji29⟩:∃ j_:Int,(wrap64 ((x10_3.length:Int) - 1)) = j_:=⟨_,rfl⟩
          replace H:(if 0 ≤ (ji29) then (if (ji29) < (x10_3.length:Int) then ((Z17.f k3 l0 ((Z03 l1 x44_3).f0) ((Z03 l1 x44_3).f1) ((Z03 l1 x44_3).f2) ((Z03 l1 x44_3).f3) ((Z03 l1 x44_3).f4) ((Z03 l1 x44_3).f5) (rdOf ByteArray.empty x10_3 (ji29))).bind fun bt207 => (if bt207.2 = 0 then (if x10_3.length < 8796093022208 then (Z0g.l1 k3 l0 (x10_3 ++ [bt207.1]) l1 (l1.length:Int) (wrap64 (x44_3 + 1))) else (none)) else (some (([]:List ByteArray),bt207.2)))) else (none)) else (none)) = some (r1,r2):=by first | (rw [hji29] at H;exact H) | (simp only [hji29] at H ⊢;exact H)
          have hji29w:(IntKind.i64.wrap ((x10_3.length:Int) - 1)) = ji29:=(i64_w _).trans hji29;replace H:=iFn H;obtain ⟨c30,H⟩:=H;have c30b0:decide (0 ≤ (ji29)) = true:=decide_eq_true c30;clear c30;replace H:=iFn H;obtain ⟨c31,H⟩:=H;have c31b0:decide ((ji29) < (x10_3.length:Int)) = true:=decide_eq_true c31;clear c31;replace H:=bI H;obtain ⟨⟨t207,t208⟩,A32,H⟩:=H;(try dsimp only at H)
          replace H:=iE H;obtain ⟨-,c33b0,c33b1,H⟩ | ⟨c33,c33b0,c33b1,H⟩:=H
          ·
           replace H:=iFn H;obtain ⟨c34,H⟩:=H;have LMc34:=am c34;clear c34;obtain ⟨y209,hy209⟩:∃ y_:List ByteArray,y_ = (x10_3 ++ [t207]):=⟨_,rfl⟩
           replace H:(Z0g.l1 k3 l0 y209 l1 (l1.length:Int) (wrap64 (x44_3 + 1))) = some (r1,r2):=by first | (rw [hy209];with_reducible exact H) | (have H2_:=(Option.bind_some _ _).symm.trans H;rw [hy209];with_reducible exact H2_) | (have H2_:=(Option.bind_some _ _).symm.trans H;with_reducible exact H2_) | with_reducible exact H | (rw [hy209];exact H) | exact H
           have Ny209:=am hy209;clear hy209;have H':=am H;clear H;have mk0_:=trivial;exact Zcw
          ·
           simp only [Option.some.injEq,Prod.mk.injEq] at H;obtain ⟨rfl,rfl⟩:=H;have mk1_:=trivial;exact Zcw
         ·
          have c26b0:decide (x44_3 < (l1.length:Int)) = false:=decide_eq_false c26;clear c26;simp only [Option.some.injEq,Prod.mk.injEq] at H;obtain ⟨rfl,rfl⟩:=H;go_wp2;go_ret2;exact ⟨_,tE,by (with_reducible repeat (first | apply Kd.R_alloc | apply Kd.R_drewN | apply Kd.R_drew));exact HO_10.out,by repeat (first | (with_reducible first | exact HB.out | apply below_alloc | apply pw_below_drewN | apply below_drew1) | exact HB.out)⟩
end Go.Proofs.YtfbhdjflkaldgaaGreatDoor.Pr
