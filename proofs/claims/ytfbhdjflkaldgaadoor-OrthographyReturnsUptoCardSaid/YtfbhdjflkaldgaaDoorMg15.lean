/- Several texts in one: PrF82, PrF70, Cas. -/
import Derived.Test.YtfbhdjflkaldgaaDoorMg1
import Derived.Test.YtfbhdjflkaldgaaDoorCt
import Derived.Test.YtfbhdjflkaldgaaDoorMg9
import Derived.Test.YtfbhdjflkaldgaaDoorMg14
import Derived.Test.YtfbhdjflkaldgaaDoorMg10
import Derived.Test.YtfbhdjflkaldgaaDoorMg3
import Derived.Test.YtfbhdjflkaldgaaDoorWRepsOne
import Derived.Test.YtfbhdjflkaldgaaDoorRewS
/- rewrite.Apply, Trace, Cascade: what they answer, in plain words. -/
namespace Go.Proofs.YtfbhdjflkaldgaaDoor.Pr
open Go.Proofs.YtfbhdjflkaldgaaDoor.Ct Go.RowKit Go.Proofs.YtfbhdjflkaldgaaDoorW.PrintWords Go.Proofs.YtfbhdjflkaldgaaDoorW.PrintLast Go.Proofs.YtfbhdjflkaldgaaDoorW.PrintMore
attribute [local go_sem] max2_int min2_int max_two min_two max_three min_three max_four min_four
set_option linter.unusedVariables false
set_option linter.unusedSimpArgs false
mutual
def rewrite_Trace.j0 : Nat → List (S80) → List (S85) → ByteArray → Bool → Option (List ByteArray × Int)
 | 0, _, _, _, _ => none
 | k + 1, x0, x1, x2, x28 => if x28 = true then (some (([] : List ByteArray), 1)) else (rewrite_Trace.l0 k x0 x1 x2 x1 (x1.length : Int) 0)
def rewrite_Trace.l0 : Nat → List (S80) → List (S85) → ByteArray → List (S85) → Int → Int → Option (List ByteArray × Int)
 | 0, _, _, _, _, _, _ => none
 | k + 1, x0, x1, x2, x29, x30, x31 => if x31 < x30 then (if 0 ≤ x31 then (if x31 < (x29.length : Int) then ((rewrite_Valid.f x0 ((rd_T85 x29 x31).f0) ((rd_T85 x29 x31).f1) ((rd_T85 x29 x31).f2) ((rd_T85 x29 x31).f3) ((rd_T85 x29 x31).f4) ((rd_T85 x29 x31).f5)).bind fun t197 => (if t197 = true then (rewrite_Trace.l0 k x0 x1 x2 x29 x30 (wrap64 (x31 + 1))) else (some (([] : List ByteArray), 1)))) else (none)) else (none)) else (rewrite_Trace.l1 k x0 (([x2] : List ByteArray)) x1 (x1.length : Int) 0)
def rewrite_Trace.l1 : Nat → List (S80) → List ByteArray → List (S85) → Int → Int → Option (List ByteArray × Int)
 | 0, _, _, _, _, _ => none
 | k + 1, x0, x10, x42, x43, x44 => if x44 < x43 then (if 0 ≤ x44 then (if x44 < (x42.length : Int) then (if 0 ≤ (wrap64 ((x10.length : Int) - 1)) then (if (wrap64 ((x10.length : Int) - 1)) < (x10.length : Int) then ((rewrite_Apply.f k x0 ((rd_T85 x42 x44).f0) ((rd_T85 x42 x44).f1) ((rd_T85 x42 x44).f2) ((rd_T85 x42 x44).f3) ((rd_T85 x42 x44).f4) ((rd_T85 x42 x44).f5) (rdOf ByteArray.empty x10 (wrap64 ((x10.length : Int) - 1)))).bind fun bt204 => (if bt204.2 = 0 then (if x10.length < 8796093022208 then (rewrite_Trace.l1 k x0 (x10 ++ [bt204.1]) x42 x43 (wrap64 (x44 + 1))) else (none)) else (some (([] : List ByteArray), bt204.2)))) else (none)) else (none)) else (none)) else (none)) else (some (x10, 0))
end
def rewrite_Trace.f (k : Nat) (l0 : List (S80)) (l1 : List (S85)) (a2 : ByteArray) : Option (List ByteArray × Int) := if (l1.length : Int) > 64 then (rewrite_Trace.j0 k l0 l1 a2 true) else ((rewrite_letters_admissible.f k l0).bind fun t193 => (if t193 = true then ((rewrite_letters_isWord.f l0 a2).bind fun t194 => (rewrite_Trace.j0 k l0 l1 a2 (!t194))) else (rewrite_Trace.j0 k l0 l1 a2 true)))
def rewrite_Trace.T13 : Bool × List (List Nat × List Nat) := (true, [([], []), ([], []), ([], []), ([], []), ([3], [3]), ([4], [4]), ([2, 5], [2, 5]), ([6], [6]), ([0, 1, 7], [0, 1, 7]), ([8], [8]), ([9], [9]), ([9], [9]), ([10, 8, 0, 1, 2, 3, 4, 5, 6, 7, 8, 9, 10], [10]), ([11, 12, 0, 1, 2, 3, 4, 5, 6, 7, 8, 9, 10, 11, 12], [11])])
def rewrite_Trace.B13 : List Nat := [0, 0, 0, 0, 8, 24, 60, 124, 255, 511, 1023, 1023, 2047, 8191]
theorem rewrite_Trace.tab13 : rtab .any (opsOf Tryd.f82 13) = rewrite_Trace.T13 := by kernel_rfl
theorem rewrite_Trace.bits13 : waitsOk rewrite_Trace.T13.2 rewrite_Trace.B13 = true := by kernel_rfl
set_option maxRecDepth 1000000 in
theorem LPrF82xh1 {p : Prop} (h : p := by
  have z1_ : 0 ≤ (x44_3 : Int) := oD
  have z2_ : x44_3 < (l1.length : Int) := oD
  obtain ⟨z3_, z4_, z5_, z6_, z7_, z8_, z9_, z10_, z11_, z12_, z13_, z14_, z15_, z16_, z17_, z18_⟩ := at_T85 HR1.out x44_3 z1_ z2_
  cases z8_
  replace z9_ := celB HB z9_
  replace z10_ := celB HB z10_
  replace z11_ := celB HB z11_
  replace z12_ := celB HB z12_
  replace z13_ := celB HB z13_
  replace z14_ := celB HB z14_
  have z19_ := Aside0.mk z16_
  have z20_ := Aside0.mk z15_
  clear z16_ z15_
  have z21_ := Aside0.mk z18_
  have z22_ := Aside0.mk z17_
  clear z18_ z17_
  replace z1_ := eq_true z1_
  replace z2_ := eq_true z2_
  try go_wp2_with (first | ((with_reducible refine gate_dst (N := 12) rfl ?_); refine box_event ?hg (N := 12) ?hd (cs := #[.int .i32 0, .string (⟨#[]⟩ : ByteArray), .slice none 0 0, .slice none 0 0, .bool false, .bool false]) (t := 85) ?hr ?_; (case hd => rfl); (case hg => rfl); (case hr => exact Gc6); intro z23_ hg z24_ hbox hb; have z25_ := Aside0.mk (Kd.R_below (dR HO_10) hb); have z26_ := Aside0.mk (below_step (tB HB) hb); have z27_ := Aside0.mk (hbox); have z28_ := tZ hg (tS HB); have z29_ := tZ hg (tS HB); revert z25_ z26_ z27_ z28_ z29_; clear HO_10 HB; intro HO_10 HB z30_ z31_ z32_; clear hb hbox hg; have z33_ := cel2 z30_ 0 rfl; have z34_ := cel2 z30_ 1 rfl; have z35_ := cel2 z30_ 2 rfl; have z36_ := cel2 z30_ 3 rfl; have z37_ := cel2 z30_ 4 rfl; have z38_ := cel2 z30_ 5 rfl; have z39_ := blk_frozen z30_.out 0; have z40_ := blk_frozen z30_.out 1; have z41_ := blk_frozen z30_.out 2; have z42_ := blk_frozen z30_.out 3; have z43_ := blk_frozen z30_.out 4; have z44_ := blk_frozen z30_.out 5))
  have z25_ : Aside0 (Kd.R Kd.string 9 ((((((z24_.setCell ⟨z23_, 0, none⟩ (.int .i32 ((rd_T85 l1 x44_3).f0))).setCell ⟨z23_, 1, none⟩ (.string ((rd_T85 l1 x44_3).f1))).setCell ⟨z23_, 2, none⟩ (.slice z4_ ((rd_T85 l1 x44_3).f2).length z5_)).setCell ⟨z23_, 3, none⟩ (.slice z6_ ((rd_T85 l1 x44_3).f3).length z7_)).setCell ⟨z23_, 4, none⟩ (.bool ((rd_T85 l1 x44_3).f4))).setCell ⟨z23_, 5, none⟩ (.bool ((rd_T85 l1 x44_3).f5))) w.heap.size (fun _ => True) u10 x10_3) := ⟨by (with_reducible repeat (first | apply Kd.R_alloc | apply Kd.R_drewN | apply Kd.R_drew)); exact Kd.R_mono (Kd.R_far (p := ⟨z23_, 5, none⟩) (Kd.R_far (p := ⟨z23_, 4, none⟩) (Kd.R_far (p := ⟨z23_, 3, none⟩) (Kd.R_far (p := ⟨z23_, 2, none⟩) (Kd.R_far (p := ⟨z23_, 1, none⟩) (Kd.R_far (p := ⟨z23_, 0, none⟩) (Kd.R_types HO_10.out z30_.out (by decide)) (fun _ hk => hk.2) (.int .i32 ((rd_T85 l1 x44_3).f0))) (fun _ hk => hk.2) (.string ((rd_T85 l1 x44_3).f1))) (fun _ hk => hk.2) (.slice z4_ ((rd_T85 l1 x44_3).f2).length z5_)) (fun _ hk => hk.2) (.slice z6_ ((rd_T85 l1 x44_3).f3).length z7_)) (fun _ hk => hk.2) (.bool ((rd_T85 l1 x44_3).f4))) (fun _ hk => hk.2) (.bool ((rd_T85 l1 x44_3).f5))) (fun _ hk => trivial)⟩
  have z26_ : Aside0 (((((((z24_.setCell ⟨z23_, 0, none⟩ (.int .i32 ((rd_T85 l1 x44_3).f0))).setCell ⟨z23_, 1, none⟩ (.string ((rd_T85 l1 x44_3).f1))).setCell ⟨z23_, 2, none⟩ (.slice z4_ ((rd_T85 l1 x44_3).f2).length z5_)).setCell ⟨z23_, 3, none⟩ (.slice z6_ ((rd_T85 l1 x44_3).f3).length z7_)).setCell ⟨z23_, 4, none⟩ (.bool ((rd_T85 l1 x44_3).f4))).setCell ⟨z23_, 5, none⟩ (.bool ((rd_T85 l1 x44_3).f5))).heap[z23_]? = some (.cells #[.int .i32 ((rd_T85 l1 x44_3).f0), .string ((rd_T85 l1 x44_3).f1), .slice z4_ ((rd_T85 l1 x44_3).f2).length z5_, .slice z6_ ((rd_T85 l1 x44_3).f3).length z7_, .bool ((rd_T85 l1 x44_3).f4), .bool ((rd_T85 l1 x44_3).f5)] 85 (0, 0))) := ⟨tKp z30_⟩
  have z27_ : Aside0 (Below w.heap.size w ((((((z24_.setCell ⟨z23_, 0, none⟩ (.int .i32 ((rd_T85 l1 x44_3).f0))).setCell ⟨z23_, 1, none⟩ (.string ((rd_T85 l1 x44_3).f1))).setCell ⟨z23_, 2, none⟩ (.slice z4_ ((rd_T85 l1 x44_3).f2).length z5_)).setCell ⟨z23_, 3, none⟩ (.slice z6_ ((rd_T85 l1 x44_3).f3).length z7_)).setCell ⟨z23_, 4, none⟩ (.bool ((rd_T85 l1 x44_3).f4))).setCell ⟨z23_, 5, none⟩ (.bool ((rd_T85 l1 x44_3).f5)))) := ⟨tB HB⟩
  (try clear HO_10); (try clear z30_); (try clear HB)
  generalize ((((((z24_.setCell ⟨z23_, 0, none⟩ (.int .i32 ((rd_T85 l1 x44_3).f0))).setCell ⟨z23_, 1, none⟩ (.string ((rd_T85 l1 x44_3).f1))).setCell ⟨z23_, 2, none⟩ (.slice z4_ ((rd_T85 l1 x44_3).f2).length z5_)).setCell ⟨z23_, 3, none⟩ (.slice z6_ ((rd_T85 l1 x44_3).f3).length z7_)).setCell ⟨z23_, 4, none⟩ (.bool ((rd_T85 l1 x44_3).f4))).setCell ⟨z23_, 5, none⟩ (.bool ((rd_T85 l1 x44_3).f5))) = z45_ at z25_ z26_ z27_ ⊢
  have HO_10 := z25_
  have z30_ := z26_
  have HB := z27_
  clear z25_ z26_ z27_
  have z25_ := Aside0.mk (Kd.R_drew HO_10.out)
  have z26_ := Aside0.mk (blk_drew z30_.out)
  have z27_ := Aside0.mk (below_drew1 HB.out)
  revert z25_ z26_ z27_
  clear HO_10 z30_ HB
  intro HO_10 z30_ HB
  obtain ⟨z46_, z47_, z48_⟩ := Kd.R_slice HO_10.out
  (first | subst z48_ | (injection z48_ with f1_ f2_ f3_; have z49_ := f1_.symm; have z50_ := f3_.symm; clear f1_ f2_ f3_; subst z49_; subst z50_))
  have z51_ : 0 ≤ ((ji29) : Int) := oD
  have z52_ : (ji29) < (x10_3.length : Int) := oD
  obtain ⟨z53_, z54_, z55_⟩ := Kd.at_string (Kd.R_reads' HO_10.out).2.2 (ji29) z51_ z52_
  cases z54_
  replace z51_ := eq_true z51_
  replace z52_ := eq_true z52_
  refine start_ (n := 14) (S := fun w' => w'.cell? ⟨z23_, 0, none⟩ = some (.int .i32 ((rd_T85 l1 x44_3).f0)) ∧ w'.cell? ⟨z23_, 1, none⟩ = some (.string ((rd_T85 l1 x44_3).f1)) ∧ w'.cell? ⟨z23_, 2, none⟩ = some (.slice z4_ ((rd_T85 l1 x44_3).f2).length z5_) ∧ w'.cell? ⟨z23_, 3, none⟩ = some (.slice z6_ ((rd_T85 l1 x44_3).f3).length z7_) ∧ w'.cell? ⟨z23_, 4, none⟩ = some (.bool ((rd_T85 l1 x44_3).f4)) ∧ w'.cell? ⟨z23_, 5, none⟩ = some (.bool ((rd_T85 l1 x44_3).f5)) ∧ w'.cell? (z53_.add ((ji29)).toNat) = some (.string (rdOf ByteArray.empty x10_3 (ji29)))) (ds := []) #[false, false, false, false, false, false, false, false, false, false, false, false, false, false] (by kernel_rfl) rfl rfl ⟨(blk_cell z30_.out 0).trans rfl, (blk_cell z30_.out 1).trans rfl, (blk_cell z30_.out 2).trans rfl, (blk_cell z30_.out 3).trans rfl, (blk_cell z30_.out 4).trans rfl, (blk_cell z30_.out 5).trans rfl, z55_⟩ (fun hHeld => ?_); refine with_tabW rewrite_Trace.tab13 rewrite_Trace.bits13 (fun HT_ HW_ => ?_)
  generalize z45_.drew = z56_ at HO_10 z30_ HB z55_ hHeld ⊢
  refine pT 0 49 ?_
  refine pT 2 51 ?_
  refine pT 3 52 ?_
  refine pT 4 53 ?_
  refine pT 5 54 ?_
  refine pT 6 55 ?_
  refine tTt 1 50 hHeld ?_
  refine tTt 7 56 hHeld ?_
  refine one_ (i := 8) (N := some 57) #[true, true, true, true, true, true, true, true, true, false, false, false, false, false] rfl rfl (one_of HT_.out (by kernel_rfl)) (by decide) (fun K hK => ?_)
  refine goes_ Tryd.func86 (by kernel_rfl) rfl #[.slice A0 l0.length c0, .agg #[.int .i32 ((rd_T85 l1 x44_3).f0), .string ((rd_T85 l1 x44_3).f1), .slice z4_ ((rd_T85 l1 x44_3).f2).length z5_, .slice z6_ ((rd_T85 l1 x44_3).f3).length z7_, .bool ((rd_T85 l1 x44_3).f4), .bool ((rd_T85 l1 x44_3).f5)], .string (rdOf ByteArray.empty x10_3 (ji29))] (by rfl) rfl rfl (by (try simp only [List.map_toArray, List.map_cons, List.map_nil]); first | done | (simp only [hji29]; rfl) | rfl | (simp only [List.length_drop, List.length_take]; rfl)) ?_
  with_reducible refine (rewrite_Apply.calls k3 _ _ l0 ((rd_T85 l1 x44_3).f0) ((rd_T85 l1 x44_3).f1) _ _ ((rd_T85 l1 x44_3).f2) _ _ ((rd_T85 l1 x44_3).f3) ((rd_T85 l1 x44_3).f4) ((rd_T85 l1 x44_3).f5) (rdOf ByteArray.empty x10_3 (ji29)) t204 t205 _ ?sT ?s1 ?s2 ?s3 ?s4 ?s5 ?s6 A32.out).mono ?_
  (case sT => exact Gc1)
  (case s1 => exact tC HR0 HB)
  (case s2 => exact HC0.out)
  (case s3 => exact tC z19_ HB)
  (case s4 => exact z20_.out)
  (case s5 => exact tC z21_ HB)
  (case s6 => exact z22_.out)
  rintro e z57_ ⟨rfl, hb⟩
  have z58_ := (hb.cell (World.block_lt_of_cell? _ _ (hHeld.2.2.2.2.2.2))).trans (hHeld.2.2.2.2.2.2)
  refine ⟨_, rfl, ?_⟩
  have z25_ := Aside0.mk (Kd.R_below (dR HO_10) hb)
  have z26_ := Aside0.mk (blk_below (tK z30_) hb)
  have z27_ := Aside0.mk (below_step (tB HB) hb)
  revert z25_ z26_ z27_
  clear HO_10 z30_ HB
  intro HO_10 z30_ HB
  (try clear hb); (try clear hk)
  refine hK.out _ _ ⟨(blk_cell z30_.out 0).trans rfl, (blk_cell z30_.out 1).trans rfl, (blk_cell z30_.out 2).trans rfl, (blk_cell z30_.out 3).trans rfl, (blk_cell z30_.out 4).trans rfl, (blk_cell z30_.out 5).trans rfl, z58_⟩ (fun hHeld => ?_)
  clear hK K
  refine nR 57 ?_
  refine pT 9 48 ?_
  refine pT 10 58 ?_
  refine pT 11 59 ?_
  refine pT 12 13 ?_
  refine pT 13 14 ?_
  refine done_ (done_of HT_.out (by kernel_rfl)) ?_
  first
  | (have mk_ := mk0_
     try go_wp2_with (first | ((with_reducible refine gate_builtin (b := .append) (xs := #[.tmp 63, .tmp 65]) rfl ?_); at_builtin; refine Kd.R_append Kd.string (w0 := w) w.heap.size rfl (.tmp 63) (.tmp 65) 31 9 (.string ⟨#[]⟩) 16 rfl Tryd.underlying31 info9 rfl (by decide) (by omega) (.slice (some z53_) x10_3.length z47_) x10_3 t204 [.string t204] (fun _ => True) (fun _ => False) rfl rfl ?aP (fun _ hk => hk.elim) ?aF ?aO ?aB ?aS ?aL ?_; (case aP => exact rfl); (case aB => exact (tB HB)); (case aF => exact Gc22); (case aO => exact (dR HO_10)); (case aS => exact (tS HB)); (case aL => have := LMc34.out; omega); intro z59_ z60_ ho hb hg hat; rw [← Ny206.out] at ho; have z25_ := Aside0.mk (blk_grown (tK z30_) hg (Kd.R_ne HO_10.out z30_.out (by decide))); have z26_ := Aside0.mk (hb); have z27_ := Aside0.mk (ho); revert z25_ z26_ z27_; clear z30_ HB HO_10; intro z30_ HB z61_; clear ho hb hg hat))
     go_roundg k3
     case measure => have := HJ3.out; have := HK2.out; have := HK3.out; omega
     case rel => exact ⟨(y206), (wrap64 (x44_3 + 1)), tV1, H', ⟨by have := HJ3.out; have := HK2.out; have := HK3.out; omega⟩, ⟨dR z61_⟩, ⟨tB HB⟩⟩)
  | (have mk_ := mk1_
     try go_wp2
     go_ret2
     exact ⟨_, by first | rfl | (simp [errW_none, errW_some] <;> rfl) | (simp only [← hji29]; first | rfl | (simp [errW_none, errW_some] <;> rfl)) | (simp [*, errW_none, errW_some] <;> rfl), by first | exact Kd.R_nil _ _ _ _ _ | exact Kd.N_nil _ _ _ _ _ | exact Kd.V_nil _ _ _ _ _ | exact Kd.Q_nil _ _ _ _ _ | exact Kd.S_nil _ _ _ _ _, by repeat (first | (with_reducible first | exact HB.out | apply below_alloc | apply pw_below_drewN | apply below_drew1 | refine below_set ?_ z32_.out) | exact HB.out)⟩)) : p := h
set_option maxRecDepth 1000000 in
theorem LPrF82xh2 {p : Prop} (h : p := by
  have z1_ : 0 ≤ (x31_2 : Int) := oD
  have z2_ : x31_2 < (l1.length : Int) := oD
  obtain ⟨z3_, z4_, z5_, z6_, z7_, z8_, z9_, z10_, z11_, z12_, z13_, z14_, z15_, z16_, z17_, z18_⟩ := at_T85 HR1.out x31_2 z1_ z2_
  cases z8_
  replace z9_ := celB HB z9_
  replace z10_ := celB HB z10_
  replace z11_ := celB HB z11_
  replace z12_ := celB HB z12_
  replace z13_ := celB HB z13_
  replace z14_ := celB HB z14_
  have z19_ := Aside0.mk z16_
  have z20_ := Aside0.mk z15_
  clear z16_ z15_
  have z21_ := Aside0.mk z18_
  have z22_ := Aside0.mk z17_
  clear z18_ z17_
  replace z1_ := eq_true z1_
  replace z2_ := eq_true z2_
  first
  | (have mk_ := mk0_
     go_wp2_with (first | ((with_reducible refine gate_dst (N := 9) rfl ?_); refine box_event ?hg (N := 9) ?hd (cs := #[.int .i32 0, .string (⟨#[]⟩ : ByteArray), .slice none 0 0, .slice none 0 0, .bool false, .bool false]) (t := 85) ?hr ?_; (case hd => rfl); (case hg => rfl); (case hr => exact Gc6); intro z23_ hg z24_ hbox hb; have z25_ := Aside0.mk (below_step (tB HB) hb); have z26_ := Aside0.mk (hbox); have z27_ := tZ hg (tS HB); have z28_ := tZ hg (tS HB); revert z25_ z26_ z27_ z28_; clear HB; intro HB z29_ z30_ z31_; clear hb hbox hg; have z32_ := cel2 z29_ 0 rfl; have z33_ := cel2 z29_ 1 rfl; have z34_ := cel2 z29_ 2 rfl; have z35_ := cel2 z29_ 3 rfl; have z36_ := cel2 z29_ 4 rfl; have z37_ := cel2 z29_ 5 rfl; have z38_ := blk_frozen z29_.out 0; have z39_ := blk_frozen z29_.out 1; have z40_ := blk_frozen z29_.out 2; have z41_ := blk_frozen z29_.out 3; have z42_ := blk_frozen z29_.out 4; have z43_ := blk_frozen z29_.out 5) | ((with_reducible refine gate_callee (f := 48) rfl ?_); refine goesL_ (some 37) rfl rfl Tryd.func48 (by kernel_rfl) rfl #[.slice A0 l0.length c0, .agg #[.int .i32 ((rd_T85 l1 x31_2).f0), .string ((rd_T85 l1 x31_2).f1), .slice z4_ ((rd_T85 l1 x31_2).f2).length z5_, .slice z6_ ((rd_T85 l1 x31_2).f3).length z7_, .bool ((rd_T85 l1 x31_2).f4), .bool ((rd_T85 l1 x31_2).f5)]] rfl Gc2 ?_; (with_reducible refine (rewrite_Valid.calls _ _ l0 ((rd_T85 l1 x31_2).f0) ((rd_T85 l1 x31_2).f1) _ _ ((rd_T85 l1 x31_2).f2) _ _ ((rd_T85 l1 x31_2).f3) ((rd_T85 l1 x31_2).f4) ((rd_T85 l1 x31_2).f5) false _ ?sT ?s1 HC0.out ?s3 z20_.out ?s5 z22_.out A16.out).mono ?_); (case sT => exact Gc1); (case s1 => exact Kd.C_below HR0.out (tB HB)); (case s3 => exact Kd.C_below z19_.out (tB HB)); (case s5 => exact Kd.C_below z21_.out (tB HB)); rintro e z44_ ⟨rfl, hb⟩; refine ⟨_, rfl, ?_⟩; have z25_ := Aside0.mk (blk_below (g := z23_) (o := .cells #[.int .i32 ((rd_T85 l1 x31_2).f0), .string ((rd_T85 l1 x31_2).f1), .slice z4_ ((rd_T85 l1 x31_2).f2).length z5_, .slice z6_ ((rd_T85 l1 x31_2).f3).length z7_, .bool ((rd_T85 l1 x31_2).f4), .bool ((rd_T85 l1 x31_2).f5)] 85 (0, 0)) (tKp z29_) hb); have z26_ := Aside0.mk (below_step (tB HB) hb); revert z25_ z26_; clear z29_ HB; intro z29_ HB; (try clear hb); (try clear hb2); (try clear hk); (try clear hi)))
     go_ret2
     exact ⟨_, tE, by first | exact Kd.R_nil _ _ _ _ _ | exact Kd.N_nil _ _ _ _ _ | exact Kd.V_nil _ _ _ _ _ | exact Kd.Q_nil _ _ _ _ _ | exact Kd.S_nil _ _ _ _ _, by repeat (first | (with_reducible first | exact HB.out | apply below_alloc | apply pw_below_drewN | apply below_drew1 | refine below_set ?_ z31_.out) | exact HB.out)⟩)
  | (have mk_ := mk1_
     go_wp2_with (first | ((with_reducible refine gate_dst (N := 9) rfl ?_); refine box_event ?hg (N := 9) ?hd (cs := #[.int .i32 0, .string (⟨#[]⟩ : ByteArray), .slice none 0 0, .slice none 0 0, .bool false, .bool false]) (t := 85) ?hr ?_; (case hd => rfl); (case hg => rfl); (case hr => exact Gc6); intro z23_ hg z24_ hbox hb; have z25_ := Aside0.mk (below_step (tB HB) hb); have z26_ := Aside0.mk (hbox); have z27_ := tZ hg (tS HB); have z28_ := tZ hg (tS HB); revert z25_ z26_ z27_ z28_; clear HB; intro HB z29_ z30_ z31_; clear hb hbox hg; have z32_ := cel2 z29_ 0 rfl; have z33_ := cel2 z29_ 1 rfl; have z34_ := cel2 z29_ 2 rfl; have z35_ := cel2 z29_ 3 rfl; have z36_ := cel2 z29_ 4 rfl; have z37_ := cel2 z29_ 5 rfl; have z38_ := blk_frozen z29_.out 0; have z39_ := blk_frozen z29_.out 1; have z40_ := blk_frozen z29_.out 2; have z41_ := blk_frozen z29_.out 3; have z42_ := blk_frozen z29_.out 4; have z43_ := blk_frozen z29_.out 5) | ((with_reducible refine gate_callee (f := 48) rfl ?_); refine goesL_ (some 37) rfl rfl Tryd.func48 (by kernel_rfl) rfl #[.slice A0 l0.length c0, .agg #[.int .i32 ((rd_T85 l1 x31_2).f0), .string ((rd_T85 l1 x31_2).f1), .slice z4_ ((rd_T85 l1 x31_2).f2).length z5_, .slice z6_ ((rd_T85 l1 x31_2).f3).length z7_, .bool ((rd_T85 l1 x31_2).f4), .bool ((rd_T85 l1 x31_2).f5)]] rfl Gc2 ?_; (with_reducible refine (rewrite_Valid.calls _ _ l0 ((rd_T85 l1 x31_2).f0) ((rd_T85 l1 x31_2).f1) _ _ ((rd_T85 l1 x31_2).f2) _ _ ((rd_T85 l1 x31_2).f3) ((rd_T85 l1 x31_2).f4) ((rd_T85 l1 x31_2).f5) true _ ?sT ?s1 HC0.out ?s3 z20_.out ?s5 z22_.out A16.out).mono ?_); (case sT => exact Gc1); (case s1 => exact Kd.C_below HR0.out (tB HB)); (case s3 => exact Kd.C_below z19_.out (tB HB)); (case s5 => exact Kd.C_below z21_.out (tB HB)); rintro e z44_ ⟨rfl, hb⟩; refine ⟨_, rfl, ?_⟩; have z25_ := Aside0.mk (blk_below (g := z23_) (o := .cells #[.int .i32 ((rd_T85 l1 x31_2).f0), .string ((rd_T85 l1 x31_2).f1), .slice z4_ ((rd_T85 l1 x31_2).f2).length z5_, .slice z6_ ((rd_T85 l1 x31_2).f3).length z7_, .bool ((rd_T85 l1 x31_2).f4), .bool ((rd_T85 l1 x31_2).f5)] 85 (0, 0)) (tKp z29_) hb); have z26_ := Aside0.mk (below_step (tB HB) hb); revert z25_ z26_; clear z29_ HB; intro z29_ HB; (try clear hb); (try clear hb2); (try clear hk); (try clear hi)))
     go_roundg k2
     case measure => have := HJ3.out; have := HK2.out; omega
     case rel => exact ⟨(wrap64 (x31_2 + 1)), tV1, H', ⟨by have := HJ3.out; have := HK2.out; omega⟩, ⟨tB HB⟩⟩)) : p := h
set_option maxHeartbeats 8000000 in
set_option maxRecDepth 100000 in
theorem rewrite_Trace.calls (k : Nat) (A0 : Option Addr) (c0 : Nat) (l0 : List (S80)) (A1 : Option Addr) (c1 : Nat) (l1 : List (S85)) (a2 : ByteArray) (r1 : List ByteArray) (r2 : Int) (w : World) (hT : Tabs w) (hr0 : Kd.C k80 w A0 l0.length l0) (hc0 : l0.length ≤ c0) (hr1 : Kd.C k85 w A1 l1.length l1) (hc1 : l1.length ≤ c1) (h : rewrite_Trace.f k l0 l1 a2 = some (r1, r2)) :
 Calls Tryd.prog 82 #[.slice A0 l0.length c0, .slice A1 l1.length c1, .string a2] w fun e w' => ∃ v0_ : Value, e = .returned (.tuple #[v0_, .int .i64 r2]) ∧ Kd.R Kd.string 9 w' w.heap.size (fun _ => True) v0_ r1 ∧ Below w.heap.size w w' := by
 have HT := Aside0.mk hT
 clear hT
 have hu85 := Tryd.underlying85
 have HR0 := Aside0.mk hr0
 have HC0 := Aside0.mk hc0
 clear hr0 hc0
 have HR1 := Aside0.mk hr1
 have HC1 := Aside0.mk hc1
 clear hr1 hc1
 have HB := Aside0.mk (Below.refl w.heap.size w)
 have H : (if (l1.length : Int) > 64 then (rewrite_Trace.j0 k l0 l1 a2 true) else ((rewrite_letters_admissible.f k l0).bind fun t193 => (if t193 = true then ((rewrite_letters_isWord.f l0 a2).bind fun t194 => (rewrite_Trace.j0 k l0 l1 a2 (!t194))) else (rewrite_Trace.j0 k l0 l1 a2 true)))) = some (r1, r2) := h
 clear h
 have HC4 := Aside0.mk H
 clear H
 go_enter Tryd.func82, Tryd.ntmps82
 go_upto_region 1 with (fail)
 go_cut [28] (fun v28 wc => ∃ (kq : Nat) (x28_3 : Bool), v28 = .bool x28_3 ∧ Aside0 (rewrite_Trace.j0 kq l0 l1 a2 x28_3 = some (r1, r2)) ∧ Aside0 (kq ≤ k) ∧ Aside0 (Below w.heap.size w wc))
 case first =>
  have H := HC4.out
  clear HC4
  replace H := iF H; obtain ⟨c5, H⟩ | ⟨c5, H⟩ := H
  ·
   have c5b0 : decide (64 < (l1.length : Int)) = true := decide_eq_true c5
   have c5b1 : decide (64 < l1.length) = true := decide_eq_true (by omega)
   clear c5
   (first | rw [c5b0] | (simp only [i64_w, i32_w]; rw [c5b0]) | skip)
   have H' := Aside0.mk H
   clear H
   go_wp2
   go_meet
   case rel => exact ⟨_, (true), tV1, H', ⟨tU⟩, ⟨tB HB⟩⟩
  ·
   have c5b0 : decide (64 < (l1.length : Int)) = false := decide_eq_false c5
   have c5b1 : decide (64 < l1.length) = false := decide_eq_false (by omega)
   clear c5
   (first | rw [c5b0] | (simp only [i64_w, i32_w]; rw [c5b0]) | skip)
   replace H := bI H; obtain ⟨t193, A6, H⟩ := H; (try dsimp only at H)
   replace H := iT H; obtain ⟨rfl, H⟩ | ⟨rfl, H⟩ := H
   ·
    replace H := bI H; obtain ⟨t194, A8, H⟩ := H; (try dsimp only at H)
    have H' := Aside0.mk H
    clear H
    go_wp2_with (first | (go_at_call 65; (with_reducible refine (rewrite_letters_admissible.calls k _ _ l0 true _ (tC HR0 HB) HC0.out A6.out).mono ?_); rintro e w9 ⟨rfl, hb⟩; have n0_ := Aside0.mk (below_step (tB HB) hb); revert n0_; clear HB; intro HB; (try clear hb); (try clear hb2); (try clear hk); (try clear hi)) | (go_at_call 85; (with_reducible refine (rewrite_letters_isWord.calls _ _ l0 a2 t194 _ ?sT (tC HR0 HB) HC0.out A8.out).mono ?_); (case sT => exact Gc1); rintro e w10 ⟨rfl, hb⟩; have n0_ := Aside0.mk (below_step (tB HB) hb); revert n0_; clear HB; intro HB; (try clear hb); (try clear hb2); (try clear hk); (try clear hi)))
    go_meet
    case rel => exact ⟨_, (!t194), tV1, H', ⟨tU⟩, ⟨tB HB⟩⟩
   ·
    have H' := Aside0.mk H
    clear H
    go_wp2_with (first | (go_at_call 65; (with_reducible refine (rewrite_letters_admissible.calls k _ _ l0 false _ (tC HR0 HB) HC0.out A6.out).mono ?_); rintro e w11 ⟨rfl, hb⟩; have n0_ := Aside0.mk (below_step (tB HB) hb); revert n0_; clear HB; intro HB; (try clear hb); (try clear hb2); (try clear hk); (try clear hi)))
    go_meet
    case rel => exact ⟨_, (true), tV1, H', ⟨tU⟩, ⟨tB HB⟩⟩
 case rest =>
  clear HC4
  obtain ⟨kq, x28_3, rfl, HA, HJ3, HB⟩ := hcut
  cases kq with
  | zero => exact absurd HA.out (by simp [rewrite_Trace.j0])
  | succ kj3 =>
   have H := HA.out
   clear HA
   simp only [rewrite_Trace.j0] at H
   replace H := iT H; obtain ⟨rfl, H⟩ | ⟨rfl, H⟩ := H
   ·
    simp only [Option.some.injEq, Prod.mk.injEq] at H
    obtain ⟨rfl, rfl⟩ := H
    go_wp2
    go_ret2
    exact ⟨_, tE, by first | exact Kd.R_nil _ _ _ _ _ | exact Kd.N_nil _ _ _ _ _ | exact Kd.V_nil _ _ _ _ _ | exact Kd.Q_nil _ _ _ _ _ | exact Kd.S_nil _ _ _ _ _, by repeat (first | (with_reducible first | exact HB.out | apply below_alloc | apply pw_below_drewN | apply below_drew1) | exact HB.out)⟩
   ·
    have H' := Aside0.mk H
    clear H
    go_wp2
    go_loopg [31] kj3 (fun kq v31 w' => ∃ (x31_2 : Int), v31 = .int .i64 x31_2 ∧ Aside0 (rewrite_Trace.l0 kq l0 l1 a2 l1 (l1.length : Int) x31_2 = some (r1, r2)) ∧ Aside0 (kq ≤ kj3) ∧ Aside0 (Below w.heap.size w w'))
    case atStart => exact ⟨(0), tV1, H', ⟨Nat.le_refl _⟩, ⟨tB HB⟩⟩
    case round =>
     clear H'; (try clear c12)
     obtain ⟨x31_2, rfl, HA, HK2, HB⟩ := hrel
     cases gk with
     | zero => exact absurd HA.out (by simp [rewrite_Trace.l0])
     | succ k2 =>
      have H := HA.out
      clear HA
      simp only [rewrite_Trace.l0] at H
      replace H := iF H; obtain ⟨c13, H⟩ | ⟨c13, H⟩ := H
      ·
       have c13b0 : decide (x31_2 < (l1.length : Int)) = true := decide_eq_true c13
       clear c13
       replace H := iF H; obtain ⟨c14, H⟩ | ⟨c14, H⟩ := H
       ·
        have c14b0 : decide (0 ≤ x31_2) = true := decide_eq_true c14
        clear c14
        replace H := iF H; obtain ⟨c15, H⟩ | ⟨c15, H⟩ := H
        ·
         have c15b0 : decide (x31_2 < (l1.length : Int)) = true := decide_eq_true c15
         clear c15
         replace H := bI H; obtain ⟨t197, A16, H⟩ := H; (try dsimp only at H)
         replace H := iT H; obtain ⟨rfl, H⟩ | ⟨rfl, H⟩ := H
         ·
          have H' := Aside0.mk H
          clear H
          have mk1_ := trivial
          exact LPrF82xh2
         ·
          simp only [Option.some.injEq, Prod.mk.injEq] at H
          obtain ⟨rfl, rfl⟩ := H
          have mk0_ := trivial
          exact LPrF82xh2
        ·
         exact absurd H (by simp)
       ·
        exact absurd H (by simp)
      ·
       have c13b0 : decide (x31_2 < (l1.length : Int)) = false := decide_eq_false c13
       clear c13
       obtain ⟨y198, hy198⟩ : ∃ y_ : List ByteArray, y_ = (([a2] : List ByteArray)) := ⟨_, rfl⟩
       replace H : (rewrite_Trace.l1 k2 l0 y198 l1 (l1.length : Int) 0) = some (r1, r2) := by first | (rw [hy198]; with_reducible exact H) | (have H2_ := (Option.bind_some _ _).symm.trans H; rw [hy198]; with_reducible exact H2_) | (have H2_ := (Option.bind_some _ _).symm.trans H; with_reducible exact H2_) | with_reducible exact H | (rw [hy198]; exact H) | exact H
       have Ny198 := Aside0.mk hy198
       clear hy198
       have H' := Aside0.mk H
       clear H
       go_wp2_with (first | ((with_reducible refine gate_dst (N := 41) rfl ?_); refine Kd.R_lit Kd.string _ 9 ?hg (N := 41) ?hd (xs := ([a2] : List ByteArray)) (inner := [.string a2]) (ok := fun _ => True) (okp := fun _ => True) ?hr ?hp (fun _ hk => hk) trivial (Below.refl _ _) (Nat.le_refl _) (by simp) ?_; (case hd => rfl); (case hg => rfl); (case hr => exact Gc6); (case hp => exact (Reps.one (show Kd.M Kd.string _ _ _ a2 [.string a2] from rfl) (Reps.none _ _))); intro v199 w24 ho25 hb hg_ hnew_; clear hg_ hnew_; (first | rw [← Ny198.out] at ho25 | (simp only [Int.reduceToNat] at ho25; rw [← Ny198.out] at ho25)); have n0_ := Aside0.mk (Kd.R_lower ho25 (tS HB)); have n1_ := Aside0.mk (below_step (tB HB) hb); revert n0_ n1_; clear HB; intro HO200 HB; clear hb ho25))
       go_loopg [10, 44] k2 (fun kq v10 v44 w' => ∃ (x10_3 : List ByteArray) (x44_3 : Int), v44 = .int .i64 x44_3 ∧ Aside0 (rewrite_Trace.l1 kq l0 x10_3 l1 (l1.length : Int) x44_3 = some (r1, r2)) ∧ Aside0 (kq ≤ k2) ∧ Aside0 (Kd.R Kd.string 9 w' w.heap.size (fun _ => True) v10 x10_3) ∧ Aside0 (Below w.heap.size w w'))
       case atStart => exact ⟨(y198), (0), tV1, H', ⟨Nat.le_refl _⟩, ⟨dR HO200⟩, ⟨tB HB⟩⟩
       case round =>
        clear H'; (try clear c12); (try clear c13); (try clear c13b0)
        obtain ⟨x10_3, x44_3, rfl, HA, HK3, HO_10, HB⟩ := hrel
        cases gk with
        | zero => exact absurd HA.out (by simp [rewrite_Trace.l1])
        | succ k3 =>
         have H := HA.out
         clear HA
         simp only [rewrite_Trace.l1] at H
         replace H := iF H; obtain ⟨c26, H⟩ | ⟨c26, H⟩ := H
         ·
          have c26b0 : decide (x44_3 < (l1.length : Int)) = true := decide_eq_true c26
          clear c26
          replace H := iF H; obtain ⟨c27, H⟩ | ⟨c27, H⟩ := H
          ·
           have c27b0 : decide (0 ≤ x44_3) = true := decide_eq_true c27
           clear c27
           replace H := iF H; obtain ⟨c28, H⟩ | ⟨c28, H⟩ := H
           ·
            have c28b0 : decide (x44_3 < (l1.length : Int)) = true := decide_eq_true c28
            clear c28
            obtain ⟨ji29, hji29⟩ : ∃ j_ : Int, (wrap64 ((x10_3.length : Int) - 1)) = j_ := ⟨_, rfl⟩
            replace H : (if 0 ≤ (ji29) then (if (ji29) < (x10_3.length : Int) then ((rewrite_Apply.f k3 l0 ((rd_T85 l1 x44_3).f0) ((rd_T85 l1 x44_3).f1) ((rd_T85 l1 x44_3).f2) ((rd_T85 l1 x44_3).f3) ((rd_T85 l1 x44_3).f4) ((rd_T85 l1 x44_3).f5) (rdOf ByteArray.empty x10_3 (ji29))).bind fun bt204 => (if bt204.2 = 0 then (if x10_3.length < 8796093022208 then (rewrite_Trace.l1 k3 l0 (x10_3 ++ [bt204.1]) l1 (l1.length : Int) (wrap64 (x44_3 + 1))) else (none)) else (some (([] : List ByteArray), bt204.2)))) else (none)) else (none)) = some (r1, r2) := by first | (rw [hji29] at H; exact H) | (simp only [hji29] at H ⊢; exact H)
            have hji29w : (IntKind.i64.wrap ((x10_3.length : Int) - 1)) = ji29 := (i64_w _).trans hji29
            replace H := iF H; obtain ⟨c30, H⟩ | ⟨c30, H⟩ := H
            ·
             have c30b0 : decide (0 ≤ (ji29)) = true := decide_eq_true c30
             clear c30
             replace H := iF H; obtain ⟨c31, H⟩ | ⟨c31, H⟩ := H
             ·
              have c31b0 : decide ((ji29) < (x10_3.length : Int)) = true := decide_eq_true c31
              clear c31
              replace H := bI H; obtain ⟨⟨t204, t205⟩, A32, H⟩ := H; (try dsimp only at H)
              replace H := iE H; obtain ⟨-, c33b0, c33b1, H⟩ | ⟨c33, c33b0, c33b1, H⟩ := H
              ·
               replace H := iF H; obtain ⟨c34, H⟩ | ⟨c34, H⟩ := H
               ·
                have LMc34 := Aside0.mk c34
                clear c34
                obtain ⟨y206, hy206⟩ : ∃ y_ : List ByteArray, y_ = (x10_3 ++ [t204]) := ⟨_, rfl⟩
                replace H : (rewrite_Trace.l1 k3 l0 y206 l1 (l1.length : Int) (wrap64 (x44_3 + 1))) = some (r1, r2) := by first | (rw [hy206]; with_reducible exact H) | (have H2_ := (Option.bind_some _ _).symm.trans H; rw [hy206]; with_reducible exact H2_) | (have H2_ := (Option.bind_some _ _).symm.trans H; with_reducible exact H2_) | with_reducible exact H | (rw [hy206]; exact H) | exact H
                have Ny206 := Aside0.mk hy206
                clear hy206
                have H' := Aside0.mk H
                clear H
                have mk0_ := trivial
                exact LPrF82xh1
               ·
                exact absurd H (by simp)
              ·
               simp only [Option.some.injEq, Prod.mk.injEq] at H
               obtain ⟨rfl, rfl⟩ := H
               have mk1_ := trivial
               exact LPrF82xh1
             ·
              exact absurd H (by simp)
            ·
             exact absurd H (by simp)
           ·
            exact absurd H (by simp)
          ·
           exact absurd H (by simp)
         ·
          have c26b0 : decide (x44_3 < (l1.length : Int)) = false := decide_eq_false c26
          clear c26
          simp only [Option.some.injEq, Prod.mk.injEq] at H
          obtain ⟨rfl, rfl⟩ := H
          go_wp2
          go_ret2
          exact ⟨_, tE, by (with_reducible repeat (first | apply Kd.R_alloc | apply Kd.R_drewN | apply Kd.R_drew)); exact HO_10.out, by repeat (first | (with_reducible first | exact HB.out | apply below_alloc | apply pw_below_drewN | apply below_drew1) | exact HB.out)⟩
def rewrite_Cascade.f (k : Nat) (l0 : List (S80)) (l1 : List (S85)) (a2 : ByteArray) : Option (ByteArray × Int) := (rewrite_Trace.f k l0 l1 a2).bind fun bt209 => (if bt209.2 = 0 then (if 0 ≤ (wrap64 ((bt209.1.length : Int) - 1)) then (if (wrap64 ((bt209.1.length : Int) - 1)) < (bt209.1.length : Int) then (some (rdOf ByteArray.empty bt209.1 (wrap64 ((bt209.1.length : Int) - 1)), 0)) else (none)) else (none)) else (some ((⟨#[]⟩ : ByteArray), bt209.2)))
set_option maxHeartbeats 8000000 in
set_option maxRecDepth 100000 in
theorem rewrite_Cascade.calls (k : Nat) (A0 : Option Addr) (c0 : Nat) (l0 : List (S80)) (A1 : Option Addr) (c1 : Nat) (l1 : List (S85)) (a2 : ByteArray) (r1 : ByteArray) (r2 : Int) (w : World) (hT : Tabs w) (hr0 : Kd.C k80 w A0 l0.length l0) (hc0 : l0.length ≤ c0) (hr1 : Kd.C k85 w A1 l1.length l1) (hc1 : l1.length ≤ c1) (h : rewrite_Cascade.f k l0 l1 a2 = some (r1, r2)) :
 Calls Tryd.prog 70 #[.slice A0 l0.length c0, .slice A1 l1.length c1, .string a2] w fun e w' => e = .returned (.tuple #[.string r1, .int .i64 r2]) ∧ Below w.heap.size w w' := by
 have HT := Aside0.mk hT
 clear hT
 have HR0 := Aside0.mk hr0
 have HC0 := Aside0.mk hc0
 clear hr0 hc0
 have HR1 := Aside0.mk hr1
 have HC1 := Aside0.mk hc1
 clear hr1 hc1
 have HB := Aside0.mk (Below.refl w.heap.size w)
 have H : ((rewrite_Trace.f k l0 l1 a2).bind fun bt209 => (if bt209.2 = 0 then (if 0 ≤ (wrap64 ((bt209.1.length : Int) - 1)) then (if (wrap64 ((bt209.1.length : Int) - 1)) < (bt209.1.length : Int) then (some (rdOf ByteArray.empty bt209.1 (wrap64 ((bt209.1.length : Int) - 1)), 0)) else (none)) else (none)) else (some ((⟨#[]⟩ : ByteArray), bt209.2)))) = some (r1, r2) := h
 clear h
 replace H := bI H; obtain ⟨⟨t209, t210⟩, A4, H⟩ := H; (try dsimp only at H)
 replace H := iE H; obtain ⟨-, c5b0, c5b1, H⟩ | ⟨c5, c5b0, c5b1, H⟩ := H
 ·
  obtain ⟨ji6, hji6⟩ : ∃ j_ : Int, (wrap64 ((t209.length : Int) - 1)) = j_ := ⟨_, rfl⟩
  replace H : (if 0 ≤ (ji6) then (if (ji6) < (t209.length : Int) then (some (rdOf ByteArray.empty t209 (ji6), 0)) else (none)) else (none)) = some (r1, r2) := by first | (rw [hji6] at H; exact H) | (simp only [hji6] at H ⊢; exact H)
  (try rw [hji6] at A4)
  have hji6w : (IntKind.i64.wrap ((t209.length : Int) - 1)) = ji6 := (i64_w _).trans hji6
  replace H := iF H; obtain ⟨c7, H⟩ | ⟨c7, H⟩ := H
  ·
   have c7b0 : decide (0 ≤ (ji6)) = true := decide_eq_true c7
   clear c7
   replace H := iF H; obtain ⟨c8, H⟩ | ⟨c8, H⟩ := H
   ·
    have c8b0 : decide ((ji6) < (t209.length : Int)) = true := decide_eq_true c8
    clear c8
    simp only [Option.some.injEq, Prod.mk.injEq] at H
    obtain ⟨rfl, rfl⟩ := H
    go_enter Tryd.func70, Tryd.ntmps70
    go_wp2_with (first | ((with_reducible refine gate_callee (f := 82) rfl ?_); refine goesL_ (some 14) rfl rfl Tryd.func82 (by kernel_rfl) rfl #[.slice A0 l0.length c0, .slice A1 l1.length c1, .string a2] rfl Gc2 ?_; (with_reducible refine (rewrite_Trace.calls k _ _ l0 _ _ l1 a2 t209 t210 _ ?sT ?s1 HC0.out ?s3 HC1.out A4.out).mono ?_); (case sT => exact Gc1); (case s1 => exact Gc5); (case s3 => exact Gc8); rintro e w9 ⟨v211, rfl, ho0, hb⟩; refine ⟨_, rfl, ?_⟩; have n0_ := Aside0.mk (Kd.R_lower ho0 (tS HB)); have n1_ := Aside0.mk (below_step (tB HB) hb); revert n0_ n1_; clear HB; intro HO212 HB; (try clear hb); (try clear hb2); (try clear hk); (try clear hi); (try clear ho0); obtain ⟨Ao10, co10, eo10⟩ := Kd.R_slice HO212.out; subst eo10; have p213 : 0 ≤ ((ji6) : Int) := oD; have q213 : (ji6) < (t209.length : Int) := oD; obtain ⟨ad213, e213, hx213_0⟩ := Kd.at_string (Kd.R_reads' HO212.out).2.2 (ji6) p213 q213; cases e213; replace p213 := eq_true p213; replace q213 := eq_true q213))
    go_ret2
    exact ⟨by first | rfl | (simp [errW_none, errW_some] <;> rfl) | (simp only [← hji6]; first | rfl | (simp [errW_none, errW_some] <;> rfl)) | (simp [*, errW_none, errW_some] <;> rfl), by repeat (first | (with_reducible first | exact HB.out | apply below_alloc | apply pw_below_drewN | apply below_drew1) | exact HB.out)⟩
   ·
    exact absurd H (by simp)
  ·
   exact absurd H (by simp)
 ·
  simp only [Option.some.injEq, Prod.mk.injEq] at H
  obtain ⟨rfl, rfl⟩ := H
  go_enter Tryd.func70, Tryd.ntmps70
  go_wp2_with (first | ((with_reducible refine gate_callee (f := 82) rfl ?_); refine goesL_ (some 14) rfl rfl Tryd.func82 (by kernel_rfl) rfl #[.slice A0 l0.length c0, .slice A1 l1.length c1, .string a2] rfl Gc2 ?_; (with_reducible refine (rewrite_Trace.calls k _ _ l0 _ _ l1 a2 t209 t210 _ ?sT ?s1 HC0.out ?s3 HC1.out A4.out).mono ?_); (case sT => exact Gc1); (case s1 => exact Gc5); (case s3 => exact Gc8); rintro e w11 ⟨v211, rfl, ho0, hb⟩; refine ⟨_, rfl, ?_⟩; have n0_ := Aside0.mk (Kd.R_lower ho0 (tS HB)); have n1_ := Aside0.mk (below_step (tB HB) hb); revert n0_ n1_; clear HB; intro HO212 HB; (try clear hb); (try clear hb2); (try clear hk); (try clear hi); (try clear ho0)))
  go_ret2
  exact ⟨tE, by repeat (first | (with_reducible first | exact HB.out | apply below_alloc | apply pw_below_drewN | apply below_drew1) | exact HB.out)⟩
end Go.Proofs.YtfbhdjflkaldgaaDoor.Pr

namespace Go.Proofs.YtfbhdjflkaldgaaDoor.Pr
open Go.Proofs.YtfbhdjflkaldgaaDoor.Ct Go.RowKit Go.Maps Go.Lib Go.Proofs.YtfbhdjflkaldgaaDoorW.PrintWords Go.Proofs.YtfbhdjflkaldgaaDoorW.PrintLast Go.Proofs.YtfbhdjflkaldgaaDoorW.PrintMore
set_option linter.unusedVariables false
set_option linter.unusedSimpArgs false
theorem runeCount_at (s : ByteArray) : ∀ fuel pos, s.size - pos ≤ fuel → runeCountFrom s fuel pos = (runesAt s pos).length
  | 0, pos, h => by
    rw [runesAt_end (by omega)]; rfl
  | f + 1, pos, h => by
    unfold runeCountFrom
    by_cases hp : pos < s.size
    · rw [if_pos hp, runesAt_step hp, runeCount_at s f _ (by have := width_at hp; omega), List.length_cons]; omega
    · rw [if_neg hp, runesAt_end hp]; rfl
theorem runeCount_runes (s : ByteArray) : runeCount s = (runesS s).length := by
  unfold runeCount
  rw [runeCount_at s s.size 0 (by omega), runesAt_zero]
def outP (l : List S80) (r : S85) (w : ByteArray) : ByteArray := resultP (decide (r.f0 = 0)) r.f1 (sitesP l r w) w
def applyP (l : List S80) (r : S85) (w : ByteArray) : ByteArray × Int := if ruleP l r = true ∧ isWordP l w = true then (if 40 < (runesS (outP l r w)).length then ((⟨#[]⟩ : ByteArray), 2) else (outP l r w, 0)) else ((⟨#[]⟩ : ByteArray), 1)
theorem rule_to {l : List S80} {r : S85} (h : ruleP l r = true) : (runesS r.f1).length ≤ 4 := by
  unfold ruleP consistsP at h
  simp only [Bool.and_eq_true, decide_eq_true_eq] at h
  exact h.2.1.2.2
theorem word_len {l : List S80} {w : ByteArray} (h : isWordP l w = true) : (runesS w).length ≤ 40 := by
  unfold isWordP at h
  simp only [Bool.and_eq_true, decide_eq_true_eq] at h
  exact h.2.2
theorem out_size {l : List S80} {r : S85} {w : ByteArray} (h : ruleP l r = true) (hw : isWordP l w = true) : (outP l r w).size ≤ 820 := by
  unfold outP resultP
  have h1 := encS_size (resF (decide (r.f0 = 0)) (runesS r.f1) (sitesP l r w) 0 (runesS w))
  have h2 := resF_length (decide (r.f0 = 0)) (runesS r.f1) (runesS w) (sitesP l r w) 0
  have h3 : ((runesS w).length + 1) * ((runesS r.f1).length + 1) ≤ 41 * 5 := Nat.mul_le_mul (by have := word_len hw; omega) (by have := rule_to h; omega)
  omega
theorem smallR_to {r : S85} (h : smallR r = true) : r.f1.size ≤ 1099511627776 := by
  unfold smallR at h
  simp only [Bool.and_eq_true, decide_eq_true_eq] at h
  exact h.1
theorem apply_ev (l : List S80) (r : S85) (w : ByteArray) (h1 : runesOk l = true) (h2 : smallR r = true) (h3 : w.size ≤ 1099511627776) : Ev (fun k => rewrite_Apply.f k l r.f0 r.f1 r.f2 r.f3 r.f4 r.f5 w) (applyP l r w) := by
  have hv : rewrite_Valid.f l r.f0 r.f1 r.f2 r.f3 r.f4 r.f5 = some (ruleP l r) := by unfold rewrite_Valid.f; rw [if_pos ⟨h1, h2⟩]
  have hw : rewrite_letters_isWord.f l w = some (isWordP l w) := by unfold rewrite_letters_isWord.f; rw [if_pos h3]
  have bad : Ev (fun k => rewrite_Apply.j0 k l w true r.f0 r.f1 r.f2 r.f3 r.f4 r.f5) ((⟨#[]⟩ : ByteArray), 1) := by
    refine Ev.step (f := fun _ => some _) (fun k => ?_) (Ev.now _)
    simp only [rewrite_Apply.j0]; rfl
  unfold applyP
  cases e1 : ruleP l r with
  | false =>
    refine Ev.congr (fun k => ?_) bad
    unfold rewrite_Apply.f
    rw [hv, e1]; rfl
  | true =>
    cases e2 : isWordP l w with
    | false =>
      refine Ev.congr (fun k => ?_) bad
      unfold rewrite_Apply.f
      rw [hv, e1, hw, e2]; rfl
    | true =>
      refine Ev.congr (f := fun k => rewrite_Apply.j0 k l w false r.f0 r.f1 r.f2 r.f3 r.f4 r.f5) (fun k => ?_) ?_
      · unfold rewrite_Apply.f
        rw [hv, e1, hw, e2]; rfl
      · refine Ev.step (f := fun _ => some _) (fun k => ?_) (Ev.now _)
        simp only [rewrite_Apply.j0]
        rw [if_neg (by decide)]
        have hs : rewrite_Sites.f l r.f0 r.f1 r.f2 r.f3 r.f4 r.f5 w = some (sitesP l r w) := by unfold rewrite_Sites.f; rw [if_pos ⟨h1, h2, h3⟩]
        have ho : rewrite_result.f r.f0 r.f1 r.f2 r.f3 r.f4 r.f5 (sitesP l r w) w = some (outP l r w) := by unfold rewrite_result.f; rw [if_pos ⟨⟨smallR_to h2, h3⟩, rule_to e1, word_len e2⟩]; rfl
        have hc : utf8_RuneCountInString.f (outP l r w) = some (((runesS (outP l r w)).length : Nat) : Int) := by
          unfold utf8_RuneCountInString.f
          rw [if_pos (by have := out_size e1 e2; omega), runeCount_runes]
        rw [hs, Option.bind_some, ho, Option.bind_some, hc, Option.bind_some]
        by_cases h40 : 40 < (runesS (outP l r w)).length
        · rw [if_pos (by omega), if_pos ⟨trivial, trivial⟩, if_pos h40]
        · rw [if_neg (by omega), if_pos ⟨trivial, trivial⟩, if_neg h40]
theorem apply_size (l : List S80) (r : S85) (w : ByteArray) : (applyP l r w).1.size ≤ 820 := by
  unfold applyP
  split
  · rename_i h
    split
    · exact Nat.zero_le _
    · exact out_size h.1 h.2
  · exact Nat.zero_le _
def casF (l : List S80) : List S85 → ByteArray → ByteArray × Int
  | [], w => (w, 0)
  | r :: rs, w => if (applyP l r w).2 = 0 then casF l rs (applyP l r w).1 else ((⟨#[]⟩ : ByteArray), (applyP l r w).2)
def cascadeP (l : List S80) (rules : List S85) (w : ByteArray) : ByteArray × Int := if (rules.length ≤ 64 ∧ admisP l = true) ∧ isWordP l w = true ∧ rules.all (ruleP l) = true then casF l rules w else ((⟨#[]⟩ : ByteArray), 1)
theorem casF_size (l : List S80) : ∀ (rs : List S85) (w : ByteArray) (n : Nat), 820 ≤ n → w.size ≤ n → (casF l rs w).1.size ≤ n
  | [], w, n, _, h => h
  | r :: rs, w, n, h8, h => by
    unfold casF
    split
    · exact casF_size l rs _ n h8 (Nat.le_trans (apply_size l r w) h8)
    · exact Nat.zero_le _
def trL (l : List S80) : List S85 → List ByteArray → ByteArray → List ByteArray × Int
  | [], acc, _ => (acc, 0)
  | r :: rs, acc, w => if (applyP l r w).2 = 0 then trL l rs (acc ++ [(applyP l r w).1]) (applyP l r w).1 else ([], (applyP l r w).2)
theorem trL_cas (l : List S80) : ∀ (rs : List S85) (acc : List ByteArray) (w : ByteArray), (∃ a, acc = a ++ [w]) → acc.length + rs.length ≤ 65 → (trL l rs acc w).2 = (casF l rs w).2 ∧ ((casF l rs w).2 = 0 → ∃ a, (trL l rs acc w).1 = a ++ [(casF l rs w).1] ∧ a.length ≤ 64) ∧ (¬ (casF l rs w).2 = 0 → (casF l rs w).1 = (⟨#[]⟩ : ByteArray))
  | [], acc, w, ⟨a, ha⟩, hn => ⟨rfl, fun _ => ⟨a, ha, by rw [ha, List.length_append] at hn; simp at hn; omega⟩, fun h => absurd rfl h⟩
  | r :: rs, acc, w, ⟨a, ha⟩, hn => by
    unfold trL casF
    by_cases h : (applyP l r w).2 = 0
    · rw [if_pos h, if_pos h]
      exact trL_cas l rs _ _ ⟨acc, rfl⟩ (by rw [List.length_append, List.length_singleton]; rw [List.length_cons] at hn; omega)
    · rw [if_neg h, if_neg h]
      exact ⟨rfl, fun h2 => absurd h2 h, fun _ => rfl⟩
theorem drop_rule (l : List S85) (i : Nat) (h : i < l.length) : l.drop i = rd_T85 l (i : Int) :: l.drop (i + 1) := by
  unfold rd_T85
  rw [List.drop_eq_getElem_cons h, Int.toNat_natCast, List.getD_eq_getElem?_getD, List.getElem?_eq_getElem h]; rfl
theorem last_get (a : List ByteArray) (w : ByteArray) (h : a.length ≤ 1099511627776) : wrap64 (((a ++ [w]).length : Int) - 1) = (a.length : Int) ∧ rdOf ByteArray.empty (a ++ [w]) (a.length : Int) = w := by
  constructor
  · rw [List.length_append, List.length_singleton, wrapIn _ ⟨by omega, by omega⟩]; omega
  · unfold rdOf
    rw [Int.toNat_natCast]; simp
theorem trace_ev (l : List S80) (rules : List S85) (w : ByteArray) (h1 : runesOk l = true) (h2 : rules.all smallR = true) (h3 : w.size ≤ 1099511627776) (hl : l.length ≤ 9223372036854775807) : Ev (fun k => rewrite_Trace.f k l rules w) (if (rules.length ≤ 64 ∧ admisP l = true) ∧ isWordP l w = true ∧ rules.all (ruleP l) = true then trL l rules [w] w else ([], 1)) := by
  have bad : Ev (fun k => rewrite_Trace.j0 k l rules w true) (([] : List ByteArray), 1) := by
    refine Ev.step (f := fun _ => some _) (fun k => ?_) (Ev.now _)
    simp only [rewrite_Trace.j0]; rfl
  have hw : rewrite_letters_isWord.f l w = some (isWordP l w) := by unfold rewrite_letters_isWord.f; rw [if_pos h3]
  by_cases c1 : rules.length ≤ 64
  · refine Ev.congr (f := fun k => (rewrite_letters_admissible.f k l).bind fun t193 => (if t193 = true then ((rewrite_letters_isWord.f l w).bind fun t194 => (rewrite_Trace.j0 k l rules w (!t194))) else (rewrite_Trace.j0 k l rules w true))) (fun k => ?_) (Ev.bind (admissible_ev l hl) ?_)
    · unfold rewrite_Trace.f; rw [if_neg (by omega)]
    cases c2 : admisP l with
    | false => rw [if_neg (by simp)]; simp only [Bool.false_eq_true, if_false]; exact bad
    | true =>
      simp only [if_true]
      rw [hw]
      cases c3 : isWordP l w with
      | false => rw [if_neg (by simp)]; exact bad
      | true =>
        have hloop : ∀ d i (acc : List ByteArray) (u : ByteArray), rules.length - i = d → i ≤ rules.length → (∃ a, acc = a ++ [u] ∧ a.length ≤ i) → u.size ≤ 1099511627776 → Ev (fun k => rewrite_Trace.l1 k l acc rules (rules.length : Int) (i : Int)) (trL l (rules.drop i) acc u) := by
          intro d
          induction d with
          | zero =>
            intro i acc u hd hi ha hu
            obtain rfl : i = rules.length := by omega
            rw [List.drop_length]
            refine Ev.step (f := fun _ => some _) (fun k => ?_) (Ev.now _)
            simp only [rewrite_Trace.l1]; rw [if_neg (by omega)]; rfl
          | succ d ih =>
            intro i acc u hd hi ha hu
            obtain ⟨a, rfl, hal⟩ := ha
            have hlt : i < rules.length := by omega
            obtain ⟨g1, g2⟩ := last_get a u (by omega)
            rw [drop_rule rules i hlt]
            have hmem : rd_T85 rules (i : Int) ∈ rules := by
              have := drop_rule rules i hlt
              exact List.mem_of_mem_drop (i := i) (by rw [this]; simp)
            obtain ⟨R, hR⟩ : ∃ R, rd_T85 rules (i : Int) = R := ⟨_, rfl⟩
            rw [hR] at hmem
            refine Ev.step (f := fun k => (rewrite_Apply.f k l R.f0 R.f1 R.f2 R.f3 R.f4 R.f5 u).bind fun bt204 => (if bt204.2 = 0 then (if (a ++ [u]).length < 8796093022208 then (rewrite_Trace.l1 k l ((a ++ [u]) ++ [bt204.1]) rules (rules.length : Int) ((i + 1 : Nat) : Int)) else (none)) else (some (([] : List ByteArray), bt204.2)))) (fun k => ?_) ?_
            · simp only [rewrite_Trace.l1]
              rw [if_pos (by omega), if_pos (by omega), if_pos (by omega), g1, if_pos (by omega), if_pos Gc18, g2, hR, idx_next hlt (by omega)]
            · refine Ev.bind (apply_ev l R u h1 (List.all_eq_true.1 h2 R hmem) hu) ?_
              rw [hR]
              unfold trL
              by_cases e : (applyP l R u).2 = 0
              · rw [if_pos e]
                refine Ev.congr (fun k => ?_) (ih (i + 1) _ _ (by omega) (by omega) ⟨a ++ [u], rfl, by rw [List.length_append, List.length_singleton]; omega⟩ (Nat.le_trans (apply_size l R u) (by decide)))
                rw [if_pos e, if_pos Gc18]
              · rw [if_neg e]
                refine Ev.congr (f := fun _ => some _) (fun k => ?_) (Ev.now _)
                rw [if_neg e]
        have hall : ∀ d i, rules.length - i = d → i ≤ rules.length → Ev (fun k => rewrite_Trace.l0 k l rules w rules (rules.length : Int) (i : Int)) (if (rules.drop i).all (ruleP l) = true then trL l rules [w] w else ([], 1)) := by
          intro d
          induction d with
          | zero =>
            intro i hd hi
            obtain rfl : i = rules.length := by omega
            rw [List.drop_length]
            refine Ev.step (fun k => ?_) (hloop rules.length 0 [w] w (by omega) (by omega) ⟨[], rfl, by simp⟩ h3)
            simp only [rewrite_Trace.l0]; rw [if_neg (by omega)]; rfl
          | succ d ih =>
            intro i hd hi
            have hlt : i < rules.length := by omega
            have hmem : rd_T85 rules (i : Int) ∈ rules := by
              have := drop_rule rules i hlt
              exact List.mem_of_mem_drop (i := i) (by rw [this]; simp)
            rw [drop_rule rules i hlt, List.all_cons]
            obtain ⟨R, hR⟩ : ∃ R, rd_T85 rules (i : Int) = R := ⟨_, rfl⟩
            rw [hR] at hmem ⊢
            have hv : rewrite_Valid.f l R.f0 R.f1 R.f2 R.f3 R.f4 R.f5 = some (ruleP l R) := by unfold rewrite_Valid.f; rw [if_pos ⟨h1, List.all_eq_true.1 h2 R hmem⟩]
            cases e : ruleP l R with
            | false =>
              refine Ev.step (f := fun _ => some _) (fun k => ?_) (Ev.now _)
              simp only [rewrite_Trace.l0]
              rw [if_pos (by omega), if_pos (by omega), if_pos (by omega), hR, hv, e]; rfl
            | true =>
              rw [Bool.true_and]
              refine Ev.step (fun k => ?_) (ih (i + 1) (by omega) (by omega))
              simp only [rewrite_Trace.l0]
              rw [if_pos (by omega), if_pos (by omega), if_pos (by omega), hR, hv, e, Option.bind_some, if_pos rfl, idx_next hlt (by omega)]
        refine Ev.congr (f := fun k => rewrite_Trace.j0 k l rules w false) (fun k => rfl) ?_
        refine Ev.step (fun k => ?_) (?_ : Ev (fun k => rewrite_Trace.l0 k l rules w rules (rules.length : Int) ((0 : Nat) : Int)) _)
        · simp only [rewrite_Trace.j0]; rw [if_neg (by decide)]; rfl
        · have := hall rules.length 0 (by omega) (by omega)
          rw [List.drop_zero] at this
          by_cases c4 : rules.all (ruleP l) = true
          · rw [if_pos c4] at this; rw [if_pos ⟨⟨c1, trivial⟩, rfl, c4⟩]; exact this
          · rw [if_neg c4] at this; rw [if_neg (fun h => c4 h.2.2)]; exact this
  · rw [if_neg (fun h => c1 h.1.1)]
    refine Ev.congr (fun k => ?_) bad
    unfold rewrite_Trace.f; rw [if_pos (by omega)]
theorem cascade_ev (l : List S80) (rules : List S85) (w : ByteArray) (h1 : runesOk l = true) (h2 : rules.all smallR = true) (h3 : w.size ≤ 1099511627776) (hl : l.length ≤ 9223372036854775807) : Ev (fun k => rewrite_Cascade.f k l rules w) (cascadeP l rules w) := by
  refine Ev.congr (fun k => rfl) (Ev.bind (trace_ev l rules w h1 h2 h3 hl) ?_)
  unfold cascadeP
  by_cases c : (rules.length ≤ 64 ∧ admisP l = true) ∧ isWordP l w = true ∧ rules.all (ruleP l) = true
  · rw [if_pos c, if_pos c]
    obtain ⟨e1, e2, e3⟩ := trL_cas l rules [w] w ⟨[], rfl⟩ (by have := c.1.1; simp; omega)
    rw [e1]
    by_cases z : (casF l rules w).2 = 0
    · obtain ⟨a, ha, hal⟩ := e2 z
      obtain ⟨g1, g2⟩ := last_get a (casF l rules w).1 (by omega)
      refine Ev.congr (f := fun _ => some _) (fun k => ?_) (Ev.now _)
      rw [if_pos z, ha, g1, if_pos (by omega), if_pos Gc18, g2]
      congr 1
      exact Prod.ext rfl z.symm
    · refine Ev.congr (f := fun _ => some _) (fun k => ?_) (Ev.now _)
      rw [if_neg z]
      congr 1
      exact Prod.ext (e3 z).symm rfl
  · rw [if_neg c, if_neg c]
    refine Ev.congr (f := fun _ => some _) (fun k => ?_) (Ev.now _)
    rw [if_neg (by decide)]
theorem cascade_size (l : List S80) (rules : List S85) (w : ByteArray) (n : Nat) (hn : 820 ≤ n) (h : w.size ≤ n) : (cascadeP l rules w).1.size ≤ n := by
  unfold cascadeP
  split
  · exact casF_size l rules w n hn h
  · exact Nat.zero_le _
theorem cascade_calls (A0 : Option Addr) (c0 : Nat) (l0 : List S80) (A1 : Option Addr) (c1 : Nat) (l1 : List S85) (a2 : ByteArray) (w : World) (hT : Tabs w) (hr0 : Kd.C k80 w A0 l0.length l0) (hc0 : l0.length ≤ c0) (hr1 : Kd.C k85 w A1 l1.length l1) (hc1 : l1.length ≤ c1) (h1 : runesOk l0 = true) (h2 : l1.all smallR = true) (h3 : a2.size ≤ 1099511627776) :
    Calls Tryd.prog 70 #[.slice A0 l0.length c0, .slice A1 l1.length c1, .string a2] w fun e w' => e = .returned (.tuple #[.string (cascadeP l0 l1 a2).1, .int .i64 (cascadeP l0 l1 a2).2]) ∧ Below w.heap.size w w' := by
  obtain ⟨k, hk⟩ := (cascade_ev l0 l1 a2 h1 h2 h3 hr0.2.1).rounds
  exact rewrite_Cascade.calls k A0 c0 l0 A1 c1 l1 a2 _ _ w hT hr0 hc0 hr1 hc1 hk
end Go.Proofs.YtfbhdjflkaldgaaDoor.Pr
