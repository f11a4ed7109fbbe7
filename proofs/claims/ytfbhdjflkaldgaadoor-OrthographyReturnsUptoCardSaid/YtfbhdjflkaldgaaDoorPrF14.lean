-- Written by a program of this session (ownprint.py, over the kit's printer). Not trusted: Lean checks it.
import Derived.Test.YtfbhdjflkaldgaaDoorMg1
import Derived.Test.YtfbhdjflkaldgaaDoorCt
import Derived.Test.YtfbhdjflkaldgaaDoorMg3
import Derived.Test.YtfbhdjflkaldgaaDoorMg17
import Derived.Test.YtfbhdjflkaldgaaDoorMg14
import Derived.Test.YtfbhdjflkaldgaaDoorSeg
namespace Go.Proofs.YtfbhdjflkaldgaaDoor.Pr
open Go.Proofs.YtfbhdjflkaldgaaDoor.Ct Go.RowKit Go.Proofs.YtfbhdjflkaldgaaDoorW.PrintWords Go.Proofs.YtfbhdjflkaldgaaDoorW.PrintLast Go.Proofs.YtfbhdjflkaldgaaDoorW.PrintMore
attribute [local go_sem] max2_int min2_int max_two min_two max_three min_three max_four min_four
set_option linter.unusedVariables false
set_option linter.unusedSimpArgs false
mutual
def orthography_Sentence.j0 : Nat → List (S57) → Bool → ByteArray → Bool → List (S80) → List (S85) → List (S180) → List (S183) → List (List Int) → Int → Int → List (S85) → Int → List ByteArray → List ByteArray → Bool → ByteArray → Int → ByteArray → Bool → Int → Int → List (S186) → List (S186) → List ByteArray → List ByteArray → List ByteArray → Bool → List (S188) → List (S190) → List (S194) → ByteArray → Option (ByteArray × Int)
 | 0, _, _, _, _, _, _, _, _, _, _, _, _, _, _, _, _, _, _, _, _, _, _, _, _, _, _, _, _, _, _, _, _ => none
 | k + 1, x6, x25, x275000, x275001, x275002, x275003, x275004, x275005, x275006, x275007, x275008, x275009, x275010, x275011, x275012, x275013, x275014, x275015, x275016, x275017, x275018, x275019, x275020, x275021, x275022, x275023, x275024, x275025, x275026, x275027, x275028, x275029 => if x25 = true then (some ((⟨#[]⟩ : ByteArray), 1)) else (if 0 ≤ (x6.length : Int) then (if ((x6.length : Int) : Int).toNat ≤ 17592186044416 then (orthography_Sentence.l0 k (List.replicate ((x6.length : Int) : Int).toNat (⟨#[]⟩ : ByteArray)) x6 (x6.length : Int) 0 x275000 x275001 x275002 x275003 x275004 x275005 x275006 x275007 x275008 x275009 x275010 x275011 x275012 x275013 x275014 x275015 x275016 x275017 x275018 x275019 x275020 x275021 x275022 x275023 x275024 x275025 x275026 x275027 x275028 x275029) else (none)) else (none))
def orthography_Sentence.l0 : Nat → List ByteArray → List (S57) → Int → Int → ByteArray → Bool → List (S80) → List (S85) → List (S180) → List (S183) → List (List Int) → Int → Int → List (S85) → Int → List ByteArray → List ByteArray → Bool → ByteArray → Int → ByteArray → Bool → Int → Int → List (S186) → List (S186) → List ByteArray → List ByteArray → List ByteArray → Bool → List (S188) → List (S190) → List (S194) → ByteArray → Option (ByteArray × Int)
 | 0, _, _, _, _, _, _, _, _, _, _, _, _, _, _, _, _, _, _, _, _, _, _, _, _, _, _, _, _, _, _, _, _, _, _ => none
 | k + 1, x8, x29, x30, x31, x275000, x275001, x275002, x275003, x275004, x275005, x275006, x275007, x275008, x275009, x275010, x275011, x275012, x275013, x275014, x275015, x275016, x275017, x275018, x275019, x275020, x275021, x275022, x275023, x275024, x275025, x275026, x275027, x275028, x275029 => if x31 < x30 then (if 0 ≤ x31 then (if x31 < (x29.length : Int) then ((clitic_AttachAll.f k x275002 x275009 ((rd_T57 x29 x31).f0) ((rd_T57 x29 x31).f1)).bind fun bt285 => (if bt285.2 = 0 then (if x31 < (x8.length : Int) then (orthography_Sentence.l0 k (x8.set (x31 : Int).toNat bt285.1) x29 x30 (wrap64 (x31 + 1)) x275000 x275001 x275002 x275003 x275004 x275005 x275006 x275007 x275008 x275009 x275010 x275011 x275012 x275013 x275014 x275015 x275016 x275017 x275018 x275019 x275020 x275021 x275022 x275023 x275024 x275025 x275026 x275027 x275028 x275029) else (none)) else (some ((⟨#[]⟩ : ByteArray), bt285.2)))) else (none)) else (none)) else ((slices_Contains_string_string.f k x8 (⟨#[]⟩ : ByteArray)).bind fun t288 => (if t288 = true then (some ((⟨#[]⟩ : ByteArray), 1)) else ((strings_Join.f x8 (⟨#[32]⟩ : ByteArray)).bind fun t289 => (if t289.size + x275029.size ≤ 9223372036854775807 then (some (t289 ++ x275029, 0)) else (none)))))
end
def orthography_Sentence.f (k : Nat) (a_0 : ByteArray) (a_1 : Bool) (l_2 : List (S80)) (l_3 : List (S85)) (l_4 : List (S180)) (l_5 : List (S183)) (l_6 : List (List Int)) (a_7 : Int) (a_8 : Int) (l_9 : List (S85)) (a_a : Int) (l_b : List ByteArray) (l_c : List ByteArray) (a_d : Bool) (a_e : ByteArray) (a_f : Int) (a_g : ByteArray) (a_h : Bool) (a_i : Int) (a_j : Int) (l_k : List (S186)) (l_l : List (S186)) (l_m : List ByteArray) (l_n : List ByteArray) (l_o : List ByteArray) (a_p : Bool) (l_q : List (S188)) (l_r : List (S190)) (l_s : List (S194)) (a_t : ByteArray) (l1 : List ByteArray) : Option (ByteArray × Int) := (orthography_segments.f a_0 a_1 l_2 l_3 l_4 l_5 l_6 a_7 a_8 l_9 a_a l_b l_c a_d a_e a_f a_g a_h a_i a_j l_k l_l l_m l_n l_o a_p l_q l_r l_s a_t l1).bind fun bt275 => (if bt275.2 = true then ((orthography_valid.f k a_0 a_1 l_2 l_3 l_4 l_5 l_6 a_7 a_8 l_9 a_a l_b l_c a_d a_e a_f a_g a_h a_i a_j l_k l_l l_m l_n l_o a_p l_q l_r l_s a_t).bind fun t279 => (orthography_Sentence.j0 k bt275.1 (!t279) a_0 a_1 l_2 l_3 l_4 l_5 l_6 a_7 a_8 l_9 a_a l_b l_c a_d a_e a_f a_g a_h a_i a_j l_k l_l l_m l_n l_o a_p l_q l_r l_s a_t)) else (orthography_Sentence.j0 k bt275.1 true a_0 a_1 l_2 l_3 l_4 l_5 l_6 a_7 a_8 l_9 a_a l_b l_c a_d a_e a_f a_g a_h a_i a_j l_k l_l l_m l_n l_o a_p l_q l_r l_s a_t))
theorem LPrF14x1 {p : Prop} (h : p := by
  go_ret2
  exact ⟨tE, by repeat (first | (with_reducible first | exact HB.out | apply below_alloc | apply pw_below_drewN | apply below_drew1 | refine below_set ?_ GE274.out) | exact HB.out)⟩) : p := h
set_option maxRecDepth 1000000 in
theorem LPrF14xh1 {p : Prop} (h : p := by
  have z1_ : 0 ≤ (x31_2 : Int) := oD
  have z2_ : x31_2 < (t275.length : Int) := oD
  obtain ⟨z3_, z4_, z5_, z6_, z7_, z8_, z9_, z10_⟩ := at_T57 (Kd.S_reads' HO_29.out).2.2 x31_2 z1_ z2_
  cases z6_
  obtain ⟨z11_, z12_, z13_, z14_⟩ := Kd.S_get HO_29.out z57 x31_2 z1_ (by first | exact z2_ | exact oD | (have e_ := (Kd.S_reads' HO_29.out).1; omega))
  obtain ⟨z15_, rfl, z16_⟩ := k57_openM z13_
  have z17_ := z14_ 1 _ rfl
  rw [add_field _ _ 1 (by omega)] at z17_
  replace z17_ := Option.some.inj (z17_.symm.trans z8_)
  rw [z17_] at z16_
  have z18_ := Aside0.mk (show Kd.R Kd.string 9 _ _ _ _ ((rd_T57 t275 x31_2).f1) from z16_)
  clear z17_ z16_; clear z14_ z12_
  have z19_ := Aside0.mk z10_
  have z20_ := Aside0.mk z9_
  clear z10_ z9_
  replace z1_ := eq_true z1_
  replace z2_ := eq_true z2_
  first
  | (have mk_ := mk0_
     go_wp2_with (first | ((with_reducible refine gate_load (t := 41) (p := 2) rfl ?_); (try (refine gate_guard (by rfl) ?_; dsimp only)); refine wpList_load_row rfl 41 (.tmp 2) rfl gb274 rfl 41 _ (0, 0) _ (tK BK274) Tryd.underlying41 rfl (by kernel_rfl) ?_) | ((with_reducible refine gate_dst (N := 10) rfl ?_); refine box_event ?hg (N := 10) ?hd (cs := #[.string (⟨#[]⟩ : ByteArray), .slice none 0 0]) (t := 57) ?hr ?_; (case hd => rfl); (case hg => rfl); (case hr => exact Gc6); intro z21_ hg z22_ hbox hb; have z23_ := Aside0.mk (Kd.R_below (dR HO_8) hb); have z24_ := Aside0.mk (Kd.S_below (Kd.S_elderB (dS HO_29) z21_ (Nat.le_of_eq hg.symm)) hb); have z25_ := Aside0.mk (Kd.R_below (dR z18_) hb); have z26_ := Aside0.mk (blk_below (tK BK274) hb); have z27_ := Aside0.mk (Kd.C_below (by repeat (first | (with_reducible exact z19_.out) | (with_reducible refine Kd.C_alloc ?_ _) | (with_reducible refine Kd.C_drewN ?_ _) | (with_reducible refine Kd.C_drew ?_) | exact z19_.out)) hb); have z28_ := Aside0.mk (below_step (tB HB) hb); have z29_ := Aside0.mk (hbox); have z30_ := tZ hg (tS HB); have z31_ := tZ hg (tS HB); have z32_ := tL hg (tK BK274); have z33_ := tG hg (tK BK274); revert z23_ z24_ z25_ z26_ z27_ z28_ z29_ z30_ z31_ z32_ z33_; clear HO_8 HO_29 z18_ BK274 z19_ HB; intro HO_8 HO_29 z18_ BK274 z19_ HB z34_ z35_ z36_ z37_ z38_; clear hb hbox hg; have z39_ := z38_.out; have z40_ := z37_.out; have z41_ := cel2 z34_ 0 rfl; have z42_ := cel2 z34_ 1 rfl; have z43_ := blk_frozen z34_.out 0; have z44_ := blk_frozen z34_.out 1; have z45_ := cel2 BK274 2 rfl; have z46_ := cel2 BK274 9 rfl; have z47_ := cel2 BK274 29 rfl; have z48_ := blk_frozen BK274.out 2; have z49_ := blk_frozen BK274.out 9; have z50_ := blk_frozen BK274.out 29) | ((with_reducible refine gate_callee (f := 16) rfl ?_); refine goesL_ (some 43) rfl rfl Tryd.func16 (by kernel_rfl) rfl #[.slice A_2 l_2.length c_2, .slice A_9 l_9.length c_9, .agg #[.string ((rd_T57 t275 x31_2).f0), .slice z4_ ((rd_T57 t275 x31_2).f1).length z5_]] rfl Gc2 ?_; (with_reducible refine (clitic_AttachAll.calls k2 _ _ l_2 _ _ l_9 ((rd_T57 t275 x31_2).f0) _ _ ((rd_T57 t275 x31_2).f1) t285 t286 _ ?sT ?s1 HC_2.out ?s3 HC_9.out ?s5 z20_.out A21.out).mono ?_); (case sT => exact Gc1); (case s1 => exact Kd.C_below HR_2.out (tB HB)); (case s3 => exact Kd.C_below HR_9.out (tB HB)); (case s5 => repeat (first | exact ((Kd.R_reads' Gc7).2.2) | (with_reducible refine Kd.C_alloc ?_ _) | (with_reducible refine Kd.C_drewN ?_ _) | (with_reducible refine Kd.C_drew ?_))); rintro e z51_ ⟨rfl, hb⟩; refine ⟨_, rfl, ?_⟩; have z23_ := Aside0.mk (Kd.R_below (by (with_reducible repeat (first | apply Kd.R_alloc | apply Kd.R_drewN | apply Kd.R_drew)); exact (Kd.R_mono (Kd.R_far (p := ⟨z21_, 1, none⟩) (Kd.R_far (p := ⟨z21_, 0, none⟩) (Kd.R_types HO_8.out z34_.out (by decide)) (fun _ hk => hk.2) (.string ((rd_T57 t275 x31_2).f0))) (fun _ hk => hk.2) (.slice z4_ ((rd_T57 t275 x31_2).f1).length z5_)) (fun _ h_ => h_.1))) hb); have z24_ := Aside0.mk (Kd.S_below (dS HO_29) hb); have z25_ := Aside0.mk (Kd.R_below Gc7 hb); have z26_ := Aside0.mk (blk_below (tK BK274) hb); have z27_ := Aside0.mk (Kd.C_below ((Kd.R_reads' Gc7).2.2) hb); have z28_ := Aside0.mk (blk_below (g := z21_) (o := .cells #[.string ((rd_T57 t275 x31_2).f0), .slice z4_ ((rd_T57 t275 x31_2).f1).length z5_] 57 (0, 0)) (tKp z34_) hb); have z29_ := Aside0.mk (below_step (tB HB) hb); revert z23_ z24_ z25_ z26_ z27_ z28_ z29_; clear HO_8 HO_29 z18_ BK274 z19_ z34_ HB; intro HO_8 HO_29 z18_ BK274 z19_ z34_ HB; (try clear hb); (try clear hb2); (try clear hk); (try clear hi); have z52_ : 0 ≤ (x31_2 : Int) := oD; have z53_ : (x31_2 : Int) < ((x8_2.length : Int) : Int) := oD; obtain ⟨z54_, z55_, z56_, z57_, z58_, z59_, z60_⟩ := Kd.R_form HO_8.out (by omega); (first | cases z56_ | (injection z56_ with ea_ en_ ec_; (first | subst ea_ | (injection ea_ with ea_; subst ea_)); subst ec_; clear en_)); have z61_ := Aside0.mk z57_; have z62_ := Aside0.mk z60_; clear z57_ z58_ z60_; obtain ⟨z63_, z64_⟩ := Kd.R_celln (⟨#[]⟩ : ByteArray) HO_8.out (x31_2 : Int) z52_ z53_; replace z52_ := eq_true z52_; replace z53_ := eq_true z53_; obtain ⟨z65_, z66_⟩ := Kd.R_celln (⟨#[]⟩ : ByteArray) HO_8.out (x31_2 : Int) (oD) (oD); have z67_ := Kd.R_putg HO_8.out (x31_2 : Int) t285) | ((with_reducible refine gate_store (t := 9) (p := 52) rfl ?_); refine store_event (t := 9) (p := 52) (v := ?vo_w31) (w1 := (z51_.setCell ⟨z54_, (x31_2 : Int).toNat, none⟩ (.string t285))) ?hg ?ho ?hn ?hr ?_; (case ho => rfl); (case hg => rfl); (case hn => rfl); (case hr => exact Gc6); intro z68_ hw; have hg : z51_.grownBy z68_ (some z54_) := (by rw [hw]; exact z67_.2); have hp_ : Kd.R Kd.string 9 z68_ w.heap.size (fun _ => True) (.slice (some ⟨z54_, 0, none⟩) x8_2.length z55_) y287 := (by rw [hw, Ny287.out]; exact z67_.1); clear z67_; have z23_ := Aside0.mk (hp_); have z24_ := Aside0.mk (Kd.S_after (v := (.slice (some ⟨z54_, 0, none⟩) x8_2.length z55_)) (v1 := (.slice (some ⟨z54_, 0, none⟩) x8_2.length z55_)) (ok := (fun k_ => k_ ≠ z21_)) (dS HO_29) hg (.inl rfl)); have z25_ := Aside0.mk (blk_grown (tK BK274) hg (Kd.R_ne HO_8.out BK274.out (by decide))); have z26_ := Aside0.mk (Kd.R_after (v := (.slice (some ⟨z54_, 0, none⟩) x8_2.length z55_)) (v1 := (.slice (some ⟨z54_, 0, none⟩) x8_2.length z55_)) (ok := (fun k_ => some k_ ≠ (.slice (some z3_) t275.length co15 : Value).ownBlock)) (dR z18_) hg (.inl rfl)); have z27_ := Aside0.mk (blk_grown (tK z34_) hg (Kd.R_ne HO_8.out z34_.out (by decide))); have z28_ := Aside0.mk ((by rw [hw]; exact below_set (HB.out) z61_.out : Below w.heap.size w z68_)); revert z23_ z24_ z25_ z26_ z27_ z28_; clear HO_8 HO_29 BK274 z18_ z34_ HB; intro HO_8 HO_29 BK274 z18_ z34_ HB; clear hg hw hp_))
     go_roundg k2
     case measure => have := HJ3.out; have := HK2.out; omega
     case rel => exact ⟨(y287), (wrap64 (x31_2 + 1)), tV1, H', ⟨by have := HJ3.out; have := HK2.out; omega⟩, ⟨dR HO_8⟩, ⟨dS HO_29⟩, ⟨tK BK274⟩, ⟨tB HB⟩⟩)
  | (have mk_ := mk1_
     go_wp2_with (first | ((with_reducible refine gate_load (t := 41) (p := 2) rfl ?_); (try (refine gate_guard (by rfl) ?_; dsimp only)); refine wpList_load_row rfl 41 (.tmp 2) rfl gb274 rfl 41 _ (0, 0) _ (tK BK274) Tryd.underlying41 rfl (by kernel_rfl) ?_) | ((with_reducible refine gate_dst (N := 10) rfl ?_); refine box_event ?hg (N := 10) ?hd (cs := #[.string (⟨#[]⟩ : ByteArray), .slice none 0 0]) (t := 57) ?hr ?_; (case hd => rfl); (case hg => rfl); (case hr => exact Gc6); intro z21_ hg z22_ hbox hb; have z23_ := Aside0.mk (Kd.R_below (dR HO_8) hb); have z24_ := Aside0.mk (Kd.S_below (Kd.S_elderB (dS HO_29) z21_ (Nat.le_of_eq hg.symm)) hb); have z25_ := Aside0.mk (Kd.R_below (dR z18_) hb); have z26_ := Aside0.mk (blk_below (tK BK274) hb); have z27_ := Aside0.mk (Kd.C_below (by repeat (first | (with_reducible exact z19_.out) | (with_reducible refine Kd.C_alloc ?_ _) | (with_reducible refine Kd.C_drewN ?_ _) | (with_reducible refine Kd.C_drew ?_) | exact z19_.out)) hb); have z28_ := Aside0.mk (below_step (tB HB) hb); have z29_ := Aside0.mk (hbox); have z30_ := tZ hg (tS HB); have z31_ := tZ hg (tS HB); have z32_ := tL hg (tK BK274); have z33_ := tG hg (tK BK274); revert z23_ z24_ z25_ z26_ z27_ z28_ z29_ z30_ z31_ z32_ z33_; clear HO_8 HO_29 z18_ BK274 z19_ HB; intro HO_8 HO_29 z18_ BK274 z19_ HB z34_ z35_ z36_ z37_ z38_; clear hb hbox hg; have z39_ := z38_.out; have z40_ := z37_.out; have z41_ := cel2 z34_ 0 rfl; have z42_ := cel2 z34_ 1 rfl; have z43_ := blk_frozen z34_.out 0; have z44_ := blk_frozen z34_.out 1; have z45_ := cel2 BK274 2 rfl; have z46_ := cel2 BK274 9 rfl; have z47_ := cel2 BK274 29 rfl; have z48_ := blk_frozen BK274.out 2; have z49_ := blk_frozen BK274.out 9; have z50_ := blk_frozen BK274.out 29) | ((with_reducible refine gate_callee (f := 16) rfl ?_); refine goesL_ (some 43) rfl rfl Tryd.func16 (by kernel_rfl) rfl #[.slice A_2 l_2.length c_2, .slice A_9 l_9.length c_9, .agg #[.string ((rd_T57 t275 x31_2).f0), .slice z4_ ((rd_T57 t275 x31_2).f1).length z5_]] rfl Gc2 ?_; (with_reducible refine (clitic_AttachAll.calls k2 _ _ l_2 _ _ l_9 ((rd_T57 t275 x31_2).f0) _ _ ((rd_T57 t275 x31_2).f1) t285 t286 _ ?sT ?s1 HC_2.out ?s3 HC_9.out ?s5 z20_.out A21.out).mono ?_); (case sT => exact Gc1); (case s1 => exact Kd.C_below HR_2.out (tB HB)); (case s3 => exact Kd.C_below HR_9.out (tB HB)); (case s5 => repeat (first | exact ((Kd.R_reads' Gc7).2.2) | (with_reducible refine Kd.C_alloc ?_ _) | (with_reducible refine Kd.C_drewN ?_ _) | (with_reducible refine Kd.C_drew ?_))); rintro e z51_ ⟨rfl, hb⟩; refine ⟨_, rfl, ?_⟩; have z23_ := Aside0.mk (Kd.R_below (by (with_reducible repeat (first | apply Kd.R_alloc | apply Kd.R_drewN | apply Kd.R_drew)); exact (Kd.R_mono (Kd.R_far (p := ⟨z21_, 1, none⟩) (Kd.R_far (p := ⟨z21_, 0, none⟩) (Kd.R_types HO_8.out z34_.out (by decide)) (fun _ hk => hk.2) (.string ((rd_T57 t275 x31_2).f0))) (fun _ hk => hk.2) (.slice z4_ ((rd_T57 t275 x31_2).f1).length z5_)) (fun _ h_ => h_.1))) hb); have z24_ := Aside0.mk (Kd.S_below (dS HO_29) hb); have z25_ := Aside0.mk (Kd.R_below Gc7 hb); have z26_ := Aside0.mk (blk_below (tK BK274) hb); have z27_ := Aside0.mk (Kd.C_below ((Kd.R_reads' Gc7).2.2) hb); have z28_ := Aside0.mk (blk_below (g := z21_) (o := .cells #[.string ((rd_T57 t275 x31_2).f0), .slice z4_ ((rd_T57 t275 x31_2).f1).length z5_] 57 (0, 0)) (tKp z34_) hb); have z29_ := Aside0.mk (below_step (tB HB) hb); revert z23_ z24_ z25_ z26_ z27_ z28_ z29_; clear HO_8 HO_29 z18_ BK274 z19_ z34_ HB; intro HO_8 HO_29 z18_ BK274 z19_ z34_ HB; (try clear hb); (try clear hb2); (try clear hk); (try clear hi)))
     go_ret2
     exact ⟨tE, by repeat (first | (with_reducible first | exact HB.out | apply below_alloc | apply pw_below_drewN | apply below_drew1 | refine below_set ?_ GE274.out | refine below_set ?_ z36_.out) | exact HB.out)⟩)) : p := h
set_option maxHeartbeats 8000000 in
set_option maxRecDepth 100000 in
theorem orthography_Sentence.calls (k : Nat) (a_0 : ByteArray) (a_1 : Bool) (A_2 : Option Addr) (c_2 : Nat) (l_2 : List (S80)) (A_3 : Option Addr) (c_3 : Nat) (l_3 : List (S85)) (A_4 : Option Addr) (c_4 : Nat) (l_4 : List (S180)) (A_5 : Option Addr) (c_5 : Nat) (l_5 : List (S183)) (A_6 : Option Addr) (c_6 : Nat) (l_6 : List (List Int)) (a_7 : Int) (a_8 : Int) (A_9 : Option Addr) (c_9 : Nat) (l_9 : List (S85)) (a_a : Int) (A_b : Option Addr) (c_b : Nat) (l_b : List ByteArray) (A_c : Option Addr) (c_c : Nat) (l_c : List ByteArray) (a_d : Bool) (a_e : ByteArray) (a_f : Int) (a_g : ByteArray) (a_h : Bool) (a_i : Int) (a_j : Int) (A_k : Option Addr) (c_k : Nat) (l_k : List (S186)) (A_l : Option Addr) (c_l : Nat) (l_l : List (S186)) (A_m : Option Addr) (c_m : Nat) (l_m : List ByteArray) (A_n : Option Addr) (c_n : Nat) (l_n : List ByteArray) (A_o : Option Addr) (c_o : Nat) (l_o : List ByteArray) (a_p : Bool) (A_q : Option Addr) (c_q : Nat) (l_q : List (S188)) (A_r : Option Addr) (c_r : Nat) (l_r : List (S190)) (A_s : Option Addr) (c_s : Nat) (l_s : List (S194)) (a_t : ByteArray) (A1 : Option Addr) (c1 : Nat) (l1 : List ByteArray) (r1 : ByteArray) (r2 : Int) (w : World) (hT : Tabs w) (hr_2 : Kd.C k80 w A_2 l_2.length l_2) (hc_2 : l_2.length ≤ c_2) (hr_3 : Kd.C k85 w A_3 l_3.length l_3) (hc_3 : l_3.length ≤ c_3) (hr_4 : Kd.C k180 w A_4 l_4.length l_4) (hc_4 : l_4.length ≤ c_4) (hr_5 : Kd.C k183 w A_5 l_5.length l_5) (hc_5 : l_5.length ≤ c_5) (hr_6 : Kd.C (Kd.slice 78 (Kd.int .u32)) w A_6 l_6.length l_6) (hc_6 : l_6.length ≤ c_6) (hr_9 : Kd.C k85 w A_9 l_9.length l_9) (hc_9 : l_9.length ≤ c_9) (hr_b : Kd.C Kd.string w A_b l_b.length l_b) (hc_b : l_b.length ≤ c_b) (hr_c : Kd.C Kd.string w A_c l_c.length l_c) (hc_c : l_c.length ≤ c_c) (hr_k : Kd.C k186 w A_k l_k.length l_k) (hc_k : l_k.length ≤ c_k) (hr_l : Kd.C k186 w A_l l_l.length l_l) (hc_l : l_l.length ≤ c_l) (hr_m : Kd.C Kd.string w A_m l_m.length l_m) (hc_m : l_m.length ≤ c_m) (hr_n : Kd.C Kd.string w A_n l_n.length l_n) (hc_n : l_n.length ≤ c_n) (hr_o : Kd.C Kd.string w A_o l_o.length l_o) (hc_o : l_o.length ≤ c_o) (hr_q : Kd.C k188 w A_q l_q.length l_q) (hc_q : l_q.length ≤ c_q) (hr_r : Kd.C k190 w A_r l_r.length l_r) (hc_r : l_r.length ≤ c_r) (hr_s : Kd.C k194 w A_s l_s.length l_s) (hc_s : l_s.length ≤ c_s) (hr1 : Kd.C Kd.string w A1 l1.length l1) (hc1 : l1.length ≤ c1) (h : orthography_Sentence.f k a_0 a_1 l_2 l_3 l_4 l_5 l_6 a_7 a_8 l_9 a_a l_b l_c a_d a_e a_f a_g a_h a_i a_j l_k l_l l_m l_n l_o a_p l_q l_r l_s a_t l1 = some (r1, r2)) :
 Calls Tryd.prog 14 #[.agg #[.string a_0, .bool a_1, .slice A_2 l_2.length c_2, .slice A_3 l_3.length c_3, .slice A_4 l_4.length c_4, .slice A_5 l_5.length c_5, .slice A_6 l_6.length c_6, .int .i64 a_7, .int .i64 a_8, .slice A_9 l_9.length c_9, .int .i64 a_a, .slice A_b l_b.length c_b, .slice A_c l_c.length c_c, .bool a_d, .string a_e, .int .i64 a_f, .string a_g, .bool a_h, .int .i64 a_i, .int .i64 a_j, .slice A_k l_k.length c_k, .slice A_l l_l.length c_l, .slice A_m l_m.length c_m, .slice A_n l_n.length c_n, .slice A_o l_o.length c_o, .bool a_p, .slice A_q l_q.length c_q, .slice A_r l_r.length c_r, .slice A_s l_s.length c_s, .string a_t], .slice A1 l1.length c1] w fun e w' => e = .returned (.tuple #[.string r1, .int .i64 r2]) ∧ Below w.heap.size w w' := by
 have HT := Aside0.mk hT
 clear hT
 have hu41 := Tryd.underlying41
 have hu57 := Tryd.underlying57
 have HR_2 := Aside0.mk hr_2
 have HC_2 := Aside0.mk hc_2
 clear hr_2 hc_2
 have HR_3 := Aside0.mk hr_3
 have HC_3 := Aside0.mk hc_3
 clear hr_3 hc_3
 have HR_4 := Aside0.mk hr_4
 have HC_4 := Aside0.mk hc_4
 clear hr_4 hc_4
 have HR_5 := Aside0.mk hr_5
 have HC_5 := Aside0.mk hc_5
 clear hr_5 hc_5
 have HR_6 := Aside0.mk hr_6
 have HC_6 := Aside0.mk hc_6
 clear hr_6 hc_6
 have HR_9 := Aside0.mk hr_9
 have HC_9 := Aside0.mk hc_9
 clear hr_9 hc_9
 have HR_b := Aside0.mk hr_b
 have HC_b := Aside0.mk hc_b
 clear hr_b hc_b
 have HR_c := Aside0.mk hr_c
 have HC_c := Aside0.mk hc_c
 clear hr_c hc_c
 have HR_k := Aside0.mk hr_k
 have HC_k := Aside0.mk hc_k
 clear hr_k hc_k
 have HR_l := Aside0.mk hr_l
 have HC_l := Aside0.mk hc_l
 clear hr_l hc_l
 have HR_m := Aside0.mk hr_m
 have HC_m := Aside0.mk hc_m
 clear hr_m hc_m
 have HR_n := Aside0.mk hr_n
 have HC_n := Aside0.mk hc_n
 clear hr_n hc_n
 have HR_o := Aside0.mk hr_o
 have HC_o := Aside0.mk hc_o
 clear hr_o hc_o
 have HR_q := Aside0.mk hr_q
 have HC_q := Aside0.mk hc_q
 clear hr_q hc_q
 have HR_r := Aside0.mk hr_r
 have HC_r := Aside0.mk hc_r
 clear hr_r hc_r
 have HR_s := Aside0.mk hr_s
 have HC_s := Aside0.mk hc_s
 clear hr_s hc_s
 have HR1 := Aside0.mk hr1
 have HC1 := Aside0.mk hc1
 clear hr1 hc1
 have HB := Aside0.mk (Below.refl w.heap.size w)
 have H : ((orthography_segments.f a_0 a_1 l_2 l_3 l_4 l_5 l_6 a_7 a_8 l_9 a_a l_b l_c a_d a_e a_f a_g a_h a_i a_j l_k l_l l_m l_n l_o a_p l_q l_r l_s a_t l1).bind fun bt275 => (if bt275.2 = true then ((orthography_valid.f k a_0 a_1 l_2 l_3 l_4 l_5 l_6 a_7 a_8 l_9 a_a l_b l_c a_d a_e a_f a_g a_h a_i a_j l_k l_l l_m l_n l_o a_p l_q l_r l_s a_t).bind fun t279 => (orthography_Sentence.j0 k bt275.1 (!t279) a_0 a_1 l_2 l_3 l_4 l_5 l_6 a_7 a_8 l_9 a_a l_b l_c a_d a_e a_f a_g a_h a_i a_j l_k l_l l_m l_n l_o a_p l_q l_r l_s a_t)) else (orthography_Sentence.j0 k bt275.1 true a_0 a_1 l_2 l_3 l_4 l_5 l_6 a_7 a_8 l_9 a_a l_b l_c a_d a_e a_f a_g a_h a_i a_j l_k l_l l_m l_n l_o a_p l_q l_r l_s a_t))) = some (r1, r2) := h
 clear h
 replace H := bI H; obtain ⟨⟨t275, t278⟩, A3, H⟩ := H; (try dsimp only at H)
 have HC4 := Aside0.mk H
 clear H
 go_enter Tryd.func14, Tryd.ntmps14
 go_upto_region 2 with (first | ((with_reducible refine gate_load (t := 41) (p := 2) rfl ?_); (try (refine gate_guard (by rfl) ?_; dsimp only)); refine wpList_load_row rfl 41 (.tmp 2) rfl gb274 rfl 41 _ (0, 0) _ (tK BK274) Tryd.underlying41 rfl (by kernel_rfl) ?_) | ((with_reducible refine gate_dst (N := 2) rfl ?_); refine box_event ?hg (N := 2) ?hd (cs := ?cs) (t := 41) ?hr ?_; (case hd => rfl); (case hg => rfl); (case hr => exact Gc6); intro gb274 hg w5 hbox hb; have n0_ := Aside0.mk (below_step (tB HB) hb); have n1_ := Aside0.mk (hbox); have n2_ := tZ hg (tS HB); have n3_ := tZ hg (tS HB); revert n0_ n1_ n2_ n3_; clear HB; intro HB BK274 GW274 GE274; clear hb hbox hg; have hcz6_2 := cel2 BK274 2 rfl; have hcz6_9 := cel2 BK274 9 rfl; have hcz6_29 := cel2 BK274 29 rfl; have hfz6_2 := blk_frozen BK274.out 2; have hfz6_9 := blk_frozen BK274.out 9; have hfz6_29 := blk_frozen BK274.out 29) | ((with_reducible refine gate_callee (f := 27) rfl ?_); refine goesL_ (some 16) rfl rfl Tryd.func27 (by kernel_rfl) rfl #[.agg _, .slice A1 l1.length c1] rfl Gc2 ?_; (with_reducible refine (orthography_segments.calls a_0 a_1 _ _ l_2 _ _ l_3 _ _ l_4 _ _ l_5 _ _ l_6 a_7 a_8 _ _ l_9 a_a _ _ l_b _ _ l_c a_d a_e a_f a_g a_h a_i a_j _ _ l_k _ _ l_l _ _ l_m _ _ l_n _ _ l_o a_p _ _ l_q _ _ l_r _ _ l_s a_t _ _ l1 t275 t278 _ ?sT (tC HR_2 HB) HC_2.out (tC HR_3 HB) HC_3.out (tC HR_4 HB) HC_4.out (tC HR_5 HB) HC_5.out (tC HR_6 HB) HC_6.out (tC HR_9 HB) HC_9.out (tC HR_b HB) HC_b.out (tC HR_c HB) HC_c.out (tC HR_k HB) HC_k.out (tC HR_l HB) HC_l.out (tC HR_m HB) HC_m.out (tC HR_n HB) HC_n.out (tC HR_o HB) HC_o.out (tC HR_q HB) HC_q.out (tC HR_r HB) HC_r.out (tC HR_s HB) HC_s.out (tC HR1 HB) HC1.out A3.out).mono ?_); (case sT => exact Gc1); rintro e w7 ⟨v276, rfl, ho0, hb⟩; refine ⟨_, rfl, ?_⟩; have n0_ := Aside0.mk (Kd.S_lower ho0 (tS HB)); have n1_ := Aside0.mk (blk_below (tK BK274) hb); have n2_ := Aside0.mk (below_step (tB HB) hb); revert n0_ n1_ n2_; clear BK274 HB; intro HO277 BK274 HB; (try clear hb); (try clear hb2); (try clear hk); (try clear hi); (try clear ho0)))
 (try simp only [Act.put, List.setIfInBounds_toArray, List.set_cons_zero, List.set_cons_succ])
 go_cut [25] (fun v25 wc => ∃ (kq : Nat) (x25_3 : Bool), v25 = .bool x25_3 ∧ Aside0 (orthography_Sentence.j0 kq t275 x25_3 a_0 a_1 l_2 l_3 l_4 l_5 l_6 a_7 a_8 l_9 a_a l_b l_c a_d a_e a_f a_g a_h a_i a_j l_k l_l l_m l_n l_o a_p l_q l_r l_s a_t = some (r1, r2)) ∧ Aside0 (kq ≤ k) ∧ Aside0 (Kd.S k57 57 wc w.heap.size (fun _ => True) v276 t275) ∧ Aside0 (wc.heap[gb274]? = some (.cells #[.string a_0, .bool a_1, (.slice A_2 l_2.length c_2), (.slice A_3 l_3.length c_3), (.slice A_4 l_4.length c_4), (.slice A_5 l_5.length c_5), (.slice A_6 l_6.length c_6), .int .i64 a_7, .int .i64 a_8, (.slice A_9 l_9.length c_9), .int .i64 a_a, (.slice A_b l_b.length c_b), (.slice A_c l_c.length c_c), .bool a_d, .string a_e, .int .i64 a_f, .string a_g, .bool a_h, .int .i64 a_i, .int .i64 a_j, (.slice A_k l_k.length c_k), (.slice A_l l_l.length c_l), (.slice A_m l_m.length c_m), (.slice A_n l_n.length c_n), (.slice A_o l_o.length c_o), .bool a_p, (.slice A_q l_q.length c_q), (.slice A_r l_r.length c_r), (.slice A_s l_s.length c_s), .string a_t] 41 (0, 0))) ∧ Aside0 (Below w.heap.size w wc))
 case first =>
  have H := HC4.out
  clear HC4
  replace H := iT H; obtain ⟨rfl, H⟩ | ⟨rfl, H⟩ := H
  ·
   replace H := bI H; obtain ⟨t279, A9, H⟩ := H; (try dsimp only at H)
   have H' := Aside0.mk H
   clear H; have hcz10_2 := cel2 BK274 2 rfl; have hcz10_9 := cel2 BK274 9 rfl; have hcz10_29 := cel2 BK274 29 rfl; have hfz10_2 := blk_frozen BK274.out 2; have hfz10_9 := blk_frozen BK274.out 9; have hfz10_29 := blk_frozen BK274.out 29
   go_wp2_with (first | ((with_reducible refine gate_load (t := 41) (p := 2) rfl ?_); (try (refine gate_guard (by rfl) ?_; dsimp only)); refine wpList_load_row rfl 41 (.tmp 2) rfl gb274 rfl 41 _ (0, 0) _ (tK BK274) Tryd.underlying41 rfl (by kernel_rfl) ?_) | (go_at_call 18; (with_reducible refine (orthography_valid.calls k a_0 a_1 _ _ l_2 _ _ l_3 _ _ l_4 _ _ l_5 _ _ l_6 a_7 a_8 _ _ l_9 a_a _ _ l_b _ _ l_c a_d a_e a_f a_g a_h a_i a_j _ _ l_k _ _ l_l _ _ l_m _ _ l_n _ _ l_o a_p _ _ l_q _ _ l_r _ _ l_s a_t t279 _ ?sT (tC HR_2 HB) HC_2.out (tC HR_3 HB) HC_3.out (tC HR_4 HB) HC_4.out (tC HR_5 HB) HC_5.out (tC HR_6 HB) HC_6.out (tC HR_9 HB) HC_9.out (tC HR_b HB) HC_b.out (tC HR_c HB) HC_c.out (tC HR_k HB) HC_k.out (tC HR_l HB) HC_l.out (tC HR_m HB) HC_m.out (tC HR_n HB) HC_n.out (tC HR_o HB) HC_o.out (tC HR_q HB) HC_q.out (tC HR_r HB) HC_r.out (tC HR_s HB) HC_s.out A9.out).mono ?_); (case sT => exact Gc1); rintro e w11 ⟨rfl, hb⟩; have n0_ := Aside0.mk (Kd.S_below (dS HO277) hb); have n1_ := Aside0.mk (blk_below (tK BK274) hb); have n2_ := Aside0.mk (below_step (tB HB) hb); revert n0_ n1_ n2_; clear HO277 BK274 HB; intro HO277 BK274 HB; (try clear hb); (try clear hb2); (try clear hk); (try clear hi)))
   go_meet
   case rel => exact ⟨_, (!t279), tV1, H', ⟨tU⟩, ⟨dS HO277⟩, ⟨tK BK274⟩, ⟨tB HB⟩⟩
  ·
   have H' := Aside0.mk H
   clear H
   go_wp2
   go_meet
   case rel => exact ⟨_, (true), tV1, H', ⟨tU⟩, ⟨dS HO277⟩, ⟨tK BK274⟩, ⟨tB HB⟩⟩
 case rest =>
  clear HC4; (try clear hcz6_2); (try clear hcz6_29); (try clear hcz6_9); (try clear hfz6_2); (try clear hfz6_29); (try clear hfz6_9)
  obtain ⟨kq, x25_3, rfl, HA, HJ3, HO_6, BK274, HB⟩ := hcut
  cases kq with
  | zero => exact absurd HA.out (by simp [orthography_Sentence.j0])
  | succ kj3 =>
   have H := HA.out
   clear HA
   simp only [orthography_Sentence.j0] at H
   replace H := iT H; obtain ⟨rfl, H⟩ | ⟨rfl, H⟩ := H
   ·
    simp only [Option.some.injEq, Prod.mk.injEq] at H
    obtain ⟨rfl, rfl⟩ := H
    go_wp2
    exact LPrF14x1
   ·
    replace H := iF H; obtain ⟨c13, H⟩ | ⟨c13, H⟩ := H
    ·
     have c13b0 := eq_true c13
     have c13b1 : decide (0 ≤ (t275.length : Int)) = true := decide_eq_true c13
     clear c13
     replace H := iF H; obtain ⟨c14, H⟩ | ⟨c14, H⟩ := H
     ·
      have c14b0 := eq_true c14
      have c14b1 : decide (((t275.length : Int) : Int).toNat ≤ 17592186044416) = true := decide_eq_true c14
      clear c14
      obtain ⟨y280, hy280⟩ : ∃ y_ : List ByteArray, y_ = (List.replicate ((t275.length : Int) : Int).toNat (⟨#[]⟩ : ByteArray)) := ⟨_, rfl⟩
      replace H : (orthography_Sentence.l0 kj3 y280 t275 (t275.length : Int) 0 a_0 a_1 l_2 l_3 l_4 l_5 l_6 a_7 a_8 l_9 a_a l_b l_c a_d a_e a_f a_g a_h a_i a_j l_k l_l l_m l_n l_o a_p l_q l_r l_s a_t) = some (r1, r2) := by first | (rw [hy280]; with_reducible exact H) | (have H2_ := (Option.bind_some _ _).symm.trans H; rw [hy280]; with_reducible exact H2_) | (have H2_ := (Option.bind_some _ _).symm.trans H; with_reducible exact H2_) | with_reducible exact H | (rw [hy280]; exact H) | exact H
      have Ny280 := Aside0.mk hy280
      clear hy280
      have H' := Aside0.mk H
      clear H
      obtain ⟨Ao15, co15, eo15⟩ := Kd.S_slice HO_6.out
      subst eo15
      go_wp2_with (first | ((with_reducible refine gate_load (t := 41) (p := 2) rfl ?_); (try (refine gate_guard (by rfl) ?_; dsimp only)); refine wpList_load_row rfl 41 (.tmp 2) rfl gb274 rfl 41 _ (0, 0) _ (tK BK274) Tryd.underlying41 rfl (by kernel_rfl) ?_) | ((with_reducible refine gate_dst (N := 28) rfl ?_); refine Kd.R_make Kd.string _ 9 rfl (N := 28) rfl 31 _ _ rfl (t275.length : Int) rfl rfl Tryd.underlying31 (.string ⟨#[]⟩) 16 info9 rfl (by decide) (by omega) (⟨#[]⟩ : ByteArray) (ok := fun _ => True) (okp := fun _ => True) rfl (fun _ hk => hk) trivial (oD) (Nat.le_trans (Nat.mul_le_mul_right _ (oD : (t275.length : Int).toNat ≤ 17592186044416)) (by omega)) (Below.refl _ _) (Nat.le_refl _) ?_; intro v281 w16 ho17 hb hg_ hnew_; clear hg_ hnew_; (first | rw [← Ny280.out] at ho17 | (simp only [Int.reduceToNat] at ho17; rw [← Ny280.out] at ho17)); have n0_ := Aside0.mk (Kd.S_elder' (dS HO_6) (Kd.R_base ho17) hb); have n1_ := Aside0.mk (Kd.R_lower ho17 (tS HB)); have n2_ := Aside0.mk (blk_below (tK BK274) hb); have n3_ := Aside0.mk (below_step (tB HB) hb); revert n0_ n1_ n2_ n3_; clear HO_6 BK274 HB; intro HO_6 HO282 BK274 HB; clear hb ho17))
      go_loopg [31] kj3 (fun kq v31 w' => ∃ (x8_2 : List ByteArray) (x31_2 : Int), v31 = .int .i64 x31_2 ∧ Aside0 (orthography_Sentence.l0 kq x8_2 t275 (t275.length : Int) x31_2 a_0 a_1 l_2 l_3 l_4 l_5 l_6 a_7 a_8 l_9 a_a l_b l_c a_d a_e a_f a_g a_h a_i a_j l_k l_l l_m l_n l_o a_p l_q l_r l_s a_t = some (r1, r2)) ∧ Aside0 (kq ≤ kj3) ∧ Aside0 (Kd.R Kd.string 9 w' w.heap.size (fun _ => True) v281 x8_2) ∧ Aside0 (Kd.S k57 57 w' w.heap.size (fun k_ => some k_ ≠ (v281 : Value).ownBlock) (.slice Ao15 t275.length co15) t275) ∧ Aside0 (w'.heap[gb274]? = some (.cells #[.string a_0, .bool a_1, (.slice A_2 l_2.length c_2), (.slice A_3 l_3.length c_3), (.slice A_4 l_4.length c_4), (.slice A_5 l_5.length c_5), (.slice A_6 l_6.length c_6), .int .i64 a_7, .int .i64 a_8, (.slice A_9 l_9.length c_9), .int .i64 a_a, (.slice A_b l_b.length c_b), (.slice A_c l_c.length c_c), .bool a_d, .string a_e, .int .i64 a_f, .string a_g, .bool a_h, .int .i64 a_i, .int .i64 a_j, (.slice A_k l_k.length c_k), (.slice A_l l_l.length c_l), (.slice A_m l_m.length c_m), (.slice A_n l_n.length c_n), (.slice A_o l_o.length c_o), .bool a_p, (.slice A_q l_q.length c_q), (.slice A_r l_r.length c_r), (.slice A_s l_s.length c_s), .string a_t] 41 (0, 0))) ∧ Aside0 (Below w.heap.size w w'))
      case atStart => exact ⟨(y280), (0), tV1, H', ⟨Nat.le_refl _⟩, ⟨dR HO282⟩, ⟨dS HO_6⟩, ⟨tK BK274⟩, ⟨tB HB⟩⟩
      case round =>
       clear H'; (try clear c12); (try clear c13); (try clear c13b0); (try clear c13b1); (try clear c14); (try clear c14b0); (try clear c14b1); (try clear hcz6_2); (try clear hcz6_29); (try clear hcz6_9); (try clear hfz6_2); (try clear hfz6_29); (try clear hfz6_9)
       obtain ⟨x8_2, x31_2, rfl, HA, HK2, HO_8, HO_29, BK274, HB⟩ := hrel
       cases gk with
       | zero => exact absurd HA.out (by simp [orthography_Sentence.l0])
       | succ k2 =>
        have H := HA.out
        clear HA
        simp only [orthography_Sentence.l0] at H
        replace H := iF H; obtain ⟨c18, H⟩ | ⟨c18, H⟩ := H
        ·
         have c18b0 : decide (x31_2 < (t275.length : Int)) = true := decide_eq_true c18
         clear c18
         replace H := iF H; obtain ⟨c19, H⟩ | ⟨c19, H⟩ := H
         ·
          have c19b0 : decide (0 ≤ x31_2) = true := decide_eq_true c19
          clear c19
          replace H := iF H; obtain ⟨c20, H⟩ | ⟨c20, H⟩ := H
          ·
           have c20b0 : decide (x31_2 < (t275.length : Int)) = true := decide_eq_true c20
           clear c20
           replace H := bI H; obtain ⟨⟨t285, t286⟩, A21, H⟩ := H; (try dsimp only at H)
           replace H := iE H; obtain ⟨-, c22b0, c22b1, H⟩ | ⟨c22, c22b0, c22b1, H⟩ := H
           ·
            replace H := iF H; obtain ⟨c23, H⟩ | ⟨c23, H⟩ := H
            ·
             have c23b0 : decide (x31_2 < (x8_2.length : Int)) = true := decide_eq_true c23
             clear c23
             obtain ⟨y287, hy287⟩ : ∃ y_ : List ByteArray, y_ = (x8_2.set (x31_2 : Int).toNat t285) := ⟨_, rfl⟩
             replace H : (orthography_Sentence.l0 k2 y287 t275 (t275.length : Int) (wrap64 (x31_2 + 1)) a_0 a_1 l_2 l_3 l_4 l_5 l_6 a_7 a_8 l_9 a_a l_b l_c a_d a_e a_f a_g a_h a_i a_j l_k l_l l_m l_n l_o a_p l_q l_r l_s a_t) = some (r1, r2) := by first | (rw [hy287]; with_reducible exact H) | (have H2_ := (Option.bind_some _ _).symm.trans H; rw [hy287]; with_reducible exact H2_) | (have H2_ := (Option.bind_some _ _).symm.trans H; with_reducible exact H2_) | with_reducible exact H | (rw [hy287]; exact H) | exact H
             have Ny287 := Aside0.mk hy287
             clear hy287
             have H' := Aside0.mk H
             clear H
             have mk0_ := trivial
             exact LPrF14xh1
            ·
             exact absurd H (by simp)
           ·
            simp only [Option.some.injEq, Prod.mk.injEq] at H
            obtain ⟨rfl, rfl⟩ := H
            have mk1_ := trivial
            exact LPrF14xh1
          ·
           exact absurd H (by simp)
         ·
          exact absurd H (by simp)
        ·
         have c18b0 : decide (x31_2 < (t275.length : Int)) = false := decide_eq_false c18
         clear c18
         replace H := bI H; obtain ⟨t288, A37, H⟩ := H; (try dsimp only at H)
         replace H := iT H; obtain ⟨rfl, H⟩ | ⟨rfl, H⟩ := H
         ·
          simp only [Option.some.injEq, Prod.mk.injEq] at H
          obtain ⟨rfl, rfl⟩ := H
          obtain ⟨Ao39, co39, eo39⟩ := Kd.R_slice HO_8.out
          subst eo39
          go_wp2_with (first | ((with_reducible refine gate_load (t := 41) (p := 2) rfl ?_); (try (refine gate_guard (by rfl) ?_; dsimp only)); refine wpList_load_row rfl 41 (.tmp 2) rfl gb274 rfl 41 _ (0, 0) _ (tK BK274) Tryd.underlying41 rfl (by kernel_rfl) ?_) | ((with_reducible refine gate_callee (f := 28) rfl ?_); refine goesL_ (some 55) rfl rfl Tryd.func28 (by kernel_rfl) rfl #[.slice Ao39 x8_2.length co39, .string (⟨#[]⟩ : ByteArray)] rfl Gc2 ?_; (with_reducible refine (slices_Contains_string_string.calls k2 _ _ x8_2 (⟨#[]⟩ : ByteArray) true _ ?s1 ?s2 A37.out).mono ?_); (case s1 => exact Gc13); (case s2 => exact (Kd.R_reads' HO_8.out).2.1); rintro e w' ⟨rfl, ⟨nd, rfl⟩⟩; refine ⟨_, rfl, ?_⟩))
          exact LPrF14x1
         ·
          replace H := bI H; obtain ⟨t289, A40, H⟩ := H; (try dsimp only at H)
          replace H := iF H; obtain ⟨c41, H⟩ | ⟨c41, H⟩ := H
          ·
           have c41b0 := eq_true c41
           have c41b1 : decide (t289.size + a_t.size ≤ 9223372036854775807) = true := decide_eq_true c41
           try have c41b2 : (9223372036854775807 < t289.size + a_t.size) = False := eq_false (Nat.not_lt.2 c41)
           simp only [Option.some.injEq, Prod.mk.injEq] at H
           obtain ⟨rfl, rfl⟩ := H
           obtain ⟨Ao42, co42, eo42⟩ := Kd.R_slice HO_8.out
           subst eo42
           try go_wp2_with (first | ((with_reducible refine gate_load (t := 41) (p := 2) rfl ?_); (try (refine gate_guard (by rfl) ?_; dsimp only)); refine wpList_load_row rfl 41 (.tmp 2) rfl gb274 rfl 41 _ (0, 0) _ (tK BK274) Tryd.underlying41 rfl (by kernel_rfl) ?_) | ((with_reducible refine gate_callee (f := 28) rfl ?_); refine goesL_ (some 55) rfl rfl Tryd.func28 (by kernel_rfl) rfl #[.slice Ao42 x8_2.length co42, .string (⟨#[]⟩ : ByteArray)] rfl Gc2 ?_; (with_reducible refine (slices_Contains_string_string.calls k2 _ _ x8_2 (⟨#[]⟩ : ByteArray) false _ ?s1 ?s2 A37.out).mono ?_); (case s1 => exact Gc13); (case s2 => exact (Kd.R_reads' HO_8.out).2.1); rintro e w' ⟨rfl, ⟨nd, rfl⟩⟩; refine ⟨_, rfl, ?_⟩))
           (try (rw [drewN_self wr]; generalize hq_ : World.drewN wr _ = wr; have n0_ : Aside0 (Kd.S k57 57 wr w.heap.size (fun k_ => some k_ ≠ (.slice Ao42 x8_2.length co42 : Value).ownBlock) (.slice Ao15 t275.length co15) t275) := ⟨by rw [← hq_]; exact (dS HO_29)⟩; have n1_ : Aside0 (Kd.R Kd.string 9 wr w.heap.size (fun _ => True) (.slice Ao42 x8_2.length co42) x8_2) := ⟨by rw [← hq_]; exact (dR HO_8)⟩; have n2_ : Aside0 (wr.heap[gb274]? = some (.cells #[.string a_0, .bool a_1, .slice A_2 l_2.length c_2, .slice A_3 l_3.length c_3, .slice A_4 l_4.length c_4, .slice A_5 l_5.length c_5, .slice A_6 l_6.length c_6, .int .i64 a_7, .int .i64 a_8, .slice A_9 l_9.length c_9, .int .i64 a_a, .slice A_b l_b.length c_b, .slice A_c l_c.length c_c, .bool a_d, .string a_e, .int .i64 a_f, .string a_g, .bool a_h, .int .i64 a_i, .int .i64 a_j, .slice A_k l_k.length c_k, .slice A_l l_l.length c_l, .slice A_m l_m.length c_m, .slice A_n l_n.length c_n, .slice A_o l_o.length c_o, .bool a_p, .slice A_q l_q.length c_q, .slice A_r l_r.length c_r, .slice A_s l_s.length c_s, .string a_t] 41 (0, 0))) := ⟨by rw [← hq_]; exact (tK BK274)⟩; have n3_ : Aside0 (Below w.heap.size w wr) := ⟨by rw [← hq_]; exact (tB HB)⟩; clear HO_29 HO_8 BK274 HB hq_; have HO_29 := n0_; have HO_8 := n1_; have BK274 := n2_; have HB := n3_; clear n0_ n1_ n2_ n3_))
           have n0_ := Aside0.mk (Kd.R_drew HO_8.out)
           have n1_ := Aside0.mk (Kd.S_drew HO_29.out)
           have n2_ := Aside0.mk (blk_drew BK274.out)
           have n3_ := Aside0.mk (below_drew1 HB.out)
           revert n0_ n1_ n2_ n3_
           clear HO_8 HO_29 BK274 HB
           intro HO_8 HO_29 BK274 HB
           refine start_ (n := 7) (S := fun w' => w'.heap[gb274]? = some (.cells #[.string a_0, .bool a_1, .slice A_2 l_2.length c_2, .slice A_3 l_3.length c_3, .slice A_4 l_4.length c_4, .slice A_5 l_5.length c_5, .slice A_6 l_6.length c_6, .int .i64 a_7, .int .i64 a_8, .slice A_9 l_9.length c_9, .int .i64 a_a, .slice A_b l_b.length c_b, .slice A_c l_c.length c_c, .bool a_d, .string a_e, .int .i64 a_f, .string a_g, .bool a_h, .int .i64 a_i, .int .i64 a_j, .slice A_k l_k.length c_k, .slice A_l l_l.length c_l, .slice A_m l_m.length c_m, .slice A_n l_n.length c_n, .slice A_o l_o.length c_o, .bool a_p, .slice A_q l_q.length c_q, .slice A_r l_r.length c_r, .slice A_s l_s.length c_s, .string a_t] 41 (0, 0))) (ds := []) #[false, false, false, false, false, false, false] (by kernel_rfl) rfl rfl BK274.out (fun hHeld => ?_)
           generalize wr.drew = w43 at HO_8 HO_29 BK274 HB hHeld ⊢
           refine pK 0 56 ?_
           refine pK 2 58 ?_
           refine take_ (i := 3) (N := some 59) (v := ?_) (a' := ?_) #[true, false, true, true, false, false, false] rfl rfl (by kernel_rfl) (fun _ _ _ h => h) (Or.inl ⟨by rfl, ?_⟩) hHeld ?_ ?_
           rotate_left
           ·
            intro w' s0
            first | refine Eq.trans (load_held 41 (.tmp 2) (by rfl) gb274 (by rfl) 41 _ _ s0 Tryd.underlying41 (by rfl) (by kernel_rfl)) ?_ | (have s2_ : World.cell? w' ⟨gb274, 2, none⟩ = some (.slice A_2 l_2.length c_2) := (blk_cell s0 2).trans rfl; have s9_ : World.cell? w' ⟨gb274, 9, none⟩ = some (.slice A_9 l_9.length c_9) := (blk_cell s0 9).trans rfl; have s29_ : World.cell? w' ⟨gb274, 29, none⟩ = some (.string a_t) := (blk_cell s0 29).trans rfl; go_simp)
            with_reducible rfl
           rotate_left
           ·
            exact GpR
           refine one_ (i := 1) (N := some 57) #[true, true, true, true, false, false, false] rfl rfl (by kernel_rfl) (by decide) (fun K hK => ?_)
           refine goes_ Tryd.func21 (by kernel_rfl) rfl #[.slice Ao42 x8_2.length co42, .string (⟨#[32]⟩ : ByteArray)] (by rfl) rfl rfl Gc2 ?_
           with_reducible refine (strings_Join.calls _ _ x8_2 (⟨#[32]⟩ : ByteArray) t289 _ ?s1 ?s2 A40.out).mono ?_
           (case s1 => exact Gc13)
           (case s2 => exact (Kd.R_reads' HO_8.out).2.1)
           rintro e w44 ⟨rfl, hb⟩
           refine ⟨_, rfl, ?_⟩
           have n0_ := Aside0.mk (Kd.R_below (dR HO_8) hb)
           have n1_ := Aside0.mk (Kd.S_below (dS HO_29) hb)
           have n2_ := Aside0.mk (blk_below (tK BK274) hb)
           have n3_ := Aside0.mk (below_step (tB HB) hb)
           revert n0_ n1_ n2_ n3_
           clear HO_8 HO_29 BK274 HB
           intro HO_8 HO_29 BK274 HB
           (try clear hb); (try clear hk)
           refine hK.out _ _ BK274.out (fun hHeld => ?_)
           clear hK K
           refine nR 57 ?_
           refine pK 4 60 ?_
           refine pK 5 4 ?_
           refine pK 6 5 ?_
           refine done_ (by kernel_rfl) ?_
           try go_wp2
           exact LPrF14x1
          ·
           exact absurd H (by simp)
     ·
      exact absurd H (by simp)
    ·
     exact absurd H (by simp)
end Go.Proofs.YtfbhdjflkaldgaaDoor.Pr
