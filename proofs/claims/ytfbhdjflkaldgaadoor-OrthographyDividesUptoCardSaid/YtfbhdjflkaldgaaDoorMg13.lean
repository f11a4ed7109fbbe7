/- Several texts in one: CloneL, PrF31, PrF29, PrF18, PrF84, PrF74. -/
import Derived.Test.YtfbhdjflkaldgaaDoorMg1
import Derived.WalkKit
import Derived.Lib.Walk
import Derived.Lib.SliceRun
import Derived.Test.YtfbhdjflkaldgaaDoorMg2
import Derived.Test.YtfbhdjflkaldgaaDoorMg4
import Derived.Test.YtfbhdjflkaldgaaDoorMg3
import Derived.Test.YtfbhdjflkaldgaaDoorMg10
/- slices.Clone at letters: a new row of the same elements. -/
namespace Go.Proofs.YtfbhdjflkaldgaaDoor.Pr
open Go.RowKit Go.Proofs.YtfbhdjflkaldgaaDoorW.PrintWords Go.Proofs.YtfbhdjflkaldgaaDoorW.PrintLast Go.Proofs.YtfbhdjflkaldgaaDoorW.PrintMore
set_option linter.unusedVariables false
def api_Letter.f (l0 : List S80) : Option (List S80) := if l0.length * 8 ≤ 140737488355328 then some l0 else none
theorem LCloneLxh1 {p : Prop} (h : p := by
  have q : ∀ (w : World) (a : Option Addr) (n c n' c' : Nat), (binOp .eql 22 (.slice a n c) (.slice none n' c')).run Tryd.prog w = .ok (.bool a.isNone) w := fun w a n c n' c' => Lib.run_eql_slice_nil w _ _ a n c n' c' Tryd.underlying22
  go_enter Tryd.func50, Tryd.ntmps50
  first
  | (have mk_ := mk0_
     go_wp2_with ((with_reducible refine gate_builtin (b := .append) (xs := #[.tmp 5, .tmp 6]) rfl ?_); at_builtin; refine Kd.R_append_rows k80 (w0 := w) w.heap.size rfl (.tmp 5) (.tmp 6) 22 80 (.agg #[.int .i32 0, .int .u32 0]) 8 rfl Tryd.underlying22 info80 rfl (by decide) (by omega) (.slice (some ⟨w.heap.size, 0, none⟩) 0 0) [] l0 (some ad) l0.length c0 (fun _ => True) (fun _ => False) rfl rfl ?aO ?aR (fun _ _ h => h) (fun _ h => h.elim) ?aF ?aB ?aS ?aL ?_; (case aR => exact Kd.C_below HR.out HB.out); (case aF => exact fun _ _ => trivial); (case aB => exact HB.out); (case aO => exact HO.out); (case aS => exact HB.out.size); (case aL => have := HLn.out; simp only [List.length_nil]; omega); intro z1_ z2_ ho hb hg hat; have z3_ := Aside0.mk ho; have z4_ := Aside0.mk hb; clear ho hb hg hat)
     go_wp2
     go_ret
     exact ⟨_, rfl, z3_.out, z4_.out⟩)
  | (have mk_ := mk1_
     go_wp2
     go_ret
     exact ⟨_, rfl, Kd.R_nil _ _ _ _ _, Below.refl _ _⟩)) : p := h
set_option maxHeartbeats 1000000 in
set_option maxRecDepth 100000 in
theorem api_Letter.calls (A0 : Option Addr) (c0 : Nat) (l0 r : List S80) (w : World) (hr0 : Kd.C k80 w A0 l0.length l0) (hc0 : l0.length ≤ c0) (h : api_Letter.f l0 = some r) :
    Calls Tryd.prog 50 #[.slice A0 l0.length c0] w fun e w' => ∃ v0_ : Value, e = .returned v0_ ∧ Kd.R k80 80 w' w.heap.size (fun _ => True) v0_ r ∧ Below w.heap.size w w' := by
  unfold api_Letter.f at h
  by_cases hl : l0.length * 8 ≤ 140737488355328
  · rw [if_pos hl] at h
    obtain rfl := Option.some.inj h
    cases A0 with
    | none =>
      have hn : l0 = [] := by
        cases l0 with
        | nil => rfl
        | cons x xs => obtain ⟨ad, he, _⟩ := hr0.2.2 (by simp); cases he
      subst hn
      clear h hr0 hc0
      have mk1_ := trivial
      exact LCloneLxh1
    | some ad =>
      have HR := Aside0.mk hr0
      have HC := Aside0.mk hc0
      have HLn := Aside0.mk hl
      have HB := Aside0.mk ((Below.refl w.heap.size w).alloc (Nat.le_refl _) (.cells #[] 80))
      have HO : Kd.R k80 80 (w.alloc (.cells #[] 80)) w.heap.size (fun _ => True) (.slice (some ⟨w.heap.size, 0, none⟩) 0 0) [] := ⟨fun _ _ => trivial, [], World.ownsRow_made w #[] 0 (Nat.le_refl _) (Nat.zero_le _) (by simp), Reps.none _ _⟩
      have HO := Aside0.mk HO
      clear hr0 hc0 hl h
      have mk0_ := trivial
      exact LCloneLxh1
  · rw [if_neg hl] at h; cases h
end Go.Proofs.YtfbhdjflkaldgaaDoor.Pr

namespace Go.Proofs.YtfbhdjflkaldgaaDoor.Pr
open Go.Proofs.YtfbhdjflkaldgaaDoor.Ct Go.RowKit Go.Proofs.YtfbhdjflkaldgaaDoorW.PrintWords Go.Proofs.YtfbhdjflkaldgaaDoorW.PrintLast Go.Proofs.YtfbhdjflkaldgaaDoorW.PrintMore
attribute [local go_sem] max2_int min2_int max_two min_two max_three min_three max_four min_four
set_option linter.unusedVariables false
set_option linter.unusedSimpArgs false
def clitic_Extended.f (l0 : List (S80)) : Option ((List (S80))) := (api_Letter.f l0).bind fun t101 => (if t101.length < 17592186044416 then (some (t101 ++ [(⟨61, 2147483648⟩ : S80)])) else (none))
set_option maxHeartbeats 8000000 in
set_option maxRecDepth 100000 in
theorem clitic_Extended.calls (A0 : Option Addr) (c0 : Nat) (l0 : List (S80)) (r : List (S80)) (w : World) (hr0 : Kd.C k80 w A0 l0.length l0) (hc0 : l0.length ≤ c0) (h : clitic_Extended.f l0 = some r) :
 Calls Tryd.prog 31 #[.slice A0 l0.length c0] w fun e w' => ∃ v0_ : Value, e = .returned (v0_) ∧ Kd.R k80 80 w' w.heap.size (fun _ => True) v0_ r ∧ Below w.heap.size w w' := by
 have hu80 := Tryd.underlying80
 have HR0 := Aside0.mk hr0
 have HC0 := Aside0.mk hc0
 clear hr0 hc0
 have HB := Aside0.mk (Below.refl w.heap.size w)
 have H : ((api_Letter.f l0).bind fun t101 => (if t101.length < 17592186044416 then (some (t101 ++ [(⟨61, 2147483648⟩ : S80)])) else (none))) = some r := h
 clear h
 replace H := bI H; obtain ⟨t101, A2, H⟩ := H; (try dsimp only at H)
 replace H := iF H; obtain ⟨c3, H⟩ | ⟨c3, H⟩ := H
 ·
  have LMc3 := Aside0.mk c3
  clear c3
  obtain ⟨y104, hy104⟩ : ∃ y_ : List (S80), y_ = (t101 ++ [(⟨61, 2147483648⟩ : S80)]) := ⟨_, rfl⟩
  replace H : (some y104) = some r := by first | (rw [hy104]; with_reducible exact H) | (have H2_ := (Option.bind_some _ _).symm.trans H; rw [hy104]; with_reducible exact H2_) | (have H2_ := (Option.bind_some _ _).symm.trans H; with_reducible exact H2_) | with_reducible exact H | (rw [hy104]; exact H) | exact H
  have Ny104 := Aside0.mk hy104
  clear hy104
  obtain rfl := Option.some.inj H
  go_enter Tryd.func31, Tryd.ntmps31
  go_wp2_with (first | ((with_reducible refine gate_callee (f := 50) rfl ?_); refine goesL_ (some 4) rfl rfl Tryd.func50 (by kernel_rfl) rfl #[.slice A0 l0.length c0] rfl Gc2 ?_; (with_reducible refine (api_Letter.calls _ _ l0 t101 _ ?s1 HC0.out A2.out).mono ?_); (case s1 => exact Gc6); rintro e w4 ⟨v102, rfl, ho0, hb⟩; refine ⟨_, rfl, ?_⟩; have n0_ := Aside0.mk (Kd.R_lower ho0 (tS HB)); have n1_ := Aside0.mk (below_step (tB HB) hb); revert n0_ n1_; clear HB; intro HO103 HB; (try clear hb); (try clear hb2); (try clear hk); (try clear hi); (try clear ho0)) | ((with_reducible refine gate_builtin (b := .append) (xs := #[.tmp 4, .tmp 6]) rfl ?_); at_builtin; refine Kd.R_append k80 (w0 := w) w.heap.size rfl (.tmp 4) (.tmp 6) 22 80 (.agg #[(.int .i32 0), (.int .u32 0)]) 8 rfl Tryd.underlying22 info80 rfl (by decide) (by omega) v102 t101 (⟨61, 2147483648⟩ : S80) [.int .i32 61, .int .u32 2147483648] (fun _ => True) (fun _ => False) rfl rfl ?aP (fun _ hk => hk.elim) ?aF ?aO ?aB ?aS ?aL ?_; (case aP => exact k80_mkM _ _ _ (⟨61, 2147483648⟩ : S80)); (case aB => exact (tB HB)); (case aF => exact Gc22); (case aO => exact (dR HO103)); (case aS => exact (tS HB)); (case aL => have := LMc3.out; omega); intro v105 w5 ho hb hg hat; rw [← Ny104.out] at ho; have n0_ := Aside0.mk (hb); have n1_ := Aside0.mk (ho); revert n0_ n1_; clear HB HO103; intro HB HO106; clear ho hb hg hat))
  go_ret
  exact ⟨_, tE, by (with_reducible repeat (first | apply Kd.R_alloc | apply Kd.R_drewN | apply Kd.R_drew)); exact HO106.out, by repeat (first | (with_reducible first | exact HB.out | apply below_alloc | apply pw_below_drewN | apply below_drew1) | exact HB.out)⟩
 ·
  exact absurd H (by simp)
mutual
def clitic_Valid.j0 : Nat → List (S80) → List (S85) → Bool → Option (Bool)
 | 0, _, _, _ => none
 | k + 1, x0, x1, x20 => if x20 = true then (some false) else ((clitic_Extended.f x0).bind fun t119 => (clitic_Valid.l0 k t119 x1 (x1.length : Int) 0))
def clitic_Valid.l0 : Nat → List (S80) → List (S85) → Int → Int → Option (Bool)
 | 0, _, _, _, _ => none
 | k + 1, x5, x23, x24, x25 => if x25 < x24 then (if 0 ≤ x25 then (if x25 < (x23.length : Int) then (if ((rd_T85 x23 x25).f0) = 61 then (some false) else ((strings_IndexByte.f ((rd_T85 x23 x25).f1) 61).bind fun t124 => (if t124 ≥ 0 then (some false) else ((rewrite_Valid.f x5 ((rd_T85 x23 x25).f0) ((rd_T85 x23 x25).f1) ((rd_T85 x23 x25).f2) ((rd_T85 x23 x25).f3) ((rd_T85 x23 x25).f4) ((rd_T85 x23 x25).f5)).bind fun t125 => (if t125 = true then (clitic_Valid.l0 k x5 x23 x24 (wrap64 (x25 + 1))) else (some false)))))) else (none)) else (none)) else (some true)
end
def clitic_Valid.f (k : Nat) (l0 : List (S80)) (l1 : List (S85)) : Option (Bool) := (alphabet_Valid.f l0).bind fun t117 => (if t117 = true then ((alphabet_Index.f l0 61).bind fun t118 => (if t118 ≥ 0 then (clitic_Valid.j0 k l0 l1 true) else (clitic_Valid.j0 k l0 l1 (decide ((l1.length : Int) > 64))))) else (clitic_Valid.j0 k l0 l1 true))
theorem LPrF29x1 {p : Prop} (h : p := by
  exact ⟨tE, by repeat (first | (with_reducible first | exact HB.out | apply below_alloc | apply pw_below_drewN | apply below_drew1 | refine below_set ?_ GE123.out) | exact HB.out)⟩) : p := h
theorem LPrF29x2 {p : Prop} (h : p := by
  obtain rfl := Option.some.inj H
  go_wp2
  go_ret
  exact ⟨tE, by repeat (first | (with_reducible first | exact HB.out | apply below_alloc | apply pw_below_drewN | apply below_drew1) | exact HB.out)⟩) : p := h
set_option maxRecDepth 1000000 in
theorem LPrF29xh1 {p : Prop} (h : p := by
  have z1_ : 0 ≤ (x25_2 : Int) := oD
  have z2_ : x25_2 < (l1.length : Int) := oD
  obtain ⟨z3_, z4_, z5_, z6_, z7_, z8_, z9_, z10_, z11_, z12_, z13_, z14_, z15_, z16_, z17_, z18_⟩ := at_T85 HR1.out x25_2 z1_ z2_
  cases z8_
  replace z9_ := celB HB z9_
  replace z10_ := celB HB z10_
  replace z11_ := celB HB z11_
  replace z12_ := celB HB z12_
  replace z13_ := celB HB z13_
  replace z14_ := celB HB z14_
  have z19_ := Aside0.mk z16_
  have z20_ := Aside0.mk z15_
  clear z16_ z15_
  have z21_ := Aside0.mk z18_
  have z22_ := Aside0.mk z17_
  clear z18_ z17_
  replace z1_ := eq_true z1_
  replace z2_ := eq_true z2_
  first
  | (have mk_ := mk0_
     go_wp2_with (first | ((with_reducible refine gate_dst (N := 7) rfl ?_); (try (refine gate_guard (by rfl) ?_; dsimp only)); refine box_event ?hg (N := 7) ?hd (cs := #[.int .i32 0, .string (⟨#[]⟩ : ByteArray), .slice none 0 0, .slice none 0 0, .bool false, .bool false]) (t := 85) ?hr ?_; (case hd => rfl); (case hg => rfl); (case hr => exact Gc5); intro z23_ hg z24_ hbox hb; have z25_ := Aside0.mk (Kd.R_below (dR HO_5) hb); have z26_ := Aside0.mk (below_step (tB HB) hb); have z27_ := Aside0.mk (hbox); have z28_ := tZ hg (tS HB); have z29_ := tZ hg (tS HB); revert z25_ z26_ z27_ z28_ z29_; clear HO_5 HB; intro HO_5 HB z30_ z31_ z32_; clear hb hbox hg; have z33_ := cel2 z30_ 0 rfl; have z34_ := cel2 z30_ 1 rfl; have z35_ := cel2 z30_ 2 rfl; have z36_ := cel2 z30_ 3 rfl; have z37_ := cel2 z30_ 4 rfl; have z38_ := cel2 z30_ 5 rfl; have z39_ := blk_frozen z30_.out 0; have z40_ := blk_frozen z30_.out 1; have z41_ := blk_frozen z30_.out 2; have z42_ := blk_frozen z30_.out 3; have z43_ := blk_frozen z30_.out 4; have z44_ := blk_frozen z30_.out 5) | (go_at_call 47; (with_reducible refine (strings_IndexByte.calls ((rd_T85 l1 x25_2).f1) 61 t124 _ A22.out).mono ?_); rintro e w' ⟨rfl, ⟨nd, rfl⟩⟩; obtain ⟨z45_, z46_, z47_⟩ := Kd.R_slice HO_5.out; subst z47_) | (go_at_call 48; (with_reducible refine (rewrite_Valid.calls _ _ t119 ((rd_T85 l1 x25_2).f0) ((rd_T85 l1 x25_2).f1) _ _ ((rd_T85 l1 x25_2).f2) _ _ ((rd_T85 l1 x25_2).f3) ((rd_T85 l1 x25_2).f4) ((rd_T85 l1 x25_2).f5) true _ ?sT ?s1 ?s2 ?s3 z20_.out ?s5 z22_.out A26.out).mono ?_); (case sT => exact Gc1); (case s1 => refine (Kd.R_reads' (e := 80) (base := w.heap.size) (ok := fun k_ => True) (n := t119.length) (c := z46_) ?_).2.2; exact Gc4); (case s2 => exact (Kd.R_reads' HO_5.out).2.1); (case s3 => exact Kd.C_below z19_.out (tB HB)); (case s5 => exact Kd.C_below z21_.out (tB HB)); rintro e z48_ ⟨rfl, hb⟩; have z25_ := Aside0.mk (Kd.R_below Gc4 hb); have z26_ := Aside0.mk (blk_below (g := z23_) (o := .cells #[.int .i32 ((rd_T85 l1 x25_2).f0), .string ((rd_T85 l1 x25_2).f1), .slice z4_ ((rd_T85 l1 x25_2).f2).length z5_, .slice z6_ ((rd_T85 l1 x25_2).f3).length z7_, .bool ((rd_T85 l1 x25_2).f4), .bool ((rd_T85 l1 x25_2).f5)] 85 (0, 0)) (tKp z30_) hb); have z27_ := Aside0.mk (below_step (tB HB) hb); revert z25_ z26_ z27_; clear HO_5 z30_ HB; intro HO_5 z30_ HB; (try clear hb); (try clear hb2); (try clear hk); (try clear hi)))
     go_roundg k2
     case measure => have := HJ2.out; have := HK2.out; omega
     case rel => exact ⟨(wrap64 (x25_2 + 1)), tV1, H', ⟨by have := HJ2.out; have := HK2.out; omega⟩, ⟨dR HO_5⟩, ⟨tB HB⟩⟩)
  | (have mk_ := mk1_
     go_wp2_with (first | ((with_reducible refine gate_dst (N := 7) rfl ?_); (try (refine gate_guard (by rfl) ?_; dsimp only)); refine box_event ?hg (N := 7) ?hd (cs := #[.int .i32 0, .string (⟨#[]⟩ : ByteArray), .slice none 0 0, .slice none 0 0, .bool false, .bool false]) (t := 85) ?hr ?_; (case hd => rfl); (case hg => rfl); (case hr => exact Gc5); intro z23_ hg z24_ hbox hb; have z25_ := Aside0.mk (Kd.R_below (dR HO_5) hb); have z26_ := Aside0.mk (below_step (tB HB) hb); have z27_ := Aside0.mk (hbox); have z28_ := tZ hg (tS HB); have z29_ := tZ hg (tS HB); revert z25_ z26_ z27_ z28_ z29_; clear HO_5 HB; intro HO_5 HB z30_ z31_ GE123; clear hb hbox hg; have z32_ := cel2 z30_ 0 rfl; have z33_ := cel2 z30_ 1 rfl; have z34_ := cel2 z30_ 2 rfl; have z35_ := cel2 z30_ 3 rfl; have z36_ := cel2 z30_ 4 rfl; have z37_ := cel2 z30_ 5 rfl; have z38_ := blk_frozen z30_.out 0; have z39_ := blk_frozen z30_.out 1; have z40_ := blk_frozen z30_.out 2; have z41_ := blk_frozen z30_.out 3; have z42_ := blk_frozen z30_.out 4; have z43_ := blk_frozen z30_.out 5) | (go_at_call 47; (with_reducible refine (strings_IndexByte.calls ((rd_T85 l1 x25_2).f1) 61 t124 _ A22.out).mono ?_); rintro e w' ⟨rfl, ⟨nd, rfl⟩⟩; obtain ⟨z44_, z45_, z46_⟩ := Kd.R_slice HO_5.out; subst z46_) | (go_at_call 48; (with_reducible refine (rewrite_Valid.calls _ _ t119 ((rd_T85 l1 x25_2).f0) ((rd_T85 l1 x25_2).f1) _ _ ((rd_T85 l1 x25_2).f2) _ _ ((rd_T85 l1 x25_2).f3) ((rd_T85 l1 x25_2).f4) ((rd_T85 l1 x25_2).f5) false _ ?sT ?s1 ?s2 ?s3 z20_.out ?s5 z22_.out A26.out).mono ?_); (case sT => exact Gc1); (case s1 => refine (Kd.R_reads' (e := 80) (base := w.heap.size) (ok := fun k_ => True) (n := t119.length) (c := z45_) ?_).2.2; exact Gc4); (case s2 => exact (Kd.R_reads' HO_5.out).2.1); (case s3 => exact Kd.C_below z19_.out (tB HB)); (case s5 => exact Kd.C_below z21_.out (tB HB)); rintro e z47_ ⟨rfl, hb⟩; have z25_ := Aside0.mk (Kd.R_below Gc4 hb); have z26_ := Aside0.mk (blk_below (g := z23_) (o := .cells #[.int .i32 ((rd_T85 l1 x25_2).f0), .string ((rd_T85 l1 x25_2).f1), .slice z4_ ((rd_T85 l1 x25_2).f2).length z5_, .slice z6_ ((rd_T85 l1 x25_2).f3).length z7_, .bool ((rd_T85 l1 x25_2).f4), .bool ((rd_T85 l1 x25_2).f5)] 85 (0, 0)) (tKp z30_) hb); have z27_ := Aside0.mk (below_step (tB HB) hb); revert z25_ z26_ z27_; clear HO_5 z30_ HB; intro HO_5 z30_ HB; (try clear hb); (try clear hb2); (try clear hk); (try clear hi)))
     go_ret
     exact LPrF29x1)
  | (have mk_ := mk2_
     go_wp2_with (first | ((with_reducible refine gate_dst (N := 7) rfl ?_); (try (refine gate_guard (by rfl) ?_; dsimp only)); refine box_event ?hg (N := 7) ?hd (cs := #[.int .i32 0, .string (⟨#[]⟩ : ByteArray), .slice none 0 0, .slice none 0 0, .bool false, .bool false]) (t := 85) ?hr ?_; (case hd => rfl); (case hg => rfl); (case hr => exact Gc5); intro z23_ hg z24_ hbox hb; have z25_ := Aside0.mk (Kd.R_below (dR HO_5) hb); have z26_ := Aside0.mk (below_step (tB HB) hb); have z27_ := Aside0.mk (hbox); have z28_ := tZ hg (tS HB); have z29_ := tZ hg (tS HB); revert z25_ z26_ z27_ z28_ z29_; clear HO_5 HB; intro HO_5 HB z30_ z31_ GE123; clear hb hbox hg; have z32_ := cel2 z30_ 0 rfl; have z33_ := cel2 z30_ 1 rfl; have z34_ := cel2 z30_ 2 rfl; have z35_ := cel2 z30_ 3 rfl; have z36_ := cel2 z30_ 4 rfl; have z37_ := cel2 z30_ 5 rfl; have z38_ := blk_frozen z30_.out 0; have z39_ := blk_frozen z30_.out 1; have z40_ := blk_frozen z30_.out 2; have z41_ := blk_frozen z30_.out 3; have z42_ := blk_frozen z30_.out 4; have z43_ := blk_frozen z30_.out 5) | (go_at_call 47; (with_reducible refine (strings_IndexByte.calls ((rd_T85 l1 x25_2).f1) 61 t124 _ A22.out).mono ?_); rintro e w' ⟨rfl, ⟨nd, rfl⟩⟩))
     go_ret
     exact LPrF29x1)
  | (have mk_ := mk3_
     go_wp2_with (first | ((with_reducible refine gate_dst (N := 7) rfl ?_); (try (refine gate_guard (by rfl) ?_; dsimp only)); refine box_event ?hg (N := 7) ?hd (cs := #[.int .i32 0, .string (⟨#[]⟩ : ByteArray), .slice none 0 0, .slice none 0 0, .bool false, .bool false]) (t := 85) ?hr ?_; (case hd => rfl); (case hg => rfl); (case hr => exact Gc5); intro z23_ hg z24_ hbox hb; have z25_ := Aside0.mk (Kd.R_below (dR HO_5) hb); have z26_ := Aside0.mk (below_step (tB HB) hb); have z27_ := Aside0.mk (hbox); have z28_ := tZ hg (tS HB); have z29_ := tZ hg (tS HB); revert z25_ z26_ z27_ z28_ z29_; clear HO_5 HB; intro HO_5 HB z30_ z31_ GE123; clear hb hbox hg; have z32_ := cel2 z30_ 0 rfl; have z33_ := cel2 z30_ 1 rfl; have z34_ := cel2 z30_ 2 rfl; have z35_ := cel2 z30_ 3 rfl; have z36_ := cel2 z30_ 4 rfl; have z37_ := cel2 z30_ 5 rfl; have z38_ := blk_frozen z30_.out 0; have z39_ := blk_frozen z30_.out 1; have z40_ := blk_frozen z30_.out 2; have z41_ := blk_frozen z30_.out 3; have z42_ := blk_frozen z30_.out 4; have z43_ := blk_frozen z30_.out 5))
     go_ret
     exact LPrF29x1)) : p := h
theorem LPrF29xh2 {p : Prop} (h : p := by
  clear c7
  (first | rw [c7b0] | (simp only [i64_w, i32_w]; rw [c7b0]) | skip)
  have H' := Aside0.mk H
  clear H
  go_wp2_with (first | ((with_reducible refine gate_callee (f := 46) rfl ?_); refine goesL_ (some 9) rfl rfl Tryd.func46 (by kernel_rfl) rfl #[.slice A0 l0.length c0] rfl Gc2 ?_; (with_reducible refine (alphabet_Valid.calls _ _ l0 true _ (tC HR0 HB) HC0.out A4.out).mono ?_); rintro e z1_ ⟨rfl, hb⟩; refine ⟨_, rfl, ?_⟩; have z2_ := Aside0.mk (below_step (tB HB) hb); revert z2_; clear HB; intro HB; (try clear hb); (try clear hb2); (try clear hk); (try clear hi)) | (go_at_call 34; (with_reducible refine (alphabet_Index.calls _ _ l0 61 t118 _ (tC HR0 HB) HC0.out A6.out).mono ?_); rintro e z3_ ⟨rfl, hb⟩; have z2_ := Aside0.mk (below_step (tB HB) hb); revert z2_; clear HB; intro HB; (try clear hb); (try clear hb2); (try clear hk); (try clear hi)))
  go_meet
  first
  | (have mk_ := mk0_
     case rel => exact ⟨_, (decide ((l1.length : Int) > 64)), tV1, H', ⟨tU⟩, ⟨tB HB⟩⟩)
  | (have mk_ := mk1_
     case rel => exact ⟨_, (true), tV1, H', ⟨tU⟩, ⟨tB HB⟩⟩)) : p := h
set_option maxHeartbeats 8000000 in
set_option maxRecDepth 100000 in
theorem clitic_Valid.calls (k : Nat) (A0 : Option Addr) (c0 : Nat) (l0 : List (S80)) (A1 : Option Addr) (c1 : Nat) (l1 : List (S85)) (r : Bool) (w : World) (hT : Tabs w) (hr0 : Kd.C k80 w A0 l0.length l0) (hc0 : l0.length ≤ c0) (hr1 : Kd.C k85 w A1 l1.length l1) (hc1 : l1.length ≤ c1) (h : clitic_Valid.f k l0 l1 = some r) :
 Calls Tryd.prog 29 #[.slice A0 l0.length c0, .slice A1 l1.length c1] w fun e w' => e = .returned (.bool r) ∧ Below w.heap.size w w' := by
 have HT := Aside0.mk hT
 clear hT
 have hu85 := Tryd.underlying85
 have HR0 := Aside0.mk hr0
 have HC0 := Aside0.mk hc0
 clear hr0 hc0
 have HR1 := Aside0.mk hr1
 have HC1 := Aside0.mk hc1
 clear hr1 hc1
 have HB := Aside0.mk (Below.refl w.heap.size w)
 have H : ((alphabet_Valid.f l0).bind fun t117 => (if t117 = true then ((alphabet_Index.f l0 61).bind fun t118 => (if t118 ≥ 0 then (clitic_Valid.j0 k l0 l1 true) else (clitic_Valid.j0 k l0 l1 (decide ((l1.length : Int) > 64))))) else (clitic_Valid.j0 k l0 l1 true))) = some r := h
 clear h
 have HC3 := Aside0.mk H
 clear H
 go_enter Tryd.func29, Tryd.ntmps29
 go_upto_region 1 with (fail)
 go_cut [20] (fun v20 wc => ∃ (kq : Nat) (x20_2 : Bool), v20 = .bool x20_2 ∧ Aside0 (clitic_Valid.j0 kq l0 l1 x20_2 = some r) ∧ Aside0 (kq ≤ k) ∧ Aside0 (Below w.heap.size w wc))
 case first =>
  have H := HC3.out
  clear HC3
  replace H := bI H; obtain ⟨t117, A4, H⟩ := H; (try dsimp only at H)
  replace H := iT H; obtain ⟨rfl, H⟩ | ⟨rfl, H⟩ := H
  ·
   replace H := bI H; obtain ⟨t118, A6, H⟩ := H; (try dsimp only at H)
   replace H := iF H; obtain ⟨c7, H⟩ | ⟨c7, H⟩ := H
   ·
    have c7b0 : decide (0 ≤ t118) = true := decide_eq_true c7
    have mk1_ := trivial
    exact LPrF29xh2
   ·
    have c7b0 : decide (0 ≤ t118) = false := decide_eq_false c7
    have mk0_ := trivial
    exact LPrF29xh2
  ·
   have H' := Aside0.mk H
   clear H
   go_wp2_with (first | ((with_reducible refine gate_callee (f := 46) rfl ?_); refine goesL_ (some 9) rfl rfl Tryd.func46 (by kernel_rfl) rfl #[.slice A0 l0.length c0] rfl Gc2 ?_; (with_reducible refine (alphabet_Valid.calls _ _ l0 false _ (tC HR0 HB) HC0.out A4.out).mono ?_); rintro e w12 ⟨rfl, hb⟩; refine ⟨_, rfl, ?_⟩; have n0_ := Aside0.mk (below_step (tB HB) hb); revert n0_; clear HB; intro HB; (try clear hb); (try clear hb2); (try clear hk); (try clear hi)))
   go_meet
   case rel => exact ⟨_, (true), tV1, H', ⟨tU⟩, ⟨tB HB⟩⟩
 case rest =>
  clear HC3
  obtain ⟨kq, x20_2, rfl, HA, HJ2, HB⟩ := hcut
  cases kq with
  | zero => exact absurd HA.out (by simp [clitic_Valid.j0])
  | succ kj2 =>
   have H := HA.out
   clear HA
   simp only [clitic_Valid.j0] at H
   replace H := iT H; obtain ⟨rfl, H⟩ | ⟨rfl, H⟩ := H
   ·
    exact LPrF29x2
   ·
    replace H := bI H; obtain ⟨t119, A14, H⟩ := H; (try dsimp only at H)
    have H' := Aside0.mk H
    clear H
    go_wp2_with (first | ((with_reducible refine gate_callee (f := 31) rfl ?_); refine goesL_ (some 22) rfl rfl Tryd.func31 (by kernel_rfl) rfl #[.slice A0 l0.length c0] rfl Gc2 ?_; (with_reducible refine (clitic_Extended.calls _ _ l0 t119 _ (tC HR0 HB) HC0.out A14.out).mono ?_); rintro e w15 ⟨v120, rfl, ho0, hb⟩; refine ⟨_, rfl, ?_⟩; have n0_ := Aside0.mk (Kd.R_lower ho0 (tS HB)); have n1_ := Aside0.mk (below_step (tB HB) hb); revert n0_ n1_; clear HB; intro HO121 HB; (try clear hb); (try clear hb2); (try clear hk); (try clear hi); (try clear ho0)))
    go_loopg [25] kj2 (fun kq v25 w' => ∃ (x25_2 : Int), v25 = .int .i64 x25_2 ∧ Aside0 (clitic_Valid.l0 kq t119 l1 (l1.length : Int) x25_2 = some r) ∧ Aside0 (kq ≤ kj2) ∧ Aside0 (Kd.R k80 80 w' w.heap.size (fun _ => True) v120 t119) ∧ Aside0 (Below w.heap.size w w'))
    case atStart => exact ⟨(0), tV1, H', ⟨Nat.le_refl _⟩, ⟨dR HO121⟩, ⟨tB HB⟩⟩
    case round =>
     clear H'; (try clear c13)
     obtain ⟨x25_2, rfl, HA, HK2, HO_5, HB⟩ := hrel
     cases gk with
     | zero => exact absurd HA.out (by simp [clitic_Valid.l0])
     | succ k2 =>
      have H := HA.out
      clear HA
      simp only [clitic_Valid.l0] at H
      replace H := iF H; obtain ⟨c16, H⟩ | ⟨c16, H⟩ := H
      ·
       have c16b0 : decide (x25_2 < (l1.length : Int)) = true := decide_eq_true c16
       clear c16
       replace H := iF H; obtain ⟨c17, H⟩ | ⟨c17, H⟩ := H
       ·
        have c17b0 : decide (0 ≤ x25_2) = true := decide_eq_true c17
        clear c17
        replace H := iF H; obtain ⟨c18, H⟩ | ⟨c18, H⟩ := H
        ·
         have c18b0 : decide (x25_2 < (l1.length : Int)) = true := decide_eq_true c18
         clear c18
         replace H := iE H; obtain ⟨-, c19b0, c19b1, H⟩ | ⟨c19, c19b0, c19b1, H⟩ := H
         ·
          obtain rfl := Option.some.inj H
          have mk3_ := trivial
          exact LPrF29xh1
         ·
          replace H := bI H; obtain ⟨t124, A22, H⟩ := H; (try dsimp only at H)
          replace H := iF H; obtain ⟨c23, H⟩ | ⟨c23, H⟩ := H
          ·
           have c23b0 : decide (0 ≤ t124) = true := decide_eq_true c23
           clear c23
           obtain rfl := Option.some.inj H
           have mk2_ := trivial
           exact LPrF29xh1
          ·
           have c23b0 : decide (0 ≤ t124) = false := decide_eq_false c23
           clear c23
           replace H := bI H; obtain ⟨t125, A26, H⟩ := H; (try dsimp only at H)
           replace H := iT H; obtain ⟨rfl, H⟩ | ⟨rfl, H⟩ := H
           ·
            have H' := Aside0.mk H
            clear H
            have mk0_ := trivial
            exact LPrF29xh1
           ·
            obtain rfl := Option.some.inj H
            have mk1_ := trivial
            exact LPrF29xh1
        ·
         exact absurd H (by simp)
       ·
        exact absurd H (by simp)
      ·
       have c16b0 : decide (x25_2 < (l1.length : Int)) = false := decide_eq_false c16
       clear c16
       exact LPrF29x2
def orthography_valid.f (k : Nat) (a_0 : ByteArray) (a_1 : Bool) (l_2 : List (S80)) (l_3 : List (S85)) (l_4 : List (S180)) (l_5 : List (S183)) (l_6 : List (List Int)) (a_7 : Int) (a_8 : Int) (l_9 : List (S85)) (a_a : Int) (l_b : List ByteArray) (l_c : List ByteArray) (a_d : Bool) (a_e : ByteArray) (a_f : Int) (a_g : ByteArray) (a_h : Bool) (a_i : Int) (a_j : Int) (l_k : List (S186)) (l_l : List (S186)) (l_m : List ByteArray) (l_n : List ByteArray) (l_o : List ByteArray) (a_p : Bool) (l_q : List (S188)) (l_r : List (S190)) (l_s : List (S194)) (a_t : ByteArray) : Option (Bool) := (utf8_DecodeRuneInString.f a_t).bind fun bt127 => ((clitic_Valid.f k l_2 l_9).bind fun t129 => (if t129 = true then (if bt127.2 > 0 then (if bt127.2 = (a_t.size : Int) then (if bt127.1 = 65533 then (if bt127.2 = 3 then (if bt127.1 > 32 then (if bt127.1 = 45 then (some false) else (if bt127.1 = 61 then (some false) else ((alphabet_Index.f l_2 bt127.1).bind fun t130 => (some (decide (t130 < 0)))))) else (some false)) else (some false)) else (if bt127.1 > 32 then (if bt127.1 = 45 then (some false) else (if bt127.1 = 61 then (some false) else ((alphabet_Index.f l_2 bt127.1).bind fun t131 => (some (decide (t131 < 0)))))) else (some false))) else (some false)) else (some false)) else (some false)))
set_option maxRecDepth 1000000 in
theorem LPrF18a1 {p : Prop} (h : p := by
  go_enter Tryd.func18, Tryd.ntmps18
  go_wp2_with (first | ((with_reducible refine gate_load (t := 41) (p := 1) rfl ?_); (try (refine gate_guard (by rfl) ?_; dsimp only)); refine wpList_load_row rfl 41 (.tmp 1) rfl gb126 rfl 41 _ (0, 0) _ (tK BK126) Tryd.underlying41 rfl (by kernel_rfl) ?_) | ((with_reducible refine gate_dst (N := 1) rfl ?_); (try (refine gate_guard (by rfl) ?_; dsimp only)); refine box_event ?hg (N := 1) ?hd (cs := ?cs) (t := 41) ?hr ?_; (case hd => rfl); (case hg => rfl); (case hr => exact Gc5); intro gb126 hg z2_ hbox hb; have n0_ := Aside0.mk (below_step (tB HB) hb); have n1_ := Aside0.mk (hbox); have z5_ := tZ hg (tS HB); have z6_ := tZ hg (tS HB); revert n0_ n1_ z5_ z6_; clear HB; intro HB BK126 z8_ GE126; clear hb hbox hg; have z10_ := cel2 BK126 2 rfl; have z11_ := cel2 BK126 9 rfl; have z12_ := cel2 BK126 29 rfl; have z13_ := blk_frozen BK126.out 2; have z14_ := blk_frozen BK126.out 9; have z15_ := blk_frozen BK126.out 29) | ((with_reducible refine gate_callee (f := 33) rfl ?_); refine goesL_ (some 8) rfl rfl Tryd.func33 (by kernel_rfl) rfl #[.string a_t] rfl Gc2 ?_; (with_reducible refine (utf8_DecodeRuneInString.calls a_t t127 t128 _ ?sT A2.out).mono ?_); (case sT => exact Gc1); rintro e z1_ ⟨rfl, hb⟩; refine ⟨_, rfl, ?_⟩; have n0_ := Aside0.mk (blk_below (tK BK126) hb); have n1_ := Aside0.mk (below_step (tB HB) hb); revert n0_ n1_; clear BK126 HB; intro BK126 HB; (try clear hb); (try clear hb2); (try clear hk); (try clear hi); have z4_ := cel2 BK126 2 rfl; have z5_ := cel2 BK126 9 rfl; have z6_ := cel2 BK126 29 rfl; have z7_ := blk_frozen BK126.out 2; have z8_ := blk_frozen BK126.out 9; have z9_ := blk_frozen BK126.out 29) | (have ma_ := ma1_; ((with_reducible refine gate_callee (f := 29) rfl ?_); refine goesL_ (some 16) rfl rfl Tryd.func29 (by kernel_rfl) rfl #[.slice A_2 l_2.length c_2, .slice A_9 l_9.length c_9] rfl Gc2 ?_; (with_reducible refine (clitic_Valid.calls k _ _ l_2 _ _ l_9 false _ ?sT (tC HR_2 HB) HC_2.out (tC HR_9 HB) HC_9.out A3.out).mono ?_); (case sT => exact Gc1); rintro e z1_ ⟨rfl, hb⟩; refine ⟨_, rfl, ?_⟩; have n0_ := Aside0.mk (blk_below (tK BK126) hb); have n1_ := Aside0.mk (below_step (tB HB) hb); revert n0_ n1_; clear BK126 HB; intro BK126 HB; (try clear hb); (try clear hb2); (try clear hk); (try clear hi))) | (have ma_ := ma2_; ((with_reducible refine gate_callee (f := 29) rfl ?_); refine goesL_ (some 16) rfl rfl Tryd.func29 (by kernel_rfl) rfl #[.slice A_2 l_2.length c_2, .slice A_9 l_9.length c_9] rfl Gc2 ?_; (with_reducible refine (clitic_Valid.calls k _ _ l_2 _ _ l_9 true _ ?sT (tC HR_2 HB) HC_2.out (tC HR_9 HB) HC_9.out A3.out).mono ?_); (case sT => exact Gc1); rintro e z1_ ⟨rfl, hb⟩; refine ⟨_, rfl, ?_⟩; have n0_ := Aside0.mk (blk_below (tK BK126) hb); have n1_ := Aside0.mk (below_step (tB HB) hb); revert n0_ n1_; clear BK126 HB; intro BK126 HB; (try clear hb); (try clear hb2); (try clear hk); (try clear hi))) | (have ma_ := ma3_; ((with_reducible refine gate_callee (f := 29) rfl ?_); refine goesL_ (some 16) rfl rfl Tryd.func29 (by kernel_rfl) rfl #[.slice A_2 l_2.length c_2, .slice A_9 l_9.length c_9] rfl Gc2 ?_; (with_reducible refine (clitic_Valid.calls k _ _ l_2 _ _ l_9 true _ ?sT (tC HR_2 HB) HC_2.out (tC HR_9 HB) HC_9.out A3.out).mono ?_); (case sT => exact Gc1); rintro e z1_ ⟨rfl, hb⟩; refine ⟨_, rfl, ?_⟩; have n0_ := Aside0.mk (blk_below (tK BK126) hb); have n1_ := Aside0.mk (below_step (tB HB) hb); revert n0_ n1_; clear BK126 HB; intro BK126 HB; (try clear hb); (try clear hb2); (try clear hk); (try clear hi); have z4_ := cel2 BK126 2 rfl; have z5_ := cel2 BK126 9 rfl; have z6_ := cel2 BK126 29 rfl; have z7_ := blk_frozen BK126.out 2; have z8_ := blk_frozen BK126.out 9; have z9_ := blk_frozen BK126.out 29)) | (have ma_ := ma4_; (go_at_call 34; (with_reducible refine (alphabet_Index.calls _ _ l_2 t127 t131 _ (tC HR_2 HB) HC_2.out A59.out).mono ?_); rintro e z1_ ⟨rfl, hb⟩; have n0_ := Aside0.mk (blk_below (tK BK126) hb); have n1_ := Aside0.mk (below_step (tB HB) hb); revert n0_ n1_; clear BK126 HB; intro BK126 HB; (try clear hb); (try clear hb2); (try clear hk); (try clear hi))) | (have ma_ := ma5_; (go_at_call 34; (with_reducible refine (alphabet_Index.calls _ _ l_2 t127 t130 _ (tC HR_2 HB) HC_2.out A24.out).mono ?_); rintro e z1_ ⟨rfl, hb⟩; have n0_ := Aside0.mk (blk_below (tK BK126) hb); have n1_ := Aside0.mk (below_step (tB HB) hb); revert n0_ n1_; clear BK126 HB; intro BK126 HB; (try clear hb); (try clear hb2); (try clear hk); (try clear hi))))
  go_ret
  exact ⟨tE, by repeat (first | (with_reducible first | exact HB.out | apply below_alloc | apply pw_below_drewN | apply below_drew1 | refine below_set ?_ GE126.out) | exact HB.out)⟩) : p := h
set_option maxHeartbeats 8000000 in
set_option maxRecDepth 100000 in
theorem orthography_valid.calls (k : Nat) (a_0 : ByteArray) (a_1 : Bool) (A_2 : Option Addr) (c_2 : Nat) (l_2 : List (S80)) (A_3 : Option Addr) (c_3 : Nat) (l_3 : List (S85)) (A_4 : Option Addr) (c_4 : Nat) (l_4 : List (S180)) (A_5 : Option Addr) (c_5 : Nat) (l_5 : List (S183)) (A_6 : Option Addr) (c_6 : Nat) (l_6 : List (List Int)) (a_7 : Int) (a_8 : Int) (A_9 : Option Addr) (c_9 : Nat) (l_9 : List (S85)) (a_a : Int) (A_b : Option Addr) (c_b : Nat) (l_b : List ByteArray) (A_c : Option Addr) (c_c : Nat) (l_c : List ByteArray) (a_d : Bool) (a_e : ByteArray) (a_f : Int) (a_g : ByteArray) (a_h : Bool) (a_i : Int) (a_j : Int) (A_k : Option Addr) (c_k : Nat) (l_k : List (S186)) (A_l : Option Addr) (c_l : Nat) (l_l : List (S186)) (A_m : Option Addr) (c_m : Nat) (l_m : List ByteArray) (A_n : Option Addr) (c_n : Nat) (l_n : List ByteArray) (A_o : Option Addr) (c_o : Nat) (l_o : List ByteArray) (a_p : Bool) (A_q : Option Addr) (c_q : Nat) (l_q : List (S188)) (A_r : Option Addr) (c_r : Nat) (l_r : List (S190)) (A_s : Option Addr) (c_s : Nat) (l_s : List (S194)) (a_t : ByteArray) (r : Bool) (w : World) (hT : Tabs w) (hr_2 : Kd.C k80 w A_2 l_2.length l_2) (hc_2 : l_2.length ≤ c_2) (hr_3 : Kd.C k85 w A_3 l_3.length l_3) (hc_3 : l_3.length ≤ c_3) (hr_4 : Kd.C k180 w A_4 l_4.length l_4) (hc_4 : l_4.length ≤ c_4) (hr_5 : Kd.C k183 w A_5 l_5.length l_5) (hc_5 : l_5.length ≤ c_5) (hr_6 : Kd.C (Kd.slice 78 (Kd.int .u32)) w A_6 l_6.length l_6) (hc_6 : l_6.length ≤ c_6) (hr_9 : Kd.C k85 w A_9 l_9.length l_9) (hc_9 : l_9.length ≤ c_9) (hr_b : Kd.C Kd.string w A_b l_b.length l_b) (hc_b : l_b.length ≤ c_b) (hr_c : Kd.C Kd.string w A_c l_c.length l_c) (hc_c : l_c.length ≤ c_c) (hr_k : Kd.C k186 w A_k l_k.length l_k) (hc_k : l_k.length ≤ c_k) (hr_l : Kd.C k186 w A_l l_l.length l_l) (hc_l : l_l.length ≤ c_l) (hr_m : Kd.C Kd.string w A_m l_m.length l_m) (hc_m : l_m.length ≤ c_m) (hr_n : Kd.C Kd.string w A_n l_n.length l_n) (hc_n : l_n.length ≤ c_n) (hr_o : Kd.C Kd.string w A_o l_o.length l_o) (hc_o : l_o.length ≤ c_o) (hr_q : Kd.C k188 w A_q l_q.length l_q) (hc_q : l_q.length ≤ c_q) (hr_r : Kd.C k190 w A_r l_r.length l_r) (hc_r : l_r.length ≤ c_r) (hr_s : Kd.C k194 w A_s l_s.length l_s) (hc_s : l_s.length ≤ c_s) (h : orthography_valid.f k a_0 a_1 l_2 l_3 l_4 l_5 l_6 a_7 a_8 l_9 a_a l_b l_c a_d a_e a_f a_g a_h a_i a_j l_k l_l l_m l_n l_o a_p l_q l_r l_s a_t = some r) :
 Calls Tryd.prog 18 #[.agg #[.string a_0, .bool a_1, .slice A_2 l_2.length c_2, .slice A_3 l_3.length c_3, .slice A_4 l_4.length c_4, .slice A_5 l_5.length c_5, .slice A_6 l_6.length c_6, .int .i64 a_7, .int .i64 a_8, .slice A_9 l_9.length c_9, .int .i64 a_a, .slice A_b l_b.length c_b, .slice A_c l_c.length c_c, .bool a_d, .string a_e, .int .i64 a_f, .string a_g, .bool a_h, .int .i64 a_i, .int .i64 a_j, .slice A_k l_k.length c_k, .slice A_l l_l.length c_l, .slice A_m l_m.length c_m, .slice A_n l_n.length c_n, .slice A_o l_o.length c_o, .bool a_p, .slice A_q l_q.length c_q, .slice A_r l_r.length c_r, .slice A_s l_s.length c_s, .string a_t]] w fun e w' => e = .returned (.bool r) ∧ Below w.heap.size w w' := by
 have HT := Aside0.mk hT
 clear hT
 have hu41 := Tryd.underlying41
 have HR_2 := Aside0.mk hr_2
 have HC_2 := Aside0.mk hc_2
 clear hr_2 hc_2
 have HR_3 := Aside0.mk hr_3
 have HC_3 := Aside0.mk hc_3
 clear hr_3 hc_3
 have HR_4 := Aside0.mk hr_4
 have HC_4 := Aside0.mk hc_4
 clear hr_4 hc_4
 have HR_5 := Aside0.mk hr_5
 have HC_5 := Aside0.mk hc_5
 clear hr_5 hc_5
 have HR_6 := Aside0.mk hr_6
 have HC_6 := Aside0.mk hc_6
 clear hr_6 hc_6
 have HR_9 := Aside0.mk hr_9
 have HC_9 := Aside0.mk hc_9
 clear hr_9 hc_9
 have HR_b := Aside0.mk hr_b
 have HC_b := Aside0.mk hc_b
 clear hr_b hc_b
 have HR_c := Aside0.mk hr_c
 have HC_c := Aside0.mk hc_c
 clear hr_c hc_c
 have HR_k := Aside0.mk hr_k
 have HC_k := Aside0.mk hc_k
 clear hr_k hc_k
 have HR_l := Aside0.mk hr_l
 have HC_l := Aside0.mk hc_l
 clear hr_l hc_l
 have HR_m := Aside0.mk hr_m
 have HC_m := Aside0.mk hc_m
 clear hr_m hc_m
 have HR_n := Aside0.mk hr_n
 have HC_n := Aside0.mk hc_n
 clear hr_n hc_n
 have HR_o := Aside0.mk hr_o
 have HC_o := Aside0.mk hc_o
 clear hr_o hc_o
 have HR_q := Aside0.mk hr_q
 have HC_q := Aside0.mk hc_q
 clear hr_q hc_q
 have HR_r := Aside0.mk hr_r
 have HC_r := Aside0.mk hc_r
 clear hr_r hc_r
 have HR_s := Aside0.mk hr_s
 have HC_s := Aside0.mk hc_s
 clear hr_s hc_s
 have HB := Aside0.mk (Below.refl w.heap.size w)
 have H : ((utf8_DecodeRuneInString.f a_t).bind fun bt127 => ((clitic_Valid.f k l_2 l_9).bind fun t129 => (if t129 = true then (if bt127.2 > 0 then (if bt127.2 = (a_t.size : Int) then (if bt127.1 = 65533 then (if bt127.2 = 3 then (if bt127.1 > 32 then (if bt127.1 = 45 then (some false) else (if bt127.1 = 61 then (some false) else ((alphabet_Index.f l_2 bt127.1).bind fun t130 => (some (decide (t130 < 0)))))) else (some false)) else (some false)) else (if bt127.1 > 32 then (if bt127.1 = 45 then (some false) else (if bt127.1 = 61 then (some false) else ((alphabet_Index.f l_2 bt127.1).bind fun t131 => (some (decide (t131 < 0)))))) else (some false))) else (some false)) else (some false)) else (some false)))) = some r := h
 clear h
 replace H := bI H; obtain ⟨⟨t127, t128⟩, A2, H⟩ := H; (try dsimp only at H)
 replace H := bI H; obtain ⟨t129, A3, H⟩ := H; (try dsimp only at H)
 replace H := iT H; obtain ⟨rfl, H⟩ | ⟨rfl, H⟩ := H
 ·
  replace H := iF H; obtain ⟨c5, H⟩ | ⟨c5, H⟩ := H
  ·
   have c5b0 : decide (0 < t128) = true := decide_eq_true c5
   clear c5
   replace H := iE H; obtain ⟨-, c6b0, c6b1, H⟩ | ⟨c6, c6b0, c6b1, H⟩ := H
   ·
    replace H := iE H; obtain ⟨-, c7b0, c7b1, H⟩ | ⟨c7, c7b0, c7b1, H⟩ := H
    ·
     replace H := iE H; obtain ⟨-, c8b0, c8b1, H⟩ | ⟨c8, c8b0, c8b1, H⟩ := H
     ·
      replace H := iF H; obtain ⟨c9, H⟩ | ⟨c9, H⟩ := H
      ·
       have c9b0 : decide (32 < t127) = true := decide_eq_true c9
       clear c9
       replace H := iE H; obtain ⟨-, c10b0, c10b1, H⟩ | ⟨c10, c10b0, c10b1, H⟩ := H
       ·
        obtain rfl := Option.some.inj H
        have ma3_ := trivial
        exact LPrF18a1
       ·
        replace H := iE H; obtain ⟨-, c17b0, c17b1, H⟩ | ⟨c17, c17b0, c17b1, H⟩ := H
        ·
         obtain rfl := Option.some.inj H
         have ma3_ := trivial
         exact LPrF18a1
        ·
         replace H := bI H; obtain ⟨t130, A24, H⟩ := H; (try dsimp only at H)
         obtain rfl := Option.some.inj H
         have ma3_ := trivial; have ma5_ := trivial
         exact LPrF18a1
      ·
       have c9b0 : decide (32 < t127) = false := decide_eq_false c9
       clear c9
       obtain rfl := Option.some.inj H
       have ma3_ := trivial
       exact LPrF18a1
     ·
      obtain rfl := Option.some.inj H
      have ma3_ := trivial
      exact LPrF18a1
    ·
     replace H := iF H; obtain ⟨c44, H⟩ | ⟨c44, H⟩ := H
     ·
      have c44b0 : decide (32 < t127) = true := decide_eq_true c44
      clear c44
      replace H := iE H; obtain ⟨-, c45b0, c45b1, H⟩ | ⟨c45, c45b0, c45b1, H⟩ := H
      ·
       obtain rfl := Option.some.inj H
       have ma3_ := trivial
       exact LPrF18a1
      ·
       replace H := iE H; obtain ⟨-, c52b0, c52b1, H⟩ | ⟨c52, c52b0, c52b1, H⟩ := H
       ·
        obtain rfl := Option.some.inj H
        have ma3_ := trivial
        exact LPrF18a1
       ·
        replace H := bI H; obtain ⟨t131, A59, H⟩ := H; (try dsimp only at H)
        obtain rfl := Option.some.inj H
        have ma3_ := trivial; have ma4_ := trivial
        exact LPrF18a1
     ·
      have c44b0 : decide (32 < t127) = false := decide_eq_false c44
      clear c44
      obtain rfl := Option.some.inj H
      have ma3_ := trivial
      exact LPrF18a1
   ·
    obtain rfl := Option.some.inj H
    have ma3_ := trivial
    exact LPrF18a1
  ·
   have c5b0 : decide (0 < t128) = false := decide_eq_false c5
   clear c5
   obtain rfl := Option.some.inj H
   have ma2_ := trivial
   exact LPrF18a1
 ·
  obtain rfl := Option.some.inj H
  have ma1_ := trivial
  exact LPrF18a1
def pentaglotref06_code.f (a0 : Int) : Option (Bool) := if a0 > 32 then (if a0 < 55296 then (some (decide (a0 ≤ 1114111))) else (if a0 > 57343 then (some (decide (a0 ≤ 1114111))) else (some false))) else (some false)
theorem LPrF84x1 {p : Prop} (h : p := by
  obtain rfl := Option.some.inj H
  go_enter Tryd.func84, Tryd.ntmps84
  go_wp2
  go_ret
  exact ⟨by first | rfl | (simp; done) | (simp [*]; done), by repeat (first | exact Drawn0.refl _ | apply Drawn0.step)⟩) : p := h
set_option maxHeartbeats 8000000 in
set_option maxRecDepth 100000 in
theorem pentaglotref06_code.calls (a0 : Int) (r : Bool) (w : World) (h : pentaglotref06_code.f a0 = some r) :
 Calls Tryd.prog 84 #[.int .i32 a0] w fun e w' => e = .returned (.bool r) ∧ Drawn0 w w' := by
 have H : (if a0 > 32 then (if a0 < 55296 then (some (decide (a0 ≤ 1114111))) else (if a0 > 57343 then (some (decide (a0 ≤ 1114111))) else (some false))) else (some false)) = some r := h
 clear h
 replace H := iF H; obtain ⟨c2, H⟩ | ⟨c2, H⟩ := H
 ·
  have c2b0 : decide (32 < a0) = true := decide_eq_true c2
  clear c2
  replace H := iF H; obtain ⟨c3, H⟩ | ⟨c3, H⟩ := H
  ·
   have c3b0 : decide (a0 < 55296) = true := decide_eq_true c3
   clear c3
   exact LPrF84x1
  ·
   have c3b0 : decide (a0 < 55296) = false := decide_eq_false c3
   clear c3
   replace H := iF H; obtain ⟨c4, H⟩ | ⟨c4, H⟩ := H
   ·
    have c4b0 : decide (57343 < a0) = true := decide_eq_true c4
    clear c4
    exact LPrF84x1
   ·
    have c4b0 : decide (57343 < a0) = false := decide_eq_false c4
    clear c4
    exact LPrF84x1
 ·
  have c2b0 : decide (32 < a0) = false := decide_eq_false c2
  clear c2
  exact LPrF84x1
def pentaglotref06_Proper.l0 : Nat → List (S80) → Int → Option (Bool)
 | 0, _, _ => none
 | k + 1, x0, x3 => if x3 < (x0.length : Int) then (if 0 ≤ x3 then ((pentaglotref06_code.f ((rd_T80 x0 x3).f0)).bind fun t313 => (if t313 = true then (if x3 ≤ (x0.length : Int) then ((pentaglotref06_Index.f k (x0.take (x3 : Int).toNat) ((rd_T80 x0 x3).f0)).bind fun t319 => (if t319 ≥ 0 then (some false) else (pentaglotref06_Proper.l0 k x0 (wrap64 (x3 + 1))))) else (none)) else (some false))) else (none)) else (some true)
def pentaglotref06_Proper.f (k : Nat) (l0 : List (S80)) : Option (Bool) := if (l0.length : Int) > 65 then (some false) else (pentaglotref06_Proper.l0 k l0 0)
theorem LPrF74x1 {p : Prop} (h : p := by
  go_wp2
  repeat (go_quiet (fail); try go_wp2)
  go_ret
  exact ⟨by first | rfl | (simp; done) | (simp [*]; done), by repeat (first | exact Drawn0.refl _ | apply Drawn0.step)⟩) : p := h
set_option maxRecDepth 1000000 in
theorem LPrF74xh1 {p : Prop} (h : p := by
  have z1_ : 0 ≤ (x3_1 : Int) := oD
  have z2_ : x3_1 < (l0.length : Int) := oD
  obtain ⟨z3_, z4_, z5_, z6_⟩ := at_T80 HR0.out x3_1 z1_ z2_
  cases z4_
  replace z1_ := eq_true z1_
  replace z2_ := eq_true z2_
  go_wp2_with (first | (go_at_call 84; (with_reducible refine (pentaglotref06_code.calls ((rd_T80 l0 x3_1).f0) true _ A5.out).mono ?_); rintro e w' ⟨rfl, ⟨nd, rfl⟩⟩; (try first | exact ⟨rfl, _, World.drewN_drewN _ _ _⟩ | exact ⟨rfl, _, Eq.trans (World.drewN_drewN _ _ _) (congrArg (World.drewN _) (Nat.add_assoc _ _ _))⟩); have z7_ : (x3_1 : Int) ≤ ((l0.length : Int) : Int) := oD; obtain ⟨z8_, z9_, _, z10_, _⟩ := info_parts info80; have z11_ : l0.length ≤ c0 := HC0.out; have z12_ : Kd.C k80 _ (some z3_) l0.length l0 := HR0.out; have z13_ := cut_to (P := Tryd.prog) 22 80 .i64 Tryd.underlying22 z9_ (some z3_) l0.length c0 x3_1 (oD) z7_ z11_; have z14_ := Kd.C_take (m := (x3_1 : Int).toNat) z12_ (by omega); have z15_ : y314.length = (x3_1 : Int).toNat := (by rw [Ny314.out, List.length_take]; omega); rw [← Ny314.out] at z14_; rw [← z15_] at z13_; have z16_ := Aside0.mk z14_; have z17_ := Aside0.mk (show y314.length ≤ c0 from by omega); clear z14_ z12_ z11_ z9_ z10_; have z18_ := Aside0.mk z15_; clear z15_; replace z7_ := eq_true z7_; have z19_ : 0 ≤ (x3_1 : Int) := oD; have z20_ : x3_1 < (l0.length : Int) := oD; obtain ⟨z21_, z22_, z23_, z24_⟩ := at_T80 HR0.out x3_1 z19_ z20_; obtain rfl : z3_ = z21_ := (by injection z22_); replace z19_ := eq_true z19_; replace z20_ := eq_true z20_) | (go_at_call 40; (with_reducible refine (pentaglotref06_Index.calls k1 _ _ y314 ((rd_T80 l0 x3_1).f0) t319 _ ?s1 z17_.out A9.out).mono ?_); (case s1 => exact Gc12); rintro e w' ⟨rfl, ⟨nd, rfl⟩⟩; (try first | exact ⟨rfl, _, World.drewN_drewN _ _ _⟩ | exact ⟨rfl, _, Eq.trans (World.drewN_drewN _ _ _) (congrArg (World.drewN _) (Nat.add_assoc _ _ _))⟩)))
  repeat (go_quiet (first | (go_at_call 84; (with_reducible refine (pentaglotref06_code.calls ((rd_T80 l0 x3_1).f0) true _ A5.out).mono ?_); rintro e w' ⟨rfl, ⟨nd, rfl⟩⟩; (try first | exact ⟨rfl, _, World.drewN_drewN _ _ _⟩ | exact ⟨rfl, _, Eq.trans (World.drewN_drewN _ _ _) (congrArg (World.drewN _) (Nat.add_assoc _ _ _))⟩); have z7_ : (x3_1 : Int) ≤ ((l0.length : Int) : Int) := oD; obtain ⟨z8_, z9_, _, z10_, _⟩ := info_parts info80; have z11_ : l0.length ≤ c0 := HC0.out; have z12_ : Kd.C k80 _ (some z3_) l0.length l0 := HR0.out; have z13_ := cut_to (P := Tryd.prog) 22 80 .i64 Tryd.underlying22 z9_ (some z3_) l0.length c0 x3_1 (oD) z7_ z11_; have z14_ := Kd.C_take (m := (x3_1 : Int).toNat) z12_ (by omega); have z15_ : y314.length = (x3_1 : Int).toNat := (by rw [Ny314.out, List.length_take]; omega); rw [← Ny314.out] at z14_; rw [← z15_] at z13_; have z16_ := Aside0.mk z14_; have z17_ := Aside0.mk (show y314.length ≤ c0 from by omega); clear z14_ z12_ z11_ z9_ z10_; have z18_ := Aside0.mk z15_; clear z15_; replace z7_ := eq_true z7_; have z19_ : 0 ≤ (x3_1 : Int) := oD; have z20_ : x3_1 < (l0.length : Int) := oD; obtain ⟨z21_, z22_, z23_, z24_⟩ := at_T80 HR0.out x3_1 z19_ z20_; obtain rfl : z3_ = z21_ := (by injection z22_); replace z19_ := eq_true z19_; replace z20_ := eq_true z20_) | (go_at_call 40; (with_reducible refine (pentaglotref06_Index.calls k1 _ _ y314 ((rd_T80 l0 x3_1).f0) t319 _ ?s1 z17_.out A9.out).mono ?_); (case s1 => exact Gc12); rintro e w' ⟨rfl, ⟨nd, rfl⟩⟩; (try first | exact ⟨rfl, _, World.drewN_drewN _ _ _⟩ | exact ⟨rfl, _, Eq.trans (World.drewN_drewN _ _ _) (congrArg (World.drewN _) (Nat.add_assoc _ _ _))⟩))); try go_wp2_with (first | (go_at_call 84; (with_reducible refine (pentaglotref06_code.calls ((rd_T80 l0 x3_1).f0) true _ A5.out).mono ?_); rintro e w' ⟨rfl, ⟨nd, rfl⟩⟩; (try first | exact ⟨rfl, _, World.drewN_drewN _ _ _⟩ | exact ⟨rfl, _, Eq.trans (World.drewN_drewN _ _ _) (congrArg (World.drewN _) (Nat.add_assoc _ _ _))⟩); have z7_ : (x3_1 : Int) ≤ ((l0.length : Int) : Int) := oD; obtain ⟨z8_, z9_, _, z10_, _⟩ := info_parts info80; have z11_ : l0.length ≤ c0 := HC0.out; have z12_ : Kd.C k80 _ (some z3_) l0.length l0 := HR0.out; have z13_ := cut_to (P := Tryd.prog) 22 80 .i64 Tryd.underlying22 z9_ (some z3_) l0.length c0 x3_1 (oD) z7_ z11_; have z14_ := Kd.C_take (m := (x3_1 : Int).toNat) z12_ (by omega); have z15_ : y314.length = (x3_1 : Int).toNat := (by rw [Ny314.out, List.length_take]; omega); rw [← Ny314.out] at z14_; rw [← z15_] at z13_; have z16_ := Aside0.mk z14_; have z17_ := Aside0.mk (show y314.length ≤ c0 from by omega); clear z14_ z12_ z11_ z9_ z10_; have z18_ := Aside0.mk z15_; clear z15_; replace z7_ := eq_true z7_; have z19_ : 0 ≤ (x3_1 : Int) := oD; have z20_ : x3_1 < (l0.length : Int) := oD; obtain ⟨z21_, z22_, z23_, z24_⟩ := at_T80 HR0.out x3_1 z19_ z20_; obtain rfl : z3_ = z21_ := (by injection z22_); replace z19_ := eq_true z19_; replace z20_ := eq_true z20_) | (go_at_call 40; (with_reducible refine (pentaglotref06_Index.calls k1 _ _ y314 ((rd_T80 l0 x3_1).f0) t319 _ ?s1 z17_.out A9.out).mono ?_); (case s1 => exact Gc12); rintro e w' ⟨rfl, ⟨nd, rfl⟩⟩; (try first | exact ⟨rfl, _, World.drewN_drewN _ _ _⟩ | exact ⟨rfl, _, Eq.trans (World.drewN_drewN _ _ _) (congrArg (World.drewN _) (Nat.add_assoc _ _ _))⟩))))
  first
  | (have mk_ := mk0_
     go_roundg k1
     case measure => have := HK1.out; omega
     case rel => exact ⟨(wrap64 (x3_1 + 1)), tV1, H', ⟨by have := HK1.out; omega⟩, by repeat (first | exact Drawn0.refl _ | apply Drawn0.step)⟩)
  | (have mk_ := mk1_
     go_ret
     exact ⟨by first | rfl | (simp; done) | (simp [*]; done), by repeat (first | exact Drawn0.refl _ | apply Drawn0.step)⟩)) : p := h
set_option maxHeartbeats 8000000 in
set_option maxRecDepth 100000 in
theorem pentaglotref06_Proper.calls (k : Nat) (A0 : Option Addr) (c0 : Nat) (l0 : List (S80)) (r : Bool) (w : World) (hr0 : Kd.C k80 w A0 l0.length l0) (hc0 : l0.length ≤ c0) (h : pentaglotref06_Proper.f k l0 = some r) :
 Calls Tryd.prog 74 #[.slice A0 l0.length c0] w fun e w' => e = .returned (.bool r) ∧ Drawn0 w w' := by
 have HR0 := Aside0.mk hr0
 have HC0 := Aside0.mk hc0
 clear hr0 hc0
 have H : (if (l0.length : Int) > 65 then (some false) else (pentaglotref06_Proper.l0 k l0 0)) = some r := h
 clear h
 replace H := iF H; obtain ⟨c2, H⟩ | ⟨c2, H⟩ := H
 ·
  have c2b0 : decide (65 < (l0.length : Int)) = true := decide_eq_true c2
  have c2b1 : decide (65 < l0.length) = true := decide_eq_true (by omega)
  clear c2
  obtain rfl := Option.some.inj H
  go_enter Tryd.func74, Tryd.ntmps74
  exact LPrF74x1
 ·
  have c2b0 : decide (65 < (l0.length : Int)) = false := decide_eq_false c2
  have c2b1 : decide (65 < l0.length) = false := decide_eq_false (by omega)
  clear c2
  have H' := Aside0.mk H
  clear H
  go_enter Tryd.func74, Tryd.ntmps74
  go_wp2
  repeat (go_quiet (fail); try go_wp2)
  go_loopg [3] k (fun kq v3 w' => ∃ (x3_1 : Int), v3 = .int .i64 x3_1 ∧ Aside0 (pentaglotref06_Proper.l0 kq l0 x3_1 = some r) ∧ Aside0 (kq ≤ k) ∧ Drawn0 w w')
  case atStart => exact ⟨(0), tV1, H', ⟨Nat.le_refl _⟩, by repeat (first | exact Drawn0.refl _ | apply Drawn0.step)⟩
  case round =>
   clear H'; (try clear c2); (try clear c2b0); (try clear c2b1)
   obtain ⟨x3_1, rfl, HA, HK1, ⟨m1, rfl⟩⟩ := hrel
   cases gk with
   | zero => exact absurd HA.out (by simp [pentaglotref06_Proper.l0])
   | succ k1 =>
    have H := HA.out
    clear HA
    simp only [pentaglotref06_Proper.l0] at H
    replace H := iF H; obtain ⟨c3, H⟩ | ⟨c3, H⟩ := H
    ·
     have c3b0 : decide (x3_1 < (l0.length : Int)) = true := decide_eq_true c3
     clear c3
     replace H := iF H; obtain ⟨c4, H⟩ | ⟨c4, H⟩ := H
     ·
      have c4b0 : decide (0 ≤ x3_1) = true := decide_eq_true c4
      clear c4
      replace H := bI H; obtain ⟨t313, A5, H⟩ := H; (try dsimp only at H)
      replace H := iT H; obtain ⟨rfl, H⟩ | ⟨rfl, H⟩ := H
      ·
       have c7b0 := eq_true (oD : 0 ≤ x3_1)
       replace H := iF H; obtain ⟨c8, H⟩ | ⟨c8, H⟩ := H
       ·
        have c8b0 := eq_true c8
        have c8b1 : decide (x3_1 ≤ (l0.length : Int)) = true := decide_eq_true c8
        clear c8
        obtain ⟨y314, hy314⟩ : ∃ y_ : List (S80), y_ = (l0.take (x3_1 : Int).toNat) := ⟨_, rfl⟩
        replace H : ((pentaglotref06_Index.f k1 y314 ((rd_T80 l0 x3_1).f0)).bind fun t319 => (if t319 ≥ 0 then (some false) else (pentaglotref06_Proper.l0 k1 l0 (wrap64 (x3_1 + 1))))) = some r := by first | (rw [hy314]; with_reducible exact H) | (have H2_ := (Option.bind_some _ _).symm.trans H; rw [hy314]; with_reducible exact H2_) | (have H2_ := (Option.bind_some _ _).symm.trans H; with_reducible exact H2_) | with_reducible exact H | (rw [hy314]; exact H) | exact H
        have Ny314 := Aside0.mk hy314
        clear hy314
        replace H := bI H; obtain ⟨t319, A9, H⟩ := H; (try dsimp only at H)
        replace H := iF H; obtain ⟨c10, H⟩ | ⟨c10, H⟩ := H
        ·
         have c10b0 : decide (0 ≤ t319) = true := decide_eq_true c10
         clear c10
         obtain rfl := Option.some.inj H
         have mk1_ := trivial
         exact LPrF74xh1
        ·
         have c10b0 : decide (0 ≤ t319) = false := decide_eq_false c10
         clear c10
         have H' := Aside0.mk H
         clear H
         have mk0_ := trivial
         exact LPrF74xh1
       ·
        exact absurd H (by simp)
      ·
       obtain rfl := Option.some.inj H
       have p312 : 0 ≤ (x3_1 : Int) := oD
       have q312 : x3_1 < (l0.length : Int) := oD
       obtain ⟨ad312, e312, hx312_0, hx312_1⟩ := at_T80 HR0.out x3_1 p312 q312
       cases e312
       replace p312 := eq_true p312
       replace q312 := eq_true q312
       go_wp2_with (first | (go_at_call 84; (with_reducible refine (pentaglotref06_code.calls ((rd_T80 l0 x3_1).f0) false _ A5.out).mono ?_); rintro e w' ⟨rfl, ⟨nd, rfl⟩⟩; (try first | exact ⟨rfl, _, World.drewN_drewN _ _ _⟩ | exact ⟨rfl, _, Eq.trans (World.drewN_drewN _ _ _) (congrArg (World.drewN _) (Nat.add_assoc _ _ _))⟩)))
       repeat (go_quiet (first | (go_at_call 84; (with_reducible refine (pentaglotref06_code.calls ((rd_T80 l0 x3_1).f0) false _ A5.out).mono ?_); rintro e w' ⟨rfl, ⟨nd, rfl⟩⟩; (try first | exact ⟨rfl, _, World.drewN_drewN _ _ _⟩ | exact ⟨rfl, _, Eq.trans (World.drewN_drewN _ _ _) (congrArg (World.drewN _) (Nat.add_assoc _ _ _))⟩))); try go_wp2_with (first | (go_at_call 84; (with_reducible refine (pentaglotref06_code.calls ((rd_T80 l0 x3_1).f0) false _ A5.out).mono ?_); rintro e w' ⟨rfl, ⟨nd, rfl⟩⟩; (try first | exact ⟨rfl, _, World.drewN_drewN _ _ _⟩ | exact ⟨rfl, _, Eq.trans (World.drewN_drewN _ _ _) (congrArg (World.drewN _) (Nat.add_assoc _ _ _))⟩))))
       go_ret
       exact ⟨by first | rfl | (simp; done) | (simp [*]; done), by repeat (first | exact Drawn0.refl _ | apply Drawn0.step)⟩
     ·
      exact absurd H (by simp)
    ·
     have c3b0 : decide (x3_1 < (l0.length : Int)) = false := decide_eq_false c3
     clear c3
     obtain rfl := Option.some.inj H
     exact LPrF74x1
end Go.Proofs.YtfbhdjflkaldgaaDoor.Pr
