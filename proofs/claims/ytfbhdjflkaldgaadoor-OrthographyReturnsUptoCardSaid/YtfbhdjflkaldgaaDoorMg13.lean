/- Several texts in one: CloneL, PrF31, PrF29. -/
import Derived.Test.YtfbhdjflkaldgaaDoorMg1
import Derived.WalkKit
import Derived.Lib.Walk
import Derived.Lib.SliceRun
import Derived.Test.YtfbhdjflkaldgaaDoorCt
import Derived.Test.YtfbhdjflkaldgaaDoorMg2
import Derived.Test.YtfbhdjflkaldgaaDoorMg4
import Derived.Test.YtfbhdjflkaldgaaDoorMg3
import Derived.Test.YtfbhdjflkaldgaaDoorMg10
/- slices.Clone at letters: a new row of the same elements. -/
namespace Go.Proofs.YtfbhdjflkaldgaaDoor.Pr
open Go.RowKit Go.Proofs.YtfbhdjflkaldgaaDoorW.PrintWords Go.Proofs.YtfbhdjflkaldgaaDoorW.PrintLast Go.Proofs.YtfbhdjflkaldgaaDoorW.PrintMore
set_option linter.unusedVariables false
def api_Letter.f (l0 : List S80) : Option (List S80) := if l0.length * 8 ≤ 140737488355328 then some l0 else none
theorem LCloneLxh1 {p : Prop} (h : p := by
  have q : ∀ (w : World) (a : Option Addr) (n c n' c' : Nat), (binOp .eql 22 (.slice a n c) (.slice none n' c')).run Tryd.prog w = .ok (.bool a.isNone) w := fun w a n c n' c' => Lib.run_eql_slice_nil w _ _ a n c n' c' Tryd.underlying22
  go_enter Tryd.func50, Tryd.ntmps50
  first
  | (have mk_ := mk0_
     go_wp2_with ((with_reducible refine gate_builtin (b := .append) (xs := #[.tmp 5, .tmp 6]) rfl ?_); at_builtin; refine Kd.R_append_rows k80 (w0 := w) w.heap.size rfl (.tmp 5) (.tmp 6) 22 80 (.agg #[.int .i32 0, .int .u32 0]) 8 rfl Tryd.underlying22 info80 rfl (by decide) (by omega) (.slice (some ⟨w.heap.size, 0, none⟩) 0 0) [] l0 (some ad) l0.length c0 (fun _ => True) (fun _ => False) rfl rfl ?aO ?aR (fun _ _ h => h) (fun _ h => h.elim) ?aF ?aB ?aS ?aL ?_; (case aR => exact Kd.C_below HR.out HB.out); (case aF => exact fun _ _ => trivial); (case aB => exact HB.out); (case aO => exact HO.out); (case aS => exact HB.out.size); (case aL => have := HLn.out; simp only [List.length_nil]; omega); intro z1_ z2_ ho hb hg hat; have z3_ := Aside0.mk ho; have z4_ := Aside0.mk hb; clear ho hb hg hat)
     go_wp2
     go_ret
     exact ⟨_, rfl, z3_.out, z4_.out⟩)
  | (have mk_ := mk1_
     go_wp2
     go_ret
     exact ⟨_, rfl, Kd.R_nil _ _ _ _ _, Below.refl _ _⟩)) : p := h
set_option maxHeartbeats 1000000 in
set_option maxRecDepth 100000 in
theorem api_Letter.calls (A0 : Option Addr) (c0 : Nat) (l0 r : List S80) (w : World) (hr0 : Kd.C k80 w A0 l0.length l0) (hc0 : l0.length ≤ c0) (h : api_Letter.f l0 = some r) :
    Calls Tryd.prog 50 #[.slice A0 l0.length c0] w fun e w' => ∃ v0_ : Value, e = .returned v0_ ∧ Kd.R k80 80 w' w.heap.size (fun _ => True) v0_ r ∧ Below w.heap.size w w' := by
  unfold api_Letter.f at h
  by_cases hl : l0.length * 8 ≤ 140737488355328
  · rw [if_pos hl] at h
    obtain rfl := Option.some.inj h
    cases A0 with
    | none =>
      have hn : l0 = [] := by
        cases l0 with
        | nil => rfl
        | cons x xs => obtain ⟨ad, he, _⟩ := hr0.2.2 (by simp); cases he
      subst hn
      clear h hr0 hc0
      have mk1_ := trivial
      exact LCloneLxh1
    | some ad =>
      have HR := Aside0.mk hr0
      have HC := Aside0.mk hc0
      have HLn := Aside0.mk hl
      have HB := Aside0.mk ((Below.refl w.heap.size w).alloc (Nat.le_refl _) (.cells #[] 80))
      have HO : Kd.R k80 80 (w.alloc (.cells #[] 80)) w.heap.size (fun _ => True) (.slice (some ⟨w.heap.size, 0, none⟩) 0 0) [] := ⟨fun _ _ => trivial, [], World.ownsRow_made w #[] 0 (Nat.le_refl _) (Nat.zero_le _) (by simp), Reps.none _ _⟩
      have HO := Aside0.mk HO
      clear hr0 hc0 hl h
      have mk0_ := trivial
      exact LCloneLxh1
  · rw [if_neg hl] at h; cases h
end Go.Proofs.YtfbhdjflkaldgaaDoor.Pr

namespace Go.Proofs.YtfbhdjflkaldgaaDoor.Pr
open Go.Proofs.YtfbhdjflkaldgaaDoor.Ct Go.RowKit Go.Proofs.YtfbhdjflkaldgaaDoorW.PrintWords Go.Proofs.YtfbhdjflkaldgaaDoorW.PrintLast Go.Proofs.YtfbhdjflkaldgaaDoorW.PrintMore
attribute [local go_sem] max2_int min2_int max_two min_two max_three min_three max_four min_four
set_option linter.unusedVariables false
set_option linter.unusedSimpArgs false
def clitic_Extended.f (l0 : List (S80)) : Option ((List (S80))) := (api_Letter.f l0).bind fun t101 => (if t101.length < 17592186044416 then (some (t101 ++ [(⟨61, 2147483648⟩ : S80)])) else (none))
set_option maxHeartbeats 8000000 in
set_option maxRecDepth 100000 in
theorem clitic_Extended.calls (A0 : Option Addr) (c0 : Nat) (l0 : List (S80)) (r : List (S80)) (w : World) (hr0 : Kd.C k80 w A0 l0.length l0) (hc0 : l0.length ≤ c0) (h : clitic_Extended.f l0 = some r) :
 Calls Tryd.prog 31 #[.slice A0 l0.length c0] w fun e w' => ∃ v0_ : Value, e = .returned (v0_) ∧ Kd.R k80 80 w' w.heap.size (fun _ => True) v0_ r ∧ Below w.heap.size w w' := by
 have hu80 := Tryd.underlying80
 have HR0 := Aside0.mk hr0
 have HC0 := Aside0.mk hc0
 clear hr0 hc0
 have HB := Aside0.mk (Below.refl w.heap.size w)
 have H : ((api_Letter.f l0).bind fun t101 => (if t101.length < 17592186044416 then (some (t101 ++ [(⟨61, 2147483648⟩ : S80)])) else (none))) = some r := h
 clear h
 replace H := bI H; obtain ⟨t101, A2, H⟩ := H; (try dsimp only at H)
 replace H := iF H; obtain ⟨c3, H⟩ | ⟨c3, H⟩ := H
 ·
  have LMc3 := Aside0.mk c3
  clear c3
  obtain ⟨y104, hy104⟩ : ∃ y_ : List (S80), y_ = (t101 ++ [(⟨61, 2147483648⟩ : S80)]) := ⟨_, rfl⟩
  replace H : (some y104) = some r := by first | (rw [hy104]; with_reducible exact H) | (have H2_ := (Option.bind_some _ _).symm.trans H; rw [hy104]; with_reducible exact H2_) | (have H2_ := (Option.bind_some _ _).symm.trans H; with_reducible exact H2_) | with_reducible exact H | (rw [hy104]; exact H) | exact H
  have Ny104 := Aside0.mk hy104
  clear hy104
  obtain rfl := Option.some.inj H
  go_enter Tryd.func31, Tryd.ntmps31
  go_wp2_with (first | ((with_reducible refine gate_callee (f := 50) rfl ?_); refine goesL_ (some 4) rfl rfl Tryd.func50 (by kernel_rfl) rfl #[.slice A0 l0.length c0] rfl Gc2 ?_; (with_reducible refine (api_Letter.calls _ _ l0 t101 _ ?s1 HC0.out A2.out).mono ?_); (case s1 => exact Gc5); rintro e w4 ⟨v102, rfl, ho0, hb⟩; refine ⟨_, rfl, ?_⟩; have n0_ := Aside0.mk (Kd.R_lower ho0 (tS HB)); have n1_ := Aside0.mk (below_step (tB HB) hb); revert n0_ n1_; clear HB; intro HO103 HB; (try clear hb); (try clear hb2); (try clear hk); (try clear hi); (try clear ho0)) | ((with_reducible refine gate_builtin (b := .append) (xs := #[.tmp 4, .tmp 6]) rfl ?_); at_builtin; refine Kd.R_append k80 (w0 := w) w.heap.size rfl (.tmp 4) (.tmp 6) 22 80 (.agg #[(.int .i32 0), (.int .u32 0)]) 8 rfl Tryd.underlying22 info80 rfl (by decide) (by omega) v102 t101 (⟨61, 2147483648⟩ : S80) [.int .i32 61, .int .u32 2147483648] (fun _ => True) (fun _ => False) rfl rfl ?aP (fun _ hk => hk.elim) ?aF ?aO ?aB ?aS ?aL ?_; (case aP => exact k80_mkM _ _ _ (⟨61, 2147483648⟩ : S80)); (case aB => exact (tB HB)); (case aF => exact Gc22); (case aO => exact (dR HO103)); (case aS => exact (tS HB)); (case aL => have := LMc3.out; omega); intro v105 w5 ho hb hg hat; rw [← Ny104.out] at ho; have n0_ := Aside0.mk (hb); have n1_ := Aside0.mk (ho); revert n0_ n1_; clear HB HO103; intro HB HO106; clear ho hb hg hat))
  go_ret
  exact ⟨_, tE, by (with_reducible repeat (first | apply Kd.R_alloc | apply Kd.R_drewN | apply Kd.R_drew)); exact HO106.out, by repeat (first | (with_reducible first | exact HB.out | apply below_alloc | apply pw_below_drewN | apply below_drew1) | exact HB.out)⟩
 ·
  exact absurd H (by simp)
mutual
def clitic_Valid.j0 : Nat → List (S80) → List (S85) → Bool → Option (Bool)
 | 0, _, _, _ => none
 | k + 1, x0, x1, x20 => if x20 = true then (some false) else ((clitic_Extended.f x0).bind fun t119 => (clitic_Valid.l0 k t119 x1 (x1.length : Int) 0))
def clitic_Valid.l0 : Nat → List (S80) → List (S85) → Int → Int → Option (Bool)
 | 0, _, _, _, _ => none
 | k + 1, x5, x23, x24, x25 => if x25 < x24 then (if 0 ≤ x25 then (if x25 < (x23.length : Int) then (if ((rd_T85 x23 x25).f0) = 61 then (some false) else ((strings_IndexByte.f ((rd_T85 x23 x25).f1) 61).bind fun t124 => (if t124 ≥ 0 then (some false) else ((rewrite_Valid.f x5 ((rd_T85 x23 x25).f0) ((rd_T85 x23 x25).f1) ((rd_T85 x23 x25).f2) ((rd_T85 x23 x25).f3) ((rd_T85 x23 x25).f4) ((rd_T85 x23 x25).f5)).bind fun t125 => (if t125 = true then (clitic_Valid.l0 k x5 x23 x24 (wrap64 (x25 + 1))) else (some false)))))) else (none)) else (none)) else (some true)
end
def clitic_Valid.f (k : Nat) (l0 : List (S80)) (l1 : List (S85)) : Option (Bool) := (alphabet_Valid.f l0).bind fun t117 => (if t117 = true then ((alphabet_Index.f l0 61).bind fun t118 => (if t118 ≥ 0 then (clitic_Valid.j0 k l0 l1 true) else (clitic_Valid.j0 k l0 l1 (decide ((l1.length : Int) > 64))))) else (clitic_Valid.j0 k l0 l1 true))
theorem LPrF29x1 {p : Prop} (h : p := by
  exact ⟨tE, by repeat (first | (with_reducible first | exact HB.out | apply below_alloc | apply pw_below_drewN | apply below_drew1 | refine below_set ?_ GE123.out) | exact HB.out)⟩) : p := h
theorem LPrF29x2 {p : Prop} (h : p := by
  obtain rfl := Option.some.inj H
  go_wp2
  go_ret
  exact ⟨tE, by repeat (first | (with_reducible first | exact HB.out | apply below_alloc | apply pw_below_drewN | apply below_drew1) | exact HB.out)⟩) : p := h
set_option maxRecDepth 1000000 in
theorem LPrF29xh1 {p : Prop} (h : p := by
  have z1_ : 0 ≤ (x25_2 : Int) := oD
  have z2_ : x25_2 < (l1.length : Int) := oD
  obtain ⟨z3_, z4_, z5_, z6_, z7_, z8_, z9_, z10_, z11_, z12_, z13_, z14_, z15_, z16_, z17_, z18_⟩ := at_T85 HR1.out x25_2 z1_ z2_
  cases z8_
  replace z9_ := celB HB z9_
  replace z10_ := celB HB z10_
  replace z11_ := celB HB z11_
  replace z12_ := celB HB z12_
  replace z13_ := celB HB z13_
  replace z14_ := celB HB z14_
  have z19_ := Aside0.mk z16_
  have z20_ := Aside0.mk z15_
  clear z16_ z15_
  have z21_ := Aside0.mk z18_
  have z22_ := Aside0.mk z17_
  clear z18_ z17_
  replace z1_ := eq_true z1_
  replace z2_ := eq_true z2_
  first
  | (have mk_ := mk0_
     go_wp2_with (first | ((with_reducible refine gate_dst (N := 7) rfl ?_); (try (refine gate_guard (by rfl) ?_; dsimp only)); refine box_event ?hg (N := 7) ?hd (cs := #[.int .i32 0, .string (⟨#[]⟩ : ByteArray), .slice none 0 0, .slice none 0 0, .bool false, .bool false]) (t := 85) ?hr ?_; (case hd => rfl); (case hg => rfl); (case hr => exact Gc6); intro z23_ hg z24_ hbox hb; have z25_ := Aside0.mk (Kd.R_below (dR HO_5) hb); have z26_ := Aside0.mk (below_step (tB HB) hb); have z27_ := Aside0.mk (hbox); have z28_ := tZ hg (tS HB); have z29_ := tZ hg (tS HB); revert z25_ z26_ z27_ z28_ z29_; clear HO_5 HB; intro HO_5 HB z30_ z31_ z32_; clear hb hbox hg; have z33_ := cel2 z30_ 0 rfl; have z34_ := cel2 z30_ 1 rfl; have z35_ := cel2 z30_ 2 rfl; have z36_ := cel2 z30_ 3 rfl; have z37_ := cel2 z30_ 4 rfl; have z38_ := cel2 z30_ 5 rfl; have z39_ := blk_frozen z30_.out 0; have z40_ := blk_frozen z30_.out 1; have z41_ := blk_frozen z30_.out 2; have z42_ := blk_frozen z30_.out 3; have z43_ := blk_frozen z30_.out 4; have z44_ := blk_frozen z30_.out 5) | (go_at_call 47; (with_reducible refine (strings_IndexByte.calls ((rd_T85 l1 x25_2).f1) 61 t124 _ A22.out).mono ?_); rintro e w' ⟨rfl, ⟨nd, rfl⟩⟩; obtain ⟨z45_, z46_, z47_⟩ := Kd.R_slice HO_5.out; subst z47_) | (go_at_call 48; (with_reducible refine (rewrite_Valid.calls _ _ t119 ((rd_T85 l1 x25_2).f0) ((rd_T85 l1 x25_2).f1) _ _ ((rd_T85 l1 x25_2).f2) _ _ ((rd_T85 l1 x25_2).f3) ((rd_T85 l1 x25_2).f4) ((rd_T85 l1 x25_2).f5) true _ ?sT ?s1 ?s2 ?s3 z20_.out ?s5 z22_.out A26.out).mono ?_); (case sT => exact Gc1); (case s1 => refine (Kd.R_reads' (e := 80) (base := w.heap.size) (ok := fun k_ => True) (n := t119.length) (c := z46_) ?_).2.2; exact Gc4); (case s2 => exact (Kd.R_reads' HO_5.out).2.1); (case s3 => exact Kd.C_below z19_.out (tB HB)); (case s5 => exact Kd.C_below z21_.out (tB HB)); rintro e z48_ ⟨rfl, hb⟩; have z25_ := Aside0.mk (Kd.R_below Gc4 hb); have z26_ := Aside0.mk (blk_below (g := z23_) (o := .cells #[.int .i32 ((rd_T85 l1 x25_2).f0), .string ((rd_T85 l1 x25_2).f1), .slice z4_ ((rd_T85 l1 x25_2).f2).length z5_, .slice z6_ ((rd_T85 l1 x25_2).f3).length z7_, .bool ((rd_T85 l1 x25_2).f4), .bool ((rd_T85 l1 x25_2).f5)] 85 (0, 0)) (tKp z30_) hb); have z27_ := Aside0.mk (below_step (tB HB) hb); revert z25_ z26_ z27_; clear HO_5 z30_ HB; intro HO_5 z30_ HB; (try clear hb); (try clear hb2); (try clear hk); (try clear hi)))
     go_roundg k2
     case measure => have := HJ2.out; have := HK2.out; omega
     case rel => exact ⟨(wrap64 (x25_2 + 1)), tV1, H', ⟨by have := HJ2.out; have := HK2.out; omega⟩, ⟨dR HO_5⟩, ⟨tB HB⟩⟩)
  | (have mk_ := mk1_
     go_wp2_with (first | ((with_reducible refine gate_dst (N := 7) rfl ?_); (try (refine gate_guard (by rfl) ?_; dsimp only)); refine box_event ?hg (N := 7) ?hd (cs := #[.int .i32 0, .string (⟨#[]⟩ : ByteArray), .slice none 0 0, .slice none 0 0, .bool false, .bool false]) (t := 85) ?hr ?_; (case hd => rfl); (case hg => rfl); (case hr => exact Gc6); intro z23_ hg z24_ hbox hb; have z25_ := Aside0.mk (Kd.R_below (dR HO_5) hb); have z26_ := Aside0.mk (below_step (tB HB) hb); have z27_ := Aside0.mk (hbox); have z28_ := tZ hg (tS HB); have z29_ := tZ hg (tS HB); revert z25_ z26_ z27_ z28_ z29_; clear HO_5 HB; intro HO_5 HB z30_ z31_ GE123; clear hb hbox hg; have z32_ := cel2 z30_ 0 rfl; have z33_ := cel2 z30_ 1 rfl; have z34_ := cel2 z30_ 2 rfl; have z35_ := cel2 z30_ 3 rfl; have z36_ := cel2 z30_ 4 rfl; have z37_ := cel2 z30_ 5 rfl; have z38_ := blk_frozen z30_.out 0; have z39_ := blk_frozen z30_.out 1; have z40_ := blk_frozen z30_.out 2; have z41_ := blk_frozen z30_.out 3; have z42_ := blk_frozen z30_.out 4; have z43_ := blk_frozen z30_.out 5) | (go_at_call 47; (with_reducible refine (strings_IndexByte.calls ((rd_T85 l1 x25_2).f1) 61 t124 _ A22.out).mono ?_); rintro e w' ⟨rfl, ⟨nd, rfl⟩⟩; obtain ⟨z44_, z45_, z46_⟩ := Kd.R_slice HO_5.out; subst z46_) | (go_at_call 48; (with_reducible refine (rewrite_Valid.calls _ _ t119 ((rd_T85 l1 x25_2).f0) ((rd_T85 l1 x25_2).f1) _ _ ((rd_T85 l1 x25_2).f2) _ _ ((rd_T85 l1 x25_2).f3) ((rd_T85 l1 x25_2).f4) ((rd_T85 l1 x25_2).f5) false _ ?sT ?s1 ?s2 ?s3 z20_.out ?s5 z22_.out A26.out).mono ?_); (case sT => exact Gc1); (case s1 => refine (Kd.R_reads' (e := 80) (base := w.heap.size) (ok := fun k_ => True) (n := t119.length) (c := z45_) ?_).2.2; exact Gc4); (case s2 => exact (Kd.R_reads' HO_5.out).2.1); (case s3 => exact Kd.C_below z19_.out (tB HB)); (case s5 => exact Kd.C_below z21_.out (tB HB)); rintro e z47_ ⟨rfl, hb⟩; have z25_ := Aside0.mk (Kd.R_below Gc4 hb); have z26_ := Aside0.mk (blk_below (g := z23_) (o := .cells #[.int .i32 ((rd_T85 l1 x25_2).f0), .string ((rd_T85 l1 x25_2).f1), .slice z4_ ((rd_T85 l1 x25_2).f2).length z5_, .slice z6_ ((rd_T85 l1 x25_2).f3).length z7_, .bool ((rd_T85 l1 x25_2).f4), .bool ((rd_T85 l1 x25_2).f5)] 85 (0, 0)) (tKp z30_) hb); have z27_ := Aside0.mk (below_step (tB HB) hb); revert z25_ z26_ z27_; clear HO_5 z30_ HB; intro HO_5 z30_ HB; (try clear hb); (try clear hb2); (try clear hk); (try clear hi)))
     go_ret
     exact LPrF29x1)
  | (have mk_ := mk2_
     go_wp2_with (first | ((with_reducible refine gate_dst (N := 7) rfl ?_); (try (refine gate_guard (by rfl) ?_; dsimp only)); refine box_event ?hg (N := 7) ?hd (cs := #[.int .i32 0, .string (⟨#[]⟩ : ByteArray), .slice none 0 0, .slice none 0 0, .bool false, .bool false]) (t := 85) ?hr ?_; (case hd => rfl); (case hg => rfl); (case hr => exact Gc6); intro z23_ hg z24_ hbox hb; have z25_ := Aside0.mk (Kd.R_below (dR HO_5) hb); have z26_ := Aside0.mk (below_step (tB HB) hb); have z27_ := Aside0.mk (hbox); have z28_ := tZ hg (tS HB); have z29_ := tZ hg (tS HB); revert z25_ z26_ z27_ z28_ z29_; clear HO_5 HB; intro HO_5 HB z30_ z31_ GE123; clear hb hbox hg; have z32_ := cel2 z30_ 0 rfl; have z33_ := cel2 z30_ 1 rfl; have z34_ := cel2 z30_ 2 rfl; have z35_ := cel2 z30_ 3 rfl; have z36_ := cel2 z30_ 4 rfl; have z37_ := cel2 z30_ 5 rfl; have z38_ := blk_frozen z30_.out 0; have z39_ := blk_frozen z30_.out 1; have z40_ := blk_frozen z30_.out 2; have z41_ := blk_frozen z30_.out 3; have z42_ := blk_frozen z30_.out 4; have z43_ := blk_frozen z30_.out 5) | (go_at_call 47; (with_reducible refine (strings_IndexByte.calls ((rd_T85 l1 x25_2).f1) 61 t124 _ A22.out).mono ?_); rintro e w' ⟨rfl, ⟨nd, rfl⟩⟩))
     go_ret
     exact LPrF29x1)
  | (have mk_ := mk3_
     go_wp2_with (first | ((with_reducible refine gate_dst (N := 7) rfl ?_); (try (refine gate_guard (by rfl) ?_; dsimp only)); refine box_event ?hg (N := 7) ?hd (cs := #[.int .i32 0, .string (⟨#[]⟩ : ByteArray), .slice none 0 0, .slice none 0 0, .bool false, .bool false]) (t := 85) ?hr ?_; (case hd => rfl); (case hg => rfl); (case hr => exact Gc6); intro z23_ hg z24_ hbox hb; have z25_ := Aside0.mk (Kd.R_below (dR HO_5) hb); have z26_ := Aside0.mk (below_step (tB HB) hb); have z27_ := Aside0.mk (hbox); have z28_ := tZ hg (tS HB); have z29_ := tZ hg (tS HB); revert z25_ z26_ z27_ z28_ z29_; clear HO_5 HB; intro HO_5 HB z30_ z31_ GE123; clear hb hbox hg; have z32_ := cel2 z30_ 0 rfl; have z33_ := cel2 z30_ 1 rfl; have z34_ := cel2 z30_ 2 rfl; have z35_ := cel2 z30_ 3 rfl; have z36_ := cel2 z30_ 4 rfl; have z37_ := cel2 z30_ 5 rfl; have z38_ := blk_frozen z30_.out 0; have z39_ := blk_frozen z30_.out 1; have z40_ := blk_frozen z30_.out 2; have z41_ := blk_frozen z30_.out 3; have z42_ := blk_frozen z30_.out 4; have z43_ := blk_frozen z30_.out 5))
     go_ret
     exact LPrF29x1)) : p := h
theorem LPrF29xh2 {p : Prop} (h : p := by
  clear c7
  (first | rw [c7b0] | (simp only [i64_w, i32_w]; rw [c7b0]) | skip)
  have H' := Aside0.mk H
  clear H
  go_wp2_with (first | ((with_reducible refine gate_callee (f := 46) rfl ?_); refine goesL_ (some 9) rfl rfl Tryd.func46 (by kernel_rfl) rfl #[.slice A0 l0.length c0] rfl Gc2 ?_; (with_reducible refine (alphabet_Valid.calls _ _ l0 true _ (tC HR0 HB) HC0.out A4.out).mono ?_); rintro e z1_ ⟨rfl, hb⟩; refine ⟨_, rfl, ?_⟩; have z2_ := Aside0.mk (below_step (tB HB) hb); revert z2_; clear HB; intro HB; (try clear hb); (try clear hb2); (try clear hk); (try clear hi)) | (go_at_call 34; (with_reducible refine (alphabet_Index.calls _ _ l0 61 t118 _ (tC HR0 HB) HC0.out A6.out).mono ?_); rintro e z3_ ⟨rfl, hb⟩; have z2_ := Aside0.mk (below_step (tB HB) hb); revert z2_; clear HB; intro HB; (try clear hb); (try clear hb2); (try clear hk); (try clear hi)))
  go_meet
  first
  | (have mk_ := mk0_
     case rel => exact ⟨_, (decide ((l1.length : Int) > 64)), tV1, H', ⟨tU⟩, ⟨tB HB⟩⟩)
  | (have mk_ := mk1_
     case rel => exact ⟨_, (true), tV1, H', ⟨tU⟩, ⟨tB HB⟩⟩)) : p := h
set_option maxHeartbeats 8000000 in
set_option maxRecDepth 100000 in
theorem clitic_Valid.calls (k : Nat) (A0 : Option Addr) (c0 : Nat) (l0 : List (S80)) (A1 : Option Addr) (c1 : Nat) (l1 : List (S85)) (r : Bool) (w : World) (hT : Tabs w) (hr0 : Kd.C k80 w A0 l0.length l0) (hc0 : l0.length ≤ c0) (hr1 : Kd.C k85 w A1 l1.length l1) (hc1 : l1.length ≤ c1) (h : clitic_Valid.f k l0 l1 = some r) :
 Calls Tryd.prog 29 #[.slice A0 l0.length c0, .slice A1 l1.length c1] w fun e w' => e = .returned (.bool r) ∧ Below w.heap.size w w' := by
 have HT := Aside0.mk hT
 clear hT
 have hu85 := Tryd.underlying85
 have HR0 := Aside0.mk hr0
 have HC0 := Aside0.mk hc0
 clear hr0 hc0
 have HR1 := Aside0.mk hr1
 have HC1 := Aside0.mk hc1
 clear hr1 hc1
 have HB := Aside0.mk (Below.refl w.heap.size w)
 have H : ((alphabet_Valid.f l0).bind fun t117 => (if t117 = true then ((alphabet_Index.f l0 61).bind fun t118 => (if t118 ≥ 0 then (clitic_Valid.j0 k l0 l1 true) else (clitic_Valid.j0 k l0 l1 (decide ((l1.length : Int) > 64))))) else (clitic_Valid.j0 k l0 l1 true))) = some r := h
 clear h
 have HC3 := Aside0.mk H
 clear H
 go_enter Tryd.func29, Tryd.ntmps29
 go_upto_region 1 with (fail)
 go_cut [20] (fun v20 wc => ∃ (kq : Nat) (x20_2 : Bool), v20 = .bool x20_2 ∧ Aside0 (clitic_Valid.j0 kq l0 l1 x20_2 = some r) ∧ Aside0 (kq ≤ k) ∧ Aside0 (Below w.heap.size w wc))
 case first =>
  have H := HC3.out
  clear HC3
  replace H := bI H; obtain ⟨t117, A4, H⟩ := H; (try dsimp only at H)
  replace H := iT H; obtain ⟨rfl, H⟩ | ⟨rfl, H⟩ := H
  ·
   replace H := bI H; obtain ⟨t118, A6, H⟩ := H; (try dsimp only at H)
   replace H := iF H; obtain ⟨c7, H⟩ | ⟨c7, H⟩ := H
   ·
    have c7b0 : decide (0 ≤ t118) = true := decide_eq_true c7
    have mk1_ := trivial
    exact LPrF29xh2
   ·
    have c7b0 : decide (0 ≤ t118) = false := decide_eq_false c7
    have mk0_ := trivial
    exact LPrF29xh2
  ·
   have H' := Aside0.mk H
   clear H
   go_wp2_with (first | ((with_reducible refine gate_callee (f := 46) rfl ?_); refine goesL_ (some 9) rfl rfl Tryd.func46 (by kernel_rfl) rfl #[.slice A0 l0.length c0] rfl Gc2 ?_; (with_reducible refine (alphabet_Valid.calls _ _ l0 false _ (tC HR0 HB) HC0.out A4.out).mono ?_); rintro e w12 ⟨rfl, hb⟩; refine ⟨_, rfl, ?_⟩; have n0_ := Aside0.mk (below_step (tB HB) hb); revert n0_; clear HB; intro HB; (try clear hb); (try clear hb2); (try clear hk); (try clear hi)))
   go_meet
   case rel => exact ⟨_, (true), tV1, H', ⟨tU⟩, ⟨tB HB⟩⟩
 case rest =>
  clear HC3
  obtain ⟨kq, x20_2, rfl, HA, HJ2, HB⟩ := hcut
  cases kq with
  | zero => exact absurd HA.out (by simp [clitic_Valid.j0])
  | succ kj2 =>
   have H := HA.out
   clear HA
   simp only [clitic_Valid.j0] at H
   replace H := iT H; obtain ⟨rfl, H⟩ | ⟨rfl, H⟩ := H
   ·
    exact LPrF29x2
   ·
    replace H := bI H; obtain ⟨t119, A14, H⟩ := H; (try dsimp only at H)
    have H' := Aside0.mk H
    clear H
    go_wp2_with (first | ((with_reducible refine gate_callee (f := 31) rfl ?_); refine goesL_ (some 22) rfl rfl Tryd.func31 (by kernel_rfl) rfl #[.slice A0 l0.length c0] rfl Gc2 ?_; (with_reducible refine (clitic_Extended.calls _ _ l0 t119 _ (tC HR0 HB) HC0.out A14.out).mono ?_); rintro e w15 ⟨v120, rfl, ho0, hb⟩; refine ⟨_, rfl, ?_⟩; have n0_ := Aside0.mk (Kd.R_lower ho0 (tS HB)); have n1_ := Aside0.mk (below_step (tB HB) hb); revert n0_ n1_; clear HB; intro HO121 HB; (try clear hb); (try clear hb2); (try clear hk); (try clear hi); (try clear ho0)))
    go_loopg [25] kj2 (fun kq v25 w' => ∃ (x25_2 : Int), v25 = .int .i64 x25_2 ∧ Aside0 (clitic_Valid.l0 kq t119 l1 (l1.length : Int) x25_2 = some r) ∧ Aside0 (kq ≤ kj2) ∧ Aside0 (Kd.R k80 80 w' w.heap.size (fun _ => True) v120 t119) ∧ Aside0 (Below w.heap.size w w'))
    case atStart => exact ⟨(0), tV1, H', ⟨Nat.le_refl _⟩, ⟨dR HO121⟩, ⟨tB HB⟩⟩
    case round =>
     clear H'; (try clear c13)
     obtain ⟨x25_2, rfl, HA, HK2, HO_5, HB⟩ := hrel
     cases gk with
     | zero => exact absurd HA.out (by simp [clitic_Valid.l0])
     | succ k2 =>
      have H := HA.out
      clear HA
      simp only [clitic_Valid.l0] at H
      replace H := iF H; obtain ⟨c16, H⟩ | ⟨c16, H⟩ := H
      ·
       have c16b0 : decide (x25_2 < (l1.length : Int)) = true := decide_eq_true c16
       clear c16
       replace H := iF H; obtain ⟨c17, H⟩ | ⟨c17, H⟩ := H
       ·
        have c17b0 : decide (0 ≤ x25_2) = true := decide_eq_true c17
        clear c17
        replace H := iF H; obtain ⟨c18, H⟩ | ⟨c18, H⟩ := H
        ·
         have c18b0 : decide (x25_2 < (l1.length : Int)) = true := decide_eq_true c18
         clear c18
         replace H := iE H; obtain ⟨-, c19b0, c19b1, H⟩ | ⟨c19, c19b0, c19b1, H⟩ := H
         ·
          obtain rfl := Option.some.inj H
          have mk3_ := trivial
          exact LPrF29xh1
         ·
          replace H := bI H; obtain ⟨t124, A22, H⟩ := H; (try dsimp only at H)
          replace H := iF H; obtain ⟨c23, H⟩ | ⟨c23, H⟩ := H
          ·
           have c23b0 : decide (0 ≤ t124) = true := decide_eq_true c23
           clear c23
           obtain rfl := Option.some.inj H
           have mk2_ := trivial
           exact LPrF29xh1
          ·
           have c23b0 : decide (0 ≤ t124) = false := decide_eq_false c23
           clear c23
           replace H := bI H; obtain ⟨t125, A26, H⟩ := H; (try dsimp only at H)
           replace H := iT H; obtain ⟨rfl, H⟩ | ⟨rfl, H⟩ := H
           ·
            have H' := Aside0.mk H
            clear H
            have mk0_ := trivial
            exact LPrF29xh1
           ·
            obtain rfl := Option.some.inj H
            have mk1_ := trivial
            exact LPrF29xh1
        ·
         exact absurd H (by simp)
       ·
        exact absurd H (by simp)
      ·
       have c16b0 : decide (x25_2 < (l1.length : Int)) = false := decide_eq_false c16
       clear c16
       exact LPrF29x2
end Go.Proofs.YtfbhdjflkaldgaaDoor.Pr
