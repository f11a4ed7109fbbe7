-- Written by a program of this session (ownprint.py, over the kit's printer). Not trusted: Lean checks it.
import Derived.Test.YtfbfopfhfeijdaaPr0
import Derived.Test.YtfbfopfhfeijdaaCt
import Derived.Test.YtfbfopfhfeijdaaMg5
namespace Go.Proofs.Ytfbfopfhfeijdaa.Pr
open Go.Proofs.Ytfbfopfhfeijdaa.Ct Go.RowKit Go.Proofs.YtfbfopfhfeijdaaW.PrintWords Go.Proofs.YtfbfopfhfeijdaaW.PrintLast Go.Proofs.YtfbfopfhfeijdaaW.PrintMore
attribute [local go_sem] max2_int min2_int max_two min_two max_three min_three max_four min_four   -- for this text's walks alone
set_option linter.unusedVariables false
set_option linter.unusedSimpArgs false

/-! ### concrete_copiedCategory: function 44 -/
def concrete_copiedCategory.l0 : Nat → List (S90) → Int → Int → ByteArray → List (S90) → List ByteArray → Option (ByteArray × (List (S90)) × List ByteArray)
 | 0, _, _, _, _, _, _ => none
 | k + 1, x14, x15, x16, x340000, x340001, x340002 => if x16 < x15 then (if 0 ≤ x16 then (if x16 < (x14.length : Int) then ((slices_Clone_string_string.f ((rd_T90 x14 x16).f1)).bind fun t342 => ((slices_Clip_string_string.f t342).bind fun t345 => (if x340001.length < 3518437208883 then (concrete_copiedCategory.l0 k x14 x15 (wrap64 (x16 + 1)) x340000 (x340001 ++ [(⟨(rd_T90 x14 x16).f0, t345⟩ : S90)]) x340002) else (none)))) else (none)) else (none)) else (some (x340000, x340001, x340002))
def concrete_copiedCategory.f (k : Nat) (a0_0 : ByteArray) (l0_1 : List (S90)) (l0_2 : List ByteArray) : Option (ByteArray × (List (S90)) × List ByteArray) := (slices_Clone_string_string.f l0_2).bind fun t333 => ((slices_Clip_string_string.f t333).bind fun t336 => (concrete_copiedCategory.l0 k l0_1 (l0_1.length : Int) 0 a0_0 ([] : List (S90)) t336))
def concrete_copiedCategory.T1 : Bool × List (List Nat × List Nat) := (true, [([], []), ([0], [0]), ([], []), ([2], [2]), ([3], [3]), ([4, 4], [4]), ([1, 5], [1, 5]), ([], []), ([7, 6, 5, 0, 1, 2, 3, 4, 5, 6, 7], [6, 7])])
def concrete_copiedCategory.B1 : List Nat := [0, 1, 0, 4, 12, 28, 63, 0, 255]
theorem concrete_copiedCategory.tab1 : rtab .any (opsOf Try.f44 1) = concrete_copiedCategory.T1 := by kernel_rfl
theorem concrete_copiedCategory.bits1 : waitsOk concrete_copiedCategory.T1.2 concrete_copiedCategory.B1 = true := by kernel_rfl
def concrete_copiedCategory.T5 : Bool × List (List Nat × List Nat) := (true, [([], []), ([0], [0]), ([], []), ([2], [2]), ([], []), ([4], [4]), ([5], [5]), ([6, 6], [6]), ([3, 7], [3, 7]), ([8], [8]), ([1, 9, 7], [1, 9]), ([0, 1, 2, 3, 4, 5, 6, 7, 8, 9, 10], []), ([11, 10, 10, 0, 1, 2, 3, 4, 5, 6, 7, 8, 9, 10], [10, 11])])
def concrete_copiedCategory.B5 : List Nat := [0, 1, 0, 4, 0, 16, 48, 112, 252, 508, 1023, 2047, 4095]
theorem concrete_copiedCategory.tab5 : rtab .any (opsOf Try.f44 5) = concrete_copiedCategory.T5 := by kernel_rfl
theorem concrete_copiedCategory.bits5 : waitsOk concrete_copiedCategory.T5.2 concrete_copiedCategory.B5 = true := by kernel_rfl
set_option maxHeartbeats 8000000 in
set_option maxRecDepth 100000 in
theorem concrete_copiedCategory.calls (k : Nat) (a0_0 : ByteArray) (A0_1 : Option Addr) (c0_1 : Nat) (l0_1 : List (S90)) (A0_2 : Option Addr) (c0_2 : Nat) (l0_2 : List ByteArray) (r1 : ByteArray) (r2 : List (S90)) (r3 : List ByteArray) (w : World) (hr0_1 : Kd.C k90 w A0_1 l0_1.length l0_1) (hc0_1 : l0_1.length ≤ c0_1) (hr0_2 : Kd.C Kd.string w A0_2 l0_2.length l0_2) (hc0_2 : l0_2.length ≤ c0_2) (h : concrete_copiedCategory.f k a0_0 l0_1 l0_2 = some (r1, r2, r3)) :
 Calls Try.prog 44 #[.agg #[.string a0_0, .slice A0_1 l0_1.length c0_1, .slice A0_2 l0_2.length c0_2]] w fun e w' => ∃ v1_ v2_ : Value, e = .returned (.agg #[.string r1, v1_, v2_]) ∧ Kd.N k90 90 w' w.heap.size (fun k_ => (w.heap.size ≤ k_)) v1_ r2 ∧ Kd.V Kd.string 9 w' w.heap.size (fun k_ => (w.heap.size ≤ k_) ∧ some k_ ≠ (v1_ : Value).ownBlock) v2_ r3 ∧ Below w.heap.size w w' := by
 have hu68 := Try.underlying68
 have hu90 := Try.underlying90
 have HR0_1 := Aside0.mk hr0_1
 have HC0_1 := Aside0.mk hc0_1
 clear hr0_1 hc0_1
 have HR0_2 := Aside0.mk hr0_2
 have HC0_2 := Aside0.mk hc0_2
 clear hr0_2 hc0_2
 have HB := Aside0.mk (Below.refl w.heap.size w)
 have H : ((slices_Clone_string_string.f l0_2).bind fun t333 => ((slices_Clip_string_string.f t333).bind fun t336 => (concrete_copiedCategory.l0 k l0_1 (l0_1.length : Int) 0 a0_0 ([] : List (S90)) t336))) = some (r1, r2, r3) := h
 clear h
 replace H := Option.bind_eq_some_iff.mp H
 obtain ⟨t333, A20, H⟩ := H
 (try dsimp only at H)
 have A2 := Aside0.mk A20
 clear A20
 replace H := Option.bind_eq_some_iff.mp H
 obtain ⟨t336, A30, H⟩ := H
 (try dsimp only at H)
 have A3 := Aside0.mk A30
 clear A30
 have H' := Aside0.mk H
 clear H
 go_enter Try.func44, Try.ntmps44
 try go_wp2_with (first | ((with_reducible refine gate_dst (N := 1) rfl ?_); refine box_event ?hg (N := 1) ?hd (cs := #[.string a0_0, .slice A0_1 l0_1.length c0_1, .slice A0_2 l0_2.length c0_2]) (t := 68) ?hr ?_; (case hd => rfl); (case hg => rfl); (case hr => first | (go_simp; done) | (go_simp; rfl)); intro gb331 hg w4 hbox hb; have n0_ := Aside0.mk (below_step (tB HB) hb); have n1_ := Aside0.mk (hbox); have n2_ := tZ hg (tS HB); have n3_ := tZ hg (tS HB); revert n0_ n1_ n2_ n3_; clear HB; intro HB BK331 GW331 GE331; clear hb hbox hg) | ((with_reducible refine gate_dst (N := 2) rfl ?_); refine box_event ?hg (N := 2) ?hd (cs := #[.string (⟨#[]⟩ : ByteArray), .slice none 0 0, .slice none 0 0]) (t := 68) ?hr ?_; (case hd => rfl); (case hg => rfl); (case hr => first | (go_simp; done) | (go_simp; rfl)); intro gb332 hg w5 hbox hb; have n0_ := Aside0.mk (blk_below (tK BK331) hb); have n1_ := Aside0.mk (below_step (tB HB) hb); have n2_ := Aside0.mk (hbox); have n3_ := tZ hg (tS HB); have n4_ := tZ hg (tS HB); have n5_ := tL hg (tK BK331); have n6_ := tG hg (tK BK331); revert n0_ n1_ n2_ n3_ n4_ n5_ n6_; clear BK331 HB; intro BK331 HB BK332 GW332 GE332 NB331_332 NB332_331; clear hb hbox hg))
 have n0_ := Aside0.mk (blk_drew BK331.out)
 have n1_ := Aside0.mk (blk_drew BK332.out)
 have n2_ := Aside0.mk (below_drew1 HB.out)
 revert n0_ n1_ n2_
 clear BK331 BK332 HB
 intro BK331 BK332 HB
 refine start_ (n := 9) (S := fun w' => w'.cell? ⟨gb331, 0, none⟩ = some (.string a0_0) ∧ w'.cell? ⟨gb331, 1, none⟩ = some (.slice A0_1 l0_1.length c0_1) ∧ w'.cell? ⟨gb331, 2, none⟩ = some (.slice A0_2 l0_2.length c0_2)) (ds := []) #[false, false, false, false, false, false, false, false, false] (by kernel_rfl) rfl rfl ⟨(blk_cell BK331.out 0).trans rfl, (blk_cell BK331.out 1).trans rfl, (blk_cell BK331.out 2).trans rfl⟩ (fun hHeld => ?_); refine with_tabW concrete_copiedCategory.tab1 concrete_copiedCategory.bits1 (fun HT_ HW_ => ?_)
 generalize w5.drew = w6 at BK331 BK332 HB hHeld ⊢
 refine pure_ (i := 0) (N := some 6) (v := ?_) (a' := ?_) #[true, false, false, false, false, false, false, false, false] rfl rfl (any_of HT_.out (by kernel_rfl)) (fun _ _ _ h => h) (Or.inl ⟨by rfl, ?_⟩) ?_ ?_
 rotate_left
 ·
  intro w'
  go_simp
  with_reducible rfl
 rotate_left
 ·
  simp only [Act.put, List.setIfInBounds_toArray, List.set_cons_zero, List.set_cons_succ, i64_w, i32_w]
  rfl
 refine pure_ (i := 2) (N := some 8) (v := ?_) (a' := ?_) #[true, false, true, false, false, false, false, false, false] rfl rfl (any_of HT_.out (by kernel_rfl)) (fun _ _ _ h => h) (Or.inl ⟨by rfl, ?_⟩) ?_ ?_
 rotate_left
 ·
  intro w'
  go_simp
  with_reducible rfl
 rotate_left
 ·
  simp only [Act.put, List.setIfInBounds_toArray, List.set_cons_zero, List.set_cons_succ, i64_w, i32_w]
  rfl
 refine take_ (i := 1) (N := some 7) (v := ?_) (a' := ?_) #[true, true, true, false, false, false, false, false, false] rfl rfl (take_ofW HT_.out HW_.out (by kernel_rfl)) (fun _ _ _ h => h) (Or.inl ⟨by rfl, ?_⟩) hHeld ?_ ?_
 rotate_left
 ·
  rintro w' ⟨s0, s1, s2⟩
  go_simp
  with_reducible rfl
 rotate_left
 ·
  simp only [Act.put, List.setIfInBounds_toArray, List.set_cons_zero, List.set_cons_succ, i64_w, i32_w]
  rfl
 refine take_ (i := 3) (N := some 9) (v := ?_) (a' := ?_) #[true, true, true, true, false, false, false, false, false] rfl rfl (take_ofW HT_.out HW_.out (by kernel_rfl)) (fun _ _ _ h => h) (Or.inl ⟨by rfl, ?_⟩) hHeld ?_ ?_
 rotate_left
 ·
  rintro w' ⟨s0, s1, s2⟩
  go_simp
  with_reducible rfl
 rotate_left
 ·
  simp only [Act.put, List.setIfInBounds_toArray, List.set_cons_zero, List.set_cons_succ, i64_w, i32_w]
  rfl
 refine join_ (σ := Value × Value × Nat) 1 #[true, true, true, true, true, true, true, true, false] (fun s_ => [(10, s_.1), (11, s_.2.1), (3, .pointer (some ⟨s_.2.2, 0, none⟩)), (12, .agg #[.string a0_0, .slice none 0 0, s_.2.1])]) (fun s_ w' => (w'.cell? ⟨gb331, 0, none⟩ = some (.string a0_0) ∧ w'.cell? ⟨gb331, 1, none⟩ = some (.slice A0_1 l0_1.length c0_1) ∧ w'.cell? ⟨gb331, 2, none⟩ = some (.slice A0_2 l0_2.length c0_2)) ∧ (Kd.R Kd.string 9 w' w.heap.size (fun k_ => (w.heap.size ≤ k_)) s_.1 t333) ∧ (Kd.V Kd.string 9 w' w.heap.size (fun k_ => (w.heap.size ≤ k_) ∧ k_ ≠ gb331 ∧ k_ ≠ gb332 ∧ k_ ≠ s_.2.2) s_.2.1 t336) ∧ (w'.heap[gb331]? = some (.cells #[.string a0_0, .slice A0_1 l0_1.length c0_1, .slice A0_2 l0_2.length c0_2] 68 (0, 0))) ∧ (w'.heap[gb332]? = some (.cells #[.string (⟨#[]⟩ : ByteArray), .slice none 0 0, .slice none 0 0] 68 (0, 0))) ∧ (w'.heap[s_.2.2]? = some (.cells #[.string (⟨#[]⟩ : ByteArray), .slice none 0 0, .slice none 0 0] 68 (0, 0))) ∧ (w.heap.size ≤ s_.2.2) ∧ (w.heap.size ≤ s_.2.2) ∧ (gb331 ≠ s_.2.2) ∧ (s_.2.2 ≠ gb331) ∧ (gb332 ≠ s_.2.2) ∧ (s_.2.2 ≠ gb332) ∧ (Below w.heap.size w w')) ?_ ?_
 rotate_left
 ·
  intro hCont
  refine two_ (i := 4) (j := 7) (Ni := some 10) (Nj := some 3) #[true, true, true, true, true, false, false, false, false] #[true, true, true, true, false, false, false, true, false] rfl rfl rfl rfl (two_of HT_.out (by kernel_rfl)) (by decide) (by decide) (fun K hK => ?_) (fun K hK => ?_)
  ·
   skip
   refine goes_ Try.func59 (by kernel_rfl) rfl #[.slice A0_2 l0_2.length c0_2] (by rfl) rfl rfl (by (try simp only [List.map_toArray, List.map_cons, List.map_nil]); first | done | rfl | (simp only [List.length_drop, List.length_take]; rfl)) ?_
   with_reducible refine (slices_Clone_string_string.calls _ _ l0_2 t333 _ ?s1 ?s2 A2.out).mono ?_
   (case s1 => exact tC HR0_2 HB)
   (case s2 => exact HC0_2.out)
   rintro e w7 ⟨v334, rfl, ho0, hb⟩
   refine ⟨_, rfl, ?_⟩
   have n0_ := Aside0.mk (Kd.R_lower (Kd.R_newM (M := fun k_ => (w.heap.size ≤ k_)) ho0 (tS HB) (fun k_ h_ => h_)) (tS HB))
   have n1_ := Aside0.mk (blk_below (tK BK331) hb)
   have n2_ := Aside0.mk (blk_below (tK BK332) hb)
   have n3_ := Aside0.mk (below_step (tB HB) hb)
   revert n0_ n1_ n2_ n3_
   clear BK331 BK332 HB
   intro HO335 BK331 BK332 HB
   (try clear hb); (try clear ho0)
   obtain ⟨Ao8, co8, eo8⟩ := Kd.R_slice HO335.out
   (first | subst eo8 | (injection eo8 with f1_ f2_ f3_; have f4_ := f1_.symm; have f5_ := f3_.symm; clear f1_ f2_ f3_; subst f4_; subst f5_))
   refine hK.out _ _ ⟨(blk_cell BK331.out 0).trans rfl, (blk_cell BK331.out 1).trans rfl, (blk_cell BK331.out 2).trans rfl⟩ (fun hHeld => ?_)
   clear hK K
   refine norm_ (a' := ?_) ?_ ?_
   rotate_left
   ·
    show Act.put _ (some 10) _ = _
    simp only [Act.put, List.setIfInBounds_toArray, List.set_cons_zero, List.set_cons_succ, i64_w, i32_w]
    rfl
   refine two_ (i := 5) (j := 7) (Ni := some 11) (Nj := some 3) #[true, true, true, true, true, true, false, false, false] #[true, true, true, true, true, false, false, true, false] rfl rfl rfl rfl (two_of HT_.out (by kernel_rfl)) (by decide) (by decide) (fun K hK => ?_) (fun K hK => ?_)
   ·
    skip
    refine goes_ Try.func58 (by kernel_rfl) rfl #[.slice Ao8 t333.length co8] (by rfl) rfl rfl (by (try simp only [List.map_toArray, List.map_cons, List.map_nil]); first | done | rfl | (simp only [List.length_drop, List.length_take]; rfl)) ?_
    with_reducible refine (slices_Clip_string_string.calls (fun k_ => some k_ = (.slice Ao8 t333.length co8 : Value).ownBlock) _ _ t333 t336 _ ?s1 A3.out).mono ?_
    (case s1 => exact Kd.R_V (Kd.R_tight rfl (Kd.R_types (Kd.R_types (HO335.out) BK331.out (by decide)) BK332.out (by decide))))
    rintro e w9 ⟨v337, rfl, ho0, hb⟩
    refine ⟨_, rfl, ?_⟩
    have n0_ := Aside0.mk (Kd.R_below (dR HO335) hb)
    have n1_ := Aside0.mk (Kd.V_lower (Kd.V_mono (ok' := fun k_ => (w.heap.size ≤ k_) ∧ k_ ≠ gb331 ∧ k_ ≠ gb332) ho0 (fun k_ hk_ => ⟨Or.elim hk_ (fun hs_ => ((Kd.R_types (Kd.R_types (HO335.out) BK331.out (by decide)) BK332.out (by decide)).1 k_ hs_.symm).1.1.1) (fun hn_ => (Nat.le_trans (tS HB) hn_)), Or.elim hk_ (fun hs_ => ((Kd.R_types (Kd.R_types (HO335.out) BK331.out (by decide)) BK332.out (by decide)).1 k_ hs_.symm).1.2) (fun hn_ => (Kd.freshB (tK BK331) k_ hn_)), Or.elim hk_ (fun hs_ => ((Kd.R_types (Kd.R_types (HO335.out) BK331.out (by decide)) BK332.out (by decide)).1 k_ hs_.symm).2) (fun hn_ => (Kd.freshB (tK BK332) k_ hn_))⟩)) (tS HB))
    have n2_ := Aside0.mk (blk_below (tK BK331) hb)
    have n3_ := Aside0.mk (blk_below (tK BK332) hb)
    have n4_ := Aside0.mk (below_step (tB HB) hb)
    revert n0_ n1_ n2_ n3_ n4_
    clear HO335 BK331 BK332 HB
    intro HO335 HO338 BK331 BK332 HB
    (try clear hb); (try clear ho0)
    obtain ⟨Ao10, co10, eo10⟩ := Kd.V_slice HO338.out
    (first | subst eo10 | (injection eo10 with f1_ f2_ f3_; have f4_ := f1_.symm; have f5_ := f3_.symm; clear f1_ f2_ f3_; subst f4_; subst f5_))
    refine hK.out _ _ ⟨(blk_cell BK331.out 0).trans rfl, (blk_cell BK331.out 1).trans rfl, (blk_cell BK331.out 2).trans rfl⟩ (fun hHeld => ?_)
    clear hK K
    refine norm_ (a' := ?_) ?_ ?_
    rotate_left
    ·
     show Act.put _ (some 11) _ = _
     simp only [Act.put, List.setIfInBounds_toArray, List.set_cons_zero, List.set_cons_succ, i64_w, i32_w]
     rfl
    refine pure_ (i := 6) (N := some 12) (v := ?_) (a' := ?_) #[true, true, true, true, true, true, true, false, false] rfl rfl (any_of HT_.out (by kernel_rfl)) (fun _ _ _ h => h) (Or.inl ⟨by rfl, ?_⟩) ?_ ?_
    rotate_left
    ·
     intro w'
     go_simp
     with_reducible rfl
    rotate_left
    ·
     simp only [Act.put, List.setIfInBounds_toArray, List.set_cons_zero, List.set_cons_succ, i64_w, i32_w]
     rfl
    refine one_ (i := 7) (N := some 3) #[true, true, true, true, true, true, true, true, false] rfl rfl (one_of HT_.out (by kernel_rfl)) (by decide) (fun K hK => ?_)
    refine box_step ?hg (N := 3) ?hd (cs := #[.string (⟨#[]⟩ : ByteArray), .slice none 0 0, .slice none 0 0]) (t := 68) ?hr ?_; (case hd => rfl); (case hg => rfl); (case hr => first | (go_simp; done) | (go_simp; rfl))
    intro gb339 hg w11 hbox hb
    have n0_ := Aside0.mk (Kd.R_below (dR HO335) hb)
    have n1_ := Aside0.mk (Kd.V_below (Kd.V_elderB (dV HO338) gb339 (Nat.le_of_eq hg.symm)) hb)
    have n2_ := Aside0.mk (blk_below (tK BK331) hb)
    have n3_ := Aside0.mk (blk_below (tK BK332) hb)
    have n4_ := Aside0.mk (below_step (tB HB) hb)
    have n5_ := Aside0.mk (hbox)
    have n6_ := tZ hg (tS HB)
    have n7_ := tZ hg (tS HB)
    have n8_ := tL hg (tK BK331)
    have n9_ := tG hg (tK BK331)
    have n10_ := tL hg (tK BK332)
    have n11_ := tG hg (tK BK332)
    revert n0_ n1_ n2_ n3_ n4_ n5_ n6_ n7_ n8_ n9_ n10_ n11_
    clear HO335 HO338 BK331 BK332 HB
    intro HO335 HO338 BK331 BK332 HB BK339 GW339 GE339 NB331_339 NB339_331 NB332_339 NB339_332
    clear hb hbox hg
    refine hK.out _ _ ⟨(blk_cell BK331.out 0).trans rfl, (blk_cell BK331.out 1).trans rfl, (blk_cell BK331.out 2).trans rfl⟩ (fun hHeld => ?_)
    clear hK K
    refine norm_ (a' := ?_) ?_ ?_
    rotate_left
    ·
     show Act.put _ (some 3) _ = _
     simp only [Act.put, List.setIfInBounds_toArray, List.set_cons_zero, List.set_cons_succ, i64_w, i32_w]
     rfl
    exact norm_ (by simp only [putAll, Act.put, List.setIfInBounds_toArray, List.set_cons_zero, List.set_cons_succ]) (hCont (.slice Ao8 t333.length co8, .slice Ao10 t336.length co10, gb339) _ ⟨hHeld, (dR HO335), (dV HO338), (tK BK331), (tK BK332), (tK BK339), GW339.out, GE339.out, NB331_339.out, NB339_331.out, NB332_339.out, NB339_332.out, (tB HB)⟩)
   ·
    skip
    refine box_step ?hg (N := 3) ?hd (cs := #[.string (⟨#[]⟩ : ByteArray), .slice none 0 0, .slice none 0 0]) (t := 68) ?hr ?_; (case hd => rfl); (case hg => rfl); (case hr => first | (go_simp; done) | (go_simp; rfl))
    intro gb339 hg w8 hbox hb
    have n0_ := Aside0.mk (Kd.R_below (dR HO335) hb)
    have n1_ := Aside0.mk (blk_below (tK BK331) hb)
    have n2_ := Aside0.mk (blk_below (tK BK332) hb)
    have n3_ := Aside0.mk (below_step (tB HB) hb)
    have n4_ := Aside0.mk (hbox)
    have n5_ := tZ hg (tS HB)
    have n6_ := tZ hg (tS HB)
    have n7_ := tL hg (tK BK331)
    have n8_ := tG hg (tK BK331)
    have n9_ := tL hg (tK BK332)
    have n10_ := tG hg (tK BK332)
    revert n0_ n1_ n2_ n3_ n4_ n5_ n6_ n7_ n8_ n9_ n10_
    clear HO335 BK331 BK332 HB
    intro HO335 BK331 BK332 HB BK339 GW339 GE339 NB331_339 NB339_331 NB332_339 NB339_332
    clear hb hbox hg
    obtain ⟨Ao9, co9, eo9⟩ := Kd.R_slice HO335.out
    (first | subst eo9 | (injection eo9 with f1_ f2_ f3_; have f4_ := f1_.symm; have f5_ := f3_.symm; clear f1_ f2_ f3_; subst f4_; subst f5_))
    refine hK.out _ _ ⟨(blk_cell BK331.out 0).trans rfl, (blk_cell BK331.out 1).trans rfl, (blk_cell BK331.out 2).trans rfl⟩ (fun hHeld => ?_)
    clear hK K
    refine norm_ (a' := ?_) ?_ ?_
    rotate_left
    ·
     show Act.put _ (some 3) _ = _
     simp only [Act.put, List.setIfInBounds_toArray, List.set_cons_zero, List.set_cons_succ, i64_w, i32_w]
     rfl
    refine one_ (i := 5) (N := some 11) #[true, true, true, true, true, true, false, true, false] rfl rfl (one_of HT_.out (by kernel_rfl)) (by decide) (fun K hK => ?_)
    refine goes_ Try.func58 (by kernel_rfl) rfl #[.slice Ao9 t333.length co9] (by rfl) rfl rfl (by (try simp only [List.map_toArray, List.map_cons, List.map_nil]); first | done | rfl | (simp only [List.length_drop, List.length_take]; rfl)) ?_
    with_reducible refine (slices_Clip_string_string.calls (fun k_ => some k_ = (.slice Ao9 t333.length co9 : Value).ownBlock) _ _ t333 t336 _ ?s1 A3.out).mono ?_
    (case s1 => exact Kd.R_V (Kd.R_tight rfl (Kd.R_types (Kd.R_types (Kd.R_types (HO335.out) BK331.out (by decide)) BK332.out (by decide)) BK339.out (by decide))))
    rintro e w10 ⟨v337, rfl, ho0, hb⟩
    refine ⟨_, rfl, ?_⟩
    have n0_ := Aside0.mk (Kd.R_below (dR HO335) hb)
    have n1_ := Aside0.mk (Kd.V_lower (Kd.V_mono (ok' := fun k_ => (w.heap.size ≤ k_) ∧ k_ ≠ gb331 ∧ k_ ≠ gb332 ∧ k_ ≠ gb339) ho0 (fun k_ hk_ => ⟨Or.elim hk_ (fun hs_ => ((Kd.R_types (Kd.R_types (Kd.R_types (HO335.out) BK331.out (by decide)) BK332.out (by decide)) BK339.out (by decide)).1 k_ hs_.symm).1.1.1.1) (fun hn_ => (Nat.le_trans (tS HB) hn_)), Or.elim hk_ (fun hs_ => ((Kd.R_types (Kd.R_types (Kd.R_types (HO335.out) BK331.out (by decide)) BK332.out (by decide)) BK339.out (by decide)).1 k_ hs_.symm).1.1.2) (fun hn_ => (Kd.freshB (tK BK331) k_ hn_)), Or.elim hk_ (fun hs_ => ((Kd.R_types (Kd.R_types (Kd.R_types (HO335.out) BK331.out (by decide)) BK332.out (by decide)) BK339.out (by decide)).1 k_ hs_.symm).1.2) (fun hn_ => (Kd.freshB (tK BK332) k_ hn_)), Or.elim hk_ (fun hs_ => ((Kd.R_types (Kd.R_types (Kd.R_types (HO335.out) BK331.out (by decide)) BK332.out (by decide)) BK339.out (by decide)).1 k_ hs_.symm).2) (fun hn_ => (Kd.freshB (tK BK339) k_ hn_))⟩)) (tS HB))
    have n2_ := Aside0.mk (blk_below (tK BK331) hb)
    have n3_ := Aside0.mk (blk_below (tK BK332) hb)
    have n4_ := Aside0.mk (blk_below (tK BK339) hb)
    have n5_ := Aside0.mk (below_step (tB HB) hb)
    revert n0_ n1_ n2_ n3_ n4_ n5_
    clear HO335 BK331 BK332 BK339 HB
    intro HO335 HO338 BK331 BK332 BK339 HB
    (try clear hb); (try clear ho0)
    obtain ⟨Ao11, co11, eo11⟩ := Kd.V_slice HO338.out
    (first | subst eo11 | (injection eo11 with f1_ f2_ f3_; have f4_ := f1_.symm; have f5_ := f3_.symm; clear f1_ f2_ f3_; subst f4_; subst f5_))
    refine hK.out _ _ ⟨(blk_cell BK331.out 0).trans rfl, (blk_cell BK331.out 1).trans rfl, (blk_cell BK331.out 2).trans rfl⟩ (fun hHeld => ?_)
    clear hK K
    refine norm_ (a' := ?_) ?_ ?_
    rotate_left
    ·
     show Act.put _ (some 11) _ = _
     simp only [Act.put, List.setIfInBounds_toArray, List.set_cons_zero, List.set_cons_succ, i64_w, i32_w]
     rfl
    refine pure_ (i := 6) (N := some 12) (v := ?_) (a' := ?_) #[true, true, true, true, true, true, true, true, false] rfl rfl (any_of HT_.out (by kernel_rfl)) (fun _ _ _ h => h) (Or.inl ⟨by rfl, ?_⟩) ?_ ?_
    rotate_left
    ·
     intro w'
     go_simp
     with_reducible rfl
    rotate_left
    ·
     simp only [Act.put, List.setIfInBounds_toArray, List.set_cons_zero, List.set_cons_succ, i64_w, i32_w]
     rfl
    exact norm_ (by simp only [putAll, Act.put, List.setIfInBounds_toArray, List.set_cons_zero, List.set_cons_succ]) (hCont (.slice Ao9 t333.length co9, .slice Ao11 t336.length co11, gb339) _ ⟨hHeld, (dR HO335), (dV HO338), (tK BK331), (tK BK332), (tK BK339), GW339.out, GE339.out, NB331_339.out, NB339_331.out, NB332_339.out, NB339_332.out, (tB HB)⟩)
  ·
   skip
   refine box_step ?hg (N := 3) ?hd (cs := #[.string (⟨#[]⟩ : ByteArray), .slice none 0 0, .slice none 0 0]) (t := 68) ?hr ?_; (case hd => rfl); (case hg => rfl); (case hr => first | (go_simp; done) | (go_simp; rfl))
   intro gb339 hg w7 hbox hb
   have n0_ := Aside0.mk (blk_below (tK BK331) hb)
   have n1_ := Aside0.mk (blk_below (tK BK332) hb)
   have n2_ := Aside0.mk (below_step (tB HB) hb)
   have n3_ := Aside0.mk (hbox)
   have n4_ := tZ hg (tS HB)
   have n5_ := tZ hg (tS HB)
   have n6_ := tL hg (tK BK331)
   have n7_ := tG hg (tK BK331)
   have n8_ := tL hg (tK BK332)
   have n9_ := tG hg (tK BK332)
   revert n0_ n1_ n2_ n3_ n4_ n5_ n6_ n7_ n8_ n9_
   clear BK331 BK332 HB
   intro BK331 BK332 HB BK339 GW339 GE339 NB331_339 NB339_331 NB332_339 NB339_332
   clear hb hbox hg
   refine hK.out _ _ ⟨(blk_cell BK331.out 0).trans rfl, (blk_cell BK331.out 1).trans rfl, (blk_cell BK331.out 2).trans rfl⟩ (fun hHeld => ?_)
   clear hK K
   refine norm_ (a' := ?_) ?_ ?_
   rotate_left
   ·
    show Act.put _ (some 3) _ = _
    simp only [Act.put, List.setIfInBounds_toArray, List.set_cons_zero, List.set_cons_succ, i64_w, i32_w]
    rfl
   refine one_ (i := 4) (N := some 10) #[true, true, true, true, true, false, false, true, false] rfl rfl (one_of HT_.out (by kernel_rfl)) (by decide) (fun K hK => ?_)
   refine goes_ Try.func59 (by kernel_rfl) rfl #[.slice A0_2 l0_2.length c0_2] (by rfl) rfl rfl (by (try simp only [List.map_toArray, List.map_cons, List.map_nil]); first | done | rfl | (simp only [List.length_drop, List.length_take]; rfl)) ?_
   with_reducible refine (slices_Clone_string_string.calls _ _ l0_2 t333 _ ?s1 ?s2 A2.out).mono ?_
   (case s1 => exact tC HR0_2 HB)
   (case s2 => exact HC0_2.out)
   rintro e w8 ⟨v334, rfl, ho0, hb⟩
   refine ⟨_, rfl, ?_⟩
   have n0_ := Aside0.mk (Kd.R_lower (Kd.R_newM (M := fun k_ => (w.heap.size ≤ k_)) ho0 (tS HB) (fun k_ h_ => h_)) (tS HB))
   have n1_ := Aside0.mk (blk_below (tK BK331) hb)
   have n2_ := Aside0.mk (blk_below (tK BK332) hb)
   have n3_ := Aside0.mk (blk_below (tK BK339) hb)
   have n4_ := Aside0.mk (below_step (tB HB) hb)
   revert n0_ n1_ n2_ n3_ n4_
   clear BK331 BK332 BK339 HB
   intro HO335 BK331 BK332 BK339 HB
   (try clear hb); (try clear ho0)
   obtain ⟨Ao9, co9, eo9⟩ := Kd.R_slice HO335.out
   (first | subst eo9 | (injection eo9 with f1_ f2_ f3_; have f4_ := f1_.symm; have f5_ := f3_.symm; clear f1_ f2_ f3_; subst f4_; subst f5_))
   refine hK.out _ _ ⟨(blk_cell BK331.out 0).trans rfl, (blk_cell BK331.out 1).trans rfl, (blk_cell BK331.out 2).trans rfl⟩ (fun hHeld => ?_)
   clear hK K
   refine norm_ (a' := ?_) ?_ ?_
   rotate_left
   ·
    show Act.put _ (some 10) _ = _
    simp only [Act.put, List.setIfInBounds_toArray, List.set_cons_zero, List.set_cons_succ, i64_w, i32_w]
    rfl
   refine one_ (i := 5) (N := some 11) #[true, true, true, true, true, true, false, true, false] rfl rfl (one_of HT_.out (by kernel_rfl)) (by decide) (fun K hK => ?_)
   refine goes_ Try.func58 (by kernel_rfl) rfl #[.slice Ao9 t333.length co9] (by rfl) rfl rfl (by (try simp only [List.map_toArray, List.map_cons, List.map_nil]); first | done | rfl | (simp only [List.length_drop, List.length_take]; rfl)) ?_
   with_reducible refine (slices_Clip_string_string.calls (fun k_ => some k_ = (.slice Ao9 t333.length co9 : Value).ownBlock) _ _ t333 t336 _ ?s1 A3.out).mono ?_
   (case s1 => exact Kd.R_V (Kd.R_tight rfl (Kd.R_types (Kd.R_types (Kd.R_types (HO335.out) BK331.out (by decide)) BK332.out (by decide)) BK339.out (by decide))))
   rintro e w10 ⟨v337, rfl, ho0, hb⟩
   refine ⟨_, rfl, ?_⟩
   have n0_ := Aside0.mk (Kd.R_below (dR HO335) hb)
   have n1_ := Aside0.mk (Kd.V_lower (Kd.V_mono (ok' := fun k_ => (w.heap.size ≤ k_) ∧ k_ ≠ gb331 ∧ k_ ≠ gb332 ∧ k_ ≠ gb339) ho0 (fun k_ hk_ => ⟨Or.elim hk_ (fun hs_ => ((Kd.R_types (Kd.R_types (Kd.R_types (HO335.out) BK331.out (by decide)) BK332.out (by decide)) BK339.out (by decide)).1 k_ hs_.symm).1.1.1.1) (fun hn_ => (Nat.le_trans (tS HB) hn_)), Or.elim hk_ (fun hs_ => ((Kd.R_types (Kd.R_types (Kd.R_types (HO335.out) BK331.out (by decide)) BK332.out (by decide)) BK339.out (by decide)).1 k_ hs_.symm).1.1.2) (fun hn_ => (Kd.freshB (tK BK331) k_ hn_)), Or.elim hk_ (fun hs_ => ((Kd.R_types (Kd.R_types (Kd.R_types (HO335.out) BK331.out (by decide)) BK332.out (by decide)) BK339.out (by decide)).1 k_ hs_.symm).1.2) (fun hn_ => (Kd.freshB (tK BK332) k_ hn_)), Or.elim hk_ (fun hs_ => ((Kd.R_types (Kd.R_types (Kd.R_types (HO335.out) BK331.out (by decide)) BK332.out (by decide)) BK339.out (by decide)).1 k_ hs_.symm).2) (fun hn_ => (Kd.freshB (tK BK339) k_ hn_))⟩)) (tS HB))
   have n2_ := Aside0.mk (blk_below (tK BK331) hb)
   have n3_ := Aside0.mk (blk_below (tK BK332) hb)
   have n4_ := Aside0.mk (blk_below (tK BK339) hb)
   have n5_ := Aside0.mk (below_step (tB HB) hb)
   revert n0_ n1_ n2_ n3_ n4_ n5_
   clear HO335 BK331 BK332 BK339 HB
   intro HO335 HO338 BK331 BK332 BK339 HB
   (try clear hb); (try clear ho0)
   obtain ⟨Ao11, co11, eo11⟩ := Kd.V_slice HO338.out
   (first | subst eo11 | (injection eo11 with f1_ f2_ f3_; have f4_ := f1_.symm; have f5_ := f3_.symm; clear f1_ f2_ f3_; subst f4_; subst f5_))
   refine hK.out _ _ ⟨(blk_cell BK331.out 0).trans rfl, (blk_cell BK331.out 1).trans rfl, (blk_cell BK331.out 2).trans rfl⟩ (fun hHeld => ?_)
   clear hK K
   refine norm_ (a' := ?_) ?_ ?_
   rotate_left
   ·
    show Act.put _ (some 11) _ = _
    simp only [Act.put, List.setIfInBounds_toArray, List.set_cons_zero, List.set_cons_succ, i64_w, i32_w]
    rfl
   refine pure_ (i := 6) (N := some 12) (v := ?_) (a' := ?_) #[true, true, true, true, true, true, true, true, false] rfl rfl (any_of HT_.out (by kernel_rfl)) (fun _ _ _ h => h) (Or.inl ⟨by rfl, ?_⟩) ?_ ?_
   rotate_left
   ·
    intro w'
    go_simp
    with_reducible rfl
   rotate_left
   ·
    simp only [Act.put, List.setIfInBounds_toArray, List.set_cons_zero, List.set_cons_succ, i64_w, i32_w]
    rfl
   exact norm_ (by simp only [putAll, Act.put, List.setIfInBounds_toArray, List.set_cons_zero, List.set_cons_succ]) (hCont (.slice Ao9 t333.length co9, .slice Ao11 t336.length co11, gb339) _ ⟨hHeld, (dR HO335), (dV HO338), (tK BK331), (tK BK332), (tK BK339), GW339.out, GE339.out, NB331_339.out, NB339_331.out, NB332_339.out, NB339_332.out, (tB HB)⟩)
 rintro ⟨v334, v337, gb339⟩ w12 ⟨hS_, h0_, h1_, h2_, h3_, h4_, h5_, h6_, h7_, h8_, h9_, h10_, h11_⟩
 have n0_ : Aside0 (Kd.R Kd.string 9 w12 w.heap.size (fun k_ => (w.heap.size ≤ k_)) v334 t333) := ⟨h0_⟩
 have n1_ : Aside0 (Kd.V Kd.string 9 w12 w.heap.size (fun k_ => (w.heap.size ≤ k_) ∧ k_ ≠ gb331 ∧ k_ ≠ gb332 ∧ k_ ≠ gb339) v337 t336) := ⟨h1_⟩
 have n2_ : Aside0 (w12.heap[gb331]? = some (.cells #[.string a0_0, .slice A0_1 l0_1.length c0_1, .slice A0_2 l0_2.length c0_2] 68 (0, 0))) := ⟨h2_⟩
 have n3_ : Aside0 (w12.heap[gb332]? = some (.cells #[.string (⟨#[]⟩ : ByteArray), .slice none 0 0, .slice none 0 0] 68 (0, 0))) := ⟨h3_⟩
 have n4_ : Aside0 (w12.heap[gb339]? = some (.cells #[.string (⟨#[]⟩ : ByteArray), .slice none 0 0, .slice none 0 0] 68 (0, 0))) := ⟨h4_⟩
 have n5_ : Aside0 (w.heap.size ≤ gb339) := ⟨h5_⟩
 have n6_ : Aside0 (w.heap.size ≤ gb339) := ⟨h6_⟩
 have n7_ : Aside0 (gb331 ≠ gb339) := ⟨h7_⟩
 have n8_ : Aside0 (gb339 ≠ gb331) := ⟨h8_⟩
 have n9_ : Aside0 (gb332 ≠ gb339) := ⟨h9_⟩
 have n10_ : Aside0 (gb339 ≠ gb332) := ⟨h10_⟩
 have n11_ : Aside0 (Below w.heap.size w w12) := ⟨h11_⟩
 clear BK331; clear BK332; clear HB; clear h0_ h1_ h2_ h3_ h4_ h5_ h6_ h7_ h8_ h9_ h10_ h11_
 have HO335 := n0_
 have HO338 := n1_
 have BK331 := n2_
 have BK332 := n3_
 have BK339 := n4_
 have GW339 := n5_
 have GE339 := n6_
 have NB331_339 := n7_
 have NB339_331 := n8_
 have NB332_339 := n9_
 have NB339_332 := n10_
 have HB := n11_
 clear n0_ n1_ n2_ n3_ n4_ n5_ n6_ n7_ n8_ n9_ n10_ n11_
 have hHeld : w12.cell? ⟨gb331, 0, none⟩ = some (.string a0_0) ∧ w12.cell? ⟨gb331, 1, none⟩ = some (.slice A0_1 l0_1.length c0_1) ∧ w12.cell? ⟨gb331, 2, none⟩ = some (.slice A0_2 l0_2.length c0_2) := hS_
 obtain ⟨Ao13, co13, eo13⟩ := Kd.V_slice HO338.out
 (first | subst eo13 | (injection eo13 with f1_ f2_ f3_; have f4_ := f1_.symm; have f5_ := f3_.symm; clear f1_ f2_ f3_; subst f4_; subst f5_))
 refine norm_ (a' := ?_) ?_ ?_
 rotate_left
 ·
  simp only [putAll, Act.put, List.setIfInBounds_toArray, List.set_cons_zero, List.set_cons_succ]
  rfl
 refine one_ (i := 8) (N := none) #[true, true, true, true, true, true, true, true, true] rfl rfl (one_of HT_.out (by kernel_rfl)) (by decide) (fun K hK => ?_)
 have hs14 : w12.cell? ⟨gb339, 0, none⟩ = some (.string (⟨#[]⟩ : ByteArray)) := (blk_cell BK339.out 0).trans rfl
 have hfs14 := blk_frozen BK339.out 0
 have hns14_0 := NB331_339.out
 have hns14_1 := NB332_339.out
 have hms14_0 := NB339_331.out
 have hms14_1 := NB339_332.out
 have hs15 : w12.cell? ⟨gb339, 1, none⟩ = some (.slice none 0 0) := (blk_cell BK339.out 1).trans rfl
 have hfs15 := blk_frozen BK339.out 1
 have hns15_0 := NB331_339.out
 have hns15_1 := NB332_339.out
 have hms15_0 := NB339_331.out
 have hms15_1 := NB339_332.out
 have hs16 : w12.cell? ⟨gb339, 2, none⟩ = some (.slice none 0 0) := (blk_cell BK339.out 2).trans rfl
 have hfs16 := blk_frozen BK339.out 2
 have hns16_0 := NB331_339.out
 have hns16_1 := NB332_339.out
 have hms16_0 := NB339_331.out
 have hms16_1 := NB339_332.out
 refine skip_ (w1 := ?_) (by rfl) rfl ?_ ?_
 rotate_left
 ·
  go_simp
  rfl
 refine hK.out _ _ ⟨((cell_far (p := ⟨gb339, _, none⟩) NB331_339.out _).trans (((cell_far (p := ⟨gb339, _, none⟩) NB331_339.out _).trans (((cell_far (p := ⟨gb339, _, none⟩) NB331_339.out _).trans (hHeld.1)))))), ((cell_far (p := ⟨gb339, _, none⟩) NB331_339.out _).trans (((cell_far (p := ⟨gb339, _, none⟩) NB331_339.out _).trans (((cell_far (p := ⟨gb339, _, none⟩) NB331_339.out _).trans (hHeld.2.1)))))), ((cell_far (p := ⟨gb339, _, none⟩) NB331_339.out _).trans (((cell_far (p := ⟨gb339, _, none⟩) NB331_339.out _).trans (((cell_far (p := ⟨gb339, _, none⟩) NB331_339.out _).trans (hHeld.2.2))))))⟩ (fun hHeld => ?_)
 clear hK K
 refine done_ (done_of HT_.out (by kernel_rfl)) ?_
 have hnb17 := NB331_332.out
 have hnc17 := NB332_331.out
 have hnb18 := NB331_339.out
 have hnc18 := NB339_331.out
 obtain ⟨hcz19_0, hcz19_1, hcz19_2, hfz19_0, hfz19_1, hfz19_2⟩ := bx3 BK331
 try go_wp2
 go_loopg [16] k (fun kq v16 w' => ∃ (x16_1 : Int) (x340001_1 : List (S90)) (u340001 : Value), v16 = .int .i64 x16_1 ∧ Aside0 (concrete_copiedCategory.l0 kq l0_1 (l0_1.length : Int) x16_1 a0_0 x340001_1 t336 = some (r1, r2, r3)) ∧ Aside0 (kq ≤ k) ∧ Aside0 (Kd.N k90 90 w' w.heap.size (fun k_ => (w.heap.size ≤ k_) ∧ k_ ≠ gb331 ∧ k_ ≠ gb332 ∧ k_ ≠ gb339) u340001 x340001_1) ∧ Aside0 (Kd.V Kd.string 9 w' w.heap.size (fun k_ => (w.heap.size ≤ k_) ∧ some k_ ≠ (u340001 : Value).ownBlock ∧ k_ ≠ gb331 ∧ k_ ≠ gb332 ∧ k_ ≠ gb339) (.slice Ao13 t336.length co13) t336) ∧ Aside0 (w'.heap[gb331]? = some (.cells #[.string a0_0, (.slice A0_1 l0_1.length c0_1), (.slice A0_2 l0_2.length c0_2)] 68 (0, 0))) ∧ Aside0 (w'.heap[gb332]? = some (.cells #[.string (⟨#[]⟩ : ByteArray), (.slice none 0 0), (.slice none 0 0)] 68 (0, 0))) ∧ Aside0 (w'.heap[gb339]? = some (.cells #[.string a0_0, u340001, (.slice Ao13 t336.length co13)] 68 (0, 0))) ∧ Aside0 (Below w.heap.size w w'))
 case atStart => exact ⟨(0), (([] : List (S90))), (.slice none 0 0), tV1, H', ⟨Nat.le_refl _⟩, ⟨by first | exact Kd.S_nil _ _ _ _ _ | exact Kd.N_nil _ _ _ _ _ | exact Kd.V_nil _ _ _ _ _ | exact Kd.Q_nil _ _ _ _ _ | exact Kd.R_nil _ _ _ _ _⟩, ⟨dV HO338⟩, ⟨tK BK331⟩, ⟨tK BK332⟩, ⟨tKp BK339⟩, ⟨tB HB⟩⟩
 case round =>
  clear H'; (try clear hcz19_0); (try clear hcz19_1); (try clear hcz19_2); (try clear hfz19_0); (try clear hfz19_1); (try clear hfz19_2)
  obtain ⟨x16_1, x340001_1, u340001, rfl, HA, HK1, HO_340001, HO_340002, BK331, BK332, BK339, HB⟩ := hrel
  cases gk with
  | zero => exact absurd HA.out (by simp [concrete_copiedCategory.l0])
  | succ k1 =>
   have H := HA.out
   clear HA
   simp only [concrete_copiedCategory.l0] at H
   by_cases c20 : x16_1 < (l0_1.length : Int)
   ·
    rw [if_pos c20] at H
    have c20b0 : decide (x16_1 < (l0_1.length : Int)) = true := decide_eq_true c20
    clear c20
    by_cases c21 : 0 ≤ x16_1
    ·
     rw [if_pos c21] at H
     have c21b0 : decide (0 ≤ x16_1) = true := decide_eq_true c21
     clear c21
     by_cases c22 : x16_1 < (l0_1.length : Int)
     ·
      rw [if_pos c22] at H
      have c22b0 : decide (x16_1 < (l0_1.length : Int)) = true := decide_eq_true c22
      clear c22
      replace H := Option.bind_eq_some_iff.mp H
      obtain ⟨t342, A230, H⟩ := H
      (try dsimp only at H)
      have A23 := Aside0.mk A230
      clear A230
      replace H := Option.bind_eq_some_iff.mp H
      obtain ⟨t345, A240, H⟩ := H
      (try dsimp only at H)
      have A24 := Aside0.mk A240
      clear A240
      by_cases c25 : x340001_1.length < 3518437208883
      ·
       rw [if_pos c25] at H
       have LMc25 := Aside0.mk c25
       clear c25
       obtain ⟨y348, hy348⟩ : ∃ y_ : List (S90), y_ = (x340001_1 ++ [(⟨(rd_T90 l0_1 x16_1).f0, t345⟩ : S90)]) := ⟨_, rfl⟩
       replace H : (concrete_copiedCategory.l0 k1 l0_1 (l0_1.length : Int) (wrap64 (x16_1 + 1)) a0_0 y348 t336) = some (r1, r2, r3) := by first | (rw [hy348]; with_reducible exact H) | (have H2_ := (Option.bind_some _ _).symm.trans H; rw [hy348]; with_reducible exact H2_) | (have H2_ := (Option.bind_some _ _).symm.trans H; with_reducible exact H2_) | with_reducible exact H | (rw [hy348]; exact H) | exact H
       have Ny348 := Aside0.mk hy348
       clear hy348
       have H' := Aside0.mk H
       clear H
       have p340 : 0 ≤ (x16_1 : Int) := oD
       have q340 : x16_1 < (l0_1.length : Int) := oD
       obtain ⟨ad340, A340_1, c340_1, e340, hx340_0, hx340_1, hl340_1, hi340_1⟩ := at_T90 HR0_1.out x16_1 p340 q340
       cases e340
       replace hx340_0 := celB HB hx340_0
       replace hx340_1 := celB HB hx340_1
       have HR340_1 := Aside0.mk hi340_1
       have HC340_1 := Aside0.mk hl340_1
       clear hi340_1 hl340_1
       replace p340 := eq_true p340
       replace q340 := eq_true q340
       try go_wp2_with (first | ((with_reducible refine gate_dst (N := 5) rfl ?_); refine box_event ?hg (N := 5) ?hd (cs := #[.string (⟨#[]⟩ : ByteArray), .slice none 0 0]) (t := 90) ?hr ?_; (case hd => rfl); (case hg => rfl); (case hr => first | (go_simp; done) | (go_simp; rfl)); intro gb341 hg w26 hbox hb; have n0_ := Aside0.mk (Kd.N_below (Kd.N_elderB (dN HO_340001) gb341 (Nat.le_of_eq hg.symm)) hb); have n1_ := Aside0.mk (Kd.V_below (Kd.V_elderB (dV HO_340002) gb341 (Nat.le_of_eq hg.symm)) hb); have n2_ := Aside0.mk (blk_below (tK BK331) hb); have n3_ := Aside0.mk (blk_below (tK BK332) hb); have n4_ := Aside0.mk (blk_below (tK BK339) hb); have n5_ := Aside0.mk (below_step (tB HB) hb); have n6_ := Aside0.mk (hbox); have n7_ := tZ hg (tS HB); have n8_ := tZ hg (tS HB); have n9_ := tL hg (tK BK331); have n10_ := tG hg (tK BK331); have n11_ := tL hg (tK BK332); have n12_ := tG hg (tK BK332); have n13_ := tL hg (tK BK339); have n14_ := tG hg (tK BK339); revert n0_ n1_ n2_ n3_ n4_ n5_ n6_ n7_ n8_ n9_ n10_ n11_ n12_ n13_ n14_; clear HO_340001 HO_340002 BK331 BK332 BK339 HB; intro HO_340001 HO_340002 BK331 BK332 BK339 HB BK341 GW341 GE341 NB331_341 NB341_331 NB332_341 NB341_332 NB339_341 NB341_339; clear hb hbox hg; have hnb27 := NB341_331.out; have hnc27 := NB331_341.out; have hnb28 := NB341_332.out; have hnc28 := NB332_341.out; have hnb29 := NB341_339.out; have hnc29 := NB339_341.out; have hcz30_0 := cel2 BK341 0 rfl; have hcz30_1 := cel2 BK341 1 rfl; have hfz30_0 := blk_frozen BK341.out 0; have hfz30_1 := blk_frozen BK341.out 1))
       have n0_ : Aside0 (Kd.N k90 90 ((w26.setCell ⟨gb341, 0, none⟩ (.string ((rd_T90 l0_1 x16_1).f0))).setCell ⟨gb341, 1, none⟩ (.slice A340_1 ((rd_T90 l0_1 x16_1).f1).length c340_1)) w.heap.size (fun k_ => (w.heap.size ≤ k_) ∧ k_ ≠ gb331 ∧ k_ ≠ gb332 ∧ k_ ≠ gb339 ∧ k_ ≠ gb341) u340001 x340001_1) := ⟨dN HO_340001⟩
       have n1_ : Aside0 (Kd.V Kd.string 9 ((w26.setCell ⟨gb341, 0, none⟩ (.string ((rd_T90 l0_1 x16_1).f0))).setCell ⟨gb341, 1, none⟩ (.slice A340_1 ((rd_T90 l0_1 x16_1).f1).length c340_1)) w.heap.size (fun k_ => (w.heap.size ≤ k_) ∧ some k_ ≠ (u340001 : Value).ownBlock ∧ k_ ≠ gb331 ∧ k_ ≠ gb332 ∧ k_ ≠ gb339 ∧ k_ ≠ gb341) (.slice Ao13 t336.length co13) t336) := ⟨dV HO_340002⟩
       have n2_ : Aside0 (((w26.setCell ⟨gb341, 0, none⟩ (.string ((rd_T90 l0_1 x16_1).f0))).setCell ⟨gb341, 1, none⟩ (.slice A340_1 ((rd_T90 l0_1 x16_1).f1).length c340_1)).heap[gb331]? = some (.cells #[.string a0_0, .slice (some ad340) l0_1.length c0_1, .slice A0_2 l0_2.length c0_2] 68 (0, 0))) := ⟨tK BK331⟩
       have n3_ : Aside0 (((w26.setCell ⟨gb341, 0, none⟩ (.string ((rd_T90 l0_1 x16_1).f0))).setCell ⟨gb341, 1, none⟩ (.slice A340_1 ((rd_T90 l0_1 x16_1).f1).length c340_1)).heap[gb332]? = some (.cells #[.string (⟨#[]⟩ : ByteArray), .slice none 0 0, .slice none 0 0] 68 (0, 0))) := ⟨tK BK332⟩
       have n4_ : Aside0 (((w26.setCell ⟨gb341, 0, none⟩ (.string ((rd_T90 l0_1 x16_1).f0))).setCell ⟨gb341, 1, none⟩ (.slice A340_1 ((rd_T90 l0_1 x16_1).f1).length c340_1)).heap[gb339]? = some (.cells #[.string a0_0, u340001, .slice Ao13 t336.length co13] 68 (0, 0))) := ⟨tK BK339⟩
       have n5_ : Aside0 (((w26.setCell ⟨gb341, 0, none⟩ (.string ((rd_T90 l0_1 x16_1).f0))).setCell ⟨gb341, 1, none⟩ (.slice A340_1 ((rd_T90 l0_1 x16_1).f1).length c340_1)).heap[gb341]? = some (.cells #[.string ((rd_T90 l0_1 x16_1).f0), .slice A340_1 ((rd_T90 l0_1 x16_1).f1).length c340_1] 90 (0, 0))) := ⟨tKp BK341⟩
       have n6_ : Aside0 (Below w.heap.size w ((w26.setCell ⟨gb341, 0, none⟩ (.string ((rd_T90 l0_1 x16_1).f0))).setCell ⟨gb341, 1, none⟩ (.slice A340_1 ((rd_T90 l0_1 x16_1).f1).length c340_1))) := ⟨tB HB⟩
       (try clear HO_340001); (try clear HO_340002); (try clear BK331); (try clear BK332); (try clear BK339); (try clear BK341); (try clear HB)
       generalize ((w26.setCell ⟨gb341, 0, none⟩ (.string ((rd_T90 l0_1 x16_1).f0))).setCell ⟨gb341, 1, none⟩ (.slice A340_1 ((rd_T90 l0_1 x16_1).f1).length c340_1)) = w31 at n0_ n1_ n2_ n3_ n4_ n5_ n6_ ⊢
       have HO_340001 := n0_
       have HO_340002 := n1_
       have BK331 := n2_
       have BK332 := n3_
       have BK339 := n4_
       have BK341 := n5_
       have HB := n6_
       clear n0_ n1_ n2_ n3_ n4_ n5_ n6_
       have n0_ := Aside0.mk (Kd.N_drew HO_340001.out)
       have n1_ := Aside0.mk (Kd.V_drew HO_340002.out)
       have n2_ := Aside0.mk (blk_drew BK331.out)
       have n3_ := Aside0.mk (blk_drew BK332.out)
       have n4_ := Aside0.mk (blk_drew BK339.out)
       have n5_ := Aside0.mk (blk_drew BK341.out)
       have n6_ := Aside0.mk (below_drew1 HB.out)
       revert n0_ n1_ n2_ n3_ n4_ n5_ n6_
       clear HO_340001 HO_340002 BK331 BK332 BK339 BK341 HB
       intro HO_340001 HO_340002 BK331 BK332 BK339 BK341 HB
       refine start_ (n := 13) (S := fun w' => w'.cell? ⟨gb339, 0, none⟩ = some (.string a0_0) ∧ w'.cell? ⟨gb339, 1, none⟩ = some (u340001) ∧ w'.cell? ⟨gb339, 2, none⟩ = some (.slice Ao13 t336.length co13) ∧ w'.cell? ⟨gb341, 0, none⟩ = some (.string ((rd_T90 l0_1 x16_1).f0)) ∧ w'.cell? ⟨gb341, 1, none⟩ = some (.slice A340_1 ((rd_T90 l0_1 x16_1).f1).length c340_1)) (ds := [12]) #[false, false, false, false, false, false, false, false, false, false, false, false, false] (by kernel_rfl) rfl rfl ⟨(blk_cell BK339.out 0).trans rfl, (blk_cell BK339.out 1).trans rfl, (blk_cell BK339.out 2).trans rfl, (blk_cell BK341.out 0).trans rfl, (blk_cell BK341.out 1).trans rfl⟩ (fun hHeld => ?_); refine with_tabW concrete_copiedCategory.tab5 concrete_copiedCategory.bits5 (fun HT_ HW_ => ?_)
       generalize w31.drew = w32 at HO_340001 HO_340002 BK331 BK332 BK339 BK341 HB hHeld ⊢
       refine pure_ (i := 0) (N := some 20) (v := ?_) (a' := ?_) #[true, false, false, false, false, false, false, false, false, false, false, false, false] rfl rfl (any_of HT_.out (by kernel_rfl)) (fun _ _ _ h => h) (Or.inl ⟨by rfl, ?_⟩) ?_ ?_
       rotate_left
       ·
        intro w'
        go_simp
        with_reducible rfl
       rotate_left
       ·
        simp only [Act.put, List.setIfInBounds_toArray, List.set_cons_zero, List.set_cons_succ, i64_w, i32_w]
        rfl
       refine pure_ (i := 2) (N := some 22) (v := ?_) (a' := ?_) #[true, false, true, false, false, false, false, false, false, false, false, false, false] rfl rfl (any_of HT_.out (by kernel_rfl)) (fun _ _ _ h => h) (Or.inl ⟨by rfl, ?_⟩) ?_ ?_
       rotate_left
       ·
        intro w'
        go_simp
        with_reducible rfl
       rotate_left
       ·
        simp only [Act.put, List.setIfInBounds_toArray, List.set_cons_zero, List.set_cons_succ, i64_w, i32_w]
        rfl
       refine pure_ (i := 4) (N := some 24) (v := ?_) (a' := ?_) #[true, false, true, false, true, false, false, false, false, false, false, false, false] rfl rfl (any_of HT_.out (by kernel_rfl)) (fun _ _ _ h => h) (Or.inl ⟨by rfl, ?_⟩) ?_ ?_
       rotate_left
       ·
        intro w'
        go_simp
        with_reducible rfl
       rotate_left
       ·
        simp only [Act.put, List.setIfInBounds_toArray, List.set_cons_zero, List.set_cons_succ, i64_w, i32_w]
        rfl
       refine take_ (i := 1) (N := some 21) (v := ?_) (a' := ?_) #[true, true, true, false, true, false, false, false, false, false, false, false, false] rfl rfl (take_ofW HT_.out HW_.out (by kernel_rfl)) (fun _ _ _ h => h) (Or.inl ⟨by rfl, ?_⟩) hHeld ?_ ?_
       rotate_left
       ·
        rintro w' ⟨s0, s1, s2, s3, s4⟩
        go_simp
        with_reducible rfl
       rotate_left
       ·
        simp only [Act.put, List.setIfInBounds_toArray, List.set_cons_zero, List.set_cons_succ, i64_w, i32_w]
        rfl
       refine take_ (i := 3) (N := some 23) (v := ?_) (a' := ?_) #[true, true, true, true, true, false, false, false, false, false, false, false, false] rfl rfl (take_ofW HT_.out HW_.out (by kernel_rfl)) (fun _ _ _ h => h) (Or.inl ⟨by rfl, ?_⟩) hHeld ?_ ?_
       rotate_left
       ·
        rintro w' ⟨s0, s1, s2, s3, s4⟩
        go_simp
        with_reducible rfl
       rotate_left
       ·
        simp only [Act.put, List.setIfInBounds_toArray, List.set_cons_zero, List.set_cons_succ, i64_w, i32_w]
        rfl
       refine take_ (i := 5) (N := some 25) (v := ?_) (a' := ?_) #[true, true, true, true, true, true, false, false, false, false, false, false, false] rfl rfl (take_ofW HT_.out HW_.out (by kernel_rfl)) (fun _ _ _ h => h) (Or.inl ⟨by rfl, ?_⟩) hHeld ?_ ?_
       rotate_left
       ·
        rintro w' ⟨s0, s1, s2, s3, s4⟩
        go_simp
        with_reducible rfl
       rotate_left
       ·
        simp only [Act.put, List.setIfInBounds_toArray, List.set_cons_zero, List.set_cons_succ, i64_w, i32_w]
        rfl
       refine one_ (i := 6) (N := some 26) #[true, true, true, true, true, true, true, false, false, false, false, false, false] rfl rfl (one_of HT_.out (by kernel_rfl)) (by decide) (fun K hK => ?_)
       refine goes_ Try.func59 (by kernel_rfl) rfl #[.slice A340_1 ((rd_T90 l0_1 x16_1).f1).length c340_1] (by rfl) rfl rfl (by (try simp only [List.map_toArray, List.map_cons, List.map_nil]); first | done | rfl | (simp only [List.length_drop, List.length_take]; rfl)) ?_
       with_reducible refine (slices_Clone_string_string.calls _ _ ((rd_T90 l0_1 x16_1).f1) t342 _ ?s1 ?s2 A23.out).mono ?_
       (case s1 => exact tC HR340_1 HB)
       (case s2 => exact HC340_1.out)
       rintro e w33 ⟨v343, rfl, ho0, hb⟩
       refine ⟨_, rfl, ?_⟩
       have n0_ := Aside0.mk (Kd.N_elder' (dN HO_340001) (Kd.R_base ho0) hb)
       have n1_ := Aside0.mk (Kd.V_elder' (dV HO_340002) (Kd.R_base ho0) hb)
       have n2_ := Aside0.mk (Kd.R_lower (Kd.R_newM (M := fun k_ => (w.heap.size ≤ k_)) ho0 (tS HB) (fun k_ h_ => h_)) (tS HB))
       have n3_ := Aside0.mk (blk_below (tK BK331) hb)
       have n4_ := Aside0.mk (blk_below (tK BK332) hb)
       have n5_ := Aside0.mk (blk_below (tK BK339) hb)
       have n6_ := Aside0.mk (blk_below (tK BK341) hb)
       have n7_ := Aside0.mk (below_step (tB HB) hb)
       revert n0_ n1_ n2_ n3_ n4_ n5_ n6_ n7_
       clear HO_340001 HO_340002 BK331 BK332 BK339 BK341 HB
       intro HO_340001 HO_340002 HO344 BK331 BK332 BK339 BK341 HB
       (try clear hb); (try clear ho0)
       obtain ⟨Ao34, co34, eo34⟩ := Kd.R_slice HO344.out
       (first | subst eo34 | (injection eo34 with f1_ f2_ f3_; have f4_ := f1_.symm; have f5_ := f3_.symm; clear f1_ f2_ f3_; subst f4_; subst f5_))
       refine hK.out _ _ ⟨(blk_cell BK339.out 0).trans rfl, (blk_cell BK339.out 1).trans rfl, (blk_cell BK339.out 2).trans rfl, (blk_cell BK341.out 0).trans rfl, (blk_cell BK341.out 1).trans rfl⟩ (fun hHeld => ?_)
       clear hK K
       refine norm_ (a' := ?_) ?_ ?_
       rotate_left
       ·
        show Act.put _ (some 26) _ = _
        simp only [Act.put, List.setIfInBounds_toArray, List.set_cons_zero, List.set_cons_succ, i64_w, i32_w]
        rfl
       refine one_ (i := 7) (N := some 27) #[true, true, true, true, true, true, true, true, false, false, false, false, false] rfl rfl (one_of HT_.out (by kernel_rfl)) (by decide) (fun K hK => ?_)
       refine goes_ Try.func58 (by kernel_rfl) rfl #[.slice Ao34 t342.length co34] (by rfl) rfl rfl (by (try simp only [List.map_toArray, List.map_cons, List.map_nil]); first | done | rfl | (simp only [List.length_drop, List.length_take]; rfl)) ?_
       with_reducible refine (slices_Clip_string_string.calls (fun k_ => some k_ = (.slice Ao34 t342.length co34 : Value).ownBlock) _ _ t342 t345 _ ?s1 A24.out).mono ?_
       (case s1 => exact Kd.R_V (Kd.R_tight rfl (Kd.R_types (Kd.R_types (Kd.R_types (Kd.R_types (Kd.R_apart' (HO344.out) (Kd.N_typed HO_340001.out) (by decide)) BK331.out (by decide)) BK332.out (by decide)) BK339.out (by decide)) BK341.out (by decide))))
       rintro e w35 ⟨v346, rfl, ho0, hb⟩
       refine ⟨_, rfl, ?_⟩
       have n0_ := Aside0.mk (Kd.N_below (dN HO_340001) hb)
       have n1_ := Aside0.mk (Kd.V_below (dV HO_340002) hb)
       have n2_ := Aside0.mk (Kd.R_below (dR HO344) hb)
       have n3_ := Aside0.mk (Kd.V_lower (Kd.V_mono (ok' := fun k_ => (w.heap.size ≤ k_) ∧ some k_ ≠ (u340001 : Value).ownBlock ∧ k_ ≠ gb331 ∧ k_ ≠ gb332 ∧ k_ ≠ gb339 ∧ k_ ≠ gb341) ho0 (fun k_ hk_ => ⟨Or.elim hk_ (fun hs_ => ((Kd.R_types (Kd.R_types (Kd.R_types (Kd.R_types (Kd.R_apart' (HO344.out) (Kd.N_typed HO_340001.out) (by decide)) BK331.out (by decide)) BK332.out (by decide)) BK339.out (by decide)) BK341.out (by decide)).1 k_ hs_.symm).1.1.1.1.1.1) (fun hn_ => (Nat.le_trans (tS HB) hn_)), Or.elim hk_ (fun hs_ => ((Kd.R_types (Kd.R_types (Kd.R_types (Kd.R_types (Kd.R_apart' (HO344.out) (Kd.N_typed HO_340001.out) (by decide)) BK331.out (by decide)) BK332.out (by decide)) BK339.out (by decide)) BK341.out (by decide)).1 k_ hs_.symm).1.1.1.1.2) (fun hn_ => (Kd.fresh' (Kd.N_lt (dN HO_340001)) k_ hn_)), Or.elim hk_ (fun hs_ => ((Kd.R_types (Kd.R_types (Kd.R_types (Kd.R_types (Kd.R_apart' (HO344.out) (Kd.N_typed HO_340001.out) (by decide)) BK331.out (by decide)) BK332.out (by decide)) BK339.out (by decide)) BK341.out (by decide)).1 k_ hs_.symm).1.1.1.2) (fun hn_ => (Kd.freshB (tK BK331) k_ hn_)), Or.elim hk_ (fun hs_ => ((Kd.R_types (Kd.R_types (Kd.R_types (Kd.R_types (Kd.R_apart' (HO344.out) (Kd.N_typed HO_340001.out) (by decide)) BK331.out (by decide)) BK332.out (by decide)) BK339.out (by decide)) BK341.out (by decide)).1 k_ hs_.symm).1.1.2) (fun hn_ => (Kd.freshB (tK BK332) k_ hn_)), Or.elim hk_ (fun hs_ => ((Kd.R_types (Kd.R_types (Kd.R_types (Kd.R_types (Kd.R_apart' (HO344.out) (Kd.N_typed HO_340001.out) (by decide)) BK331.out (by decide)) BK332.out (by decide)) BK339.out (by decide)) BK341.out (by decide)).1 k_ hs_.symm).1.2) (fun hn_ => (Kd.freshB (tK BK339) k_ hn_)), Or.elim hk_ (fun hs_ => ((Kd.R_types (Kd.R_types (Kd.R_types (Kd.R_types (Kd.R_apart' (HO344.out) (Kd.N_typed HO_340001.out) (by decide)) BK331.out (by decide)) BK332.out (by decide)) BK339.out (by decide)) BK341.out (by decide)).1 k_ hs_.symm).2) (fun hn_ => (Kd.freshB (tK BK341) k_ hn_))⟩)) (tS HB))
       have n4_ := Aside0.mk (blk_below (tK BK331) hb)
       have n5_ := Aside0.mk (blk_below (tK BK332) hb)
       have n6_ := Aside0.mk (blk_below (tK BK339) hb)
       have n7_ := Aside0.mk (blk_below (tK BK341) hb)
       have n8_ := Aside0.mk (below_step (tB HB) hb)
       revert n0_ n1_ n2_ n3_ n4_ n5_ n6_ n7_ n8_
       clear HO_340001 HO_340002 HO344 BK331 BK332 BK339 BK341 HB
       intro HO_340001 HO_340002 HO344 HO347 BK331 BK332 BK339 BK341 HB
       (try clear hb); (try clear ho0)
       obtain ⟨Ao36, co36, eo36⟩ := Kd.V_slice HO347.out
       (first | subst eo36 | (injection eo36 with f1_ f2_ f3_; have f4_ := f1_.symm; have f5_ := f3_.symm; clear f1_ f2_ f3_; subst f4_; subst f5_))
       refine hK.out _ _ ⟨(blk_cell BK339.out 0).trans rfl, (blk_cell BK339.out 1).trans rfl, (blk_cell BK339.out 2).trans rfl, (blk_cell BK341.out 0).trans rfl, (blk_cell BK341.out 1).trans rfl⟩ (fun hHeld => ?_)
       clear hK K
       refine norm_ (a' := ?_) ?_ ?_
       rotate_left
       ·
        show Act.put _ (some 27) _ = _
        simp only [Act.put, List.setIfInBounds_toArray, List.set_cons_zero, List.set_cons_succ, i64_w, i32_w]
        rfl
       refine pure_ (i := 8) (N := some 28) (v := ?_) (a' := ?_) #[true, true, true, true, true, true, true, true, true, false, false, false, false] rfl rfl (any_of HT_.out (by kernel_rfl)) (fun _ _ _ h => h) (Or.inl ⟨by rfl, ?_⟩) ?_ ?_
       rotate_left
       ·
        intro w'
        go_simp
        with_reducible rfl
       rotate_left
       ·
        simp only [Act.put, List.setIfInBounds_toArray, List.set_cons_zero, List.set_cons_succ, i64_w, i32_w]
        rfl
       refine one_ (i := 9) (N := some 29) #[true, true, true, true, true, true, true, true, true, true, false, false, false] rfl rfl (one_of HT_.out (by kernel_rfl)) (by decide) (fun K hK => ?_)
       refine value_ (w1 := ?_) (v := ?_) (by rfl) rfl ?_ ?_
       rotate_left 2
       ·
        go_simp
        constructor
        ·
         rfl
        ·
         rfl
       refine hK.out _ _ ⟨(blk_cell (blk_alloc BK339.out _) 0).trans rfl, (blk_cell (blk_alloc BK339.out _) 1).trans rfl, (blk_cell (blk_alloc BK339.out _) 2).trans rfl, (blk_cell (blk_alloc BK341.out _) 0).trans rfl, (blk_cell (blk_alloc BK341.out _) 1).trans rfl⟩ (fun hHeld => ?_)
       clear hK K
       refine norm_ (a' := ?_) ?_ ?_
       rotate_left
       ·
        show Act.put _ (some 29) _ = _
        simp only [Act.put, List.setIfInBounds_toArray, List.set_cons_zero, List.set_cons_succ, i64_w, i32_w]
        rfl
       refine one_ (i := 10) (N := some 30) #[true, true, true, true, true, true, true, true, true, true, true, false, false] rfl rfl (one_of HT_.out (by kernel_rfl)) (by decide) (fun K hK => ?_)
       refine Kd.N_append_step k90 (w0 := w) w.heap.size (by rfl) (.tmp 21) (.tmp 29) 66 90 (.agg #[(.string ⟨#[]⟩), (.slice none 0 0)]) 40 rfl Try.underlying66 info90 rfl (by decide) (by omega) u340001 x340001_1 (⟨(rd_T90 l0_1 x16_1).f0, t345⟩ : S90) [.string ((rd_T90 l0_1 x16_1).f0), .slice Ao36 t345.length co36] (fun k_ => (w.heap.size ≤ k_) ∧ k_ ≠ gb331 ∧ k_ ≠ gb332 ∧ k_ ≠ gb339 ∧ k_ ≠ gb341) (fun k_ => ((fun k_ => (w.heap.size ≤ k_) ∧ k_ ≠ gb331 ∧ k_ ≠ gb332 ∧ k_ ≠ gb339 ∧ k_ ≠ gb341)) k_ ∧ some k_ ≠ (u340001 : Value).ownBlock) rfl rfl ?aP (fun _ hk => hk) ?aF ?aO ?aB ?aS ?aL ?_
       (case aP => exact (k90_mkF _ _ (⟨(rd_T90 l0_1 x16_1).f0, t345⟩ : S90) (Kd.V_reads' (Kd.V_mono (ok' := (fun k_ => ((fun k_ => (w.heap.size ≤ k_) ∧ k_ ≠ gb331 ∧ k_ ≠ gb332 ∧ k_ ≠ gb339 ∧ k_ ≠ gb341)) k_ ∧ some k_ ≠ (u340001 : Value).ownBlock)) (HO347.out) (fun k_ hk => ⟨⟨hk.1, ⟨hk.2.2.1, ⟨hk.2.2.2.1, ⟨hk.2.2.2.2.1, hk.2.2.2.2.2⟩⟩⟩⟩, hk.2.1⟩))).2.1 (Kd.V_F (Kd.V_mono (ok' := (fun k_ => ((fun k_ => (w.heap.size ≤ k_) ∧ k_ ≠ gb331 ∧ k_ ≠ gb332 ∧ k_ ≠ gb339 ∧ k_ ≠ gb341)) k_ ∧ some k_ ≠ (u340001 : Value).ownBlock)) (HO347.out) (fun k_ hk => ⟨⟨hk.1, ⟨hk.2.2.1, ⟨hk.2.2.2.1, ⟨hk.2.2.2.2.1, hk.2.2.2.2.2⟩⟩⟩⟩, hk.2.1⟩)))))
       (case aB => exact (tB HB))
       (case aF => exact (fun k_ hk => ⟨(Nat.le_trans (tS HB) hk), Kd.freshB (tK BK331) k_ hk, Kd.freshB (tK BK332) k_ hk, Kd.freshB (tK BK339) k_ hk, Kd.freshB (tK BK341) k_ hk⟩))
       (case aO => exact (dN HO_340001))
       (case aS => exact (tS HB))
       (case aL => have := LMc25.out; omega)
       intro v349 w37 ho hb hg hat
       rw [← Ny348.out] at ho
       have n0_ := Aside0.mk (Kd.V_afterv (ok := (fun k_ => (w.heap.size ≤ k_) ∧ some k_ ≠ (.slice Ao34 t342.length co34 : Value).ownBlock ∧ k_ ≠ gb331 ∧ k_ ≠ gb332 ∧ k_ ≠ gb339 ∧ k_ ≠ gb341)) (dV HO_340002) hg hat)
       have n1_ := Aside0.mk (blk_grown (tK BK331) hg (Kd.N_ne HO_340001.out BK331.out (by decide)))
       have n2_ := Aside0.mk (blk_grown (tK BK332) hg (Kd.N_ne HO_340001.out BK332.out (by decide)))
       have n3_ := Aside0.mk (blk_grown (tK BK339) hg (Kd.N_ne HO_340001.out BK339.out (by decide)))
       have n4_ := Aside0.mk (blk_grown (tK BK341) hg (Kd.N_away HO_340001.out (fun _ hk => hk.1.2.2.2.2)))
       have n5_ := Aside0.mk (Kd.R_over' (dR HO344) (Kd.N_typed (dN HO_340001)) (by decide) hg)
       have n6_ := Aside0.mk (Kd.V_afterv (ok := (fun k_ => (w.heap.size ≤ k_) ∧ k_ ≠ gb331 ∧ k_ ≠ gb332 ∧ k_ ≠ gb339 ∧ k_ ≠ gb341)) (dV HO347) hg hat)
       have n7_ := Aside0.mk (hb)
       have n8_ := Aside0.mk (ho)
       revert n0_ n1_ n2_ n3_ n4_ n5_ n6_ n7_ n8_
       clear HO_340002 BK331 BK332 BK339 BK341 HO344 HO347 HB HO_340001
       intro HO_340002 BK331 BK332 BK339 BK341 HO344 HO347 HB HO350
       clear ho hb hg hat
       obtain ⟨Ao38, co38, eo38⟩ := Kd.N_slice HO350.out
       (first | subst eo38 | (injection eo38 with f1_ f2_ f3_; have f4_ := f1_.symm; have f5_ := f3_.symm; clear f1_ f2_ f3_; subst f4_; subst f5_))
       refine hK.out _ _ ⟨(blk_cell BK339.out 0).trans rfl, (blk_cell BK339.out 1).trans rfl, (blk_cell BK339.out 2).trans rfl, (blk_cell BK341.out 0).trans rfl, (blk_cell BK341.out 1).trans rfl⟩ (fun hHeld => ?_)
       clear hK K
       refine norm_ (a' := ?_) ?_ ?_
       rotate_left
       ·
        show Act.put _ (some 30) _ = _
        simp only [Act.put, List.setIfInBounds_toArray, List.set_cons_zero, List.set_cons_succ, i64_w, i32_w]
        rfl
       refine pure_ (i := 11) (N := some 31) (v := ?_) (a' := ?_) #[true, true, true, true, true, true, true, true, true, true, true, true, false] rfl rfl (any_of HT_.out (by kernel_rfl)) (fun _ _ _ h => h) (Or.inl ⟨by rfl, ?_⟩) ?_ ?_
       rotate_left
       ·
        intro w'
        go_simp
        with_reducible rfl
       rotate_left
       ·
        simp only [Act.put, List.setIfInBounds_toArray, List.set_cons_zero, List.set_cons_succ, i64_w, i32_w]
        rfl
       refine last_ (i := 12) (N := none) #[true, true, true, true, true, true, true, true, true, true, true, true, true] rfl rfl (one_of HT_.out (by kernel_rfl)) (by decide) (fun K hK => ?_)
       have hs39 : w37.cell? ⟨gb339, 1, none⟩ = some (u340001) := (blk_cell BK339.out 1).trans rfl
       have hfs39 := blk_frozen BK339.out 1
       have hns39_0 := NB331_339.out
       have hns39_1 := NB332_339.out
       have hns39_3 := NB341_339.out
       have hms39_0 := NB339_331.out
       have hms39_1 := NB339_332.out
       have hms39_3 := NB339_341.out
       refine skip_ (w1 := ?_) (by rfl) rfl ?_ ?_
       rotate_left
       ·
        go_simp
        rfl
       refine hK.out _ _ ?_
       clear hK K
       refine done_ (done_of HT_.out (by kernel_rfl)) ?_
       try go_wp2
       go_roundg k1
       case measure => have := HK1.out; omega
       case rel => exact ⟨(wrap64 (x16_1 + 1)), (y348), (.slice Ao38 y348.length co38), tV1, H', ⟨by have := HK1.out; omega⟩, ⟨dN HO350⟩, ⟨dV HO_340002⟩, ⟨tK BK331⟩, ⟨tK BK332⟩, ⟨tKp BK339⟩, ⟨tB HB⟩⟩
      ·
       rw [if_neg c25] at H
       exact absurd H (by simp)
     ·
      rw [if_neg c22] at H
      exact absurd H (by simp)
    ·
     rw [if_neg c21] at H
     exact absurd H (by simp)
   ·
    rw [if_neg c20] at H
    have c20b0 : decide (x16_1 < (l0_1.length : Int)) = false := decide_eq_false c20
    clear c20
    simp only [Option.some.injEq, Prod.mk.injEq] at H
    obtain ⟨rfl, rfl, rfl⟩ := H
    have hnb40 := NB339_331.out
    have hnc40 := NB331_339.out
    have hnb41 := NB339_332.out
    have hnc41 := NB332_339.out
    obtain ⟨hcz42_0, hcz42_1, hcz42_2, hfz42_0, hfz42_1, hfz42_2⟩ := bx3 BK339
    have hnb43 := NB332_331.out
    have hnc43 := NB331_332.out
    obtain ⟨hcz44_0, hcz44_1, hcz44_2, hfz44_0, hfz44_1, hfz44_2⟩ := bx3 BK332
    obtain ⟨Ao45, co45, eo45⟩ := Kd.N_slice HO_340001.out
    subst eo45
    go_wp2
    refine bodyPost_ret (results_cell_row rfl _ _ gb332 68 #[.string a0_0, .slice Ao45 x340001_1.length co45, .slice Ao13 t336.length co13] (0, 0) _ rfl (tKp BK332) Try.underlying68 rfl (by kernel_rfl)) rfl ?_
    exact ⟨_, _, tE, by (with_reducible repeat (first | apply Kd.N_alloc | apply Kd.N_drewN | apply Kd.N_drew)); exact Kd.N_mono (Kd.N_far (p := ⟨gb332, 2, none⟩) (Kd.N_far (p := ⟨gb332, 1, none⟩) (Kd.N_far (p := ⟨gb332, 0, none⟩) (Kd.N_mono HO_340001.out (fun k_ hk => (⟨hk, hk.2.2.1⟩ : _ ∧ k_ ≠ gb332))) (fun _ hk => hk.2) (.string a0_0)) (fun _ hk => hk.2) (.slice Ao45 x340001_1.length co45)) (fun _ hk => hk.2) (.slice Ao13 t336.length co13)) (fun _ hk => hk.1.1), by (with_reducible repeat (first | apply Kd.V_alloc | apply Kd.V_drewN | apply Kd.V_drew)); exact Kd.V_mono (Kd.V_far (p := ⟨gb332, 2, none⟩) (Kd.V_far (p := ⟨gb332, 1, none⟩) (Kd.V_far (p := ⟨gb332, 0, none⟩) (Kd.V_mono HO_340002.out (fun k_ hk => (⟨hk, hk.2.2.2.1⟩ : _ ∧ k_ ≠ gb332))) (fun _ hk => hk.2) (.string a0_0)) (fun _ hk => hk.2) (.slice Ao45 x340001_1.length co45)) (fun _ hk => hk.2) (.slice Ao13 t336.length co13)) (fun _ hk => ⟨hk.1.1, hk.1.2.1⟩), by repeat (first | (with_reducible first | exact HB.out | apply below_alloc | apply pw_below_drewN | apply below_drew1 | refine below_set ?_ GE331.out | refine below_set ?_ GE332.out | refine below_set ?_ GE339.out) | exact HB.out)⟩

end Go.Proofs.Ytfbfopfhfeijdaa.Pr
