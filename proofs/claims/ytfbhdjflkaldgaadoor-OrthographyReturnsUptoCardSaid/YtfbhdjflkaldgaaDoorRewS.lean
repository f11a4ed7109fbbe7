/- rewrite.Sites. -/
import Derived.Test.YtfbhdjflkaldgaaDoorMg10
import Derived.Test.YtfbhdjflkaldgaaDoorRewR
import Derived.WalkMore
namespace Go.Proofs.YtfbhdjflkaldgaaDoor.Pr
open Go.Proofs.YtfbhdjflkaldgaaDoor.Ct Go.RowKit Go.Maps Go.Lib Go.Proofs.YtfbhdjflkaldgaaDoorW.PrintWords Go.Proofs.YtfbhdjflkaldgaaDoorW.PrintLast Go.Proofs.YtfbhdjflkaldgaaDoorW.PrintMore
set_option linter.unusedVariables false
set_option linter.unusedSimpArgs false
def upTo (f : Nat → Bool) (n : Nat) : List Int := ((List.range n).filter f).map Int.ofNat
theorem upTo_step (f : Nat → Bool) (n : Nat) : upTo f (n + 1) = if f n = true then upTo f n ++ [(n : Int)] else upTo f n := by
  unfold upTo
  rw [List.range_succ, List.filter_append, List.map_append]
  by_cases h : f n = true
  · rw [if_pos h]; simp [h]
  · rw [if_neg h]; simp [h]
theorem upTo_length (f : Nat → Bool) (n : Nat) : (upTo f n).length ≤ n := by
  unfold upTo
  rw [List.length_map]
  exact Nat.le_trans (List.length_filter_le _ _) (by simp)
def siteAt (l : List S80) (r : S85) (V : List Int) (i : Nat) : Bool :=
  (decide (r.f0 = 0) || (decide (i < V.length) && decide (V.getD i 0 = r.f0))) && (followsP l r.f2 r.f4 ((V.take i).map (idxI l)) && precedesP l r.f3 r.f5 ((V.drop (if r.f0 = 0 then i else i + 1)).map (idxI l)))
def sitesP (l : List S80) (r : S85) (s : ByteArray) : List Int := if ruleP l r = true ∧ isWordP l s = true then upTo (siteAt l r (runesS s)) ((runesS s).length + 1) else []
def rewrite_Sites.f (l0 : List S80) (a0 : Int) (a1 : ByteArray) (l2 l3 : List S82) (a4 a5 : Bool) (a6 : ByteArray) : Option (List Int) := if runesOk l0 = true ∧ smallR ⟨a0, a1, l2, l3, a4, a5⟩ = true ∧ a6.size ≤ 1099511627776 then some (sitesP l0 ⟨a0, a1, l2, l3, a4, a5⟩ a6) else none
theorem runesS_encS (rs : List Int) (h : ∀ r ∈ rs, scalar r) : runesS (encS rs) = rs := by
  unfold runesS
  rw [encS_list]
  have := runes_encL rs h []
  rw [List.append_nil] at this
  rw [this, runesL_nil, List.append_nil]
theorem encS_size (rs : List Int) : (encS rs).size ≤ 4 * rs.length := by
  have h1 : (encS rs).size = (encL rs).length := by rw [← sizeL, encS_list]
  rw [h1]
  unfold encL
  induction rs with
  | nil => simp
  | cons r t ih =>
    clear h1
    have ih : (List.flatMap encodeRune t).length ≤ 4 * t.length := ih (by rw [← sizeL, encS_list])
    rw [List.flatMap_cons, List.length_append, List.length_cons]
    have h2 : (encodeRune r).length ≤ 4 := by
      have := (encodeRuneZ_length r).2
      unfold encodeRune
      rw [List.length_map]
      omega
    omega
theorem Word1.part {l : List S80} {p : List S82} {rs : List Int} (h1 : runesOk l = true) (h2 : patP l p = true) (h3 : smallP p = true) (h4 : rs.length ≤ 40) (h5 : ∀ r ∈ rs, scalar r) (h6 : rs.all (isL l) = true) : Word1 l p (encS rs) :=
  ⟨h1, h2, h3, by have := encS_size rs; omega, by rw [encS_list]; exact valid_encL rs h5, by rw [runesS_encS rs h5]; exact h6⟩
theorem idxs_part {l : List S80} {rs : List Int} (h5 : ∀ r ∈ rs, scalar r) : idxs l (encS rs) = rs.map (idxI l) := by unfold idxs; rw [runesS_encS rs h5]
theorem runes_new (w : World) (s : ByteArray) (hs : s.size ≤ 1099511627776) : ∃ (W1 : World) (cap : Nat), (convert 9 95 (.string s)).run Tryd.prog w = .ok (.slice (some ⟨w.heap.size, 0, none⟩) (runesS s).length cap) W1 ∧ (runesS s).length ≤ cap ∧ RunesAt W1 w.heap.size (runesS s) ∧ Below w.heap.size w W1 :=
  ⟨_, _, run_runes w 9 95 21 s Tryd.underlying9 Tryd.underlying95 Tryd.underlying21 (by omega), grownCap_ge w (runesS s).length 0 21, runesAt_new w.drew (runesS s) _ _, (Below.refl _ w).drew.alloc (Nat.le_refl _) _⟩
theorem conv_part {W : World} {b : Nat} {V : List Int} (hs : ∀ r ∈ V, scalar r) (i n c : Nat) (h : RunesAt W b V) (hi : i + n ≤ V.length) : (convert 95 9 (.slice (some ⟨b, i, none⟩) n c)).run Tryd.prog W = .ok (.string (encS ((V.drop i).take n))) W := by
  rw [run_convert_runes W 95 9 21 ⟨b, i, none⟩ n c ((V.drop i).take n) (by rw [List.length_take, List.length_drop]; omega) Tryd.underlying95 Tryd.underlying21 Tryd.underlying9 (fun j hj => by
    have hj' : j < n := by rw [List.length_take, List.length_drop] at hj; omega
    have := h (i + j) (by omega)
    rw [show ((⟨b, i, none⟩ : Addr).add j) = ⟨b, i + j, none⟩ by simp [Addr.add], this]
    congr 2
    simp [List.getD_eq_getElem?_getD, List.getElem?_take_of_lt hj', List.getElem?_drop]), List.take_of_length_le (by rw [List.length_take]; omega), runesBytes_enc _ (fun r hr => hs r (List.mem_of_mem_drop (List.mem_of_mem_take hr)))]
theorem LRewSx1 {p : Prop} (h : p := by
  have hdl' : Aside0 ((upTo f i).length ≤ 41) := ⟨Nat.le_trans (upTo_length _ _) (by have := hVw'.out.1; have := hik.out; omega)⟩
  cases PB with
  | false =>
    have hsite := Aside0.mk (show upTo f (i + 1) = upTo f i by rw [hst.out, if_neg]; rw [hsq]; simp)
    clear hsq
    go_wp2
    go_roundg g1
    case measure => omega
    case rel => exact ⟨i + 1, by rw [hfin.out], ⟨by have := hik.out; omega⟩, ⟨by rw [hsite.out]; exact ownsRow_below hO.out HW5⟩, HB5⟩
  | true =>
    have hsite := Aside0.mk (show upTo f (i + 1) = upTo f i ++ [(i : Int)] by rw [hst.out, if_pos]; rw [hsq]; rfl)
    clear hsq
    go_wp2_with ((with_reducible refine gate_builtin (b := .append) (xs := #[.tmp 64, .tmp 66]) rfl ?_); at_builtin; refine wpList_append_own _ rfl (.tmp 64) (.tmp 66) 124 rfl W1.heap.size 3 i0 (.int .i64 0) 1 8 Tryd.underlying124 hi0 hz0 hz1 hz2 rfl (by decide) (.slice ao (upTo f i).length cp) (upTo f i).length ((upTo f i).map (Value.int .i64)) rfl (World.ownsRow.alloc (ownsRow_below hO.out HW5) _) ⟨w5.heap.size, 0, none⟩ 1 1 [.int .i64 (i : Int)] rfl rfl ?aC (by simp [Value.oneCell']) ?aM ?aB ?aS ?_; (case aC => exact cells_one w5 _ _); (case aM => exact Gc24); (case aB => have := hdl'.out; omega); (case aS => have := HB.out.size; have := HB5.out.size; simp; omega); intro z1_ z2_ z3_ z4_ z5_; have z6_ : Below W1.heap.size W1 z2_ := ((HB5.out.alloc HB5.out.size _)).grown z4_ (by have := HB5.out.size; simp; omega) (fun k e => row_own_ge hO.out k e); have z7_ := Aside0.mk z3_; clear z3_)
    go_roundg g1
    case measure => omega
    case rel =>
      refine ⟨i + 1, by rw [hfin.out], ⟨by have := hik.out; omega⟩, ⟨?_⟩, ⟨z6_⟩⟩
      rw [hsite.out, List.length_append, List.map_append]
      exact z7_.out) : p := h
theorem LRewSx2 {p : Prop} (h : p := by
  refine pK 12 45 ?_
  refine done_ (by kernel_rfl) ?_
  go_wp2
  go_roundg g1
  case measure => omega
  case rel => exact ⟨i + 1, by rw [hfin.out], ⟨by have := hik.out; omega⟩, ⟨by rw [hsite.out]; exact hO.out⟩, ⟨hBd'.out⟩⟩) : p := h
theorem LRewSx3 {p : Prop} (h : p := by
  go_wp2
  go_roundg g1
  case measure => omega
  case rel => exact ⟨i + 1, by rw [hfin.out], ⟨by have := hik.out; omega⟩, ⟨by rw [hsite.out]; exact ownsRow_below hO.out HW5⟩, HB5⟩) : p := h
set_option maxRecDepth 1000000 in
theorem LRewSxh1 {p : Prop} (h : p := by
  refine start_ (n := 16) (S := fun w' => w'.cell? ⟨w.heap.size, 0, none⟩ = some (.int .i32 a0) ∧ w'.cell? ⟨w.heap.size, 1, none⟩ = some (.string a1) ∧ w'.cell? ⟨w.heap.size, 2, none⟩ = some (.slice A2 l2.length c2) ∧ w'.cell? ⟨w.heap.size, 3, none⟩ = some (.slice A3 l3.length c3) ∧ w'.cell? ⟨w.heap.size, 4, none⟩ = some (.bool a4) ∧ w'.cell? ⟨w.heap.size, 5, none⟩ = some (.bool a5)) (ds := []) #[false, false, false, false, false, false, false, false, false, false, false, false, false, false, false, false] (by kernel_rfl) rfl rfl ⟨q0, q1, q2, q3, q4, q5⟩ (fun hHeld => ?_)
  refine pK 0 48 ?_
  refine pK 2 50 ?_
  refine pK 3 51 ?_
  refine pK 4 52 ?_
  refine tKt 1 49 hHeld ?_
  refine one_ (i := 5) (N := some 53) #[true, true, true, true, true, true, false, false, false, false, false, false, false, false, false, false] rfl rfl (by kernel_rfl) (by decide) (fun K hK => ?_)
  refine value_ (w1 := ?_) (v := ?_) (by rfl) rfl ?_ ?_
  rotate_left 2
  · go_simp
    constructor
    · rfl
    · rfl
  refine hK.out _ _ ⟨q0, q1, q2, q3, q4, q5⟩ (fun hHeld => ?_)
  clear hK K
  refine nR 53 ?_
  refine one_ (i := 6) (N := some 54) #[true, true, true, true, true, true, true, false, false, false, false, false, false, false, false, false] rfl rfl (by kernel_rfl) (by decide) (fun K hK => ?_)
  refine goes_ Tryd.func90 (by kernel_rfl) rfl #[.slice A0 l0.length c0, .agg #[.int .i32 a0, .string a1, .slice A2 l2.length c2, .slice A3 l3.length c3, .bool a4, .bool a5], .string (encS (V.take i))] (by rfl) rfl rfl Gc20 ?_
  with_reducible refine (hfoA).mono ?_
  first
  | (have mk_ := mk0_
     rintro e w4 ⟨rfl, hB4⟩
     refine ⟨_, rfl, ?_⟩
     have hB4' := Aside0.mk hB4
     have hcB := hcvB'.out w4 (hBc'.out.trans (hB4.mono hBc'.out.size))
     have hprB := hprA'.out w4 (hBW'.out.trans ((hBc'.out.trans (hB4.mono hBc'.out.size)).mono hBW'.out.size))
     refine hK.out _ _ ⟨(hB4.cell (World.block_lt_of_cell? _ _ q0)).trans q0, (hB4.cell (World.block_lt_of_cell? _ _ q1)).trans q1, (hB4.cell (World.block_lt_of_cell? _ _ q2)).trans q2, (hB4.cell (World.block_lt_of_cell? _ _ q3)).trans q3, (hB4.cell (World.block_lt_of_cell? _ _ q4)).trans q4, (hB4.cell (World.block_lt_of_cell? _ _ q5)).trans q5⟩ (fun hHeld => ?_)
     clear hK K
     refine nR 54 ?_
     refine pK 7 55 ?_
     refine pK 8 56 ?_
     refine pK 10 58 ?_
     refine pK 11 59 ?_
     refine pK 12 60 ?_
     refine tKt 9 57 hHeld ?_
     refine one_ (i := 13) (N := some 61) #[true, true, true, true, true, true, true, true, true, true, true, true, true, true, false, false] rfl rfl (by kernel_rfl) (by decide) (fun K hK => ?_)
     refine value_ (w1 := ?_) (v := ?_) (by rfl) rfl ?_ ?_
     rotate_left 2
     · go_simp
       constructor
       · rfl
       · rfl
     refine hK.out _ _ ⟨(hB4'.out.cell (World.block_lt_of_cell? _ _ q0)).trans q0, (hB4'.out.cell (World.block_lt_of_cell? _ _ q1)).trans q1, (hB4'.out.cell (World.block_lt_of_cell? _ _ q2)).trans q2, (hB4'.out.cell (World.block_lt_of_cell? _ _ q3)).trans q3, (hB4'.out.cell (World.block_lt_of_cell? _ _ q4)).trans q4, (hB4'.out.cell (World.block_lt_of_cell? _ _ q5)).trans q5⟩ (fun hHeld => ?_)
     clear hK K
     refine nR 61 ?_
     refine one_ (i := 14) (N := some 62) #[true, true, true, true, true, true, true, true, true, true, true, true, true, true, true, false] rfl rfl (by kernel_rfl) (by decide) (fun K hK => ?_)
     refine goes_ Tryd.func91 (by kernel_rfl) rfl #[.slice A0 l0.length c0, .agg #[.int .i32 a0, .string a1, .slice A2 l2.length c2, .slice A3 l3.length c3, .bool a4, .bool a5], .string (encS (V.drop i))] (by rfl) rfl rfl Gc20 ?_
     with_reducible refine (hprB).mono ?_
     rintro e w5 ⟨rfl, hB5⟩
     refine ⟨_, rfl, ?_⟩
     have hB5' := Aside0.mk hB5
     refine hK.out _ _ ⟨((hB4'.out.trans (hB5.mono hB4'.out.size)).cell (World.block_lt_of_cell? _ _ q0)).trans q0, ((hB4'.out.trans (hB5.mono hB4'.out.size)).cell (World.block_lt_of_cell? _ _ q1)).trans q1, ((hB4'.out.trans (hB5.mono hB4'.out.size)).cell (World.block_lt_of_cell? _ _ q2)).trans q2, ((hB4'.out.trans (hB5.mono hB4'.out.size)).cell (World.block_lt_of_cell? _ _ q3)).trans q3, ((hB4'.out.trans (hB5.mono hB4'.out.size)).cell (World.block_lt_of_cell? _ _ q4)).trans q4, ((hB4'.out.trans (hB5.mono hB4'.out.size)).cell (World.block_lt_of_cell? _ _ q5)).trans q5⟩ (fun hHeld => ?_)
     clear hK K
     refine nR 62 ?_
     refine pK 15 63 ?_
     refine done_ (by kernel_rfl) ?_
     have HB5 := Aside0.mk (hBc'.out.trans ((hB4'.out.trans (hB5'.out.mono hB4'.out.size)).mono hBc'.out.size))
     have HW5 : Below wr.heap.size wr w5 := (fun (h : Below wr.drew.heap.size wr.drew w5) => ⟨h.os, h.tape, h.output, h.size, h.block⟩) (hB4'.out.trans (hB5'.out.mono hB4'.out.size))
     generalize (if cap = i then some (⟨b7, 0, none⟩ : Addr) else some ⟨b7, i, none⟩) = xx
     exact LRewSx1)
  | (have mk_ := mk1_
     rintro e w4 ⟨rfl, hB4⟩
     refine ⟨_, rfl, ?_⟩
     have hB4' := Aside0.mk hB4
     have hcB := hcvB'.out w4 (hBc'.out.trans (hB4.mono hBc'.out.size))
     have hprB := hprA'.out w4 (hBW'.out.trans ((hBc'.out.trans (hB4.mono hBc'.out.size)).mono hBW'.out.size))
     refine hK.out _ _ ⟨(hB4.cell (World.block_lt_of_cell? _ _ q0)).trans q0, (hB4.cell (World.block_lt_of_cell? _ _ q1)).trans q1, (hB4.cell (World.block_lt_of_cell? _ _ q2)).trans q2, (hB4.cell (World.block_lt_of_cell? _ _ q3)).trans q3, (hB4.cell (World.block_lt_of_cell? _ _ q4)).trans q4, (hB4.cell (World.block_lt_of_cell? _ _ q5)).trans q5⟩ (fun hHeld => ?_)
     clear hK K
     refine nR 54 ?_
     refine pK 7 55 ?_
     refine pK 8 56 ?_
     refine pK 10 58 ?_
     refine pK 11 59 ?_
     refine pK 12 60 ?_
     refine tKt 9 57 hHeld ?_
     refine one_ (i := 13) (N := some 61) #[true, true, true, true, true, true, true, true, true, true, true, true, true, true, false, false] rfl rfl (by kernel_rfl) (by decide) (fun K hK => ?_)
     refine value_ (w1 := ?_) (v := ?_) (by rfl) rfl ?_ ?_
     rotate_left 2
     · go_simp
       constructor
       · rfl
       · rfl
     refine hK.out _ _ ⟨(hB4'.out.cell (World.block_lt_of_cell? _ _ q0)).trans q0, (hB4'.out.cell (World.block_lt_of_cell? _ _ q1)).trans q1, (hB4'.out.cell (World.block_lt_of_cell? _ _ q2)).trans q2, (hB4'.out.cell (World.block_lt_of_cell? _ _ q3)).trans q3, (hB4'.out.cell (World.block_lt_of_cell? _ _ q4)).trans q4, (hB4'.out.cell (World.block_lt_of_cell? _ _ q5)).trans q5⟩ (fun hHeld => ?_)
     clear hK K
     refine nR 61 ?_
     refine one_ (i := 14) (N := some 62) #[true, true, true, true, true, true, true, true, true, true, true, true, true, true, true, false] rfl rfl (by kernel_rfl) (by decide) (fun K hK => ?_)
     refine goes_ Tryd.func91 (by kernel_rfl) rfl #[.slice A0 l0.length c0, .agg #[.int .i32 a0, .string a1, .slice A2 l2.length c2, .slice A3 l3.length c3, .bool a4, .bool a5], .string (encS (V.drop j))] (by rfl) rfl rfl Gc20 ?_
     with_reducible refine (hprB).mono ?_
     rintro e w5 ⟨rfl, hB5⟩
     refine ⟨_, rfl, ?_⟩
     have hB5' := Aside0.mk hB5
     refine hK.out _ _ ⟨((hB4'.out.trans (hB5.mono hB4'.out.size)).cell (World.block_lt_of_cell? _ _ q0)).trans q0, ((hB4'.out.trans (hB5.mono hB4'.out.size)).cell (World.block_lt_of_cell? _ _ q1)).trans q1, ((hB4'.out.trans (hB5.mono hB4'.out.size)).cell (World.block_lt_of_cell? _ _ q2)).trans q2, ((hB4'.out.trans (hB5.mono hB4'.out.size)).cell (World.block_lt_of_cell? _ _ q3)).trans q3, ((hB4'.out.trans (hB5.mono hB4'.out.size)).cell (World.block_lt_of_cell? _ _ q4)).trans q4, ((hB4'.out.trans (hB5.mono hB4'.out.size)).cell (World.block_lt_of_cell? _ _ q5)).trans q5⟩ (fun hHeld => ?_)
     clear hK K
     refine nR 62 ?_
     refine pK 15 63 ?_
     refine done_ (by kernel_rfl) ?_
     have HB5 := Aside0.mk (hBc'.out.trans ((hB4'.out.trans (hB5'.out.mono hB4'.out.size)).mono hBc'.out.size))
     have HW5 : Below wq.heap.size wq w5 := (fun (h : Below wq.drew.heap.size wq.drew w5) => ⟨h.os, h.tape, h.output, h.size, h.block⟩) (hB4'.out.trans (hB5'.out.mono hB4'.out.size))
     generalize (if cap = j then some (⟨b7, 0, none⟩ : Addr) else some ⟨b7, j, none⟩) = xx
     exact LRewSx1)
  | (have mk_ := mk2_
     rintro e z1_ ⟨rfl, z2_⟩
     refine ⟨_, rfl, ?_⟩
     have z3_ := Aside0.mk z2_
     refine hK.out _ _ ⟨(z2_.cell (World.block_lt_of_cell? _ _ q0)).trans q0, (z2_.cell (World.block_lt_of_cell? _ _ q1)).trans q1, (z2_.cell (World.block_lt_of_cell? _ _ q2)).trans q2, (z2_.cell (World.block_lt_of_cell? _ _ q3)).trans q3, (z2_.cell (World.block_lt_of_cell? _ _ q4)).trans q4, (z2_.cell (World.block_lt_of_cell? _ _ q5)).trans q5⟩ (fun hHeld => ?_)
     clear hK K
     refine nR 54 ?_
     refine pK 7 55 ?_
     refine uK 8 56 ?_
     refine uK 9 57 ?_
     refine uK 10 58 ?_
     refine uK 11 59 ?_
     refine uK 12 60 ?_
     refine uK 13 61 ?_
     refine uK 14 62 ?_
     refine pK 15 63 ?_
     refine done_ (by kernel_rfl) ?_
     have HB5 := Aside0.mk (hBc'.out.trans (z3_.out.mono hBc'.out.size))
     have HW5 : Below wr.heap.size wr z1_ := ⟨z3_.out.os, z3_.out.tape, z3_.out.output, z3_.out.size, z3_.out.block⟩
     exact LRewSx3)
  | (have mk_ := mk3_
     rintro e z1_ ⟨rfl, z2_⟩
     refine ⟨_, rfl, ?_⟩
     have z3_ := Aside0.mk z2_
     refine hK.out _ _ ⟨(z2_.cell (World.block_lt_of_cell? _ _ q0)).trans q0, (z2_.cell (World.block_lt_of_cell? _ _ q1)).trans q1, (z2_.cell (World.block_lt_of_cell? _ _ q2)).trans q2, (z2_.cell (World.block_lt_of_cell? _ _ q3)).trans q3, (z2_.cell (World.block_lt_of_cell? _ _ q4)).trans q4, (z2_.cell (World.block_lt_of_cell? _ _ q5)).trans q5⟩ (fun hHeld => ?_)
     clear hK K
     refine nR 54 ?_
     refine pK 7 55 ?_
     refine uK 8 56 ?_
     refine uK 9 57 ?_
     refine uK 10 58 ?_
     refine uK 11 59 ?_
     refine uK 12 60 ?_
     refine uK 13 61 ?_
     refine uK 14 62 ?_
     refine pK 15 63 ?_
     refine done_ (by kernel_rfl) ?_
     have HB5 := Aside0.mk (hBc'.out.trans (z3_.out.mono hBc'.out.size))
     have HW5 : Below wq.heap.size wq z1_ := ⟨z3_.out.os, z3_.out.tape, z3_.out.output, z3_.out.size, z3_.out.block⟩
     exact LRewSx3)) : p := h
set_option maxRecDepth 1000000 in
theorem LRewSxh2 {p : Prop} (h : p := by
  go_wp2
  refine start_ (n := 13) (S := fun w' => w'.cell? ⟨b7, i, none⟩ = some (.int .i32 R) ∧ w'.cell? ⟨w.heap.size, 0, none⟩ = some (.int .i32 a0)) (ds := []) #[false, false, false, false, false, false, false, false, false, false, false, false, false] (by kernel_rfl) rfl rfl ⟨hR9, q0⟩ (fun hHeld => ?_)
  refine pK 0 33 ?_
  refine pK 1 34 ?_
  refine pK 2 35 ?_
  refine pK 3 36 ?_
  refine pK 4 37 ?_
  refine pK 5 38 ?_
  refine pK 6 39 ?_
  refine pK 7 40 ?_
  refine pK 9 42 ?_
  refine tKt 8 41 hHeld ?_
  refine tKt 10 43 hHeld ?_
  refine pK 11 44 ?_
  first
  | (have mk_ := mk0_
     refine pK 12 45 ?_
     refine done_ (by kernel_rfl) ?_
     go_wp2
     obtain ⟨j, hj0⟩ : ∃ j, i + 1 = j := ⟨_, rfl⟩
     have hj := Aside0.mk hj0
     have hfj := hfin.out
     rw [hj0] at hfj
     rw [hfj]
     clear hfj hj0
     obtain ⟨wq, hwq⟩ : ∃ wq, wr.drew = wq := ⟨_, rfl⟩
     replace hBc : Below W1.heap.size W1 wq := hwq ▸ hBc.drew
     replace HB : Aside0 (Below W1.heap.size W1 wq) := ⟨hBc⟩
     replace hO : Aside0 (wq.ownsRow W1.heap.size 3 1 (.slice ao (upTo f i).length cp) (upTo f i).length ((upTo f i).map (Value.int .i64))) := hwq ▸ hO
     replace q0 : wq.cell? ⟨w.heap.size, 0, none⟩ = some (.int .i32 a0) := hwq ▸ q0
     replace q1 : wq.cell? ⟨w.heap.size, 1, none⟩ = some (.string a1) := hwq ▸ q1
     replace q2 : wq.cell? ⟨w.heap.size, 2, none⟩ = some (.slice A2 l2.length c2) := hwq ▸ q2
     replace q3 : wq.cell? ⟨w.heap.size, 3, none⟩ = some (.slice A3 l3.length c3) := hwq ▸ q3
     replace q4 : wq.cell? ⟨w.heap.size, 4, none⟩ = some (.bool a4) := hwq ▸ q4
     replace q5 : wq.cell? ⟨w.heap.size, 5, none⟩ = some (.bool a5) := hwq ▸ q5
     rw [hwq]
     clear hwq hR9 hBd'
     have hlt := hlt'.out
     have hRa := hRa'.out
     have hmt : ∀ r ∈ V.take i, r ∈ V := fun r hr => List.mem_of_mem_take hr
     have hmd : ∀ r ∈ V.drop j, r ∈ V := fun r hr => List.mem_of_mem_drop hr
     have hcA : (convert 95 9 (.slice (some ⟨b7, 0, none⟩) i cap)).run Tryd.prog wq.drew = .ok (.string (encS (V.take i))) wq.drew := by
       have := conv_part (W := wq.drew) hVs'.out 0 i cap (hVat'.out.below hBc.drew) (by have := hik.out; omega)
       rw [List.drop_zero] at this; exact this
     have hcvB' : Aside0 (∀ w4, Below W1.heap.size W1 w4 → (convert 95 9 (.slice (if cap = j then some ⟨b7, 0, none⟩ else some ⟨b7, j, none⟩) (V.length - j) (cap - j))).run Tryd.prog w4 = .ok (.string (encS (V.drop j))) w4) := ⟨fun w4 hB => by
       have hVat := hVat'.out.below hB
       have hlt := hlt
       have := hj.out
       split
       · have h9 := conv_part (W := w4) hVs'.out 0 (V.length - j) (cap - j) hVat (by omega)
         rw [h9, show V.length - j = 0 by omega, List.take_zero, List.drop_of_length_le (by omega)]
       · have h9 := conv_part (W := w4) hVs'.out (j) (V.length - j) (cap - j) hVat (by omega)
         rw [h9, List.take_of_length_le (by rw [List.length_drop]; omega)]⟩
     have hfoA := hfo'.out (V.take i) hmt (by rw [List.length_take]; omega) wq.drew (hBW'.out.trans (hBc.drew.mono hBW'.out.size))
     have hprA := hpr'.out (V.drop j) hmd (by rw [List.length_drop]; omega)
     obtain ⟨FB, hFB⟩ : ∃ b, followsP l0 l2 a4 ((V.take i).map (idxI l0)) = b := ⟨_, rfl⟩
     obtain ⟨PB, hPB⟩ : ∃ b, precedesP l0 l3 a5 ((V.drop j).map (idxI l0)) = b := ⟨_, rfl⟩
     rw [hFB] at hfoA
     rw [hPB] at hprA
     have hprA' := Aside0.mk hprA
     have hBc' := Aside0.mk hBc.drew
     have hcic : i ≤ cap := by have := hik.out; omega
     have hcib : j ≤ V.length := by have := hj.out; omega
     have hcib2 : V.length ≤ cap := hcap
     have hsq : siteAt l0 ⟨a0, a1, l2, l3, a4, a5⟩ V i = (FB && PB) := by
       show ((decide (a0 = 0) || (decide (i < V.length) && decide (V.getD i 0 = a0))) && (followsP l0 l2 a4 ((V.take i).map (idxI l0)) && precedesP l0 l3 a5 ((V.drop (if a0 = 0 then i else i + 1)).map (idxI l0)))) = _
       rw [if_neg hzb.out, hj.out, hFB, hPB, decide_eq_false hzb.out, decide_eq_true hlt, decide_eq_true hRa]; rfl
     rw [hf'.out] at hsq
     clear hFB hPB hprA hmt hmd hBc
     cases FB with
     | false =>
       have hsite := Aside0.mk (show upTo f (i + 1) = upTo f i by rw [hst.out, if_neg]; rw [hsq]; simp)
       clear hsq
       have mk3_ := trivial
       exact LRewSxh1
     | true =>
       have mk1_ := trivial
       exact LRewSxh1)
  | (have mk_ := mk1_
     exact LRewSx2)) : p := h
set_option maxRecDepth 100000 in
set_option maxHeartbeats 2000000 in
theorem rewrite_Sites.calls (A0 : Option Addr) (c0 : Nat) (l0 : List S80) (a0 : Int) (a1 : ByteArray) (A2 : Option Addr) (c2 : Nat) (l2 : List S82) (A3 : Option Addr) (c3 : Nat) (l3 : List S82) (a4 a5 : Bool) (a6 : ByteArray) (r : List Int) (w : World) (hT : Tabs w) (hr0 : Kd.C k80 w A0 l0.length l0) (hc0 : l0.length ≤ c0) (hr2 : Kd.C k82 w A2 l2.length l2) (hc2 : l2.length ≤ c2) (hr3 : Kd.C k82 w A3 l3.length l3) (hc3 : l3.length ≤ c3) (h : rewrite_Sites.f l0 a0 a1 l2 l3 a4 a5 a6 = some r) :
    Calls Tryd.prog 89 #[.slice A0 l0.length c0, .agg #[.int .i32 a0, .string a1, .slice A2 l2.length c2, .slice A3 l3.length c3, .bool a4, .bool a5], .string a6] w fun e w' => ∃ v0_ : Value, e = .returned v0_ ∧ Kd.R (Kd.int .i64) 3 w' w.heap.size (fun _ => True) v0_ r ∧ Below w.heap.size w w' := by
  unfold rewrite_Sites.f at h
  by_cases hg : runesOk l0 = true ∧ smallR ⟨a0, a1, l2, l3, a4, a5⟩ = true ∧ a6.size ≤ 1099511627776
  · rw [if_pos hg] at h
    have hr := Option.some.inj h
    clear h
    obtain ⟨hg1, hg2, hg3⟩ : a1.size ≤ 1099511627776 ∧ smallP l2 = true ∧ smallP l3 = true := by
      have := hg.2.1
      unfold smallR at this
      rw [Bool.and_eq_true, Bool.and_eq_true, decide_eq_true_eq] at this
      exact this
    have hu := Tryd.underlying85
    obtain ⟨W0, hW0⟩ : ∃ W0, w.alloc (.cells #[.int .i32 a0, .string a1, .slice A2 l2.length c2, .slice A3 l3.length c3, .bool a4, .bool a5] 85) = W0 := ⟨_, rfl⟩
    have hB0 : Below w.heap.size w W0 := by rw [← hW0]; exact (Below.refl _ w).alloc (Nat.le_refl _) _
    have hcell : ∀ w1, Below W0.heap.size W0 w1 → (w1.cell? ⟨w.heap.size, 0, none⟩ = some (.int .i32 a0) ∧ w1.cell? ⟨w.heap.size, 1, none⟩ = some (.string a1) ∧ w1.cell? ⟨w.heap.size, 2, none⟩ = some (.slice A2 l2.length c2)) ∧ w1.cell? ⟨w.heap.size, 3, none⟩ = some (.slice A3 l3.length c3) ∧ w1.cell? ⟨w.heap.size, 4, none⟩ = some (.bool a4) ∧ w1.cell? ⟨w.heap.size, 5, none⟩ = some (.bool a5) := by
      intro w1 hB
      have hlt : w.heap.size < W0.heap.size := by rw [← hW0]; simp
      refine ⟨⟨(hB.cell hlt).trans ?_, (hB.cell hlt).trans ?_, (hB.cell hlt).trans ?_⟩, (hB.cell hlt).trans ?_, (hB.cell hlt).trans ?_, (hB.cell hlt).trans ?_⟩
      · rw [← hW0]; exact cell_new _ _ _ 0 _ rfl
      · rw [← hW0]; exact cell_new _ _ _ 1 _ rfl
      · rw [← hW0]; exact cell_new _ _ _ 2 _ rfl
      · rw [← hW0]; exact cell_new _ _ _ 3 _ rfl
      · rw [← hW0]; exact cell_new _ _ _ 4 _ rfl
      · rw [← hW0]; exact cell_new _ _ _ 5 _ rfl
    have hva := fun (w1 : World) (hB : Below W0.heap.size W0 w1) => rewrite_Valid.calls A0 c0 l0 a0 a1 A2 c2 l2 A3 c3 l3 a4 a5 (ruleP l0 ⟨a0, a1, l2, l3, a4, a5⟩) w1 (tabs_below hT (hB0.trans (hB.mono hB0.size))) (Kd.C_below hr0 (hB0.trans (hB.mono hB0.size))) hc0 (Kd.C_below hr2 (hB0.trans (hB.mono hB0.size))) hc2 (Kd.C_below hr3 (hB0.trans (hB.mono hB0.size))) hc3 (by unfold rewrite_Valid.f; rw [if_pos ⟨hg.1, hg.2.1⟩])
    have hwo := fun (w1 : World) (hB : Below W0.heap.size W0 w1) => rewrite_letters_isWord.calls A0 c0 l0 a6 (isWordP l0 a6) w1 (tabs_below hT (hB0.trans (hB.mono hB0.size))) (Kd.C_below hr0 (hB0.trans (hB.mono hB0.size))) hc0 (by unfold rewrite_letters_isWord.f; rw [if_pos hg.2.2])
    have HBc : Below W0.heap.size W0 W0 := Below.refl _ _
    obtain ⟨⟨k0, k1, k2⟩, k3, k4, k5⟩ := hcell _ HBc
    have hcell' := Aside0.mk hcell
    have hB0' := Aside0.mk hB0
    clear hcell hB0
    cases cv : ruleP l0 ⟨a0, a1, l2, l3, a4, a5⟩ with
    | false =>
      obtain rfl : r = [] := by rw [← hr]; unfold sitesP; rw [if_neg (by rw [cv]; simp)]
      rw [cv] at hva
      have hva' := Aside0.mk hva
      clear hr0 hc0 hr2 hc2 hr3 hc3 hg hr hT hva hwo hg1 hg2 hg3 cv
      go_enter Tryd.func89, Tryd.ntmps89
      go_wp2
      go_step3
      go_wp2_with (go_at_call 48; with_reducible refine (hva'.out _ HBc).mono ?_; rintro e w2 ⟨rfl, hBx⟩; have HBn := HBc.trans (hBx.mono HBc.size); clear HBc hBx k0 k1 k2 k3 k4 k5; have HBc := HBn; clear HBn)
      (try rw [Exit.noGoto_ret]); go_ret
      exact ⟨_, rfl, Kd.R_nil _ _ _ _ _, hB0'.out.trans (HBc.mono hB0'.out.size)⟩
    | true =>
      rw [cv] at hva
      cases cw : isWordP l0 a6 with
      | false =>
        obtain rfl : r = [] := by rw [← hr]; unfold sitesP; rw [if_neg (by rw [cw]; simp)]
        rw [cw] at hwo
        have hva' := Aside0.mk hva
        have hwo' := Aside0.mk hwo
        clear hr0 hc0 hr2 hc2 hr3 hc3 hg hr hT hva hwo hg1 hg2 hg3 cv cw
        go_enter Tryd.func89, Tryd.ntmps89
        go_wp2
        go_step3
        go_wp2_with (first | (go_at_call 48; with_reducible refine (hva'.out _ HBc).mono ?_; rintro e w2 ⟨rfl, hBx⟩; have HBn := HBc.trans (hBx.mono HBc.size); clear HBc hBx k0 k1 k2 k3 k4 k5; have HBc := HBn; clear HBn) | (go_at_call 85; with_reducible refine (hwo'.out _ HBc).mono ?_; rintro e w2 ⟨rfl, hBx⟩; have HBn := HBc.trans (hBx.mono HBc.size); clear HBc hBx; have HBc := HBn; clear HBn))
        (try rw [Exit.noGoto_ret]); go_ret
        exact ⟨_, rfl, Kd.R_nil _ _ _ _ _, hB0'.out.trans (HBc.mono hB0'.out.size)⟩
      | true =>
        rw [cw] at hwo
        obtain ⟨V, hV⟩ : ∃ V, runesS a6 = V := ⟨_, rfl⟩
        obtain ⟨f, hf⟩ : ∃ f, siteAt l0 ⟨a0, a1, l2, l3, a4, a5⟩ V = f := ⟨_, rfl⟩
        have hrr : r = upTo f (V.length + 1) := by rw [← hr, ← hf, ← hV]; unfold sitesP; rw [if_pos ⟨cv, cw⟩]
        have hVs : ∀ r ∈ V, scalar r := by rw [← hV]; exact scalar_runes _
        have hVw : V.length ≤ 40 ∧ V.all (isL l0) = true := by
          unfold isWordP at cw
          rw [hV] at cw
          simp only [Bool.and_eq_true, decide_eq_true_eq] at cw
          exact ⟨cw.2.2, cw.2.1⟩
        have hpat : patP l0 l2 = true ∧ patP l0 l3 = true := by
          have h9 := cv
          unfold ruleP at h9
          simp only [Bool.and_eq_true] at h9
          exact ⟨h9.2.2.1, h9.2.2.2⟩
        have hfo : ∀ xs : List Int, (∀ r ∈ xs, r ∈ V) → xs.length ≤ V.length → ∀ w1, Below W0.heap.size W0 w1 → Calls Tryd.prog 90 #[.slice A0 l0.length c0, .agg #[.int .i32 a0, .string a1, .slice A2 l2.length c2, .slice A3 l3.length c3, .bool a4, .bool a5], .string (encS xs)] w1 fun e w' => e = .returned (.bool (followsP l0 l2 a4 (xs.map (idxI l0)))) ∧ Below w1.heap.size w1 w' := by
          intro xs hx hx2 w1 hB
          have hsx : ∀ r ∈ xs, scalar r := fun r hr => hVs r (hx r hr)
          rw [← idxs_part (l := l0) hsx]
          exact follows_calls A0 c0 l0 a0 a1 A2 c2 l2 A3 c3 l3 a4 a5 (encS xs) w1 (tabs_below hT (hB0'.out.trans (hB.mono hB0'.out.size))) (Kd.C_below hr0 (hB0'.out.trans (hB.mono hB0'.out.size))) hc0 (Kd.C_below hr2 (hB0'.out.trans (hB.mono hB0'.out.size))) hc2 (Kd.C_below hr3 (hB0'.out.trans (hB.mono hB0'.out.size))) hc3 (Word1.part hg.1 hpat.1 hg2 (by omega) hsx (List.all_eq_true.2 fun r hr => List.all_eq_true.1 hVw.2 r (hx r hr)))
        have hpr : ∀ xs : List Int, (∀ r ∈ xs, r ∈ V) → xs.length ≤ V.length → ∀ w1, Below W0.heap.size W0 w1 → Calls Tryd.prog 91 #[.slice A0 l0.length c0, .agg #[.int .i32 a0, .string a1, .slice A2 l2.length c2, .slice A3 l3.length c3, .bool a4, .bool a5], .string (encS xs)] w1 fun e w' => e = .returned (.bool (precedesP l0 l3 a5 (xs.map (idxI l0)))) ∧ Below w1.heap.size w1 w' := by
          intro xs hx hx2 w1 hB
          have hsx : ∀ r ∈ xs, scalar r := fun r hr => hVs r (hx r hr)
          rw [← idxs_part (l := l0) hsx]
          exact precedes_calls A0 c0 l0 a0 a1 A2 c2 l2 A3 c3 l3 a4 a5 (encS xs) w1 (tabs_below hT (hB0'.out.trans (hB.mono hB0'.out.size))) (Kd.C_below hr0 (hB0'.out.trans (hB.mono hB0'.out.size))) hc0 (Kd.C_below hr2 (hB0'.out.trans (hB.mono hB0'.out.size))) hc2 (Kd.C_below hr3 (hB0'.out.trans (hB.mono hB0'.out.size))) hc3 (Word1.part hg.1 hpat.2 hg3 (by omega) hsx (List.all_eq_true.2 fun r hr => List.all_eq_true.1 hVw.2 r (hx r hr)))
        have hsz6 := hg.2.2
        obtain ⟨i0, hi0, hz0, hz1, hz2⟩ := info_parts info3
        have hVs' := Aside0.mk hVs
        have hVw' := Aside0.mk hVw
        have hfo' := Aside0.mk hfo
        have hpr' := Aside0.mk hpr
        have hva' := Aside0.mk hva
        have hwo' := Aside0.mk hwo
        have hrr' := Aside0.mk hrr
        have hf' := Aside0.mk hf
        have hV' := Aside0.mk hV
        have hsz' := Aside0.mk hsz6
        clear hr0 hc0 hr2 hc2 hr3 hc3 hg hr hT hva hwo hg1 hg2 hg3 cv cw hVs hVw hpat hfo hpr hrr hf hV hsz6
        go_enter Tryd.func89, Tryd.ntmps89
        go_wp2
        go_step3
        go_wp2_with (first | (go_at_call 48; with_reducible refine (hva'.out _ HBc).mono ?_; rintro e w2 ⟨rfl, hBx⟩; have HBn := HBc.trans (hBx.mono HBc.size); clear HBc hBx k0 k1 k2 k3 k4 k5; have HBc := HBn; clear HBn) | (go_at_call 85; with_reducible refine (hwo'.out _ HBc).mono ?_; rintro e w3 ⟨rfl, hBx⟩; have HBn := HBc.trans (hBx.mono HBc.size); clear HBc hBx; have HBc := HBn; clear HBn; obtain ⟨W1, cap, hcv, hcap, hVat, hB1⟩ := runes_new w3 a6 hsz'.out; have hBW := HBc.trans (hB1.mono HBc.size); rw [hV'.out] at hcv hcap hVat; obtain ⟨b7, hb7⟩ : ∃ b7, w3.heap.size = b7 := ⟨_, rfl⟩; rw [hb7] at hcv hVat; have hVat' := Aside0.mk hVat; have hBW' := Aside0.mk hBW; clear hB1 hVat hb7 hBW))
        go_step3
        go_wp2
        go_loopg [8, 9, 10] (V.length + 1) (fun kq v8 v9 v10 w' => ∃ i : Nat, v9 = .int .i64 (i : Int) ∧ Aside0 (i + kq = V.length + 1) ∧ Aside0 (w'.ownsRow W1.heap.size 3 1 v8 (upTo f i).length ((upTo f i).map (Value.int .i64))) ∧ Aside0 (Below W1.heap.size W1 w'))
        case atStart => exact ⟨0, rfl, ⟨by omega⟩, ⟨World.ownsRow_nil _ _ _ _⟩, ⟨Below.refl _ _⟩⟩
        case round =>
          obtain ⟨i, rfl, hik, hO, HB⟩ := hrel
          obtain ⟨ao, cp, hv8⟩ := row_shape hO.out
          subst hv8
          cases gk with
          | zero =>
            have hcd : ¬ ((i : Int) ≤ (V.length : Int)) := by have := hik.out; omega
            have hdI : Aside0 (i = V.length + 1) := ⟨by have := hik.out; omega⟩
            go_wp2
            (try rw [Exit.noGoto_ret]); go_ret
            refine ⟨_, rfl, Kd.R_lower (int_R ?_) (Nat.le_trans hB0'.out.size hBW'.out.size), hB0'.out.trans ((hBW'.out.trans (HB.out.mono hBW'.out.size)).mono hB0'.out.size)⟩
            rw [hrr'.out, ← hdI.out]; exact hO.out
          | succ g1 =>
            have hcd : (i : Int) ≤ (V.length : Int) := by have := hik.out; omega
            have hfin := Aside0.mk (idx_next (i := i) (n := V.length + 1) (by omega) (by have := hVw'.out.1; omega))
            have hst := Aside0.mk (upTo_step f i)
            have hBc := HB.out
            by_cases hz : a0 = 0
            · have hzb := Aside0.mk hz
              have hzc : (a0 == 0) = true := beq_iff_eq.2 hz
              clear hz
              obtain ⟨⟨q0, q1, q2⟩, q3, q4, q5⟩ := hcell'.out _ (hBW'.out.trans (hBc.mono hBW'.out.size))
              go_wp2
              have hmt : ∀ r ∈ V.take i, r ∈ V := fun r hr => List.mem_of_mem_take hr
              have hmd : ∀ r ∈ V.drop i, r ∈ V := fun r hr => List.mem_of_mem_drop hr
              have hcA : (convert 95 9 (.slice (some ⟨b7, 0, none⟩) i cap)).run Tryd.prog wr.drew = .ok (.string (encS (V.take i))) wr.drew := by
                have := conv_part (W := wr.drew) hVs'.out 0 i cap (hVat'.out.below hBc.drew) (by have := hik.out; omega)
                rw [List.drop_zero] at this; exact this
              have hcvB' : Aside0 (∀ w4, Below W1.heap.size W1 w4 → (convert 95 9 (.slice (if cap = i then some ⟨b7, 0, none⟩ else some ⟨b7, i, none⟩) (V.length - i) (cap - i))).run Tryd.prog w4 = .ok (.string (encS (V.drop i))) w4) := ⟨fun w4 hB => by
                have hVat := hVat'.out.below hB
                have hlt := hik.out
                split
                · have h9 := conv_part (W := w4) hVs'.out 0 (V.length - i) (cap - i) hVat (by omega)
                  rw [h9, show V.length - i = 0 by omega, List.take_zero, List.drop_of_length_le (by omega)]
                · have h9 := conv_part (W := w4) hVs'.out (i) (V.length - i) (cap - i) hVat (by omega)
                  rw [h9, List.take_of_length_le (by rw [List.length_drop]; omega)]⟩
              have hfoA := hfo'.out (V.take i) hmt (by rw [List.length_take]; omega) wr.drew (hBW'.out.trans (hBc.drew.mono hBW'.out.size))
              have hprA := hpr'.out (V.drop i) hmd (by rw [List.length_drop]; omega)
              obtain ⟨FB, hFB⟩ : ∃ b, followsP l0 l2 a4 ((V.take i).map (idxI l0)) = b := ⟨_, rfl⟩
              obtain ⟨PB, hPB⟩ : ∃ b, precedesP l0 l3 a5 ((V.drop i).map (idxI l0)) = b := ⟨_, rfl⟩
              rw [hFB] at hfoA
              rw [hPB] at hprA
              have hprA' := Aside0.mk hprA
              have hBc' := Aside0.mk hBc.drew
              have hcic : i ≤ cap := by have := hik.out; omega
              have hcib : i ≤ V.length := by have := hik.out; omega
              have hcib2 : V.length ≤ cap := hcap
              have hsq : siteAt l0 ⟨a0, a1, l2, l3, a4, a5⟩ V i = (FB && PB) := by
                show ((decide (a0 = 0) || _) && (followsP l0 l2 a4 ((V.take i).map (idxI l0)) && precedesP l0 l3 a5 ((V.drop (if a0 = 0 then i else i + 1)).map (idxI l0)))) = _
                rw [if_pos hzb.out, hFB, hPB, decide_eq_true hzb.out]; rfl
              rw [hf'.out] at hsq
              clear hFB hPB hprA hmt hmd hBc
              cases FB with
              | false =>
                have hsite := Aside0.mk (show upTo f (i + 1) = upTo f i by rw [hst.out, if_neg]; rw [hsq]; simp)
                clear hsq
                have mk2_ := trivial
                exact LRewSxh1
              | true =>
                have mk0_ := trivial
                exact LRewSxh1
            · have hzb := Aside0.mk hz
              have hzc : (a0 == 0) = false := beq_eq_false_iff_ne.2 hz
              clear hz
              obtain ⟨⟨q0, q1, q2⟩, q3, q4, q5⟩ := hcell'.out _ (hBW'.out.trans (hBc.mono hBW'.out.size))
              have hBd' := Aside0.mk hBc.drew
              by_cases hie : i = V.length
              · have hib : ((i : Int) == (V.length : Int)) = true := beq_iff_eq.2 (by omega)
                have hsite := Aside0.mk (show upTo f (i + 1) = upTo f i by rw [hst.out, if_neg]; rw [← hf'.out]; unfold siteAt; simp [hzb.out, hie])
                clear hie
                go_wp2
                refine start_ (n := 13) (S := fun w' => True) (ds := []) #[false, false, false, false, false, false, false, false, false, false, false, false, false] (by kernel_rfl) rfl rfl trivial (fun hHeld => ?_)
                refine pK 0 33 ?_
                refine pK 1 34 ?_
                refine pK 2 35 ?_
                refine pK 3 36 ?_
                refine pK 4 37 ?_
                refine uK 5 38 ?_
                refine uK 6 39 ?_
                refine uK 7 40 ?_
                refine uK 8 41 ?_
                refine uK 9 42 ?_
                refine uK 10 43 ?_
                refine uK 11 44 ?_
                exact LRewSx2
              · have hlt : i < V.length := by have := hik.out; omega
                have hib : ((i : Int) == (V.length : Int)) = false := beq_eq_false_iff_ne.2 (by omega)
                have hlt2 : (i : Int) < (V.length : Int) := by omega
                obtain ⟨R, hRR⟩ : ∃ R, V.getD i 0 = R := ⟨_, rfl⟩
                have hR9 : wr.cell? ⟨b7, i, none⟩ = some (.int .i32 R) := by rw [← hRR]; exact (hVat'.out.below hBc) i hlt
                by_cases hra : R = a0
                · have hRa : V.getD i 0 = a0 := hRR.trans hra
                  have hrb : (R == a0) = true := beq_iff_eq.2 hra
                  have hRa' := Aside0.mk hRa
                  have hlt' := Aside0.mk hlt
                  clear hra hRR hRa hie hlt
                  have mk0_ := trivial
                  exact LRewSxh2
                · have hrb : (R == a0) = false := beq_eq_false_iff_ne.2 hra
                  have hsite := Aside0.mk (show upTo f (i + 1) = upTo f i by rw [hst.out, if_neg]; rw [← hf'.out]; unfold siteAt; simp only [List.getD_eq_getElem?_getD] at hRR; simp [hzb.out, hRR, hra])
                  clear hra hRR hie
                  have mk1_ := trivial
                  exact LRewSxh2
  · rw [if_neg hg] at h; cases h
end Go.Proofs.YtfbhdjflkaldgaaDoor.Pr
