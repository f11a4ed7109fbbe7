/- rewrite.result. -/
import Derived.Test.YtfbhdjflkaldgaaDoorMg10
import Derived.Laws.Cover4
namespace Go.Proofs.YtfbhdjflkaldgaaDoor.Pr
open Go.Proofs.YtfbhdjflkaldgaaDoor.Ct Go.RowKit Go.Maps Go.Lib Go.Proofs.YtfbhdjflkaldgaaDoorW.PrintWords Go.Proofs.YtfbhdjflkaldgaaDoorW.PrintLast Go.Proofs.YtfbhdjflkaldgaaDoorW.PrintMore
set_option linter.unusedVariables false
set_option linter.unusedSimpArgs false
def resF (from0 : Bool) (tr : List Int) : List Int → Nat → List Int → List Int
  | sites, i, [] => if sites.head? = some (i : Int) then tr else []
  | sites, i, c :: w => if sites.head? = some (i : Int) then tr ++ ((if from0 = true then [c] else []) ++ resF from0 tr sites.tail (i + 1) w) else c :: resF from0 tr sites (i + 1) w
def encS (rs : List Int) : ByteArray := ⟨(encL rs).toArray⟩
theorem encS_list (rs : List Int) : (encS rs).data.toList = encL rs := by unfold encS; simp
theorem runesBytes_enc (ns : List Int) (h : ∀ r ∈ ns, scalar r) : runesBytes ns = encS ns := by
  have key : ∀ (ns : List Int) (b : ByteArray) (rs : List Int), (∀ r ∈ ns, scalar r) → b.data.toList = encL rs → (ns.foldl (fun r n => r ++ Utf8.encode n) b).data.toList = encL (rs ++ ns) := by
    intro ns
    induction ns with
    | nil => intro b rs _ hb; simpa using hb
    | cons n ns ih =>
      intro b rs h hb
      rw [List.foldl_cons, ih _ (rs ++ [n]) (fun r hr => h r (by simp [hr])) (enc_snoc b rs n hb (h n (by simp)))]
      simp
  refine bytes_eq ?_
  rw [encS_list]
  have := key ns ByteArray.empty [] h rfl
  unfold runesBytes
  simpa using this
theorem resF_scalar (from0 : Bool) (tr : List Int) (ht : ∀ r ∈ tr, scalar r) : ∀ (w : List Int) (sites : List Int) (i : Nat), (∀ r ∈ w, scalar r) → ∀ r ∈ resF from0 tr sites i w, scalar r
  | [], sites, i, _ => by
    intro r hr
    unfold resF at hr
    split at hr
    · exact ht r hr
    · cases hr
  | c :: w, sites, i, hw => by
    intro r hr
    unfold resF at hr
    have ih := fun s => resF_scalar from0 tr ht w s (i + 1) (fun r hr => hw r (by simp [hr]))
    split at hr
    · rcases List.mem_append.1 hr with h | h
      · exact ht r h
      · rcases List.mem_append.1 h with h | h
        · split at h
          · obtain rfl : r = c := by simpa using h
            exact hw r (by simp)
          · cases h
        · exact ih _ r h
    · rcases List.mem_cons.1 hr with rfl | h
      · exact hw r (by simp)
      · exact ih _ r h
theorem resF_length (from0 : Bool) (tr : List Int) : ∀ (w : List Int) (sites : List Int) (i : Nat), (resF from0 tr sites i w).length ≤ (w.length + 1) * (tr.length + 1)
  | [], sites, i => by
    unfold resF
    split <;> simp
  | c :: w, sites, i => by
    have ih := fun s => resF_length from0 tr w s (i + 1)
    unfold resF
    have e : (w.length + 1 + 1) * (tr.length + 1) = (w.length + 1) * (tr.length + 1) + (tr.length + 1) := by rw [Nat.succ_mul]
    rw [List.length_cons, e]
    split
    · have h1 := ih sites.tail
      rw [List.length_append, List.length_append]
      have h2 : (if from0 = true then [c] else ([] : List Int)).length ≤ 1 := by split <;> simp
      omega
    · have h1 := ih sites
      rw [List.length_cons]
      omega
theorem drop_getD (V : List Int) (i : Nat) (h : i < V.length) : V.drop i = V.getD i 0 :: V.drop (i + 1) := by
  rw [List.drop_eq_getElem_cons h, List.getD_eq_getElem?_getD, List.getElem?_eq_getElem h]; rfl
section Steps
variable {f : Bool} {T V F ss t done : List Int} {i : Nat} {R : Int}
theorem fi_no (h : F = done ++ resF f T ss i (V.drop i)) (hlt : i < V.length) (hn : ss.head? ≠ some (i : Int)) (hR : V.getD i 0 = R) : F = if i + 1 ≤ V.length then (done ++ [R]) ++ resF f T ss (i + 1) (V.drop (i + 1)) else done ++ [R] := by
  rw [if_pos (by omega), h, drop_getD V i hlt, hR, resF, if_neg hn]; simp
theorem fi_no_end (h : F = done ++ resF f T ss i (V.drop i)) (hge : ¬ i < V.length) (hn : ss.head? ≠ some (i : Int)) : F = if i + 1 ≤ V.length then done ++ resF f T ss (i + 1) (V.drop (i + 1)) else done := by
  rw [if_neg (by omega), h, List.drop_eq_nil_of_le (by omega), resF, if_neg hn]; simp
theorem fi_yes0 (h : F = done ++ resF f T ((i : Int) :: t) i (V.drop i)) (hlt : i < V.length) (hf : f = true) (hR : V.getD i 0 = R) : F = if i + 1 ≤ V.length then (done ++ T ++ [R]) ++ resF f T t (i + 1) (V.drop (i + 1)) else done ++ T ++ [R] := by
  rw [if_pos (by omega), h, drop_getD V i hlt, hR, resF, if_pos (show ((i : Int) :: t).head? = some (i : Int) from rfl), if_pos hf]; simp
theorem fi_yes1 (h : F = done ++ resF f T ((i : Int) :: t) i (V.drop i)) (hlt : i < V.length) (hf : f = false) : F = if i + 1 ≤ V.length then (done ++ T) ++ resF f T t (i + 1) (V.drop (i + 1)) else done ++ T := by
  subst hf
  rw [if_pos (by omega), h, drop_getD V i hlt, resF, if_pos (show ((i : Int) :: t).head? = some (i : Int) from rfl), if_neg (by decide)]; simp
theorem fi_yes_end (h : F = done ++ resF f T ((i : Int) :: t) i (V.drop i)) (hge : ¬ i < V.length) : F = if i + 1 ≤ V.length then (done ++ T) ++ resF f T t (i + 1) (V.drop (i + 1)) else done ++ T := by
  rw [if_neg (by omega), h, List.drop_eq_nil_of_le (by omega), resF, if_pos (show ((i : Int) :: t).head? = some (i : Int) from rfl)]
end Steps
def RunesAt (w : World) (b : Nat) (xs : List Int) : Prop := ∀ i, i < xs.length → w.cell? ⟨b, i, none⟩ = some (.int .i32 (xs.getD i 0))
theorem RunesAt.below {w w' : World} {b : Nat} {xs : List Int} (h : RunesAt w b xs) (hb : Below w.heap.size w w') : RunesAt w' b xs := fun i hi => (hb.cell (World.block_lt_of_cell? _ _ (h i hi))).trans (h i hi)
theorem runesAt_new (W : World) (xs : List Int) (n : Nat) (t : TypeId) : RunesAt (W.alloc (.cells ((xs.map (Value.int .i32)).toArray ++ Array.replicate n (.int .i32 0)) t)) W.heap.size xs := by
  intro i hi
  refine cell_new W _ t i _ ?_
  have hi' : i < ((xs.map (Value.int .i32)).toArray).size := by simpa using hi
  rw [Array.getElem?_append_left hi']
  simp [hi]
theorem runes_cells {W : World} {b : Nat} {xs : List Int} (h : RunesAt W b xs) : ∀ (j : Nat) (u : Value), (xs.map (Value.int .i32))[j]? = some u → W.cell? ((⟨b, 0, none⟩ : Addr).add j) = some u := by
  intro j u hu
  rw [Addr.add_lit, Nat.zero_add]
  rw [List.getElem?_map] at hu
  obtain ⟨x, hx, rfl⟩ := Option.map_eq_some_iff.1 hu
  have hj := (List.getElem?_eq_some_iff.1 hx).1
  rw [h j hj, List.getD_eq_getElem?_getD, hx]; rfl
def resultP (from0 : Bool) (tr : ByteArray) (sites : List Int) (word : ByteArray) : ByteArray := encS (resF from0 (runesS tr) sites 0 (runesS word))
def rewrite_result.f (a0 : Int) (a1 : ByteArray) (l2 l3 : List S82) (a4 a5 : Bool) (l6 : List Int) (a7 : ByteArray) : Option ByteArray := if (a1.size ≤ 1099511627776 ∧ a7.size ≤ 1099511627776) ∧ ((runesS a1).length ≤ 4 ∧ (runesS a7).length ≤ 40) then some (resultP (decide (a0 = 0)) a1 l6 a7) else none
theorem conv_row {W : World} {b : Nat} {v : Value} {xs : List Int} (h : W.ownsRow b 21 1 v xs.length (xs.map (Value.int .i32))) (hs : ∀ r ∈ xs, scalar r) : (convert 95 9 v).run Tryd.prog W = .ok (.string (encS xs)) W := by
  rcases h.2 with ⟨rfl, h0⟩ | ⟨g, cap, cur, rfl, rest⟩
  · obtain rfl : xs = [] := List.eq_nil_of_length_eq_zero h0
    rw [run_convert_runes_nil W 95 9 21 0 0 Tryd.underlying95 Tryd.underlying21 Tryd.underlying9]
    rfl
  · rw [run_convert_runes W 95 9 21 ⟨g, 0, none⟩ xs.length cap xs (Nat.le_refl _) Tryd.underlying95 Tryd.underlying21 Tryd.underlying9 (fun j hj => h.cells rfl j _ (by simp [hj])), List.take_of_length_le (Nat.le_refl _), runesBytes_enc xs hs]
theorem LRewRx1 {p : Prop} (h : p := by
  rw [show (done ++ [R]).length = done.length + 1 by simp, show (done ++ [R]).map (Value.int .i32) = done.map (Value.int .i32) ++ [.int .i32 R] by simp]
  exact ho3'.out) : p := h
theorem LRewRxh1 {p : Prop} (h : p := by
  obtain ⟨R, hRR⟩ : ∃ R, V.getD i 0 = R := ⟨_, rfl⟩
  have hVR : Aside0 (∀ w4, Below W2.heap.size W2 w4 → w4.cell? ⟨b7, i, none⟩ = some (.int .i32 R)) := ⟨fun w4 hB => by rw [← hRR]; exact (hV2'.out.below hB) i hlt⟩
  have hRR' := Aside0.mk hRR
  clear hRR
  have z1_ := hVR.out _ HB.out
  go_wp2_with (first | ((with_reducible refine gate_builtin (b := .append) (xs := #[.tmp 52, .tmp 57]) rfl ?_); at_builtin; refine wpList_append_own _ rfl (.tmp 52) (.tmp 57) 95 rfl W2.heap.size 21 i0 (.int .i32 0) 1 4 Tryd.underlying95 hi0 hz0 hz1 hz2 rfl (by decide) (.slice ao done.length cap) done.length (done.map (Value.int .i32)) rfl (World.ownsRow.alloc (show wr.ownsRow _ _ _ _ _ _ from hO.out) _) ⟨wr.heap.size, 0, none⟩ 1 1 [.int .i32 R] rfl rfl ?aC (by simp [Value.oneCell']) ?aM ?aB ?aS ?_; (case aC => exact cells_one wr _ _); (case aM => exact Gc19); (case aB => exact Gc25); (case aS => exact Gc27); intro z2_ z3_ z4_ z5_ z6_; have z7_ : Below W2.heap.size W2 z3_ := (HB.out.alloc HB.out.size _).grown z5_ Gc27 (fun k e => row_own_ge hO.out k e); have ho3' := Aside0.mk z4_; clear z4_))
  go_roundg g1
  case measure => omega
  first
  | (have mk_ := mk0_
     case rel =>
       refine ⟨i + 1, some ad, c, x :: t, done ++ [R], rfl, by rw [hfin.out], ⟨by have := hik.out; omega⟩, hss, ⟨fi_no hFe3.out hlt (by simpa using hxi) hRR'.out⟩, ⟨?_⟩, ⟨z7_⟩⟩
       exact LRewRx1)
  | (have mk_ := mk1_
     case rel =>
       refine ⟨i + 1, A, c, [], done ++ [R], rfl, by rw [hfin.out], ⟨by have := hik.out; omega⟩, hss, ⟨fi_no hFe3.out hlt (by simp) hRR'.out⟩, ⟨?_⟩, ⟨z7_⟩⟩
       exact LRewRx1)) : p := h
set_option maxRecDepth 100000 in
set_option maxHeartbeats 1000000 in
theorem rewrite_result.calls (a0 : Int) (a1 : ByteArray) (A2 : Option Addr) (c2 : Nat) (l2 : List S82) (A3 : Option Addr) (c3 : Nat) (l3 : List S82) (a4 a5 : Bool) (A6 : Option Addr) (c6 : Nat) (l6 : List Int) (a7 : ByteArray) (r : ByteArray) (w : World) (hr2 : Kd.C k82 w A2 l2.length l2) (hc2 : l2.length ≤ c2) (hr3 : Kd.C k82 w A3 l3.length l3) (hc3 : l3.length ≤ c3) (hr6 : Kd.C (Kd.int .i64) w A6 l6.length l6) (hc6 : l6.length ≤ c6) (h : rewrite_result.f a0 a1 l2 l3 a4 a5 l6 a7 = some r) :
    Calls Tryd.prog 88 #[.agg #[.int .i32 a0, .string a1, .slice A2 l2.length c2, .slice A3 l3.length c3, .bool a4, .bool a5], .slice A6 l6.length c6, .string a7] w fun e w' => e = .returned (.string r) ∧ Below w.heap.size w w' := by
  unfold rewrite_result.f at h
  by_cases hg : (a1.size ≤ 1099511627776 ∧ a7.size ≤ 1099511627776) ∧ ((runesS a1).length ≤ 4 ∧ (runesS a7).length ≤ 40)
  · rw [if_pos hg] at h
    have hr := Option.some.inj h
    clear h
    obtain ⟨T, hT⟩ : ∃ T, runesS a1 = T := ⟨_, rfl⟩
    obtain ⟨V, hV⟩ : ∃ V, runesS a7 = V := ⟨_, rfl⟩
    have hTs : ∀ r ∈ T, scalar r := by rw [← hT]; exact scalar_runes _
    have hVs : ∀ r ∈ V, scalar r := by rw [← hV]; exact scalar_runes _
    have hr2 : r = encS (resF (decide (a0 = 0)) T l6 0 V) := by rw [← hr, ← hT, ← hV]; rfl
    obtain ⟨W0, hW0⟩ : ∃ W0, w.alloc (.cells #[.int .i32 a0, .string a1, .slice A2 l2.length c2, .slice A3 l3.length c3, .bool a4, .bool a5] 85) = W0 := ⟨_, rfl⟩
    have hcv7 := run_runes W0 9 95 21 a7 Tryd.underlying9 Tryd.underlying95 Tryd.underlying21 (by omega)
    obtain ⟨W1, hW1⟩ : ∃ W1, (W0.drew.alloc (.cells (((runesS a7).map (Value.int .i32)).toArray ++ Array.replicate (grownCap W0 (runesS a7).length 0 21 - (runesS a7).length) (.int .i32 0)) 21)) = W1 := ⟨_, rfl⟩
    have hcap7 := grownCap_ge W0 (runesS a7).length 0 21
    rw [hW1] at hcv7
    have hcv1 := run_runes W1 9 95 21 a1 Tryd.underlying9 Tryd.underlying95 Tryd.underlying21 (by omega)
    obtain ⟨W2, hW2⟩ : ∃ W2, (W1.drew.alloc (.cells (((runesS a1).map (Value.int .i32)).toArray ++ Array.replicate (grownCap W1 (runesS a1).length 0 21 - (runesS a1).length) (.int .i32 0)) 21)) = W2 := ⟨_, rfl⟩
    have hcap1 := grownCap_ge W1 (runesS a1).length 0 21
    rw [hW2] at hcv1
    have hB0 : Below w.heap.size w W0 := by rw [← hW0]; exact (Below.refl _ w).alloc (Nat.le_refl _) _
    have hB01 : Below W0.heap.size W0 W1 := by rw [← hW1]; exact (Below.refl _ W0).drew.alloc (Nat.le_refl _) _
    have hB12 : Below W1.heap.size W1 W2 := by rw [← hW2]; exact (Below.refl _ W1).drew.alloc (Nat.le_refl _) _
    have hB02 : Below W0.heap.size W0 W2 := hB01.trans (hB12.mono hB01.size)
    have hB : Below w.heap.size w W2 := hB0.trans (hB02.mono hB0.size)
    have hk0 : W0.cell? ⟨w.heap.size, 0, none⟩ = some (.int .i32 a0) := by rw [← hW0]; exact cell_new _ _ _ 0 _ rfl
    have hk1 : W0.cell? ⟨w.heap.size, 1, none⟩ = some (.string a1) := by rw [← hW0]; exact cell_new _ _ _ 1 _ rfl
    have hk11 : W1.cell? ⟨w.heap.size, 1, none⟩ = some (.string a1) := (hB01.cell (World.block_lt_of_cell? _ _ hk1)).trans hk1
    have hk02 : W2.cell? ⟨w.heap.size, 0, none⟩ = some (.int .i32 a0) := (hB02.cell (World.block_lt_of_cell? _ _ hk0)).trans hk0
    have hV1 : RunesAt W1 W0.heap.size (runesS a7) := by rw [← hW1]; exact runesAt_new W0.drew _ _ _
    have hV2 : RunesAt W2 W0.heap.size (runesS a7) := hV1.below hB12
    have hT2 : RunesAt W2 W1.heap.size (runesS a1) := by rw [← hW2]; exact runesAt_new W1.drew _ _ _
    obtain ⟨b7, hb7⟩ : ∃ b7, W0.heap.size = b7 := ⟨_, rfl⟩
    obtain ⟨b1, hb1⟩ : ∃ b1, W1.heap.size = b1 := ⟨_, rfl⟩
    obtain ⟨cap7, hc7⟩ : ∃ c, grownCap W0 (runesS a7).length 0 21 = c := ⟨_, rfl⟩
    obtain ⟨cap1, hc1⟩ : ∃ c, grownCap W1 (runesS a1).length 0 21 = c := ⟨_, rfl⟩
    rw [hb7] at hcv7 hV2
    rw [hb1] at hcv1 hT2
    rw [hc7] at hcv7 hcap7
    rw [hc1] at hcv1 hcap1
    rw [hT] at hcv1 hg hT2 hcap1
    rw [hV] at hcv7 hg hV2 hcap7
    have hB' := Aside0.mk hB
    have hk02' := Aside0.mk hk02
    have hV2' := Aside0.mk hV2
    have hT2' := Aside0.mk hT2
    have hTs' := Aside0.mk hTs
    have hVs' := Aside0.mk hVs
    have hrr' := Aside0.mk hr2
    have hR6 := Aside0.mk hr6
    have hC6 := Aside0.mk hc6
    have hG := Aside0.mk hg
    have hcp := Aside0.mk (And.intro hcap7 hcap1)
    obtain ⟨i0, hi0, hz0, hz1, hz2⟩ := info_parts info21
    clear hr2 hc2 hr3 hc3 hr6 hc6 hg hr hTs hVs hT hV hW1 hW2 hB hB0 hB01 hB12 hB02 hk0 hk02 hV1 hV2 hT2 hb7 hb1 hc7 hc1 hcap7 hcap1 hk1
    go_enter Tryd.func88, Tryd.ntmps88
    go_wp2
    have hlen := resF_length (decide (a0 = 0)) T V l6 0
    have hscl := resF_scalar (decide (a0 = 0)) T hTs'.out V l6 0 hVs'.out
    obtain ⟨F, hF⟩ : ∃ F, resF (decide (a0 = 0)) T l6 0 V = F := ⟨_, rfl⟩
    rw [hF] at hlen hscl
    have hrr2 := Aside0.mk (show r = encS F by rw [hrr'.out, hF])
    have hFl : Aside0 (F.length ≤ 205) := ⟨Nat.le_trans hlen (Nat.le_trans (Nat.mul_le_mul (show V.length + 1 ≤ 41 by have := hG.out.2.2; omega) (show T.length + 1 ≤ 5 by have := hG.out.2.1; omega)) (by decide))⟩
    have hscl' := Aside0.mk hscl
    have hF' := Aside0.mk hF
    clear hlen hscl hF hrr'
    go_loopg [1, 9, 10] (V.length + 1) (fun kq v1 v9 v10 w' => ∃ (i : Nat) (A : Option Addr) (c : Nat) (ss done : List Int), v1 = .slice A ss.length c ∧ v10 = .int .i64 (i : Int) ∧ Aside0 (i + kq = V.length + 1) ∧ Aside0 (Kd.C (Kd.int .i64) w A ss.length ss ∧ ss.length ≤ c) ∧ Aside0 (F = if i ≤ V.length then done ++ resF (decide (a0 = 0)) T ss i (V.drop i) else done) ∧ Aside0 (w'.ownsRow W2.heap.size 21 1 v9 done.length (done.map (Value.int .i32))) ∧ Aside0 (Below W2.heap.size W2 w'))
    case atStart => exact ⟨0, A6, c6, l6, [], rfl, rfl, ⟨by omega⟩, ⟨⟨hR6.out, hC6.out⟩⟩, ⟨by rw [if_pos (Nat.zero_le _), List.drop_zero, hF'.out]; rfl⟩, ⟨World.ownsRow_nil _ _ _ _⟩, ⟨Below.refl _ _⟩⟩
    case round =>
      obtain ⟨i, A, c, ss, done, rfl, rfl, hik, hss, hFe, hO, HB⟩ := hrel
      have hcz := (HB.out.cell (World.block_lt_of_cell? _ _ hk02'.out)).trans hk02'.out
      cases gk with
      | zero =>
        have hcd : ¬ ((i : Int) ≤ (V.length : Int)) := by have := hik.out; omega
        have hdF : done = F := by rw [hFe.out, if_neg (by omega)]
        subst hdF
        have hcs := conv_row hO.out hscl'.out
        go_wp2
        go_ret
        exact ⟨by rw [hrr2.out]; rfl, hB'.out.trans (HB.out.mono hB'.out.size)⟩
      | succ g1 =>
        have hcd : (i : Int) ≤ (V.length : Int) := by have := hik.out; omega
        have hFe2 := hFe.out
        rw [if_pos (by omega)] at hFe2
        obtain ⟨ao, cap, hv9⟩ := row_shape hO.out
        subst hv9
        have hdl' : Aside0 (done.length ≤ 205) := ⟨by have := congrArg List.length hFe2; rw [List.length_append] at this; have := hFl.out; omega⟩
        have hfin := Aside0.mk (idx_next (i := i) (n := V.length + 1) (by omega) (by have := hG.out.2.2; omega))
        have hFe3 := Aside0.mk hFe2
        clear hFe2
        cases ss with
        | nil =>
          by_cases hlt : i < V.length
          · have hlt2 : (i : Int) < (V.length : Int) := by omega
            have mk1_ := trivial
            exact LRewRxh1
          · have hlt2 : ¬ ((i : Int) < (V.length : Int)) := by omega
            go_wp2
            go_roundg g1
            case measure => omega
            case rel =>
              exact ⟨i + 1, A, c, [], done, rfl, by rw [hfin.out], ⟨by have := hik.out; omega⟩, hss, ⟨fi_no_end hFe3.out hlt (by simp)⟩, hO, HB⟩
        | cons x t =>
          obtain ⟨ad, hA, hx⟩ := Kd.at_int hss.out.1 0 (Int.le_refl _) (by simp)
          subst hA
          have hx' : w.cell? ad = some (.int .i64 x) := by simpa [Addr.add, rd] using hx
          replace hx := (HB.out.cell (Nat.lt_of_lt_of_le (World.block_lt_of_cell? _ _ hx') hB'.out.size)).trans ((hB'.out.cell (World.block_lt_of_cell? _ _ hx')).trans hx')
          clear hx'
          by_cases hxi : x = (i : Int)
          · subst hxi
            by_cases hlt : i < V.length
            · have hlt2 : (i : Int) < (V.length : Int) := by omega
              obtain ⟨R, hRR⟩ : ∃ R, V.getD i 0 = R := ⟨_, rfl⟩
              have hVR : Aside0 (∀ w4, Below W2.heap.size W2 w4 → w4.cell? ⟨b7, i, none⟩ = some (.int .i32 R)) := ⟨fun w4 hB => by rw [← hRR]; exact (hV2'.out.below hB) i hlt⟩
              have hRR' := Aside0.mk hRR
              clear hRR
              by_cases hz : a0 = 0
              · have hzb := Aside0.mk (decide_eq_true hz); have hzc : (a0 == 0) = true := beq_iff_eq.2 hz; clear hz
                go_wp2_with (first | ((with_reducible refine gate_builtin (b := .append) (xs := #[.tmp 36, .tmp 37]) rfl ?_); at_builtin; refine wpList_append_own _ rfl (.tmp 36) (.tmp 37) 95 rfl W2.heap.size 21 i0 (.int .i32 0) 1 4 Tryd.underlying95 hi0 hz0 hz1 hz2 rfl (by decide) (.slice ao done.length cap) done.length (done.map (Value.int .i32)) rfl hO.out ⟨b1, 0, none⟩ T.length cap1 (T.map (Value.int .i32)) rfl (by simp) ?aC (by simp [Value.oneCell']) ?aM ?aB HB.out.size ?_; (case aC => exact runes_cells (hT2'.out.below HB.out)); (case aM => exact Gc19); (case aB => exact Gc25); intro v2 w2a ho2 hg2 hi2; have hB2a : Below W2.heap.size W2 w2a := HB.out.grown hg2 HB.out.size (fun k e => row_own_ge hO.out k e); have hcz := (hB2a.cell (World.block_lt_of_cell? _ _ hk02'.out)).trans hk02'.out; have hv2 := hVR.out _ hB2a; have ho2' := Aside0.mk ho2; clear ho2) | ((with_reducible refine gate_builtin (b := .append) (xs := #[.tmp 52, .tmp 57]) rfl ?_); at_builtin; refine wpList_append_own _ rfl (.tmp 52) (.tmp 57) 95 rfl W2.heap.size 21 i0 (.int .i32 0) 1 4 Tryd.underlying95 hi0 hz0 hz1 hz2 rfl (by decide) v2 (done.length + T.length) (done.map (Value.int .i32) ++ T.map (Value.int .i32)) rfl (World.ownsRow.alloc (show w2a.ownsRow _ _ _ _ _ _ from ho2'.out) _) ⟨w2a.heap.size, 0, none⟩ 1 1 [.int .i32 R] rfl rfl ?aC (by simp [Value.oneCell']) ?aM ?aB ?aS ?_; (case aC => exact cells_one w2a _ _); (case aM => exact Gc19); (case aB => exact Gc25); (case aS => have := hB2a.size; simp; omega); intro v3 w3a ho3 hg3 hi3; have hB3a : Below W2.heap.size W2 w3a := (hB2a.alloc hB2a.size _).grown hg3 (by have := hB2a.size; simp; omega) (fun k e => row_own_ge ho2'.out k e); have ho3' := Aside0.mk ho3; clear ho3))
                all_goals
                  go_roundg g1
                  case measure => omega
                  case rel =>
                    refine ⟨i + 1, (if c = 1 then some ad else (some ad).map (·.add (1 * 1))), c - 1, t, done ++ T ++ [R], ?_, by rw [hfin.out], ⟨by have := hik.out; omega⟩, ⟨⟨Kd.C_drop (m := 1) hss.out.1 (by simp) hss.out.2, by have := hss.out.2; rw [List.length_cons] at this; omega⟩⟩, ⟨fi_yes0 hFe3.out hlt hzb.out hRR'.out⟩, ⟨?_⟩, ⟨hB3a⟩⟩
                    · simp [*, Addr.add]
                    · rw [show (done ++ T ++ [R]).length = done.length + T.length + 1 by simp [Nat.add_assoc], show (done ++ T ++ [R]).map (Value.int .i32) = (done.map (Value.int .i32) ++ T.map (Value.int .i32)) ++ [.int .i32 R] by simp]
                      exact ho3'.out
              · have hzb := Aside0.mk (decide_eq_false hz); have hzc : (a0 == 0) = false := beq_eq_false_iff_ne.2 hz; clear hz
                go_wp2_with (first | ((with_reducible refine gate_builtin (b := .append) (xs := #[.tmp 36, .tmp 37]) rfl ?_); at_builtin; refine wpList_append_own _ rfl (.tmp 36) (.tmp 37) 95 rfl W2.heap.size 21 i0 (.int .i32 0) 1 4 Tryd.underlying95 hi0 hz0 hz1 hz2 rfl (by decide) (.slice ao done.length cap) done.length (done.map (Value.int .i32)) rfl hO.out ⟨b1, 0, none⟩ T.length cap1 (T.map (Value.int .i32)) rfl (by simp) ?aC (by simp [Value.oneCell']) ?aM ?aB HB.out.size ?_; (case aC => exact runes_cells (hT2'.out.below HB.out)); (case aM => exact Gc19); (case aB => exact Gc25); intro v2 w2a ho2 hg2 hi2; have hB2a : Below W2.heap.size W2 w2a := HB.out.grown hg2 HB.out.size (fun k e => row_own_ge hO.out k e); have hcz := (hB2a.cell (World.block_lt_of_cell? _ _ hk02'.out)).trans hk02'.out; have hv2 := hVR.out _ hB2a; have ho2' := Aside0.mk ho2; clear ho2))
                all_goals
                  go_roundg g1
                  case measure => omega
                  case rel =>
                    refine ⟨i + 1, (if c = 1 then some ad else (some ad).map (·.add (1 * 1))), c - 1, t, done ++ T, ?_, by rw [hfin.out], ⟨by have := hik.out; omega⟩, ⟨⟨Kd.C_drop (m := 1) hss.out.1 (by simp) hss.out.2, by have := hss.out.2; rw [List.length_cons] at this; omega⟩⟩, ⟨fi_yes1 hFe3.out hlt hzb.out⟩, ⟨?_⟩, ⟨hB2a⟩⟩
                    · simp [*, Addr.add]
                    · rw [List.length_append, List.map_append]
                      exact ho2'.out
            · have hlt2 : ¬ ((i : Int) < (V.length : Int)) := by omega
              go_wp2_with (first | ((with_reducible refine gate_builtin (b := .append) (xs := #[.tmp 36, .tmp 37]) rfl ?_); at_builtin; refine wpList_append_own _ rfl (.tmp 36) (.tmp 37) 95 rfl W2.heap.size 21 i0 (.int .i32 0) 1 4 Tryd.underlying95 hi0 hz0 hz1 hz2 rfl (by decide) (.slice ao done.length cap) done.length (done.map (Value.int .i32)) rfl hO.out ⟨b1, 0, none⟩ T.length cap1 (T.map (Value.int .i32)) rfl (by simp) ?aC (by simp [Value.oneCell']) ?aM ?aB HB.out.size ?_; (case aC => exact runes_cells (hT2'.out.below HB.out)); (case aM => exact Gc19); (case aB => exact Gc25); intro v2 w2a ho2 hg2 hi2; have hB2a : Below W2.heap.size W2 w2a := HB.out.grown hg2 HB.out.size (fun k e => row_own_ge hO.out k e); have hcz := (hB2a.cell (World.block_lt_of_cell? _ _ hk02'.out)).trans hk02'.out; have ho2' := Aside0.mk ho2; clear ho2))
              all_goals
                go_roundg g1
                case measure => omega
                case rel =>
                  refine ⟨i + 1, (if c = 1 then some ad else (some ad).map (·.add (1 * 1))), c - 1, t, done ++ T, ?_, by rw [hfin.out], ⟨by have := hik.out; omega⟩, ⟨⟨Kd.C_drop (m := 1) hss.out.1 (by simp) hss.out.2, by have := hss.out.2; rw [List.length_cons] at this; omega⟩⟩, ⟨fi_yes_end hFe3.out hlt⟩, ⟨?_⟩, ⟨hB2a⟩⟩
                  · simp [*, Addr.add]
                  · rw [List.length_append, List.map_append]
                    exact ho2'.out
          · have hxb : (x == (i : Int)) = false := beq_eq_false_iff_ne.2 hxi
            by_cases hlt : i < V.length
            · have hlt2 : (i : Int) < (V.length : Int) := by omega
              have mk0_ := trivial
              exact LRewRxh1
            · have hlt2 : ¬ ((i : Int) < (V.length : Int)) := by omega
              go_wp2
              go_roundg g1
              case measure => omega
              case rel =>
                exact ⟨i + 1, some ad, c, x :: t, done, rfl, by rw [hfin.out], ⟨by have := hik.out; omega⟩, hss, ⟨fi_no_end hFe3.out hlt (by simpa using hxi)⟩, hO, HB⟩
  · rw [if_neg hg] at h; cases h
end Go.Proofs.YtfbhdjflkaldgaaDoor.Pr
