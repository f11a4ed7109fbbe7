/- Several texts in one: AlphV, PrF40, Ovr. -/
import Derived.Test.YtfbhdjflkaldgaaDoorMg2
import Derived.Test.YtfbhdjflkaldgaaDoorMg1
import Derived.Test.YtfbhdjflkaldgaaDoorCt
import Derived.Test.YtfbhdjflkaldgaaDoorMg3
import Derived.Laws.Runes
import Derived.Laws.AppendOwn
import Derived.RangeFuncBox
/- alphabet.Valid. -/
/- The reference's Over: the places of a string's runes. -/
namespace Go.Proofs.YtfbhdjflkaldgaaDoor.Pr
open Go.Proofs.YtfbhdjflkaldgaaDoor.Ct Go.RowKit Go.Maps Go.Proofs.YtfbhdjflkaldgaaDoorW.PrintWords Go.Proofs.YtfbhdjflkaldgaaDoorW.PrintLast Go.Proofs.YtfbhdjflkaldgaaDoorW.PrintMore
set_option linter.unusedVariables false
set_option linter.unusedSimpArgs false
def onceI (l : List S80) (k : Nat) : Bool := (List.range k).all fun j => (look l j (rd_T80 l (j : Int)).f0).isNone
theorem tidy_mapI (l : List S80) : ∀ k, Maps.Tidy (mapI l k)
  | 0 => Maps.tidy_empty
  | k + 1 => by
    unfold mapI
    split
    · exact tidy_mapI l k
    · exact (tidy_mapI l k).put (keyLit _) _
theorem size_mapI (l : List S80) : ∀ k, Maps.size (mapI l k) ≤ k ∧ (Maps.size (mapI l k) = k ↔ onceI l k = true)
  | 0 => ⟨Nat.le_refl _, by simp [onceI, mapI, Maps.size_eq]⟩
  | k + 1 => by
    obtain ⟨h1, h2⟩ := size_mapI l k
    have hh := has_mapI l (rd_T80 l (k : Int)).f0 k
    have ho : onceI l (k + 1) = (onceI l k && (look l k (rd_T80 l (k : Int)).f0).isNone) := by
      unfold onceI; rw [List.range_succ, List.all_append]; simp
    rw [ho, mapI]
    by_cases hc : Maps.has (mapI l k) (rkey (rd_T80 l (k : Int)).f0) = true
    · rw [if_pos hc]
      refine ⟨by omega, ⟨fun h => by omega, fun h => ?_⟩⟩
      rw [hh] at hc
      rw [Bool.and_eq_true] at h
      cases e : look l k (rd_T80 l (k : Int)).f0 <;> simp [e] at hc h
    · rw [if_neg hc, Maps.size_put (tidy_mapI l k), if_neg hc]
      rw [hh] at hc
      have hn : (look l k (rd_T80 l (k : Int)).f0).isNone = true := by
        cases e : look l k (rd_T80 l (k : Int)).f0 <;> simp [e] at hc ⊢
      rw [hn, Bool.and_true]
      exact ⟨by omega, ⟨fun h => h2.1 (by omega), fun h => by rw [h2.2 h]⟩⟩
def goodR (x : Int) : Bool := decide (32 < x) && Lib.validRune x
def validA (l : List S80) : Bool := decide (1 ≤ l.length) && (decide (l.length ≤ 64) && ((l.all fun x => goodR x.f0) && onceI l l.length))
def alphabet_Valid.f (l0 : List S80) : Option Bool := if runesOk l0 = true then some (validA l0) else none
theorem drop_rd (l : List S80) (i : Nat) (h : i < l.length) : l.drop i = rd_T80 l (i : Int) :: l.drop (i + 1) := by
  rw [List.drop_eq_getElem_cons h]
  congr 1
  unfold rd_T80
  rw [Int.toNat_natCast, List.getD_eq_getElem?_getD, List.getElem?_eq_getElem h]
  rfl
set_option maxRecDepth 100000 in
set_option maxHeartbeats 1000000 in
theorem alphabet_Valid.calls (A0 : Option Addr) (c0 : Nat) (l0 : List S80) (r : Bool) (w : World) (hr0 : Kd.C k80 w A0 l0.length l0) (hc0 : l0.length ≤ c0) (h : alphabet_Valid.f l0 = some r) :
    Calls Tryd.prog 46 #[.slice A0 l0.length c0] w fun e w' => e = .returned (.bool r) ∧ Below w.heap.size w w' := by
  unfold alphabet_Valid.f at h
  by_cases hg : runesOk l0 = true
  · rw [if_pos hg] at h
    have hr := Option.some.inj h
    clear h
    have hR := Aside0.mk hr0
    have hC := Aside0.mk hc0
    have hG := Aside0.mk hg
    clear hr0 hc0 hg
    by_cases h1 : (l0.length : Int) < 1
    · obtain rfl : r = false := by rw [← hr]; unfold validA; rw [decide_eq_false (by omega)]; rfl
      go_enter Tryd.func46, Tryd.ntmps46
      go_wp2
      go_ret
      exact ⟨rfl, Below.refl _ _⟩
    · by_cases h2 : (64 : Int) < (l0.length : Int)
      · obtain rfl : r = false := by rw [← hr]; unfold validA; rw [decide_eq_false (show ¬ l0.length ≤ 64 by omega)]; simp
        go_enter Tryd.func46, Tryd.ntmps46
        go_wp2
        go_ret
        exact ⟨rfl, Below.refl _ _⟩
      · have hrr : r = ((l0.all fun x => goodR x.f0) && onceI l0 l0.length) := by rw [← hr]; unfold validA; rw [decide_eq_true (by omega), decide_eq_true (by omega)]; rfl
        have hrr' := Aside0.mk hrr
        have h64 := Aside0.mk (show l0.length ≤ 64 by omega)
        have hin := fun w1 (hB : Below w.heap.size w w1) => indices_calls A0 c0 l0 w1 (Kd.C_below hR.out hB) hC.out (runesOk_mem hG.out)
        clear hr hrr
        go_enter Tryd.func46, Tryd.ntmps46
        go_wp2
        go_loopg [15] l0.length (fun kq v15 w' => ∃ i : Nat, v15 = .int .i64 (i : Int) ∧ Aside0 (i + kq = l0.length) ∧ Aside0 (r = (((l0.drop i).all fun x => goodR x.f0) && onceI l0 l0.length)) ∧ Aside0 (Below w.heap.size w w'))
        case atStart => exact ⟨0, rfl, ⟨by omega⟩, ⟨by rw [List.drop_zero]; exact hrr'.out⟩, ⟨Below.refl _ _⟩⟩
        case round =>
          obtain ⟨i, rfl, hik, hri, HB⟩ := hrel
          cases gk with
          | zero =>
            have h3 : ¬ ((i : Int) < (l0.length : Int)) := by have := hik.out; omega
            have hsz := size_mapI l0 l0.length
            have hrv : r = decide ((Maps.size (mapI l0 l0.length) : Int) = (l0.length : Int)) := by
              rw [hri.out, List.drop_eq_nil_of_le (by have := hik.out; omega), List.all_nil, Bool.true_and]
              cases e : onceI l0 l0.length with
              | true => exact (decide_eq_true (by have := hsz.2.2 e; omega)).symm
              | false => exact (decide_eq_false (fun h => by have := hsz.2.1 (by omega); rw [e] at this; cases this)).symm
            have hrv' := Aside0.mk hrv
            clear hsz hrv
            go_wp2_with (first | (go_at_call 53; refine (hin _ HB.out).mono ?_; clear hin; rintro e w2 ⟨rfl, HO, hB2⟩) | (at_len; refine wpList_len_own _ rfl _ 115 rfl 21 3 Tryd.underlying115 _ wr.heap.size l0.length (mapI l0 l0.length) rfl HO ?_))
            go_ret
            exact ⟨by rw [hrv'.out]; rfl, HB.out.trans (hB2.mono HB.out.size)⟩
          | succ g1 =>
            have h3 : (i : Int) < (l0.length : Int) := by have := hik.out; omega
            have h4 : 0 ≤ (i : Int) := by omega
            obtain ⟨ad, hA, hx0, hx1⟩ := at_T80 hR.out (i : Int) h4 h3
            subst hA
            rw [Int.toNat_natCast] at hx0 hx1
            replace hx0 := (HB.out.cell (World.block_lt_of_cell? _ _ hx0)).trans hx0
            replace hx1 := (HB.out.cell (World.block_lt_of_cell? _ _ hx1)).trans hx1
            have hdr := drop_rd l0 i (by omega)
            obtain ⟨R, hRR⟩ : ∃ R, (rd_T80 l0 (i : Int)).f0 = R := ⟨_, rfl⟩
            obtain ⟨R1, hR1⟩ : ∃ R1, (rd_T80 l0 (i : Int)).f1 = R1 := ⟨_, rfl⟩
            rw [hRR] at hx0
            rw [hR1] at hx1
            have hri2 : r = ((goodR R && ((l0.drop (i + 1)).all fun x => goodR x.f0)) && onceI l0 l0.length) := by rw [hri.out, hdr, List.all_cons, hRR]
            have hB1 : Below w.heap.size w (wr.alloc (.cells #[.int .i32 R, .int .u32 R1] 80)) := HB.out.alloc HB.out.size _
            have hfin : wrap64 ((i : Int) + 1) = ((i + 1 : Nat) : Int) := idx_next (by omega : i < l0.length) (by have := h64.out; omega)
            have hfin' := Aside0.mk hfin
            have hB1' := Aside0.mk hB1
            have hri2' := Aside0.mk hri2
            clear hfin hB1 hri2 hdr hRR hR1
            by_cases c1 : R ≤ 32
            · obtain rfl : r = false := by rw [hri2'.out]; unfold goodR; rw [decide_eq_false (show ¬ 32 < R by omega)]; rfl
              go_wp2
              go_ret
              exact ⟨rfl, hB1'.out⟩
            · cases c2 : Lib.validRune R with
              | false =>
                obtain rfl : r = false := by rw [hri2'.out]; unfold goodR; rw [c2]; simp
                have hvr := fun w => Tryd.utf8_ValidRune R w
                rw [c2] at hvr
                go_wp2_with (go_at_call 63; refine (hvr _).mono ?_; rintro e w9 ⟨rfl, rfl⟩)
                go_ret
                exact ⟨rfl, hB1'.out⟩
              | true =>
                have hvr := fun w => Tryd.utf8_ValidRune R w
                rw [c2] at hvr
                have hg : goodR R = true := by unfold goodR; rw [c2, decide_eq_true (show 32 < R by omega)]; rfl
                have hg' := Aside0.mk hg
                clear hg
                go_wp2_with (go_at_call 63; refine (hvr _).mono ?_; rintro e w9 ⟨rfl, rfl⟩)
                go_roundg g1
                case measure => omega
                case rel => exact ⟨i + 1, by first | rw [hfin'.out] | rfl, ⟨by have := hik.out; omega⟩, ⟨by rw [hri2'.out, hg'.out, Bool.true_and]⟩, hB1'⟩
  · rw [if_neg hg] at h; cases h
end Go.Proofs.YtfbhdjflkaldgaaDoor.Pr

namespace Go.Proofs.YtfbhdjflkaldgaaDoor.Pr
open Go.Proofs.YtfbhdjflkaldgaaDoor.Ct Go.RowKit Go.Proofs.YtfbhdjflkaldgaaDoorW.PrintWords Go.Proofs.YtfbhdjflkaldgaaDoorW.PrintLast Go.Proofs.YtfbhdjflkaldgaaDoorW.PrintMore
attribute [local go_sem] max2_int min2_int max_two min_two max_three min_three max_four min_four
set_option linter.unusedVariables false
set_option linter.unusedSimpArgs false
def pentaglotref06_Index.l0 : Nat → List (S80) → Int → Int → Option (Int)
 | 0, _, _, _ => none
 | k + 1, x0, x1, x5 => if x5 < (x0.length : Int) then (if 0 ≤ x5 then (if ((rd_T80 x0 x5).f0) = x1 then (some x5) else (pentaglotref06_Index.l0 k x0 x1 (wrap64 (x5 + 1)))) else (none)) else (some (-1))
def pentaglotref06_Index.f (k : Nat) (l0 : List (S80)) (a1 : Int) : Option (Int) := pentaglotref06_Index.l0 k l0 a1 0
set_option maxHeartbeats 8000000 in
set_option maxRecDepth 100000 in
theorem pentaglotref06_Index.calls (k : Nat) (A0 : Option Addr) (c0 : Nat) (l0 : List (S80)) (a1 : Int) (r : Int) (w : World) (hr0 : Kd.C k80 w A0 l0.length l0) (hc0 : l0.length ≤ c0) (h : pentaglotref06_Index.f k l0 a1 = some r) :
 Calls Tryd.prog 40 #[.slice A0 l0.length c0, .int .i32 a1] w fun e w' => e = .returned (.int .i64 r) ∧ Drawn0 w w' := by
 have HR0 := Aside0.mk hr0
 have HC0 := Aside0.mk hc0
 clear hr0 hc0
 have H : (pentaglotref06_Index.l0 k l0 a1 0) = some r := h
 clear h
 have H' := Aside0.mk H
 clear H
 go_enter Tryd.func40, Tryd.ntmps40
 go_wp2
 go_loopg [5] k (fun kq v5 w' => ∃ (x5_1 : Int), v5 = .int .i64 x5_1 ∧ Aside0 (pentaglotref06_Index.l0 kq l0 a1 x5_1 = some r) ∧ Aside0 (kq ≤ k) ∧ Drawn0 w w')
 case atStart => exact ⟨(0), tV1, H', ⟨Nat.le_refl _⟩, by repeat (first | exact Drawn0.refl _ | apply Drawn0.step)⟩
 case round =>
  clear H'
  obtain ⟨x5_1, rfl, HA, HK1, ⟨m1, rfl⟩⟩ := hrel
  cases gk with
  | zero => exact absurd HA.out (by simp [pentaglotref06_Index.l0])
  | succ k1 =>
   have H := HA.out
   clear HA
   simp only [pentaglotref06_Index.l0] at H
   replace H := iF H; obtain ⟨c3, H⟩ | ⟨c3, H⟩ := H
   ·
    have c3b0 : decide (x5_1 < (l0.length : Int)) = true := decide_eq_true c3
    clear c3
    replace H := iF H; obtain ⟨c4, H⟩ | ⟨c4, H⟩ := H
    ·
     have c4b0 : decide (0 ≤ x5_1) = true := decide_eq_true c4
     clear c4
     replace H := iE H; obtain ⟨-, c5b0, c5b1, H⟩ | ⟨c5, c5b0, c5b1, H⟩ := H
     ·
      obtain rfl := Option.some.inj H
      have p311 : 0 ≤ (x5_1 : Int) := oD
      have q311 : x5_1 < (l0.length : Int) := oD
      obtain ⟨ad311, e311, hx311_0, hx311_1⟩ := at_T80 HR0.out x5_1 p311 q311
      cases e311
      replace p311 := eq_true p311
      replace q311 := eq_true q311
      go_wp2
      go_ret
      exact ⟨by first | rfl | (simp; done) | (simp [*]; done), by repeat (first | exact Drawn0.refl _ | apply Drawn0.step)⟩
     ·
      have H' := Aside0.mk H
      clear H
      have p311 : 0 ≤ (x5_1 : Int) := oD
      have q311 : x5_1 < (l0.length : Int) := oD
      obtain ⟨ad311, e311, hx311_0, hx311_1⟩ := at_T80 HR0.out x5_1 p311 q311
      cases e311
      replace p311 := eq_true p311
      replace q311 := eq_true q311
      go_wp2
      go_roundg k1
      case measure => have := HK1.out; omega
      case rel => exact ⟨(wrap64 (x5_1 + 1)), tV1, H', ⟨by have := HK1.out; omega⟩, by repeat (first | exact Drawn0.refl _ | apply Drawn0.step)⟩
    ·
     exact absurd H (by simp)
   ·
    have c3b0 : decide (x5_1 < (l0.length : Int)) = false := decide_eq_false c3
    clear c3
    obtain rfl := Option.some.inj H
    go_wp2
    go_ret
    exact ⟨by first | rfl | (simp; done) | (simp [*]; done), by repeat (first | exact Drawn0.refl _ | apply Drawn0.step)⟩
end Go.Proofs.YtfbhdjflkaldgaaDoor.Pr

namespace Go.Proofs.YtfbhdjflkaldgaaDoor.Pr
open Go.Proofs.YtfbhdjflkaldgaaDoor.Ct Go.RowKit Go.Maps Go.Lib Go.Proofs.YtfbhdjflkaldgaaDoorW.PrintWords Go.Proofs.YtfbhdjflkaldgaaDoorW.PrintLast Go.Proofs.YtfbhdjflkaldgaaDoorW.PrintMore
set_option linter.unusedVariables false
set_option linter.unusedSimpArgs false
theorem look_mono (l : List S80) (r : Int) (k j : Nat) (h : look l k r = some j) : ∀ m, k ≤ m → look l m r = some j := by
  intro m
  induction m with
  | zero => intro hk; obtain rfl : k = 0 := by omega
            exact h
  | succ m ih =>
    intro hk
    by_cases e : k = m + 1
    · subst e; exact h
    · unfold look; rw [ih (by omega)]
theorem refIndex_ev (l : List S80) (r : Int) (hl : l.length ≤ 9223372036854775807) : Ev (fun k => pentaglotref06_Index.f k l r) (idxI l r) := by
  have key : ∀ d i, l.length - i = d → i ≤ l.length → look l i r = none → Ev (fun k => pentaglotref06_Index.l0 k l r (i : Int)) (idxI l r) := by
    intro d
    induction d with
    | zero =>
      intro i hd hi hn
      obtain rfl : i = l.length := by omega
      refine Ev.step (f := fun _ => some (-1)) (fun k => ?_) ?_
      · simp only [pentaglotref06_Index.l0]; rw [if_neg (by omega)]
      · unfold idxI; rw [hn]; exact Ev.now _
    | succ d ih =>
      intro i hd hi hn
      have hlt : i < l.length := by omega
      by_cases hr : (rd_T80 l (i : Int)).f0 = r
      · have h1 : look l (i + 1) r = some i := by unfold look; rw [hn]; simp [hr]
        refine Ev.step (f := fun _ => some (i : Int)) (fun k => ?_) ?_
        · simp only [pentaglotref06_Index.l0]; rw [if_pos (by omega), if_pos (by omega), if_pos hr]
        · unfold idxI; rw [look_mono l r _ _ h1 l.length (by omega)]; exact Ev.now _
      · refine Ev.step (fun k => ?_) (ih (i + 1) (by omega) (by omega) (by unfold look; rw [hn]; simp [hr]))
        simp only [pentaglotref06_Index.l0]; rw [if_pos (by omega), if_pos (by omega), if_neg hr, idx_next hlt hl]
  exact key _ 0 rfl (by omega) rfl
theorem refIndex_calls (A : Option Addr) (c : Nat) (l : List S80) (r : Int) (w : World) (hr0 : Kd.C k80 w A l.length l) (hc0 : l.length ≤ c) :
    Calls Tryd.prog 40 #[.slice A l.length c, .int .i32 r] w fun e w' => e = .returned (.int .i64 (idxI l r)) ∧ Drawn0 w w' := by
  obtain ⟨k, hk⟩ := (refIndex_ev l r hr0.2.1).rounds
  exact pentaglotref06_Index.calls k A c l r _ w hr0 hc0 hk
theorem encL_length : ∀ rs : List Int, (encL rs).length ≤ 4 * rs.length
  | [] => Nat.le_refl _
  | r :: rs => by
    have h1 := encL_length rs
    have h2 := (encodeRuneZ_length r).2
    have h3 : (encodeRune r).length = (encodeRuneZ r).length := by simp [encodeRune]
    unfold encL at h1 ⊢
    rw [List.flatMap_cons, List.length_append, List.length_cons]
    omega
theorem enc_size (r : Int) (h : scalar r) : (Utf8.encode r).size ≤ 4 := by
  rw [← sizeL, enc_model r h]
  have := (encodeRuneZ_length r).2
  simpa [encodeRune] using this
theorem row_iter {W : World} {k : Nat} {s : ByteArray} {pos : Nat} {b : Nat} {e : TypeId} {size n : Nat} {v : Value} {xs : List Value} (h : W.ownsRow b e size v n xs) (hk : W.heap[k]? = some (.stringIter s pos)) (pos' : Nat) : (W.iterAt k s pos').ownsRow b e size v n xs := by
  obtain ⟨hl, hnil | ⟨g, cap, cur, hv, hg, hc, rest⟩⟩ := h
  · exact ⟨hl, .inl hnil⟩
  · refine ⟨hl, .inr ⟨g, cap, cur, hv, hg, (iterAt_other W k g s pos' (fun e => ?_)).trans hc, rest⟩⟩
    subst e; rw [hk] at hc; cases hc
theorem row_ne_iter {W : World} {k : Nat} {s : ByteArray} {pos : Nat} {b : Nat} {e : TypeId} {size n : Nat} {v : Value} {xs : List Value} (h : W.ownsRow b e size v n xs) (hk : W.heap[k]? = some (.stringIter s pos)) : some k ≠ v.ownBlock := by
  rcases h.2 with ⟨rfl, _⟩ | ⟨g, cap, cur, rfl, _, hc, _⟩
  · simp [Value.ownBlock]
  · intro e
    obtain rfl : k = g := by simpa [Value.ownBlock] using e
    rw [hk] at hc; cases hc
theorem row_shape {W : World} {b : Nat} {e : TypeId} {size n : Nat} {v : Value} {xs : List Value} (h : W.ownsRow b e size v n xs) : ∃ ao cap, v = .slice ao n cap := by
  rcases h.2 with ⟨rfl, h0⟩ | ⟨g, cap, cur, rfl, _⟩
  · exact ⟨none, 0, by rw [h0]⟩
  · exact ⟨_, cap, rfl⟩
theorem row_own_ge {W : World} {b : Nat} {e : TypeId} {size n : Nat} {v : Value} {xs : List Value} (h : W.ownsRow b e size v n xs) : ∀ k, v.ownBlock = some k → b ≤ k := by
  intro k hk
  rcases h.2 with ⟨rfl, _⟩ | ⟨g, cap, cur, rfl, hb, _⟩
  · simp [Value.ownBlock] at hk
  · obtain rfl : g = k := by simpa [Value.ownBlock] using hk
    exact hb
theorem ownsRow_below {W W' : World} {b : Nat} {e : TypeId} {size n : Nat} {v : Value} {xs : List Value} (h : W.ownsRow b e size v n xs) (hb : Below W.heap.size W W') : W'.ownsRow b e size v n xs := by
  obtain ⟨hl, hnil | ⟨g, cap, cur, hv, hg, hc, rest⟩⟩ := h
  · exact ⟨hl, .inl hnil⟩
  · exact ⟨hl, .inr ⟨g, cap, cur, hv, hg, (hb.block g (Array.getElem?_eq_some_iff.1 hc).1).trans hc, rest⟩⟩
theorem cell_keep {W : World} {p : Addr} {v : Value} (o : Obj) (h : W.cell? p = some v) : (W.alloc o).cell? p = some v :=
  (((Below.refl W.heap.size W).alloc (Nat.le_refl _) o).cell (World.block_lt_of_cell? _ _ h)).trans h
theorem cell_new (W : World) (xs : Array Value) (t : TypeId) (j : Nat) (v : Value) (h : xs[j]? = some v) : (W.alloc (.cells xs t)).cell? ⟨W.heap.size, j, none⟩ = some v := by
  unfold World.cell?
  rw [World.alloc_heap_new W _]
  simpa using h
theorem cells_one (W : World) (x : Value) (t : TypeId) : ∀ (j : Nat) (u : Value), [x][j]? = some u → (W.alloc (.cells #[x] t)).cell? ((⟨W.heap.size, 0, none⟩ : Addr).add j) = some u := by
  intro j u hu
  rw [Addr.add_lit, Nat.zero_add]
  unfold World.cell?
  rw [World.alloc_heap_new W _]
  simpa using hu
theorem reps_int (W : World) (base : Nat) (ok : Nat → Prop) : ∀ xs : List Int, Reps ((Kd.int .i64).M W base ok) 1 xs (xs.map (Value.int .i64))
  | [] => Reps.none _ _
  | x :: xs => by
    have h := reps_int W base ok xs
    refine ⟨by simp, fun j q hq => ?_⟩
    cases j with
    | zero => obtain rfl : x = q := by simpa using hq
              exact rfl
    | succ j =>
      have := h.2 j q (by simpa using hq)
      rw [List.map_cons, show (j + 1) * 1 = j * 1 + 1 from by omega, List.drop_succ_cons]
      exact this
theorem int_R {W : World} {base : Nat} {v : Value} {xs : List Int} (h : W.ownsRow base 3 1 v xs.length (xs.map (Value.int .i64))) : Kd.R (Kd.int .i64) 3 W base (fun _ => True) v xs :=
  ⟨fun _ _ => trivial, _, h, reps_int W base _ xs⟩
def overP (l : List S80) (s : ByteArray) : List Int × Bool := if (runesS s).all (isL l) = true then ((runesS s).map (idxI l), validD s.data.toList) else ([], false)
def pentaglotref06_Over.f (l0 : List S80) (a1 : ByteArray) : Option (List Int × Bool) := if a1.size ≤ 1099511627776 then some (overP l0 a1) else none
theorem idxI_neg (l : List S80) (r : Int) : idxI l r < 0 ↔ isL l r = false := by
  unfold idxI isL
  cases look l l.length r <;> simp
set_option maxRecDepth 100000 in
set_option maxHeartbeats 1000000 in
theorem pentaglotref06_Over.calls (A0 : Option Addr) (c0 : Nat) (l0 : List S80) (a1 : ByteArray) (r1 : List Int) (r2 : Bool) (w : World) (hr0 : Kd.C k80 w A0 l0.length l0) (hc0 : l0.length ≤ c0) (h : pentaglotref06_Over.f l0 a1 = some (r1, r2)) :
    Calls Tryd.prog 61 #[.slice A0 l0.length c0, .string a1] w fun e w' => ∃ v0_ : Value, e = .returned (.tuple #[v0_, .bool r2]) ∧ Kd.R (Kd.int .i64) 3 w' w.heap.size (fun _ => True) v0_ r1 ∧ Below w.heap.size w w' := by
  unfold pentaglotref06_Over.f at h
  by_cases hg : a1.size ≤ 1099511627776
  · rw [if_pos hg] at h
    have hr := Option.some.inj h
    clear h
    obtain ⟨i0, hi0, hz0, hz1, hz2⟩ := info_parts info3
    have hR := Aside0.mk hr0
    have hC := Aside0.mk hc0
    have hG := Aside0.mk hg
    have hr' := Aside0.mk hr
    clear hr0 hc0 hr hg
    go_enter Tryd.func61, Tryd.ntmps61
    go_wp2
    have hBK : Below w.heap.size w ((w.alloc (.cells #[] 3)).iter a1 0) := ((Below.refl _ w).alloc (Nat.le_refl _) _).alloc (by simp) _
    have hBK' := Aside0.mk hBK
    have hO0 : (((w.alloc (.cells #[] 3)).iter a1 0)).ownsRow w.heap.size 3 1 (.slice (some ⟨w.heap.size, 0, none⟩) 0 0) 0 [] := (World.ownsRow_lit _ #[] 0 (Nat.le_refl _) (by decide) rfl).alloc _
    have hO0' := Aside0.mk hO0
    clear hBK hO0
    go_loopg [6, 7] a1.size (fun kq v6 v7 w' => ∃ (pos : Nat) (done : List Int) (b : ByteArray), v7 = .string b ∧ Aside0 (w'.heap[w.heap.size + 1]? = some (.stringIter a1 pos)) ∧ Aside0 (a1.size - pos ≤ kq) ∧ Aside0 (done ++ runesAt a1 pos = runesS a1) ∧ Aside0 (done.all (isL l0) = true) ∧ Aside0 (b.data.toList = encL done) ∧ Aside0 (w'.ownsRow w.heap.size 3 1 v6 done.length ((done.map (idxI l0)).map (Value.int .i64))) ∧ Aside0 (Below w.heap.size w w'))
    case atStart => exact ⟨0, [], ⟨#[]⟩, rfl, ⟨by have := World.iter_heap (w.alloc (.cells #[] 3)) a1 0; simpa using this⟩, ⟨by omega⟩, ⟨by rw [runesAt_zero]; rfl⟩, ⟨rfl⟩, ⟨rfl⟩, hO0', hBK'⟩
    case round =>
      obtain ⟨pos, done, b, rfl, hit, hq, hdone, hall, hb, hO, HB⟩ := hrel
      obtain ⟨ao, cap, hv6⟩ := row_shape hO.out
      subst hv6
      by_cases hp : pos < a1.size
      · obtain ⟨g1, rfl⟩ : ∃ g1, gk = g1 + 1 := ⟨gk - 1, by have := hq.out; omega⟩
        have hnx : ∀ ty, (Instr.next (.pointer (some ⟨w.heap.size + 1, 0, none⟩)) true ty).run Tryd.prog wr = _ := fun ty => run_next_any_at wr (w.heap.size + 1) a1 pos ty hit.out hp
        have hsc := scalar_at a1 pos
        have hst := runesAt_step hp
        have hwd := width_at hp
        obtain ⟨R, hRR⟩ : ∃ R : Int, ((Utf8.decode a1 pos).1 : Int) = R := ⟨_, rfl⟩
        rw [hRR] at hsc hst
        simp only [hRR] at hnx
        obtain ⟨pos2, hp2⟩ : ∃ p2, pos + (Utf8.decode a1 pos).2 = p2 := ⟨_, rfl⟩
        rw [hp2] at hst hnx
        obtain ⟨W1, hW1⟩ : ∃ W1, wr.iterAt (w.heap.size + 1) a1 pos2 = W1 := ⟨_, rfl⟩
        have hB1 : Below w.heap.size w W1 := by rw [← hW1]; exact below_iterAt HB.out (by omega) _ _
        have hit1 : W1.heap[w.heap.size + 1]? = some (.stringIter a1 pos2) := by rw [← hW1]; exact iterAt_heap _ _ _ _ _ hit.out
        have hO1 : W1.ownsRow w.heap.size 3 1 (.slice ao done.length cap) done.length ((done.map (idxI l0)).map (Value.int .i64)) := by rw [← hW1]; exact row_iter hO.out hit.out _
        simp only [hW1] at hnx
        have hix := refIndex_calls A0 c0 l0 R W1 (Kd.C_below hR.out hB1) hC.out
        obtain ⟨X, hX⟩ : ∃ X, idxI l0 R = X := ⟨_, rfl⟩
        rw [hX] at hix
        have hst' := Aside0.mk hst
        have hsc' := Aside0.mk hsc
        have hw' : Aside0 (pos < pos2) := ⟨by omega⟩
        have hB1' := Aside0.mk hB1
        have hit1' := Aside0.mk hit1
        have hO1' := Aside0.mk hO1
        have hX' := Aside0.mk hX
        have hp' := Aside0.mk hp
        clear hst hsc hwd hp hB1 hit1 hO1 hW1 hX hp2 hRR
        by_cases hXn : X < 0
        · have hLf : isL l0 R = false := by rw [← idxI_neg, hX'.out]; exact hXn
          have hov : overP l0 a1 = ([], false) := by
            unfold overP
            rw [if_neg]
            rw [← hdone.out, List.all_append, hst'.out, List.all_cons, hLf]
            simp
          rw [hov] at hr'
          obtain ⟨e1, e2⟩ := Prod.mk.inj hr'.out
          subst e1 e2
          clear hLf hov
          go_wp2_with (go_at_call 40; refine hix.mono ?_; clear hix; rintro e w5 ⟨rfl, ⟨nd, rfl⟩⟩)
          go_ret2
          exact ⟨_, rfl, Kd.R_nil _ _ _ _ _, pw_below_drewN hB1'.out nd⟩
        · have hL : Aside0 (isL l0 R = true) := ⟨by
            cases e : isL l0 R with
            | true => rfl
            | false =>
              have h := (idxI_neg l0 R).2 e
              rw [hX'.out] at h
              exact absurd h hXn⟩
          have hdl : done.length ≤ 1099511627776 := by
            have h1 := congrArg List.length hdone.out
            have h2 := runesS_length a1
            have h3 := hG.out
            rw [List.length_append] at h1
            omega
          have hbs : b.size ≤ 4 * done.length := by rw [← sizeL, hb.out]; exact encL_length done
          have hadd : ¬ 9223372036854775807 < b.size + (Utf8.encode R).size := by have := enc_size R hsc'.out; omega
          have hdl' := Aside0.mk hdl
          clear hbs hdl
          go_wp2_with (first | (go_at_call 40; refine hix.mono ?_; clear hix; rintro e w5 ⟨rfl, ⟨nd, rfl⟩⟩) | ((with_reducible refine gate_builtin (b := .append) (xs := #[.tmp 22, .tmp 24]) rfl ?_); at_builtin; refine wpList_append_own _ rfl (.tmp 22) (.tmp 24) 124 rfl w.heap.size 3 i0 (.int .i64 0) 1 8 Tryd.underlying124 hi0 hz0 hz1 hz2 rfl (by decide) (.slice ao done.length cap) done.length ((done.map (idxI l0)).map (Value.int .i64)) rfl (World.ownsRow.alloc (show (W1.drewN nd).ownsRow _ _ _ _ _ _ from hO1'.out) _) ⟨W1.heap.size, 0, none⟩ 1 1 [.int .i64 X] rfl rfl ?aC (by simp [Value.oneCell']) ?aM ?aB ?aS ?_; (case aC => exact cells_one (W1.drewN nd) _ _); (case aM => exact Gc24); (case aB => have := hdl'.out; omega); (case aS => have := hB1'.out.size; simp; omega); intro v2 w2 ho2 hg2 hi2))
          have hB2 : Below w.heap.size w w2 := (((pw_below_drewN hB1'.out nd).alloc (by have := hB1'.out.size; simpa using this) _)).grown hg2 (by have := hB1'.out.size; simp; omega) (fun k e => row_own_ge hO1'.out k e)
          have hit2 : w2.heap[w.heap.size + 1]? = some (.stringIter a1 pos2) := by
            have hlt : w.heap.size + 1 < W1.heap.size := (Array.getElem?_eq_some_iff.1 hit1'.out).1
            refine (hg2.block _ (by simp; omega) (row_ne_iter hO1'.out hit1'.out)).trans ?_
            exact (Below.heap_alloc (W1.drewN nd) _ _ (by simpa using hlt)).trans hit1'.out
          go_roundg g1
          case measure => omega
          case rel =>
            refine ⟨pos2, done ++ [R], b ++ Utf8.encode R, rfl, ⟨hit2⟩, ⟨by have := hq.out; have := hw'.out; omega⟩, ⟨by rw [List.append_assoc, List.singleton_append, ← hst'.out]; exact hdone.out⟩, ⟨by rw [List.all_append, hall.out]; simp [hL.out]⟩, ⟨enc_snoc b done R hb.out hsc'.out⟩, ⟨?_⟩, ⟨hB2⟩⟩
            rw [List.length_append, List.map_append, List.map_append]
            simp only [List.map_cons, List.map_nil, hX'.out, List.length_cons, List.length_nil]
            exact ho2
      · have hnx : ∀ ty, (Instr.next (.pointer (some ⟨w.heap.size + 1, 0, none⟩)) true ty).run Tryd.prog wr = _ := fun ty => run_next_end_at wr (w.heap.size + 1) a1 pos ty hit.out hp
        have hre := runesAt_end hp
        have hd : done = runesS a1 := by rw [← hdone.out, hre, List.append_nil]
        have hov : overP l0 a1 = (done.map (idxI l0), validD a1.data.toList) := by
          unfold overP; rw [← hd, if_pos hall.out]
        rw [hov] at hr'
        obtain ⟨e1, e2⟩ := Prod.mk.inj hr'.out
        subst e1 e2
        have hv : (b.toList == a1.toList) = validD a1.data.toList := by
          cases e : validD a1.data.toList with
          | true =>
            refine beq_iff_eq.2 ?_
            rw [ByteArray.toList_eq, ByteArray.toList_eq, hb.out, hd]
            exact (valid_iff _).1 e
          | false =>
            refine beq_eq_false_iff_ne.2 fun h => ?_
            rw [ByteArray.toList_eq, ByteArray.toList_eq, hb.out, hd] at h
            have := (valid_iff a1.data.toList).2 h
            rw [e] at this; cases this
        have hv' := Aside0.mk hv
        clear hre hd hov hp hv
        go_wp2
        go_ret2
        exact ⟨.slice ao done.length cap, by rw [← hv'.out]; rfl, int_R (by rw [List.length_map]; exact hO.out), HB.out⟩
  · rw [if_neg hg] at h; cases h
end Go.Proofs.YtfbhdjflkaldgaaDoor.Pr
