/- Several texts in one: RewV, Flw, PrF58, Let. -/
import Derived.Test.YtfbhdjflkaldgaaDoorMg9
import Derived.Test.YtfbhdjflkaldgaaDoorMg1
import Derived.Test.YtfbhdjflkaldgaaDoorCt
import Derived.Test.YtfbhdjflkaldgaaDoorMg4
import Derived.Laws.IdiomStrings
/- rewrite.Valid. -/
/- pattern.Matches, Prefixes, Suffixes; rewrite.follows, precedes: what they answer, in plain words. -/
/- The reference's Letters: a string's runes, if each is a letter's. -/
namespace Go.Proofs.YtfbhdjflkaldgaaDoor.Pr
open Go.Proofs.YtfbhdjflkaldgaaDoor.Ct Go.RowKit Go.Maps Go.Lib Go.Proofs.YtfbhdjflkaldgaaDoorW.PrintWords Go.Proofs.YtfbhdjflkaldgaaDoorW.PrintLast Go.Proofs.YtfbhdjflkaldgaaDoorW.PrintMore
set_option linter.unusedVariables false
set_option linter.unusedSimpArgs false
def admisP (l : List S80) : Bool := decide (1 ≤ l.length) && properP l
theorem look_take (l : List S80) (n : Nat) (r : Int) : ∀ k, k ≤ n → look (l.take n) k r = look l k r
  | 0, _ => rfl
  | k + 1, h => by
    unfold look
    rw [look_take l n r k (by omega)]
    have e : rd_T80 (l.take n) (k : Int) = rd_T80 l (k : Int) := by
      unfold rd_T80
      rw [Int.toNat_natCast, List.getD_eq_getElem?_getD, List.getD_eq_getElem?_getD, List.getElem?_take_of_lt (by omega)]
    rw [e]
theorem vr_ev (x : Int) : Ev (fun k => utf8_ValidRune.f k x) (Lib.validRune x) := by
  have hj : ∀ b : Bool, Ev (fun k => utf8_ValidRune.j0 k x b) (b || decide (57343 < x ∧ x ≤ 1114111)) := by
    intro b
    refine Ev.step (f := fun _ => some (b || decide (57343 < x ∧ x ≤ 1114111))) (fun k => ?_) (Ev.now _)
    simp only [utf8_ValidRune.j0]
    cases b with
    | true => rfl
    | false =>
      rw [if_neg (by decide)]
      by_cases h1 : 57343 < x
      · rw [if_pos h1]
        by_cases h2 : x ≤ 1114111
        · rw [if_pos h2, decide_eq_true ⟨h1, h2⟩]; rfl
        · rw [if_neg h2, decide_eq_false (by omega)]; rfl
      · rw [if_neg h1, decide_eq_false (by omega)]; rfl
  unfold Lib.validRune
  by_cases h0 : 0 ≤ x
  · refine Ev.congr (f := fun k => utf8_ValidRune.j0 k x (decide (x < 55296))) (fun k => ?_) ?_
    · unfold utf8_ValidRune.f; rw [if_pos h0]
    · have h := hj (decide (x < 55296))
      rw [show (decide ((0 ≤ x ∧ x < 0xD800) ∨ (0xDFFF < x ∧ x ≤ 0x10FFFF))) = (decide (x < 55296) || decide (57343 < x ∧ x ≤ 1114111)) by rw [← Bool.decide_or]; exact decide_eq_decide.2 (by omega)]
      exact h
  · refine Ev.congr (f := fun k => utf8_ValidRune.j0 k x false) (fun k => ?_) ?_
    · unfold utf8_ValidRune.f; rw [if_neg h0]
    · have h := hj false
      rw [show (decide ((0 ≤ x ∧ x < 0xD800) ∨ (0xDFFF < x ∧ x ≤ 0x10FFFF))) = (false || decide (57343 < x ∧ x ≤ 1114111)) by rw [Bool.false_or]; exact decide_eq_decide.2 (by omega)]
      exact h
theorem admissible_ev (l : List S80) (hl : l.length ≤ 9223372036854775807) : Ev (fun k => rewrite_letters_admissible.f k l) (admisP l) := by
  have key : ∀ d i, l.length - i = d → i ≤ l.length → onceI l i = true → Ev (fun k => rewrite_letters_admissible.l0 k l l (l.length : Int) (i : Int)) (((l.drop i).all fun x => goodR x.f0) && onceI l l.length) := by
    intro d
    induction d with
    | zero =>
      intro i hd hi ho
      obtain rfl : i = l.length := by omega
      refine Ev.step (f := fun _ => some true) (fun k => ?_) ?_
      · simp only [rewrite_letters_admissible.l0]; rw [if_neg (by omega)]
      · rw [List.drop_length, ho]; exact Ev.now _
    | succ d ih =>
      intro i hd hi ho
      have hlt : i < l.length := by omega
      rw [drop_rd l i hlt, List.all_cons]
      obtain ⟨R, hR⟩ : ∃ R, (rd_T80 l (i : Int)).f0 = R := ⟨_, rfl⟩
      have hos := once_step l i
      rw [hR] at hos ⊢
      by_cases c1 : R ≤ 32
      · refine Ev.step (f := fun _ => some false) (fun k => ?_) ?_
        · simp only [rewrite_letters_admissible.l0, hR]; rw [if_pos (by omega), if_pos (by omega), if_pos (by omega), if_pos c1]
        · rw [show goodR R = false by unfold goodR; rw [decide_eq_false (show ¬ 32 < R by omega)]; rfl, Bool.false_and, Bool.false_and]; exact Ev.now _
      · refine Ev.step (f := fun k => (utf8_ValidRune.f k R).bind fun t111 => (if t111 = true then ((rewrite_letters_has.f k (l.take i) R).bind fun t116 => (if t116 = true then (some false) else (rewrite_letters_admissible.l0 k l l (l.length : Int) ((i + 1 : Nat) : Int)))) else (some false))) (fun k => ?_) ?_
        · simp only [rewrite_letters_admissible.l0, hR]; rw [if_pos (by omega), if_pos (by omega), if_pos (by omega), if_neg c1, idx_next hlt hl]
          congr 1
          funext t
          split
          · rw [if_pos (by omega), Int.toNat_natCast]
          · rfl
        · refine Ev.bind (vr_ev R) ?_
          cases c2 : Lib.validRune R with
          | false => rw [show goodR R = false by unfold goodR; rw [c2]; simp, Bool.false_and, Bool.false_and]; exact Ev.now _
          | true =>
            rw [show goodR R = true by unfold goodR; rw [c2, decide_eq_true (show 32 < R by omega)]; rfl, Bool.true_and]
            simp only [if_true]
            refine Ev.bind (has_ev (l.take i) R (by rw [List.length_take]; omega)) ?_
            have hh : isL (l.take i) R = (look l i R).isSome := by
              unfold isL
              rw [List.length_take, Nat.min_eq_left (by omega), look_take l i R i (Nat.le_refl _)]
            rw [hh]
            cases e : look l i R with
            | some j =>
              rw [e, ho] at hos
              rw [once_mono l (i + 1) (by rw [hos]; rfl) l.length (by omega), Bool.and_false]
              exact Ev.now _
            | none =>
              rw [e, ho] at hos
              exact ih (i + 1) (by omega) (by omega) (by rw [hos]; rfl)
  have hj : ∀ b : Bool, Ev (fun k => rewrite_letters_admissible.j0 k l b) (!b && ((l.all fun x => goodR x.f0) && onceI l l.length)) := by
    intro b
    cases b with
    | true =>
      refine Ev.step (f := fun _ => some false) (fun k => ?_) (Ev.now _)
      simp only [rewrite_letters_admissible.j0]; rw [if_pos trivial]
    | false =>
      refine Ev.step (fun k => ?_) (key _ 0 rfl (Nat.zero_le _) rfl)
      simp only [rewrite_letters_admissible.j0]; rw [if_neg (by decide)]; rfl
  unfold admisP properP
  by_cases h1 : (l.length : Int) < 1
  · refine Ev.congr (f := fun k => rewrite_letters_admissible.j0 k l true) (fun k => ?_) ?_
    · unfold rewrite_letters_admissible.f; rw [if_pos h1]
    · rw [decide_eq_false (by omega), Bool.false_and]; exact hj true
  · refine Ev.congr (f := fun k => rewrite_letters_admissible.j0 k l (decide ((l.length : Int) > 65))) (fun k => ?_) ?_
    · unfold rewrite_letters_admissible.f; rw [if_neg h1]
    · have h := hj (decide ((l.length : Int) > 65))
      rw [decide_eq_true (by omega : 1 ≤ l.length), Bool.true_and]
      have e : (!decide ((l.length : Int) > 65)) = decide (l.length ≤ 65) := by
        by_cases h2 : l.length ≤ 65
        · rw [decide_eq_false (by omega), decide_eq_true h2]; rfl
        · rw [decide_eq_true (by omega), decide_eq_false h2]; rfl
      rw [e] at h
      rw [← Bool.and_assoc, Bool.and_comm]
      exact h
theorem admissible_calls (A : Option Addr) (c : Nat) (l : List S80) (w : World) (hr0 : Kd.C k80 w A l.length l) (hc0 : l.length ≤ c) :
    Calls Tryd.prog 65 #[.slice A l.length c] w fun e w' => e = .returned (.bool (admisP l)) ∧ Below w.heap.size w w' := by
  obtain ⟨k, hk⟩ := (admissible_ev l hr0.2.1).rounds
  exact rewrite_letters_admissible.calls k A c l _ w hr0 hc0 hk
def ruleP (l : List S80) (r : S85) : Bool := (admisP l && (decide (r.f0 = 0) || isL l r.f0)) && (consistsP l r.f1 4 && (patP l r.f2 && patP l r.f3))
def smallR (r : S85) : Bool := decide (r.f1.size ≤ 1099511627776) && (smallP r.f2 && smallP r.f3)
def rewrite_Valid.f (l0 : List S80) (a0 : Int) (a1 : ByteArray) (l2 l3 : List S82) (a4 a5 : Bool) : Option Bool := if runesOk l0 = true ∧ smallR ⟨a0, a1, l2, l3, a4, a5⟩ = true then some (ruleP l0 ⟨a0, a1, l2, l3, a4, a5⟩) else none
theorem LRewVx1 {p : Prop} (h : p := by
  go_wp2_with (first | (go_at_call 65; with_reducible refine (had'.out _ HBc).mono ?_; rintro e z1_ ⟨rfl, hBx⟩; have HBn := HBc.trans (hBx.mono HBc.size); clear HBc hBx k0 k1 k2 k3; have HBc := HBn; clear HBn; obtain ⟨k0, k1, k2, k3⟩ := hcell'.out _ HBc) | (go_at_call 66; with_reducible refine (hha'.out _ HBc).mono ?_; rintro e z1_ ⟨rfl, hBx⟩; have HBn := HBc.trans (hBx.mono HBc.size); clear HBc hBx k0 k1 k2 k3; have HBc := HBn; clear HBn; obtain ⟨k0, k1, k2, k3⟩ := hcell'.out _ HBc) | (go_at_call 67; with_reducible refine (hco'.out _ HBc).mono ?_; rintro e z1_ ⟨rfl, hBx⟩; have HBn := HBc.trans (hBx.mono HBc.size); clear HBc hBx k0 k1 k2 k3; have HBc := HBn; clear HBn; obtain ⟨k0, k1, k2, k3⟩ := hcell'.out _ HBc) | (go_at_call 68; (first | (with_reducible refine (hp2'.out _ HBc).mono ?_) | (with_reducible refine (hp3'.out _ HBc).mono ?_)); rintro e z1_ ⟨rfl, hBx⟩; have HBn := HBc.trans (hBx.mono HBc.size); clear HBc hBx k0 k1 k2 k3; have HBc := HBn; clear HBn; obtain ⟨k0, k1, k2, k3⟩ := hcell'.out _ HBc))
  go_ret
  exact ⟨rfl, hB0'.out.trans (HBc.mono hB0'.out.size)⟩) : p := h
theorem LRewVx2 {p : Prop} (h : p := by
  go_wp2_with (first | (go_at_call 65; with_reducible refine (had'.out _ HBc).mono ?_; rintro e z1_ ⟨rfl, hBx⟩; have HBn := HBc.trans (hBx.mono HBc.size); clear HBc hBx k0 k1 k2 k3; have HBc := HBn; clear HBn; obtain ⟨k0, k1, k2, k3⟩ := hcell'.out _ HBc) | (go_at_call 67; with_reducible refine (hco'.out _ HBc).mono ?_; rintro e z1_ ⟨rfl, hBx⟩; have HBn := HBc.trans (hBx.mono HBc.size); clear HBc hBx k0 k1 k2 k3; have HBc := HBn; clear HBn; obtain ⟨k0, k1, k2, k3⟩ := hcell'.out _ HBc) | (go_at_call 68; (first | (with_reducible refine (hp2'.out _ HBc).mono ?_) | (with_reducible refine (hp3'.out _ HBc).mono ?_)); rintro e z1_ ⟨rfl, hBx⟩; have HBn := HBc.trans (hBx.mono HBc.size); clear HBc hBx k0 k1 k2 k3; have HBc := HBn; clear HBn; obtain ⟨k0, k1, k2, k3⟩ := hcell'.out _ HBc))
  go_ret
  exact ⟨rfl, hB0'.out.trans (HBc.mono hB0'.out.size)⟩) : p := h
set_option maxRecDepth 100000 in
set_option maxHeartbeats 1000000 in
theorem rewrite_Valid.calls (A0 : Option Addr) (c0 : Nat) (l0 : List S80) (a0 : Int) (a1 : ByteArray) (A2 : Option Addr) (c2 : Nat) (l2 : List S82) (A3 : Option Addr) (c3 : Nat) (l3 : List S82) (a4 a5 : Bool) (r : Bool) (w : World) (hT : Tabs w) (hr0 : Kd.C k80 w A0 l0.length l0) (hc0 : l0.length ≤ c0) (hr2 : Kd.C k82 w A2 l2.length l2) (hc2 : l2.length ≤ c2) (hr3 : Kd.C k82 w A3 l3.length l3) (hc3 : l3.length ≤ c3) (h : rewrite_Valid.f l0 a0 a1 l2 l3 a4 a5 = some r) :
    Calls Tryd.prog 48 #[.slice A0 l0.length c0, .agg #[.int .i32 a0, .string a1, .slice A2 l2.length c2, .slice A3 l3.length c3, .bool a4, .bool a5]] w fun e w' => e = .returned (.bool r) ∧ Below w.heap.size w w' := by
  unfold rewrite_Valid.f at h
  by_cases hg : runesOk l0 = true ∧ smallR ⟨a0, a1, l2, l3, a4, a5⟩ = true
  · rw [if_pos hg] at h
    have hr := Option.some.inj h
    clear h
    obtain ⟨hg1, hg2, hg3⟩ : a1.size ≤ 1099511627776 ∧ smallP l2 = true ∧ smallP l3 = true := by
      have := hg.2
      unfold smallR at this
      rw [Bool.and_eq_true, Bool.and_eq_true, decide_eq_true_eq] at this
      exact this
    have hrr : r = ((admisP l0 && (decide (a0 = 0) || isL l0 a0)) && (consistsP l0 a1 4 && (patP l0 l2 && patP l0 l3))) := hr.symm
    obtain ⟨W0, hW0⟩ : ∃ W0, w.alloc (.cells #[.int .i32 a0, .string a1, .slice A2 l2.length c2, .slice A3 l3.length c3, .bool a4, .bool a5] 85) = W0 := ⟨_, rfl⟩
    have hB0 : Below w.heap.size w W0 := by rw [← hW0]; exact (Below.refl _ w).alloc (Nat.le_refl _) _
    have hcell : ∀ w1, Below W0.heap.size W0 w1 → w1.cell? ⟨w.heap.size, 0, none⟩ = some (.int .i32 a0) ∧ w1.cell? ⟨w.heap.size, 1, none⟩ = some (.string a1) ∧ w1.cell? ⟨w.heap.size, 2, none⟩ = some (.slice A2 l2.length c2) ∧ w1.cell? ⟨w.heap.size, 3, none⟩ = some (.slice A3 l3.length c3) := by
      intro w1 hB
      have hlt : w.heap.size < W0.heap.size := by rw [← hW0]; simp
      refine ⟨(hB.cell hlt).trans ?_, (hB.cell hlt).trans ?_, (hB.cell hlt).trans ?_, (hB.cell hlt).trans ?_⟩
      · rw [← hW0]; exact cell_new _ _ _ 0 _ rfl
      · rw [← hW0]; exact cell_new _ _ _ 1 _ rfl
      · rw [← hW0]; exact cell_new _ _ _ 2 _ rfl
      · rw [← hW0]; exact cell_new _ _ _ 3 _ rfl
    have had := fun (w1 : World) (hB : Below W0.heap.size W0 w1) => admissible_calls A0 c0 l0 w1 (Kd.C_below hr0 (hB0.trans (hB.mono hB0.size))) hc0
    have hha := fun (w1 : World) (hB : Below W0.heap.size W0 w1) => has_calls A0 c0 l0 a0 w1 (Kd.C_below hr0 (hB0.trans (hB.mono hB0.size))) hc0
    have hco := fun (w1 : World) (hB : Below W0.heap.size W0 w1) => show Calls Tryd.prog 67 #[.string a1, .int .i64 4, .func (.func 66) #[.slice A0 l0.length c0] #[]] w1 fun e w' => e = .returned (.bool (consistsP l0 a1 4)) ∧ Below w1.heap.size w1 w' from consists_calls A0 c0 l0 a1 4 w1 (tabs_below hT (hB0.trans (hB.mono hB0.size))) (Kd.C_below hr0 (hB0.trans (hB.mono hB0.size))) hc0 hg1
    have hp2 := fun (w1 : World) (hB : Below W0.heap.size W0 w1) => pattern_Valid.calls A0 c0 l0 A2 c2 l2 (patP l0 l2) w1 (tabs_below hT (hB0.trans (hB.mono hB0.size))) (Kd.C_below hr0 (hB0.trans (hB.mono hB0.size))) hc0 (Kd.C_below hr2 (hB0.trans (hB.mono hB0.size))) hc2 (by unfold pattern_Valid.f; rw [if_pos ⟨hg.1, hg2⟩])
    have hp3 := fun (w1 : World) (hB : Below W0.heap.size W0 w1) => pattern_Valid.calls A0 c0 l0 A3 c3 l3 (patP l0 l3) w1 (tabs_below hT (hB0.trans (hB.mono hB0.size))) (Kd.C_below hr0 (hB0.trans (hB.mono hB0.size))) hc0 (Kd.C_below hr3 (hB0.trans (hB.mono hB0.size))) hc3 (by unfold pattern_Valid.f; rw [if_pos ⟨hg.1, hg3⟩])
    have hmf : ∀ W (v : Value), (Instr.makeFunc (.func 66) #[v] #[]).run Tryd.prog W = .ok (.func (.func 66) #[v] #[]) W := by intro W v; rfl
    have hcell' := Aside0.mk hcell
    have had' := Aside0.mk had
    have hha' := Aside0.mk hha
    have hco' := Aside0.mk hco
    have hp2' := Aside0.mk hp2
    have hp3' := Aside0.mk hp3
    have hrr' := Aside0.mk hrr
    have hB0' := Aside0.mk hB0
    clear hr0 hc0 hr2 hc2 hr3 hc3 hg hr hT had hha hco hp2 hp3 hrr hB0 hg1 hg2 hg3 hcell
    have HBc : Below W0.heap.size W0 W0 := Below.refl _ _
    obtain ⟨k0, k1, k2, k3⟩ := hcell'.out _ HBc
    go_enter Tryd.func48, Tryd.ntmps48
    cases c1 : admisP l0 with
    | false =>
      obtain rfl : r = false := by rw [hrr'.out, c1]; simp
      have had2 := had'.out
      rw [c1] at had2
      have had' := Aside0.mk had2
      clear had2
      clear c1
      go_wp2_with (go_at_call 65; with_reducible refine (had'.out _ HBc).mono ?_; rintro e w2 ⟨rfl, hBx⟩; have HBn := HBc.trans (hBx.mono HBc.size); clear HBc hBx k0 k1 k2 k3; have HBc := HBn; clear HBn; obtain ⟨k0, k1, k2, k3⟩ := hcell'.out _ HBc)
      go_ret
      exact ⟨rfl, hB0'.out.trans (HBc.mono hB0'.out.size)⟩
    | true =>
      have had2 := had'.out
      rw [c1] at had2
      have had' := Aside0.mk had2
      clear had2
      by_cases c2 : a0 = 0
      · subst c2
        have cz := Aside0.mk (decide_eq_true (rfl : (0 : Int) = 0))
        cases c3 : consistsP l0 a1 4 with
        | false =>
          obtain rfl : r = false := by rw [hrr'.out, c3]; simp
          have hco2 := hco'.out
          rw [c3] at hco2
          have hco' := Aside0.mk hco2
          clear hco2
          clear c3
          go_wp2_with (first | (go_at_call 65; with_reducible refine (had'.out _ HBc).mono ?_; rintro e w2 ⟨rfl, hBx⟩; have HBn := HBc.trans (hBx.mono HBc.size); clear HBc hBx k0 k1 k2 k3; have HBc := HBn; clear HBn; obtain ⟨k0, k1, k2, k3⟩ := hcell'.out _ HBc) | (go_at_call 67; with_reducible refine (hco'.out _ HBc).mono ?_; rintro e w2 ⟨rfl, hBx⟩; have HBn := HBc.trans (hBx.mono HBc.size); clear HBc hBx k0 k1 k2 k3; have HBc := HBn; clear HBn; obtain ⟨k0, k1, k2, k3⟩ := hcell'.out _ HBc))
          go_ret
          exact ⟨rfl, hB0'.out.trans (HBc.mono hB0'.out.size)⟩
        | true =>
          have hco2 := hco'.out
          rw [c3] at hco2
          have hco' := Aside0.mk hco2
          clear hco2
          cases c4 : patP l0 l2 with
          | false =>
            obtain rfl : r = false := by rw [hrr'.out, c3, c4]; simp
            have hp22 := hp2'.out
            rw [c4] at hp22
            have hp2' := Aside0.mk hp22
            clear hp22
            clear c3 c4
            exact LRewVx2
          | true =>
            have hp22 := hp2'.out
            rw [c4] at hp22
            have hp2' := Aside0.mk hp22
            clear hp22
            obtain ⟨c5, hc5⟩ : ∃ c5, patP l0 l3 = c5 := ⟨_, rfl⟩
            obtain rfl : r = c5 := by rw [hrr'.out, c3, c4, hc5, c1, cz.out]; simp
            have hp32 := hp3'.out
            rw [hc5] at hp32
            have hp3' := Aside0.mk hp32
            clear hp32
            clear c3 c4 hc5
            exact LRewVx2
      · have cz := Aside0.mk (decide_eq_false c2)
        have c2b : (a0 == 0) = false := beq_eq_false_iff_ne.2 c2
        cases c6 : isL l0 a0 with
        | false =>
          obtain rfl : r = false := by rw [hrr'.out, c1, cz.out, c6]; simp
          have hha2 := hha'.out
          rw [c6] at hha2
          have hha' := Aside0.mk hha2
          clear hha2
          clear c6
          go_wp2_with (first | (go_at_call 65; with_reducible refine (had'.out _ HBc).mono ?_; rintro e w2 ⟨rfl, hBx⟩; have HBn := HBc.trans (hBx.mono HBc.size); clear HBc hBx k0 k1 k2 k3; have HBc := HBn; clear HBn; obtain ⟨k0, k1, k2, k3⟩ := hcell'.out _ HBc) | (go_at_call 66; with_reducible refine (hha'.out _ HBc).mono ?_; rintro e w2 ⟨rfl, hBx⟩; have HBn := HBc.trans (hBx.mono HBc.size); clear HBc hBx k0 k1 k2 k3; have HBc := HBn; clear HBn; obtain ⟨k0, k1, k2, k3⟩ := hcell'.out _ HBc))
          go_ret
          exact ⟨rfl, hB0'.out.trans (HBc.mono hB0'.out.size)⟩
        | true =>
          have hha2 := hha'.out
          rw [c6] at hha2
          have hha' := Aside0.mk hha2
          clear hha2
          cases c3 : consistsP l0 a1 4 with
          | false =>
            obtain rfl : r = false := by rw [hrr'.out, c3]; simp
            have hco2 := hco'.out
            rw [c3] at hco2
            have hco' := Aside0.mk hco2
            clear hco2
            clear c3
            go_wp2_with (first | (go_at_call 65; with_reducible refine (had'.out _ HBc).mono ?_; rintro e w2 ⟨rfl, hBx⟩; have HBn := HBc.trans (hBx.mono HBc.size); clear HBc hBx k0 k1 k2 k3; have HBc := HBn; clear HBn; obtain ⟨k0, k1, k2, k3⟩ := hcell'.out _ HBc) | (go_at_call 66; with_reducible refine (hha'.out _ HBc).mono ?_; rintro e w2 ⟨rfl, hBx⟩; have HBn := HBc.trans (hBx.mono HBc.size); clear HBc hBx k0 k1 k2 k3; have HBc := HBn; clear HBn; obtain ⟨k0, k1, k2, k3⟩ := hcell'.out _ HBc) | (go_at_call 67; with_reducible refine (hco'.out _ HBc).mono ?_; rintro e w2 ⟨rfl, hBx⟩; have HBn := HBc.trans (hBx.mono HBc.size); clear HBc hBx k0 k1 k2 k3; have HBc := HBn; clear HBn; obtain ⟨k0, k1, k2, k3⟩ := hcell'.out _ HBc))
            go_ret
            exact ⟨rfl, hB0'.out.trans (HBc.mono hB0'.out.size)⟩
          | true =>
            have hco2 := hco'.out
            rw [c3] at hco2
            have hco' := Aside0.mk hco2
            clear hco2
            cases c4 : patP l0 l2 with
            | false =>
              obtain rfl : r = false := by rw [hrr'.out, c3, c4]; simp
              have hp22 := hp2'.out
              rw [c4] at hp22
              have hp2' := Aside0.mk hp22
              clear hp22
              clear c3 c4
              exact LRewVx1
            | true =>
              have hp22 := hp2'.out
              rw [c4] at hp22
              have hp2' := Aside0.mk hp22
              clear hp22
              obtain ⟨c5, hc5⟩ : ∃ c5, patP l0 l3 = c5 := ⟨_, rfl⟩
              obtain rfl : r = c5 := by rw [hrr'.out, c3, c4, hc5, c1, cz.out, c6]; simp
              have hp32 := hp3'.out
              rw [hc5] at hp32
              have hp3' := Aside0.mk hp32
              clear hp32
              clear c3 c4 hc5
              exact LRewVx1
  · rw [if_neg hg] at h; cases h
theorem wrapIn (n : Int) (h : -9223372036854775808 ≤ n ∧ n ≤ 9223372036854775807) : wrap64 n = n := by unfold wrap64; omega
def RevAt {α : Type} (l x : List α) (i : Nat) : Prop := x.length = l.length ∧ ∀ p, p < l.length → x[p]? = if p < i ∨ l.length ≤ p + i then l[l.length - 1 - p]? else l[p]?
theorem revAt_start {α : Type} (l : List α) : RevAt l l 0 := ⟨rfl, fun p hp => by rw [if_neg (by omega)]⟩
theorem revAt_end {α : Type} {l x : List α} {i : Nat} (h : RevAt l x i) (hi : l.length ≤ i + i + 1) : x = l.reverse := by
  refine List.ext_getElem? fun p => ?_
  by_cases hp : p < l.length
  · rw [h.2 p hp, List.getElem?_reverse hp]
    split
    · rfl
    · congr 1; omega
  · rw [List.getElem?_eq_none (by rw [h.1]; omega), List.getElem?_eq_none (by rw [List.length_reverse]; omega)]
theorem revAt_step {α : Type} {l x : List α} {i j : Nat} {a b : α} (h : RevAt l x i) (hij : i < j) (hj : i + j + 1 = l.length) (ha : x[i]? = some a) (hb : x[j]? = some b) : RevAt l ((x.set i b).set j a) (i + 1) := by
  refine ⟨by simp [h.1], fun p hp => ?_⟩
  have hxi := h.2 i (by omega)
  have hxj := h.2 j (by omega)
  rw [if_neg (by omega), ha] at hxi
  rw [if_neg (by omega), hb] at hxj
  by_cases e1 : j = p
  · subst e1
    rw [List.getElem?_set_self (by simp [h.1]; omega), if_pos (by omega), show l.length - 1 - j = i by omega, ← hxi]
  · rw [List.getElem?_set_ne e1]
    by_cases e2 : i = p
    · subst e2
      rw [List.getElem?_set_self (by rw [h.1]; omega), if_pos (by omega), show l.length - 1 - i = j by omega, ← hxj]
    · rw [List.getElem?_set_ne e2, h.2 p hp]
      by_cases c : p < i ∨ l.length ≤ p + i
      · rw [if_pos c, if_pos (by omega)]
      · rw [if_neg c, if_neg (by omega)]
theorem getD_some {α : Type} (x : List α) (i : Nat) (z : α) (h : i < x.length) : x[i]? = some (x.getD i z) := by
  rw [List.getD_eq_getElem?_getD, List.getElem?_eq_getElem h]; rfl
theorem prev_idx {j n : Nat} (h : 1 ≤ j) (hj : j < n) (hn : n ≤ 9223372036854775807) : wrap64 ((j : Int) - 1) = ((j - 1 : Nat) : Int) := by
  rw [wrapIn _ ⟨by omega, by omega⟩]; omega
theorem rev_int_ev (l : List Int) (hl : l.length ≤ 9223372036854775807) : Ev (fun k => slices_Reverse_int_int.f k l) l.reverse := by
  have key : ∀ d i j (x : List Int), j + 1 - i ≤ d → i + j + 1 = l.length → i ≤ j + 1 → RevAt l x i → Ev (fun k => slices_Reverse_int_int.l0 k x (i : Int) (j : Int)) l.reverse := by
    intro d
    induction d with
    | zero =>
      intro i j x hd hij hle hx
      refine Ev.step (f := fun _ => some x) (fun k => ?_) ?_
      · simp only [slices_Reverse_int_int.l0]; rw [if_neg (by omega)]
      · rw [revAt_end hx (by omega)]; exact Ev.now _
    | succ d ih =>
      intro i j x hd hij hle hx
      by_cases hlt : i < j
      · have hxl := hx.1
        have h2 := revAt_step hx hlt hij (getD_some x i 0 (by omega)) (getD_some x j 0 (by omega))
        refine Ev.step (fun k => ?_) (ih (i + 1) (j - 1) _ (by omega) (by omega) (by omega) h2)
        simp only [slices_Reverse_int_int.l0]
        rw [if_pos (by omega), if_pos (by omega), if_pos (by omega), if_pos (by omega), if_pos (by omega), idx_next (i := i) (n := l.length) (by omega) hl, prev_idx (j := j) (n := l.length) (by omega) (by omega) hl]
        simp only [rd, Int.toNat_natCast]
      · refine Ev.step (f := fun _ => some x) (fun k => ?_) ?_
        · simp only [slices_Reverse_int_int.l0]; rw [if_neg (by omega)]
        · rw [revAt_end hx (by omega)]; exact Ev.now _
  refine Ev.congr (f := fun k => slices_Reverse_int_int.l0 k l 0 (wrap64 ((l.length : Int) - 1))) (fun k => rfl) ?_
  cases l with
  | nil =>
    refine Ev.step (f := fun _ => some []) (fun k => ?_) (Ev.now _)
    simp only [slices_Reverse_int_int.l0]; rw [show wrap64 ((([] : List Int).length : Int) - 1) = -1 by rw [wrapIn _ ⟨by simp, by simp⟩]; rfl, if_neg (by decide)]
  | cons a t =>
    have h := key ((a :: t).length + 1) 0 ((a :: t).length - 1) (a :: t) (by simp) (by simp) (by omega) (revAt_start _)
    rw [show wrap64 (((a :: t).length : Int) - 1) = (((a :: t).length - 1 : Nat) : Int) from by rw [wrapIn _ ⟨by simp only [List.length_cons]; omega, by simp at hl ⊢; omega⟩]; simp only [List.length_cons]; omega]
    exact h
theorem rev_item_ev (l : List S82) (hl : l.length ≤ 9223372036854775807) : Ev (fun k => api_Item_98.f k l) l.reverse := by
  have key : ∀ d i j (x : List S82), j + 1 - i ≤ d → i + j + 1 = l.length → i ≤ j + 1 → RevAt l x i → Ev (fun k => api_Item_98.l0 k x (i : Int) (j : Int)) l.reverse := by
    intro d
    induction d with
    | zero =>
      intro i j x hd hij hle hx
      refine Ev.step (f := fun _ => some x) (fun k => ?_) ?_
      · simp only [api_Item_98.l0]; rw [if_neg (by omega)]
      · rw [revAt_end hx (by omega)]; exact Ev.now _
    | succ d ih =>
      intro i j x hd hij hle hx
      by_cases hlt : i < j
      · have hxl := hx.1
        have g : ∀ p, p < x.length → x[p]? = some (rd_T82 x (p : Int)) := fun p hp => by
          unfold rd_T82
          rw [Int.toNat_natCast]
          exact getD_some x p _ hp
        have h2 := revAt_step hx hlt hij (g i (by omega)) (g j (by omega))
        refine Ev.step (fun k => ?_) (ih (i + 1) (j - 1) _ (by omega) (by omega) (by omega) h2)
        simp only [api_Item_98.l0]
        rw [if_pos (by omega), if_pos (by omega), if_pos (by omega), if_pos (by omega), if_pos (by omega), idx_next (i := i) (n := l.length) (by omega) hl, prev_idx (j := j) (n := l.length) (by omega) (by omega) hl]
        simp only [Int.toNat_natCast]
      · refine Ev.step (f := fun _ => some x) (fun k => ?_) ?_
        · simp only [api_Item_98.l0]; rw [if_neg (by omega)]
        · rw [revAt_end hx (by omega)]; exact Ev.now _
  refine Ev.congr (f := fun k => api_Item_98.l0 k l 0 (wrap64 ((l.length : Int) - 1))) (fun k => rfl) ?_
  cases l with
  | nil =>
    refine Ev.step (f := fun _ => some []) (fun k => ?_) (Ev.now _)
    simp only [api_Item_98.l0]; rw [show wrap64 ((([] : List S82).length : Int) - 1) = -1 by rw [wrapIn _ ⟨by simp, by simp⟩]; rfl, if_neg (by decide)]
  | cons a t =>
    have h := key ((a :: t).length + 1) 0 ((a :: t).length - 1) (a :: t) (by simp) (by simp) (by omega) (revAt_start _)
    rw [show wrap64 (((a :: t).length : Int) - 1) = (((a :: t).length - 1 : Nat) : Int) from by rw [wrapIn _ ⟨by simp only [List.length_cons]; omega, by simp at hl ⊢; omega⟩]; simp only [List.length_cons]; omega]
    exact h
def idxs (l : List S80) (s : ByteArray) : List Int := (runesS s).map (idxI l)
structure Word1 (l : List S80) (p : List S82) (s : ByteArray) : Prop where
  runes : runesOk l = true
  pat : patP l p = true
  small : smallP p = true
  size : s.size ≤ 1099511627776
  valid : validD s.data.toList = true
  all : (runesS s).all (isL l) = true
section
variable {l : List S80} {p : List S82} {s : ByteArray}
theorem look_lt (l : List S80) (r : Int) : ∀ k j, look l k r = some j → j < k
  | 0, j, h => by simp [look] at h
  | k + 1, j, h => by
    unfold look at h
    have ih := look_lt l r k
    cases e : look l k r with
    | some i =>
      rw [e] at h
      have := ih i e
      simp at h
      omega
    | none =>
      rw [e] at h
      simp at h
      omega
theorem idx_in (l : List S80) (r : Int) (h : isL l r = true) : 0 ≤ idxI l r ∧ idxI l r < (l.length : Int) := by
  unfold isL at h
  unfold idxI
  obtain ⟨j, hj⟩ := Option.isSome_iff_exists.1 h
  rw [hj]
  have := look_lt l r l.length j hj
  simp only
  omega
theorem Word1.inl (h : Word1 l p s) : inL l (idxs l s) = true := by
  unfold inL idxs
  rw [List.all_eq_true]
  intro x hx
  obtain ⟨r, hr, rfl⟩ := List.mem_map.1 hx
  have := idx_in l r (List.all_eq_true.1 h.all r hr)
  rw [decide_eq_true this.1, decide_eq_true this.2]; rfl
theorem Word1.len (h : Word1 l p s) : (idxs l s).length ≤ 1099511627776 := by
  unfold idxs
  rw [List.length_map]
  exact Nat.le_trans (runesS_length s) h.size
theorem patP_len (h : patP l p = true) : p.length ≤ 3 ∧ l.length ≤ 65 := by
  unfold patP properP at h
  simp only [Bool.and_eq_true, decide_eq_true_eq] at h
  exact ⟨h.2.1, h.1.2.2⟩
theorem Word1.read (h : Word1 l p s) : pattern_read.f l p s = some (idxs l s, true) := by
  unfold pattern_read.f
  rw [if_pos ⟨h.runes, h.small, h.size⟩]
  unfold readP
  rw [if_pos h.pat]
  unfold overQ
  rw [if_pos ⟨h.valid, h.all⟩]; rfl
theorem smallP_reverse : smallP p.reverse = smallP p := by unfold smallP; rw [List.all_reverse]
theorem Word1.lens (h : Word1 l p s) : pattern_lengths.f l p (idxs l s) = some (lenUp l p (idxs l s) ((idxs l s).length + 1)) := by
  unfold pattern_lengths.f
  rw [if_pos ⟨patP_len h.pat, ⟨h.small, h.inl⟩, h.len⟩]
theorem Word1.lensR (h : Word1 l p s) : pattern_lengths.f l p.reverse (idxs l s).reverse = some (lenUp l p.reverse (idxs l s).reverse ((idxs l s).length + 1)) := by
  unfold pattern_lengths.f
  have hi := h.inl
  unfold inL at hi
  rw [if_pos ⟨by rw [List.length_reverse]; exact patP_len h.pat, ⟨by rw [smallP_reverse]; exact h.small, by unfold inL; rw [List.all_reverse]; exact hi⟩, by rw [List.length_reverse]; exact h.len⟩, List.length_reverse]
theorem Word1.matches (h : Word1 l p s) : pattern_Matches.f l p s = some (matchI l p (idxs l s)) := by
  unfold pattern_Matches.f
  rw [h.read]
  simp only [Option.bind_some, if_true]
  rw [h.lens]
  simp only [Option.bind_some]
  obtain ⟨n, hn⟩ : ∃ n, (idxs l s).length = n := ⟨_, rfl⟩
  have hst := lenUp_step l p (idxs l s) n
  have hlen := lenUp_length l p (idxs l s) n
  have hn2 := h.len
  rw [hn] at hn2 ⊢
  rw [List.take_of_length_le (by omega)] at hst
  have hmem : ∀ x ∈ lenUp l p (idxs l s) n, x < (n : Int) := by
    intro x hx
    unfold lenUp at hx
    obtain ⟨i, hi, rfl⟩ := List.mem_map.1 hx
    have := List.mem_range.1 (List.mem_filter.1 hi).1
    simp; omega
  cases hm : matchI l p (idxs l s) with
  | true =>
    rw [hm, if_pos rfl] at hst
    rw [hst, List.length_append, List.length_singleton]
    rw [wrapIn _ ⟨by omega, by omega⟩]
    rw [if_pos (by omega), if_pos (by omega), if_pos (by omega)]
    have : rd (lenUp l p (idxs l s) n ++ [(n : Int)]) (((lenUp l p (idxs l s) n).length + 1 : Nat) - 1 : Int) = (n : Int) := by
      unfold rd
      rw [show ((((lenUp l p (idxs l s) n).length + 1 : Nat) : Int) - 1).toNat = (lenUp l p (idxs l s) n).length by omega]
      simp
    rw [this]; simp
  | false =>
    rw [hm, if_neg (by decide)] at hst
    rw [hst]
    by_cases hz : (lenUp l p (idxs l s) n).length = 0
    · rw [if_neg (by omega)]
    · rw [wrapIn _ ⟨by omega, by omega⟩]
      rw [if_pos (by omega), if_pos (by omega), if_pos (by omega)]
      have hlt : (lenUp l p (idxs l s) n).length - 1 < (lenUp l p (idxs l s) n).length := by omega
      have : rd (lenUp l p (idxs l s) n) (((lenUp l p (idxs l s) n).length : Int) - 1) ∈ lenUp l p (idxs l s) n := by
        unfold rd
        rw [show (((lenUp l p (idxs l s) n).length : Int) - 1).toNat = (lenUp l p (idxs l s) n).length - 1 by omega]
        exact List.mem_of_getElem? (getD_some _ _ 0 hlt)
      have := hmem _ this
      rw [beq_eq_false_iff_ne.2 (by omega)]
theorem lenUp_some (q : List S82) (xs : List Int) (n : Nat) : decide (((lenUp l q xs n).length : Int) > 0) = (List.range n).any fun i => matchI l q (xs.take i) := by
  rw [Bool.eq_iff_iff, decide_eq_true_eq, List.any_eq_true]
  unfold lenUp
  rw [List.length_map]
  constructor
  · intro h
    obtain ⟨i, hi⟩ := List.exists_mem_of_length_pos (show 0 < ((List.range n).filter fun i => matchI l q (xs.take i)).length by omega)
    rw [List.mem_filter] at hi
    exact ⟨i, hi.1, hi.2⟩
  · rintro ⟨i, h1, h2⟩
    have := List.length_pos_of_mem (List.mem_filter (p := fun i => matchI l q (xs.take i)) |>.2 ⟨h1, h2⟩)
    omega
def someFore (l : List S80) (p : List S82) (xs : List Int) : Bool := (List.range (xs.length + 1)).any fun i => matchI l p (xs.take i)
def someAft (l : List S80) (p : List S82) (xs : List Int) : Bool := (List.range (xs.length + 1)).any fun i => matchI l p (xs.drop i)
theorem match_reverse (p : List S82) (xs : List Int) : matchI l p.reverse xs.reverse = matchI l p xs := by
  unfold matchI
  rw [Bool.eq_iff_iff, matchP_iff, matchP_iff]
  exact lang_reverse (admI l) repI p xs
theorem someAft_rev (p : List S82) (xs : List Int) : ((List.range (xs.length + 1)).any fun i => matchI l p.reverse (xs.reverse.take i)) = someAft l p xs := by
  unfold someAft
  rw [Bool.eq_iff_iff, List.any_eq_true, List.any_eq_true]
  constructor
  · rintro ⟨i, h1, h2⟩
    rw [List.mem_range] at h1
    refine ⟨xs.length - i, List.mem_range.2 (by omega), ?_⟩
    rw [List.take_reverse, match_reverse] at h2
    exact h2
  · rintro ⟨i, h1, h2⟩
    rw [List.mem_range] at h1
    refine ⟨xs.length - i, List.mem_range.2 (by omega), ?_⟩
    rw [List.take_reverse, match_reverse, show xs.length - (xs.length - i) = i by omega]
    exact h2
theorem Word1.suffixes (h : Word1 l p s) : Ev (fun k => pattern_Suffixes.f k l p s) (lenUp l p.reverse (idxs l s).reverse ((idxs l s).length + 1)) := by
  refine Ev.congr (f := fun k => ((api_Item_98.f k p).bind fun t163 => ((slices_Reverse_int_int.f k (idxs l s)).bind fun t164 => ((pattern_lengths.f l t163 t164).bind fun t165 => (some t165))))) (fun k => ?_) ?_
  · unfold pattern_Suffixes.f
    rw [h.read]
    simp only [Option.bind_some, if_true]
    unfold api_Item_97.f
    rw [if_pos (by have := (patP_len h.pat).1; omega)]
    rfl
  · refine Ev.bind (rev_item_ev p (by have := (patP_len h.pat).1; omega)) (Ev.bind (rev_int_ev _ (by have := h.len; omega)) ?_)
    refine Ev.congr (f := fun _ => some _) (fun k => ?_) (Ev.now _)
    rw [h.lensR]; rfl
def followsP (l : List S80) (p : List S82) (whole : Bool) (xs : List Int) : Bool := if whole = true then matchI l p xs else someAft l p xs
def precedesP (l : List S80) (p : List S82) (whole : Bool) (xs : List Int) : Bool := if whole = true then matchI l p xs else someFore l p xs
theorem follows_ev (h : Word1 l p s) (a0 : Int) (a1 : ByteArray) (l3 : List S82) (a4 a5 : Bool) : Ev (fun k => rewrite_follows.f k l a0 a1 p l3 a4 a5 s) (followsP l p a4 (idxs l s)) := by
  unfold followsP
  cases a4 with
  | true =>
    refine Ev.congr (f := fun _ => some _) (fun k => ?_) (Ev.now _)
    unfold rewrite_follows.f
    rw [if_pos rfl, h.matches]; rfl
  | false =>
    refine Ev.congr (f := fun k => (pattern_Suffixes.f k l p s).bind fun t170 => (some (decide ((t170.length : Int) > 0)))) (fun k => ?_) (Ev.bind h.suffixes ?_)
    · unfold rewrite_follows.f
      rw [if_neg (by decide)]
    · rw [lenUp_some, someAft_rev, if_neg (by decide)]; exact Ev.now _
theorem precedes_eq (h : Word1 l p s) (a0 : Int) (a1 : ByteArray) (l2 : List S82) (a4 a5 : Bool) : rewrite_precedes.f l a0 a1 l2 p a4 a5 s = some (precedesP l p a5 (idxs l s)) := by
  unfold precedesP rewrite_precedes.f
  cases a5 with
  | true => rw [if_pos rfl, h.matches]; rfl
  | false =>
    rw [if_neg (by decide), if_neg (by decide)]
    unfold pattern_Prefixes.f
    rw [h.read]
    simp only [Option.bind_some, if_true]
    rw [h.lens]
    simp only [Option.bind_some]
    rw [lenUp_some]; rfl
end
theorem follows_calls (A0 : Option Addr) (c0 : Nat) (l0 : List S80) (a0 : Int) (a1 : ByteArray) (A2 : Option Addr) (c2 : Nat) (l2 : List S82) (A3 : Option Addr) (c3 : Nat) (l3 : List S82) (a4 a5 : Bool) (s : ByteArray) (w : World) (hT : Tabs w) (hr0 : Kd.C k80 w A0 l0.length l0) (hc0 : l0.length ≤ c0) (hr2 : Kd.C k82 w A2 l2.length l2) (hc2 : l2.length ≤ c2) (hr3 : Kd.C k82 w A3 l3.length l3) (hc3 : l3.length ≤ c3) (h : Word1 l0 l2 s) :
    Calls Tryd.prog 90 #[.slice A0 l0.length c0, .agg #[.int .i32 a0, .string a1, .slice A2 l2.length c2, .slice A3 l3.length c3, .bool a4, .bool a5], .string s] w fun e w' => e = .returned (.bool (followsP l0 l2 a4 (idxs l0 s))) ∧ Below w.heap.size w w' := by
  obtain ⟨k, hk⟩ := (follows_ev h a0 a1 l3 a4 a5).rounds
  exact rewrite_follows.calls k A0 c0 l0 a0 a1 A2 c2 l2 A3 c3 l3 a4 a5 s _ w hT hr0 hc0 hr2 hc2 hr3 hc3 hk
theorem precedes_calls (A0 : Option Addr) (c0 : Nat) (l0 : List S80) (a0 : Int) (a1 : ByteArray) (A2 : Option Addr) (c2 : Nat) (l2 : List S82) (A3 : Option Addr) (c3 : Nat) (l3 : List S82) (a4 a5 : Bool) (s : ByteArray) (w : World) (hT : Tabs w) (hr0 : Kd.C k80 w A0 l0.length l0) (hc0 : l0.length ≤ c0) (hr2 : Kd.C k82 w A2 l2.length l2) (hc2 : l2.length ≤ c2) (hr3 : Kd.C k82 w A3 l3.length l3) (hc3 : l3.length ≤ c3) (h : Word1 l0 l3 s) :
    Calls Tryd.prog 91 #[.slice A0 l0.length c0, .agg #[.int .i32 a0, .string a1, .slice A2 l2.length c2, .slice A3 l3.length c3, .bool a4, .bool a5], .string s] w fun e w' => e = .returned (.bool (precedesP l0 l3 a5 (idxs l0 s))) ∧ Below w.heap.size w w' :=
  rewrite_precedes.calls A0 c0 l0 a0 a1 A2 c2 l2 A3 c3 l3 a4 a5 s _ w hT hr0 hc0 hr2 hc2 hr3 hc3 (precedes_eq h a0 a1 l2 a4 a5)
end Go.Proofs.YtfbhdjflkaldgaaDoor.Pr

namespace Go.Proofs.YtfbhdjflkaldgaaDoor.Pr
open Go.Proofs.YtfbhdjflkaldgaaDoor.Ct Go.RowKit Go.Proofs.YtfbhdjflkaldgaaDoorW.PrintWords Go.Proofs.YtfbhdjflkaldgaaDoorW.PrintLast Go.Proofs.YtfbhdjflkaldgaaDoorW.PrintMore
attribute [local go_sem] max2_int min2_int max_two min_two max_three min_three max_four min_four
set_option linter.unusedVariables false
set_option linter.unusedSimpArgs false
def pentaglotref07_Index.l0 : Nat → List (S80) → Int → Int → Option (Int)
 | 0, _, _, _ => none
 | k + 1, x0, x1, x5 => if x5 < (x0.length : Int) then (if 0 ≤ x5 then (if ((rd_T80 x0 x5).f0) = x1 then (some x5) else (pentaglotref07_Index.l0 k x0 x1 (wrap64 (x5 + 1)))) else (none)) else (some (-1))
def pentaglotref07_Index.f (k : Nat) (l0 : List (S80)) (a1 : Int) : Option (Int) := pentaglotref07_Index.l0 k l0 a1 0
end Go.Proofs.YtfbhdjflkaldgaaDoor.Pr

namespace Go.Proofs.YtfbhdjflkaldgaaDoor.Pr
open Go.Proofs.YtfbhdjflkaldgaaDoor.Ct Go.RowKit Go.Maps Go.Lib Go.Proofs.YtfbhdjflkaldgaaDoorW.PrintWords Go.Proofs.YtfbhdjflkaldgaaDoorW.PrintLast Go.Proofs.YtfbhdjflkaldgaaDoorW.PrintMore
set_option linter.unusedVariables false
set_option linter.unusedSimpArgs false
theorem conv_runes (s : ByteArray) : ∀ (n i : Nat) (acc : Array Value), s.size - i ≤ n → Conv.runesFrom s n i acc = acc ++ ((runesAt s i).map (Value.int .i32)).toArray
  | 0, i, acc, h => by
    rw [runesAt_end (by omega)]; simp [Conv.runesFrom]
  | n + 1, i, acc, h => by
    unfold Conv.runesFrom
    by_cases hi : i < s.size
    · rw [if_pos hi]
      have hw := width_at hi
      have ih := conv_runes s n (i + (Utf8.decode s i).2) (acc.push (.int .i32 (Int.ofNat (Utf8.decode s i).1))) (by omega)
      simp only
      rw [ih, runesAt_step hi]
      apply Array.ext'
      simp
    · rw [if_neg hi, runesAt_end hi]; simp
theorem conv_all (s : ByteArray) : Conv.runesFrom s s.size 0 #[] = ((runesS s).map (Value.int .i32)).toArray := by
  rw [conv_runes s s.size 0 #[] (by omega), runesAt_zero]; simp
theorem run_runes {P : Program} (w : World) (src dst e : TypeId) (s : ByteArray) (hs : P.underlying src = some .string) (hd : P.underlying dst = some (.slice e)) (he : P.underlying e = some (.int .i32)) (hsz : s.size ≤ 70368744177664) :
    (convert src dst (.string s)).run P w = .ok (.slice (some ⟨w.heap.size, 0, none⟩) (runesS s).length (grownCap w (runesS s).length 0 e))
      (w.drew.alloc (.cells (((runesS s).map (Value.int .i32)).toArray ++ Array.replicate (grownCap w (runesS s).length 0 e - (runesS s).length) (.int .i32 0)) e)) := by
  have hl : (Conv.runesFrom s s.size 0 #[]).size = (runesS s).length := by rw [conv_all]; simp
  have h := run_runes_of_string w src dst e s hs hd he (by rw [hl]; have := runesS_length s; omega)
  rw [hl, conv_all] at h
  exact h
def lettersP (l : List S80) (s : ByteArray) : List Int × Bool := if (runesS s).all (isL l) = true then (runesS s, validD s.data.toList) else ([], false)
def pentaglotref07_Letters.f (l0 : List S80) (a1 : ByteArray) : Option (List Int × Bool) := if a1.size ≤ 1099511627776 then some (lettersP l0 a1) else none
end Go.Proofs.YtfbhdjflkaldgaaDoor.Pr
