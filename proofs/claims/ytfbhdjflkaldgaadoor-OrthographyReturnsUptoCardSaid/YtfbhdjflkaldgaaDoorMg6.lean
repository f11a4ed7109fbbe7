/- Several texts in one: PatA, OrB, PatM. -/
import Derived.Test.YtfbhdjflkaldgaaDoorMg5
import Derived.Test.YtfbhdjflkaldgaaDoorMg3
/- pattern.admits. -/
/- Sets of positions as bits. -/
/- pattern.machine and the function it returns. -/
namespace Go.Proofs.YtfbhdjflkaldgaaDoor.Pr
open Go.Proofs.YtfbhdjflkaldgaaDoor.Ct Go.RowKit Go.Maps Go.Lib Go.Proofs.YtfbhdjflkaldgaaDoorW.PrintWords Go.Proofs.YtfbhdjflkaldgaaDoorW.PrintLast Go.Proofs.YtfbhdjflkaldgaaDoorW.PrintMore
set_option linter.unusedVariables false
set_option linter.unusedSimpArgs false
def admP (x : S82) (l : S80) : Bool := ((bits .and .u32 l.f1 x.f0 == x.f0) && (x.f1.toList.isEmpty || (runesS x.f1).any (· == l.f0))) != x.f2
theorem cell_iterAt {W : World} {k g : Nat} {s : ByteArray} {o : Nat} {v : Value} (pos : Nat) (h : W.cell? ⟨g, o, none⟩ = some v) (hg : g ≠ k) : (W.iterAt k s pos).cell? ⟨g, o, none⟩ = some v := by
  unfold World.cell? at h ⊢
  rw [iterAt_other W k g s pos hg]
  exact h
set_option maxRecDepth 100000 in
set_option maxHeartbeats 1000000 in
theorem admits_calls (x : S82) (l : S80) (w : World) (hsz : x.f1.size ≤ 1099511627776) :
    Calls Tryd.prog 102 #[.agg #[.int .u32 x.f0, .string x.f1, .bool x.f2, .bool x.f3], .agg #[.int .i32 l.f0, .int .u32 l.f1]] w fun e w' => e = .returned (.bool (admP x l)) ∧ Below w.heap.size w w' := by
  obtain ⟨x0, x1, x2, x3⟩ := x
  obtain ⟨l0, l1⟩ := l
  obtain ⟨r, hr⟩ : ∃ r, admP ⟨x0, x1, x2, x3⟩ ⟨l0, l1⟩ = r := ⟨_, rfl⟩
  rw [hr]
  have hr2 : r = (((bits .and .u32 l1 x0 == x0) && (x1.toList.isEmpty || (runesS x1).any (· == l0))) != x2) := hr.symm
  dsimp only at hsz ⊢
  have hr' := Aside0.mk hr2
  clear hr hr2
  have hB0 : Below w.heap.size w ((w.alloc (.cells #[.int .u32 x0, .string x1, .bool x2, .bool x3] 82)).alloc (.cells #[.int .i32 l0, .int .u32 l1] 80)) := ((Below.refl _ w).alloc (Nat.le_refl _) _).alloc (by simp) _
  have hB0' := Aside0.mk hB0
  clear hB0
  go_enter Tryd.func102, Tryd.ntmps102
  go_wp2
  · next h1 h2 =>
    have hr3 := Aside0.mk (show r = ((runesS x1).any (· == l0) != x2) by rw [hr'.out, beq_iff_eq.2 h1, show x1.toList.isEmpty = false by simpa using h2]; rfl)
    clear h1 h2
    go_loopg [5] x1.size (fun kq v5 w' => ∃ (pos : Nat) (b : Bool), v5 = .bool b ∧ Aside0 (w'.heap[w.heap.size + 1 + 1]? = some (.stringIter x1 pos)) ∧ Aside0 (x1.size - pos ≤ kq) ∧ Aside0 (r = ((b || (runesAt x1 pos).any (· == l0)) != x2)) ∧ Aside0 (w'.cell? ⟨w.heap.size + 1, 0, none⟩ = some (.int .i32 l0)) ∧ Aside0 (w'.cell? ⟨w.heap.size, 2, none⟩ = some (.bool x2)) ∧ Aside0 (Below w.heap.size w w'))
    case atStart =>
      refine ⟨0, false, rfl, ⟨?_⟩, ⟨by omega⟩, ⟨by rw [runesAt_zero, Bool.false_or]; exact hr3.out⟩, ⟨?_⟩, ⟨?_⟩, ⟨hB0'.out.alloc (by simp; omega) _⟩⟩
      · have := World.iter_heap ((w.alloc (.cells #[.int .u32 x0, .string x1, .bool x2, .bool x3] 82)).alloc (.cells #[.int .i32 l0, .int .u32 l1] 80)) x1 0
        simpa using this
      · refine cell_keep _ ?_
        simp
      · exact cell_keep _ (cell_keep _ (cell_new w _ _ 2 (.bool x2) rfl))
    case round =>
      obtain ⟨pos, b, rfl, hit, hq, hb, hc1, hc2, HB⟩ := hrel
      have hc1o := hc1.out
      have hc2o := hc2.out
      by_cases hp : pos < x1.size
      · obtain ⟨g1, rfl⟩ : ∃ g1, gk = g1 + 1 := ⟨gk - 1, by have := hq.out; omega⟩
        have hnx : ∀ ty, (Instr.next (.pointer (some ⟨w.heap.size + 1 + 1, 0, none⟩)) true ty).run Tryd.prog wr = _ := fun ty => run_next_any_at wr (w.heap.size + 1 + 1) x1 pos ty hit.out hp
        have hst := runesAt_step hp
        have hwd := width_at hp
        obtain ⟨R, hRR⟩ : ∃ R : Int, ((Utf8.decode x1 pos).1 : Int) = R := ⟨_, rfl⟩
        rw [hRR] at hst
        simp only [hRR] at hnx
        obtain ⟨pos2, hp2⟩ : ∃ p2, pos + (Utf8.decode x1 pos).2 = p2 := ⟨_, rfl⟩
        rw [hp2] at hst hnx
        obtain ⟨W1, hW1⟩ : ∃ W1, wr.iterAt (w.heap.size + 1 + 1) x1 pos2 = W1 := ⟨_, rfl⟩
        have hB1 : Below w.heap.size w W1 := by rw [← hW1]; exact below_iterAt HB.out (by omega) _ _
        have hit1 : W1.heap[w.heap.size + 1 + 1]? = some (.stringIter x1 pos2) := by rw [← hW1]; exact iterAt_heap _ _ _ _ _ hit.out
        have hc11 : W1.cell? ⟨w.heap.size + 1, 0, none⟩ = some (.int .i32 l0) := by rw [← hW1]; exact cell_iterAt _ hc1.out (by omega)
        have hc21 : W1.cell? ⟨w.heap.size, 2, none⟩ = some (.bool x2) := by rw [← hW1]; exact cell_iterAt _ hc2.out (by omega)
        simp only [hW1] at hnx
        have hst' := Aside0.mk hst
        have hw' : Aside0 (pos < pos2) := ⟨by omega⟩
        have hB1' := Aside0.mk hB1
        have hit1' := Aside0.mk hit1
        have hc11' := Aside0.mk hc11
        have hc21' := Aside0.mk hc21
        clear hst hwd hp hB1 hit1 hW1 hp2 hRR hc1o hc2o
        cases b with
        | true =>
          go_wp2
          go_roundg g1
          case measure => omega
          case rel => exact ⟨pos2, true, rfl, hit1', ⟨by have := hq.out; have := hw'.out; omega⟩, ⟨by rw [hb.out]; rfl⟩, hc11', hc21', hB1'⟩
        | false =>
          go_wp2
          go_roundg g1
          case measure => omega
          case rel => exact ⟨pos2, R == l0, rfl, hit1', ⟨by have := hq.out; have := hw'.out; omega⟩, ⟨by rw [hb.out, hst'.out, List.any_cons, Bool.false_or]⟩, hc11', hc21', hB1'⟩
      · have hnx : ∀ ty, (Instr.next (.pointer (some ⟨w.heap.size + 1 + 1, 0, none⟩)) true ty).run Tryd.prog wr = _ := fun ty => run_next_end_at wr (w.heap.size + 1 + 1) x1 pos ty hit.out hp
        have hre := runesAt_end hp
        have hrb := Aside0.mk (show r = !(b == x2) by rw [hb.out, hre]; simp [bne])
        clear hre hp
        go_wp2
        go_ret
        exact ⟨by rw [hrb.out]; rfl, HB.out⟩
  · next h1 h2 =>
    have hr3 := Aside0.mk (show r = !x2 by rw [hr'.out, beq_iff_eq.2 h1, show x1.toList.isEmpty = true by simpa using h2]; simp)
    go_ret
    exact ⟨by rw [hr3.out]; rfl, hB0'.out⟩
  · next h1 =>
    have hr3 := Aside0.mk (show r = !((bits .and .u32 l1 x0 == x0) == x2) by rw [hr'.out, show (bits .and .u32 l1 x0 == x0) = false from beq_eq_false_iff_ne.2 h1]; simp [bne])
    go_ret
    exact ⟨by rw [hr3.out]; rfl, hB0'.out⟩
def bit (s k : Nat) : Bool := s.testBit k
def setB (s k : Nat) : Nat := s ||| (1 <<< k)
theorem bit_set (s k j : Nat) : bit (setB s k) j = (bit s j || decide (j = k)) := by
  unfold bit setB
  rw [Nat.testBit_or, Nat.one_shiftLeft, Nat.testBit_two_pow]
  congr 1
  by_cases h : j = k
  · subst h; simp
  · simp [h, Ne.symm h]
theorem setB_lt {s k : Nat} (hs : s < 16) (hk : k < 4) : setB s k < 16 := by
  have : ∀ s, s < 16 → ∀ k, k < 4 → setB s k < 16 := by decide
  exact this s hs k hk
theorem and_bit {s k : Nat} (hs : s < 16) (hk : k < 4) : Go.bits .and .u8 (shr .u8 (s : Int) (k : Int)) 1 = if bit s k = true then 1 else 0 := by
  have : ∀ s : Nat, s < 16 → ∀ k : Nat, k < 4 → Go.bits .and .u8 (shr .u8 (s : Int) (k : Int)) 1 = if bit s k = true then 1 else 0 := by decide
  exact this s hs k hk
theorem or_bit {s k : Nat} (hs : s < 16) (hk : k < 4) : Go.bits .or .u8 (s : Int) (shl .u8 1 (k : Int)) = ((setB s k : Nat) : Int) := by
  have : ∀ s : Nat, s < 16 → ∀ k : Nat, k < 4 → Go.bits .or .u8 (s : Int) (shl .u8 1 (k : Int)) = ((setB s k : Nat) : Int) := by decide
  exact this s hs k hk
theorem or_pow {s k : Nat} (hs : s < 16) (hk : k < 4) : Go.bits .or .u8 (s : Int) ((2 : Int) ^ min k 8 % 256) = ((setB s k : Nat) : Int) := by
  have : ∀ s : Nat, s < 16 → ∀ k : Nat, k < 4 → Go.bits .or .u8 (s : Int) ((2 : Int) ^ min k 8 % 256) = ((setB s k : Nat) : Int) := by decide
  exact this s hs k hk
def closedN : List Bool → Nat → Nat → Nat
  | [], _, s => s
  | r :: t, k, s => closedN t (k + 1) (if (r && bit s k) = true then setB s (k + 1) else s)
theorem closedN_lt : ∀ (l : List Bool) (k s : Nat), k + l.length ≤ 3 → s < 16 → closedN l k s < 16
  | [], k, s, _, h => h
  | r :: t, k, s, h, hs => by
    unfold closedN
    refine closedN_lt t (k + 1) _ (by simp at h; omega) ?_
    split
    · exact setB_lt hs (by simp at h; omega)
    · exact hs
def stepN : List (Bool × Bool) → Nat → Nat → Nat → Nat
  | [], _, _, a => a
  | (rep, ad) :: t, k, s, a => stepN t (k + 1) s (if (bit s k && ad) = true then setB a (if rep = true then k else k + 1) else a)
theorem stepN_lt : ∀ (l : List (Bool × Bool)) (k s a : Nat), k + l.length ≤ 3 → a < 16 → stepN l k s a < 16
  | [], k, s, a, _, h => h
  | (rep, ad) :: t, k, s, a, h, ha => by
    unfold stepN
    refine stepN_lt t (k + 1) s _ (by simp at h; omega) ?_
    split
    · exact setB_lt ha (by simp at h; split <;> omega)
    · exact ha
theorem closedN_low : ∀ (l : List Bool) (k s j : Nat), j ≤ k → bit (closedN l k s) j = bit s j
  | [], k, s, j, _ => rfl
  | r :: t, k, s, j, h => by
    unfold closedN
    rw [closedN_low t (k + 1) _ j (by omega)]
    split
    · rw [bit_set, decide_eq_false (by omega), Bool.or_false]
    · rfl
theorem closedN_bit : ∀ (l : List Bool) (k s i : Nat) (r : Bool), l[i]? = some r → bit (closedN l k s) (k + i + 1) = (bit s (k + i + 1) || (r && bit (closedN l k s) (k + i)))
  | [], k, s, i, r, h => by simp at h
  | q :: t, k, s, 0, r, h => by
    obtain rfl : q = r := by simpa using h
    unfold closedN
    rw [closedN_low t (k + 1) _ (k + 0 + 1) (by omega), closedN_low t (k + 1) _ (k + 0) (by omega)]
    cases q
    · simp
    · cases hb : bit s k
      · simp [hb]
      · simp [hb, bit_set]
  | q :: t, k, s, i + 1, r, h => by
    unfold closedN
    have ih := closedN_bit t (k + 1) (if (q && bit s k) = true then setB s (k + 1) else s) i r (by simpa using h)
    rw [show k + (i + 1) + 1 = k + 1 + i + 1 from by omega, show k + (i + 1) = k + 1 + i from by omega, ih]
    congr 1
    split
    · rw [bit_set, decide_eq_false (by omega), Bool.or_false]
    · rfl
theorem closedN_high : ∀ (l : List Bool) (k s j : Nat), k + l.length < j → bit (closedN l k s) j = bit s j
  | [], k, s, j, _ => rfl
  | r :: t, k, s, j, h => by
    unfold closedN
    rw [closedN_high t (k + 1) _ j (by simp at h; omega)]
    split
    · rw [bit_set, decide_eq_false (by simp at h; omega), Bool.or_false]
    · rfl
theorem stepN_low : ∀ (l : List (Bool × Bool)) (k s a j : Nat), j < k → bit (stepN l k s a) j = bit a j
  | [], k, s, a, j, _ => rfl
  | (rep, ad) :: t, k, s, a, j, h => by
    unfold stepN
    rw [stepN_low t (k + 1) s _ j (by omega)]
    split
    · rw [bit_set, decide_eq_false (by split <;> omega), Bool.or_false]
    · rfl
def own (l : List (Bool × Bool)) (k s i : Nat) : Bool := match l[i]? with
  | some (rep, ad) => rep && (ad && bit s (k + i))
  | none => false
def fore (l : List (Bool × Bool)) (k s i : Nat) : Bool := match l[i]? with
  | some (rep, ad) => !rep && (ad && bit s (k + i))
  | none => false
theorem stepN_bit : ∀ (l : List (Bool × Bool)) (k s a : Nat), bit (stepN l k s a) k = (bit a k || own l k s 0) ∧ ∀ i, bit (stepN l k s a) (k + i + 1) = (bit a (k + i + 1) || (fore l k s i || own l k s (i + 1)))
  | [], k, s, a => by simp [stepN, own, fore]
  | (rep, ad) :: t, k, s, a => by
    have ih := stepN_bit t (k + 1) s (if (bit s k && ad) = true then setB a (if rep = true then k else k + 1) else a)
    constructor
    · unfold stepN
      rw [stepN_low t (k + 1) s _ k (by omega)]
      cases rep <;> cases ad <;> cases hb : bit s k <;> simp [own, hb, bit_set]
    · intro i
      unfold stepN
      cases i with
      | zero =>
        rw [show k + 0 + 1 = k + 1 from rfl, ih.1]
        have e : own t (k + 1) s 0 = own ((rep, ad) :: t) k s (0 + 1) := by unfold own; simp only [List.getElem?_cons_succ]
        rw [e, ← Bool.or_assoc]
        congr 1
        cases rep <;> cases ad <;> cases hb : bit s k <;> simp [fore, hb, bit_set]
      | succ i =>
        rw [show k + (i + 1) + 1 = k + 1 + i + 1 from by omega, ih.2 i]
        have e : own t (k + 1) s (i + 1) = own ((rep, ad) :: t) k s (i + 1 + 1) := by unfold own; simp only [List.getElem?_cons_succ]; rw [show k + 1 + (i + 1) = k + (i + 1 + 1) from by omega]
        have e2 : fore t (k + 1) s i = fore ((rep, ad) :: t) k s (i + 1) := by unfold fore; simp only [List.getElem?_cons_succ]; rw [show k + 1 + i = k + (i + 1) from by omega]
        rw [e, e2]
        congr 1
        split
        · rw [bit_set, decide_eq_false (by split <;> omega), Bool.or_false]
        · rfl
section
variable {I A : Type} (adm : I → A → Bool) (rep : I → Bool)
def SetOf (p : List I) (s : Nat) (u : List A) : Prop := ∀ j, bit s j = true ↔ j ≤ p.length ∧ Pos adm rep p j u
theorem set_start (p : List I) : SetOf adm rep p (closedN (p.map rep) 0 1) ([] : List A) := by
  intro j
  induction j with
  | zero =>
    rw [closedN_low _ _ _ _ (Nat.le_refl _)]
    exact ⟨fun _ => ⟨Nat.zero_le _, pos_start0 adm rep p⟩, fun _ => rfl⟩
  | succ i ih =>
    cases h : p[i]? with
    | none =>
      have hl : p.length ≤ i := List.getElem?_eq_none_iff.1 h
      rw [closedN_high _ _ _ _ (by rw [List.length_map]; omega)]
      constructor
      · intro hb
        unfold bit at hb
        rw [Nat.testBit_succ] at hb
        simp at hb
      · rintro ⟨h1, _⟩; omega
    | some x =>
      have hl : i < p.length := (List.getElem?_eq_some_iff.1 h).1
      have hb := closedN_bit (p.map rep) 0 1 i (rep x) (by rw [List.getElem?_map, h]; rfl)
      rw [show 0 + i + 1 = i + 1 from by omega, show 0 + i = i from by omega] at hb
      rw [hb, pos_startS adm rep p i x h]
      have h0 : bit 1 (i + 1) = false := by unfold bit; rw [Nat.testBit_succ]; simp
      rw [h0, Bool.false_or, Bool.and_eq_true, ih]
      constructor
      · rintro ⟨h1, _, h2⟩; exact ⟨by omega, h1, h2⟩
      · rintro ⟨_, h1, h2⟩; exact ⟨h1, by omega, h2⟩
theorem set_next (p : List I) (s : Nat) (u : List A) (a : A) (h : SetOf adm rep p s u) : SetOf adm rep p (closedN (p.map rep) 0 (stepN (p.map fun x => (rep x, adm x a)) 0 s 0)) (u ++ [a]) := by
  obtain ⟨h0, hS⟩ := stepN_bit (p.map fun x => (rep x, adm x a)) 0 s 0
  have z : ∀ j, bit 0 j = false := fun j => by unfold bit; exact Nat.zero_testBit j
  have hown : ∀ j, own (p.map fun x => (rep x, adm x a)) 0 s j = true ↔ ∃ x, p[j]? = some x ∧ rep x = true ∧ adm x a = true ∧ Pos adm rep p j u := by
    intro j
    unfold own
    rw [List.getElem?_map]
    cases hj : p[j]? with
    | none => simp
    | some x =>
      have hl : j < p.length := (List.getElem?_eq_some_iff.1 hj).1
      simp only [Option.map_some, Nat.zero_add, Bool.and_eq_true, h j]
      constructor
      · rintro ⟨h1, h2, _, h3⟩; exact ⟨x, rfl, h1, h2, h3⟩
      · rintro ⟨y, e, h1, h2, h3⟩; cases e; exact ⟨h1, h2, by omega, h3⟩
  have hfore : ∀ i x, p[i]? = some x → (fore (p.map fun x => (rep x, adm x a)) 0 s i = true ↔ rep x = false ∧ adm x a = true ∧ Pos adm rep p i u) := by
    intro i x hx
    have hl : i < p.length := (List.getElem?_eq_some_iff.1 hx).1
    unfold fore
    rw [List.getElem?_map, hx]
    simp only [Option.map_some, Nat.zero_add, Bool.and_eq_true, h i]
    constructor
    · rintro ⟨h1, h2, _, h3⟩; exact ⟨by simpa using h1, h2, h3⟩
    · rintro ⟨h1, h2, h3⟩; exact ⟨by simpa using h1, h2, by omega, h3⟩
  intro j
  induction j with
  | zero =>
    rw [closedN_low _ _ _ _ (Nat.le_refl _), h0, z, Bool.false_or, hown, pos_next]
    constructor
    · intro hx; exact ⟨Nat.zero_le _, .inr hx⟩
    · rintro ⟨_, hx | hx⟩
      · exact absurd hx (lang_take_zero adm rep p u a)
      · exact hx
  | succ i ih =>
    cases hp : p[i]? with
    | none =>
      have hl : p.length ≤ i := List.getElem?_eq_none_iff.1 hp
      rw [closedN_high _ _ _ _ (by rw [List.length_map]; omega)]
      have hi := hS i
      rw [show 0 + i + 1 = i + 1 from by omega] at hi
      rw [hi, z, Bool.false_or]
      have f1 : fore (p.map fun x => (rep x, adm x a)) 0 s i = false := by unfold fore; rw [List.getElem?_map, hp]; rfl
      have f2 : own (p.map fun x => (rep x, adm x a)) 0 s (i + 1) = false := by unfold own; rw [List.getElem?_map, List.getElem?_eq_none (by omega)]; rfl
      rw [f1, f2]
      constructor
      · intro hx; cases hx
      · rintro ⟨h1, _⟩; omega
    | some x =>
      have hl : i < p.length := (List.getElem?_eq_some_iff.1 hp).1
      have hb := closedN_bit (p.map rep) 0 (stepN (p.map fun x => (rep x, adm x a)) 0 s 0) i (rep x) (by rw [List.getElem?_map, hp]; rfl)
      have hi := hS i
      rw [show 0 + i + 1 = i + 1 from by omega] at hi hb
      rw [show 0 + i = i from by omega] at hb
      rw [hb, hi, z, Bool.false_or, Bool.or_eq_true, Bool.or_eq_true, Bool.and_eq_true, hfore i x hp, hown, ih, pos_next adm rep p (i + 1), lang_take_next adm rep p i x hp]
      by_cases hr : rep x = true
      · simp only [if_pos hr]
        constructor
        · rintro ((⟨h1, _⟩ | h2) | ⟨_, _, h3⟩)
          · rw [hr] at h1; cases h1
          · exact ⟨by omega, .inr h2⟩
          · exact ⟨by omega, .inl h3⟩
        · rintro ⟨_, h1 | h2⟩
          · exact .inr ⟨hr, by omega, h1⟩
          · exact .inl (.inr h2)
      · simp only [if_neg hr]
        constructor
        · rintro ((⟨_, h1⟩ | h2) | ⟨h3, _⟩)
          · exact ⟨by omega, .inl h1⟩
          · exact ⟨by omega, .inr h2⟩
          · exact absurd h3 hr
        · rintro ⟨_, h1 | h2⟩
          · exact .inl (.inl ⟨by simpa using hr, h1⟩)
          · exact .inl (.inr h2)
theorem set_end (p : List I) (s : Nat) (u : List A) (h : SetOf adm rep p s u) : bit s p.length = matchP adm rep p u := by
  have h1 := h p.length
  rw [pos_end, ← matchP_iff] at h1
  cases hb : bit s p.length <;> cases hm : matchP adm rep p u <;> simp_all
theorem set_dead (p : List I) (u v : List A) (h : SetOf adm rep p 0 u) : matchP adm rep p (u ++ v) = false := by
  have key : ∀ (v u : List A), SetOf adm rep p 0 u → SetOf adm rep p 0 (u ++ v) := by
    intro v
    induction v with
    | nil => intro u h; rwa [List.append_nil]
    | cons a v ih =>
      intro u h
      rw [show u ++ a :: v = (u ++ [a]) ++ v from by simp]
      refine ih _ ?_
      have h2 := set_next adm rep p 0 u a h
      have z : ∀ (l : List (Bool × Bool)) (k : Nat), stepN l k 0 0 = 0 := by
        intro l
        induction l with
        | nil => intro k; rfl
        | cons q l ih => intro k; unfold stepN; rw [show bit 0 k = false from Nat.zero_testBit k, Bool.false_and]; exact ih _
      have z2 : ∀ (l : List Bool) (k : Nat), closedN l k 0 = 0 := by
        intro l
        induction l with
        | nil => intro k; rfl
        | cons q l ih => intro k; unfold closedN; rw [show bit 0 k = false from Nat.zero_testBit k, Bool.and_false]; exact ih _
      rw [z, z2] at h2
      exact h2
  rw [← set_end adm rep p 0 (u ++ v) (key v u h)]
  exact Nat.zero_testBit _
end
theorem closed_ev (l : List S82) (s : Nat) (hl : l.length ≤ 3) (hs : s < 16) : Ev (fun k => pattern_closed.f k l (s : Int)) ((closedN (l.map (·.f3)) 0 s : Nat) : Int) := by
  have key : ∀ (d i s : Nat), l.length - i = d → i ≤ l.length → s < 16 → Ev (fun k => pattern_closed.l0 k (s : Int) l (l.length : Int) (i : Int)) ((closedN ((l.drop i).map (·.f3)) i s : Nat) : Int) := by
    intro d
    induction d with
    | zero =>
      intro i s hd hi hs
      obtain rfl : i = l.length := by omega
      refine Ev.step (f := fun _ => some (s : Int)) (fun k => ?_) ?_
      · simp only [pattern_closed.l0]; rw [if_neg (by omega)]
      · rw [List.drop_length]; exact Ev.now _
    | succ d ih =>
      intro i s hd hi hs
      have hlt : i < l.length := by omega
      have hw : wrap64 ((i : Int) + 1) = ((i + 1 : Nat) : Int) := idx_next hlt (by omega)
      rw [drop_item l i hlt, List.map_cons]
      unfold closedN
      by_cases hr : (rd_T82 l (i : Int)).f3 = true
      · by_cases hb : bit s i = true
        · rw [if_pos (by rw [hr, hb]; rfl)]
          refine Ev.step (fun k => ?_) (ih (i + 1) (setB s (i + 1)) (by omega) (by omega) (setB_lt hs (by omega)))
          simp only [pattern_closed.l0]
          rw [if_pos (by omega), if_pos (by omega), if_pos (by omega), if_pos hr, and_bit hs (by omega), if_pos hb, if_pos rfl, hw, if_pos (by omega), or_bit hs (by omega)]
        · rw [if_neg (by rw [hr]; simpa using hb)]
          refine Ev.step (fun k => ?_) (ih (i + 1) s (by omega) (by omega) hs)
          simp only [pattern_closed.l0]
          rw [if_pos (by omega), if_pos (by omega), if_pos (by omega), if_pos hr, and_bit hs (by omega), if_neg hb, if_neg (by decide), hw]
      · rw [if_neg (by simp [hr])]
        refine Ev.step (fun k => ?_) (ih (i + 1) s (by omega) (by omega) hs)
        simp only [pattern_closed.l0]
        rw [if_pos (by omega), if_pos (by omega), if_pos (by omega), if_neg hr, hw]
  have := key _ 0 s rfl (by omega) hs
  rw [List.drop_zero] at this
  exact this
theorem closed_calls (A : Option Addr) (c : Nat) (l : List S82) (s : Nat) (w : World) (hr0 : Kd.C k82 w A l.length l) (hc0 : l.length ≤ c) (hl : l.length ≤ 3) (hs : s < 16) :
    Calls Tryd.prog 101 #[.slice A l.length c, .int .u8 (s : Int)] w fun e w' => e = .returned (.int .u8 ((closedN (l.map (·.f3)) 0 s : Nat) : Int)) ∧ Below w.heap.size w w' := by
  obtain ⟨k, hk⟩ := (closed_ev l s hl hs).rounds
  exact pattern_closed.calls k A c l _ _ w hr0 hc0 hk
def TableAt (w : World) (B1 n m : Nat) (F : Nat → Nat → Bool) : Prop := ∃ f : Nat → Nat, ∀ k, k < n → w.cell? ⟨B1, k, none⟩ = some (.slice (some ⟨f k, 0, none⟩) m m) ∧ ∀ i, i < m → w.cell? ⟨f k, i, none⟩ = some (.bool (F k i))
theorem TableAt.below {w w' : World} {B1 n m : Nat} {F : Nat → Nat → Bool} (h : TableAt w B1 n m F) (hb : Below w.heap.size w w') : TableAt w' B1 n m F := by
  obtain ⟨f, hf⟩ := h
  refine ⟨f, fun k hk => ⟨?_, fun i hi => ?_⟩⟩
  · exact (hb.cell (World.block_lt_of_cell? _ _ (hf k hk).1)).trans (hf k hk).1
  · exact (hb.cell (World.block_lt_of_cell? _ _ ((hf k hk).2 i hi))).trans ((hf k hk).2 i hi)
def admT (l0 : List S80) (l1 : List S82) (k i : Nat) : Bool := admP (rd_T82 l1 (k : Int)) (rd_T80 l0 (i : Int))
def nextN (l0 : List S80) (l1 : List S82) (s i : Nat) : Nat := closedN (l1.map (·.f3)) 0 (stepN (l1.map fun x => (x.f3, admP x (rd_T80 l0 (i : Int)))) 0 s 0)
set_option maxRecDepth 100000 in
set_option maxHeartbeats 1000000 in
theorem step_calls (l0 : List S80) (A1 : Option Addr) (c1 : Nat) (l1 : List S82) (B0 B1 B2 : Nat) (s i : Nat) (w : World) (hr1 : Kd.C k82 w A1 l1.length l1) (hc1 : l1.length ≤ c1) (hl : l1.length ≤ 3) (hs : s < 16) (hi : i < l0.length)
    (h0 : w.cell? ⟨B0, 0, none⟩ = some (.slice A1 l1.length c1)) (h2 : w.cell? ⟨B2, 0, none⟩ = some (.slice (some ⟨B1, 0, none⟩) l1.length l1.length)) (hT : TableAt w B1 l1.length l0.length (admT l0 l1)) :
    Calls Tryd.prog 103 #[.int .u8 (s : Int), .int .i64 (i : Int), .pointer (some ⟨B0, 0, none⟩), .pointer (some ⟨B2, 0, none⟩)] w fun e w' => e = .returned (.int .u8 ((nextN l0 l1 s i : Nat) : Int)) ∧ Below w.heap.size w w' := by
  obtain ⟨R, hR⟩ : ∃ R, nextN l0 l1 s i = R := ⟨_, rfl⟩
  rw [hR]
  have hR2 : R = closedN (l1.map (·.f3)) 0 (stepN ((l1.drop 0).map fun x => (x.f3, admP x (rd_T80 l0 (i : Int)))) 0 s 0) := hR.symm
  have hR' := Aside0.mk hR2
  have HR1 := Aside0.mk hr1
  have HC1 := Aside0.mk hc1
  have HL := Aside0.mk hl
  have HS := Aside0.mk hs
  have HI := Aside0.mk hi
  have H0 := Aside0.mk h0
  have H2 := Aside0.mk h2
  have HT := Aside0.mk hT
  clear hR hR2 hr1 hc1 hl hs hi h2 hT
  go_enter Tryd.func103, Tryd.ntmps103
  go_wp2
  clear h0
  go_loopg [7, 12] l1.length (fun kq v7 v12 w' => ∃ a k : Nat, v7 = .int .u8 (a : Int) ∧ v12 = .int .i64 (k : Int) ∧ Aside0 (k + kq = l1.length) ∧ Aside0 (a < 16) ∧ Aside0 (R = closedN (l1.map (·.f3)) 0 (stepN ((l1.drop k).map fun x => (x.f3, admP x (rd_T80 l0 (i : Int)))) k s a)) ∧ Aside0 (Below w.heap.size w w'))
  case atStart => exact ⟨0, 0, rfl, rfl, ⟨by omega⟩, ⟨by omega⟩, hR', ⟨Below.refl _ _⟩⟩
  case round =>
    obtain ⟨a, k, rfl, rfl, hk, ha, hRk, HB⟩ := hrel
    cases gk with
    | zero =>
      have h3 : ¬ ((k : Int) < (l1.length : Int)) := by have := hk.out; omega
      have h0w := (HB.out.cell (World.block_lt_of_cell? _ _ H0.out)).trans H0.out
      have hcl := closed_calls A1 c1 l1 a wr (Kd.C_below HR1.out HB.out) HC1.out HL.out ha.out
      have hRe : ((closedN (l1.map (·.f3)) 0 a : Nat) : Int) = (R : Int) := by
        have h := hRk.out
        rw [List.drop_eq_nil_of_le (by have := hk.out; omega)] at h
        rw [h]; rfl
      rw [hRe] at hcl
      clear hRe
      go_wp2_with (go_at_call 101; refine hcl.mono ?_; clear hcl; rintro e w5 ⟨rfl, hB5⟩)
      go_ret
      exact ⟨rfl, HB.out.trans (hB5.mono HB.out.size)⟩
    | succ g1 =>
      have h3 : (k : Int) < (l1.length : Int) := by have := hk.out; omega
      have h4 : 0 ≤ (k : Int) := by omega
      obtain ⟨ad, hA, hx0, hx1, hx2, hx3⟩ := at_T82 HR1.out (k : Int) h4 h3
      subst hA
      rw [Int.toNat_natCast] at hx0 hx1 hx2 hx3
      replace hx0 := (HB.out.cell (World.block_lt_of_cell? _ _ hx0)).trans hx0
      replace hx1 := (HB.out.cell (World.block_lt_of_cell? _ _ hx1)).trans hx1
      replace hx2 := (HB.out.cell (World.block_lt_of_cell? _ _ hx2)).trans hx2
      replace hx3 := (HB.out.cell (World.block_lt_of_cell? _ _ hx3)).trans hx3
      have hdr := drop_item l1 k (by omega)
      have hB2 := (HB.out.cell (World.block_lt_of_cell? _ _ H2.out)).trans H2.out
      obtain ⟨f, hf⟩ := HT.out.below HB.out
      obtain ⟨hf1, hf2⟩ := hf k (by omega)
      have hf3 := hf2 i HI.out
      have hFm : admT l0 l1 k i = admP (rd_T82 l1 (k : Int)) (rd_T80 l0 (i : Int)) := rfl
      obtain ⟨X, hX⟩ : ∃ X, rd_T82 l1 (k : Int) = X := ⟨_, rfl⟩
      obtain ⟨X0, X1, X2, X3⟩ := X
      rw [hX] at hx0 hx1 hx2 hx3 hdr hFm
      dsimp only at hx0 hx1 hx2 hx3
      obtain ⟨M, hM⟩ : ∃ M, admP ⟨X0, X1, X2, X3⟩ (rd_T80 l0 (i : Int)) = M := ⟨_, rfl⟩
      rw [hM] at hFm
      rw [hFm] at hf3
      have hRn : R = closedN (l1.map (·.f3)) 0 (stepN ((l1.drop (k + 1)).map fun x => (x.f3, admP x (rd_T80 l0 (i : Int)))) (k + 1) s (if (bit s k && M) = true then setB a (if X3 = true then k else k + 1) else a)) := by
        have h := hRk.out
        rw [hdr, List.map_cons, hM] at h
        exact h
      have hfin : wrap64 ((k : Int) + 1) = ((k + 1 : Nat) : Int) := idx_next (by omega : k < l1.length) (by have := HL.out; omega)
      have hand := and_bit (s := s) (k := k) HS.out (by have := HL.out; omega)
      have hi0 : (0 : Int) ≤ (i : Int) := by omega
      have hi1 : (i : Int) < (l0.length : Int) := by have := HI.out; omega
      replace hB2 := cell_keep (.cells #[.int .u32 X0, .string X1, .bool X2, .bool X3] 82) hB2
      replace hf1 := cell_keep (.cells #[.int .u32 X0, .string X1, .bool X2, .bool X3] 82) hf1
      replace hf3 := cell_keep (.cells #[.int .u32 X0, .string X1, .bool X2, .bool X3] 82) hf3
      have hRn' := Aside0.mk hRn
      have hfin' := Aside0.mk hfin
      have hB1' := Aside0.mk (HB.out.alloc HB.out.size (.cells #[.int .u32 X0, .string X1, .bool X2, .bool X3] 82))
      clear hX hdr hM hFm hRn hf2 hf hfin
      cases hb : bit s k with
      | false =>
        rw [hb] at hand
        have hb' := hb
        clear hb
        replace hand : Go.bits .and .u8 ((s : Int) / 2 ^ min k 8) 1 = 0 := hand
        go_wp2
        go_roundg g1
        case measure => omega
        case rel =>
          refine ⟨a, k + 1, rfl, by rw [hfin'.out], ⟨by have := hk.out; omega⟩, ha, ⟨?_⟩, hB1'⟩
          rw [hRn'.out, hb', Bool.false_and]; rfl
      | true =>
        rw [hb] at hand
        have hb' := hb
        clear hb
        replace hand : Go.bits .and .u8 ((s : Int) / 2 ^ min k 8) 1 = 1 := hand
        cases M with
        | false =>
          go_wp2
          go_roundg g1
          case measure => omega
          case rel =>
            refine ⟨a, k + 1, rfl, by rw [hfin'.out], ⟨by have := hk.out; omega⟩, ha, ⟨?_⟩, hB1'⟩
            rw [hRn'.out, Bool.and_false]; rfl
        | true =>
          cases X3 with
          | true =>
            have hor := or_pow (s := a) (k := k) ha.out (by have := HL.out; omega)
            go_wp2
            go_roundg g1
            case measure => omega
            case rel =>
              refine ⟨setB a k, k + 1, rfl, by rw [hfin'.out], ⟨by have := hk.out; omega⟩, ⟨setB_lt ha.out (by have := HL.out; omega)⟩, ⟨?_⟩, hB1'⟩
              rw [hRn'.out, hb']; rfl
          | false =>
            have hor := or_pow (s := a) (k := k + 1) ha.out (by have := HL.out; omega)
            have hk1 : 0 ≤ (k : Int) + 1 := by omega
            have hk2 : ((k : Int) + 1).toNat = k + 1 := by omega
            have hfin := hfin'.out
            go_wp2
            go_roundg g1
            case measure => omega
            case rel =>
              refine ⟨setB a (k + 1), k + 1, rfl, by first | rfl | rw [hfin'.out], ⟨by have := hk.out; omega⟩, ⟨setB_lt ha.out (by have := HL.out; omega)⟩, ⟨?_⟩, hB1'⟩
              rw [hRn'.out, hb']; rfl
end Go.Proofs.YtfbhdjflkaldgaaDoor.Pr
