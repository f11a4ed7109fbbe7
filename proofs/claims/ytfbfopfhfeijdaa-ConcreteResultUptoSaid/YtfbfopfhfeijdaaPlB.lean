/- Template, plainly, on lists of bytes: what concrete.Template and the reference compute. -/
import Derived.Test.YtfbfopfhfeijdaaPlA
import Derived.Test.YtfbfopfhfeijdaaTempB
import Derived.Test.YtfbfopfhfeijdaaPrF35
import Derived.Test.YtfbfopfhfeijdaaPrF34
import Derived.Test.YtfbfopfhfeijdaaPrF15
namespace Go.Proofs.Ytfbfopfhfeijdaa.Pr
open Go.RowKit Go.Proofs.YtfbfopfhfeijdaaW.PrintWords Go.Proofs.YtfbfopfhfeijdaaW.PrintLast Go.Proofs.YtfbfopfhfeijdaaW.PrintMore
set_option linter.unusedVariables false
set_option linter.unusedSimpArgs false

/-! ### Bytes -/
theorem ba_size (L : List UInt8) : (⟨L.toArray⟩ : ByteArray).size = L.length := by simp [ByteArray.size]
theorem size_list (s : ByteArray) : s.size = s.data.toList.length := Array.length_toList.symm
theorem ba_eta (s : ByteArray) : (⟨s.data.toList.toArray⟩ : ByteArray) = s := by
  cases s with
  | mk d => exact congrArg ByteArray.mk Array.toArray_toList
theorem extract_list (s : ByteArray) (i j : Nat) : s.extract i j = ⟨((s.data.toList.drop i).take (j - i)).toArray⟩ := by
  apply ByteArray.ext
  rw [ByteArray.data_extract]
  apply Array.toList_inj.1
  simp [Array.toList_extract, List.extract_eq_take_drop]
theorem append_list (a b : List UInt8) : (⟨a.toArray⟩ : ByteArray) ++ (⟨b.toArray⟩ : ByteArray) = ⟨(a ++ b).toArray⟩ := by
  apply ByteArray.ext
  rw [ByteArray.data_append]
  simp
theorem bt_nat (s : ByteArray) (i : Nat) (h : i < s.data.toList.length) : bt s (i : Int) = ((s.data.toList[i]'h).toNat : Int) := by
  have h' : i < s.size := by rw [size_list]; exact h
  simp [bt, h']
  rfl
theorem bt_drop (s : ByteArray) (a j : Nat) : bt ⟨(s.data.toList.drop a).toArray⟩ (j : Int) = bt s ((a + j : Nat) : Int) := by
  by_cases h : a + j < s.data.toList.length
  · rw [bt_nat s _ h, bt_nat _ j (by simp at h ⊢; omega)]
    simp
  · have h1 : ¬ a + j < s.size := by rw [size_list]; exact h
    have h2 : ¬ j < (⟨(s.data.toList.drop a).toArray⟩ : ByteArray).size := by rw [ba_size, List.length_drop]; omega
    unfold bt
    rw [dif_neg (by rw [Int.toNat_natCast]; exact h2), dif_neg (by rw [Int.toNat_natCast]; exact h1)]
theorem bt_append (a b : List UInt8) (j : Nat) (h : j < a.length) : bt ⟨(a ++ b).toArray⟩ (j : Int) = bt ⟨a.toArray⟩ (j : Int) := by
  rw [bt_nat _ j (by simp; omega), bt_nat _ j (by simpa using h)]
  simp [h]
theorem is_36 (c : UInt8) : ((c.toNat : Int) = 36) ↔ c = 36 := by
  constructor
  · intro h
    apply UInt8.toNat_inj.1
    have : c.toNat = 36 := by omega
    rw [this]; rfl
  · rintro rfl; rfl

/-! ### Names -/
def smB (c : UInt8) : Bool := sm (c.toNat : Int)
theorem drop_take_while (p : UInt8 → Bool) (l : List UInt8) : l.drop (l.takeWhile p).length = l.dropWhile p := by
  have h := congrArg (List.drop (l.takeWhile p).length) (List.takeWhile_append_dropWhile (p := p) (l := l))
  rw [List.drop_left] at h
  exact h.symm
theorem nameEnd_list (s : ByteArray) : ∀ d i, s.size - i = d → nameEnd s i = i + ((s.data.toList.drop i).takeWhile smB).length := by
  intro d
  induction d with
  | zero => intro i hd; rw [nameEnd_end (by omega), drop_end (by rw [← size_list]; omega)]; rfl
  | succ d ih =>
    intro i hd
    have hi : i < s.data.toList.length := by rw [← size_list]; omega
    have hb := bt_nat s i hi
    rw [drop_at hi]
    cases e : sm (bt s i) with
    | false =>
      have e' : smB s.data.toList[i] = false := by unfold smB; rw [← hb]; exact e
      rw [nameEnd_stop (by rw [size_list]; exact hi) e, List.takeWhile_cons, if_neg (by rw [e']; simp)]; rfl
    | true =>
      have e' : smB s.data.toList[i] = true := by unfold smB; rw [← hb]; exact e
      rw [nameEnd_go (by rw [size_list]; exact hi) e, List.takeWhile_cons, if_pos e', ih (i + 1) (by omega), List.length_cons]; omega

/-! ### Cut -/
theorem cut1_nil (c : UInt8) : Cut1.cut1 [] c = ([], [], false) := by simp [Cut1.cut1, Cut1.at1]
theorem cut1_hit (c : UInt8) (l : List UInt8) : Cut1.cut1 (c :: l) c = ([], l, true) := by simp [Cut1.cut1, Cut1.at1]
theorem cut1_miss {b c : UInt8} (h : b ≠ c) (l : List UInt8) : Cut1.cut1 (b :: l) c = (b :: (Cut1.cut1 l c).1, (Cut1.cut1 l c).2.1, (Cut1.cut1 l c).2.2) := by
  unfold Cut1.cut1
  rw [Cut1.at1, if_neg h]
  by_cases hl : Cut1.at1 l c < l.length
  · rw [if_pos hl, if_pos (by simpa using hl)]; simp
  · rw [if_neg hl, if_neg (by simpa using hl)]
theorem cut1_none {c : UInt8} : ∀ l : List UInt8, c ∉ l → Cut1.cut1 l c = (l, [], false) := by
  intro l
  induction l with
  | nil => intro _; exact cut1_nil c
  | cons b l ih =>
    intro h
    rw [cut1_miss (fun e => h (by simp [e])), ih (fun e => h (by simp [e]))]
theorem cut1_len (c : UInt8) : ∀ l : List UInt8, (Cut1.cut1 l c).2.2 = true → (Cut1.cut1 l c).1.length + 1 + (Cut1.cut1 l c).2.1.length = l.length := by
  intro l
  induction l with
  | nil => rw [cut1_nil]; simp
  | cons b l ih =>
    by_cases h : b = c
    · subst h; rw [cut1_hit]; intro _; simp; omega
    · rw [cut1_miss h]; intro e; have := ih e; simp at this ⊢; omega
theorem cut1_le (c : UInt8) : ∀ l : List UInt8, (Cut1.cut1 l c).1.length ≤ l.length := by
  intro l
  unfold Cut1.cut1
  split
  · rw [List.length_take]; exact Nat.min_le_right _ _
  · exact Nat.le_refl _

/-! ### The plain law -/
def badL (r : List UInt8) : Bool := badRef ⟨r.toArray⟩
/-- What a template stands for, behind what has been written. -/
def T (l : List (List S37)) (L out : List UInt8) : List UInt8 × Int :=
  match L with
  | [] => (out, 0)
  | c :: r =>
    if c = 36 then
      if badL r = true then ([], 3)
      else match resolve l (bt ⟨r.toArray⟩ 0 - 48) ⟨((r.drop 2).takeWhile smB).toArray⟩ with
        | none => ([], 4)
        | some v => T l ((r.drop 2).dropWhile smB) (out ++ v.data.toList)
    else T l r (out ++ [c])
termination_by L.length
decreasing_by
  · have h := (List.dropWhile_sublist smB (l := r.drop 2)).length_le
    simp at h ⊢; omega
  · simp
theorem T_nil (l : List (List S37)) (out : List UInt8) : T l [] out = (out, 0) := by rw [T]
theorem T_lit (l : List (List S37)) {c : UInt8} (h : c ≠ 36) (r out : List UInt8) : T l (c :: r) out = T l r (out ++ [c]) := by rw [T, if_neg h]
theorem T_bad (l : List (List S37)) {r : List UInt8} (h : badL r = true) (out : List UInt8) : T l (36 :: r) out = ([], 3) := by rw [T, if_pos rfl, if_pos h]
theorem T_none (l : List (List S37)) {r : List UInt8} (h : ¬ badL r = true) (out : List UInt8) (e : resolve l (bt ⟨r.toArray⟩ 0 - 48) ⟨((r.drop 2).takeWhile smB).toArray⟩ = none) : T l (36 :: r) out = ([], 4) := by
  rw [T, if_pos rfl, if_neg h, e]
theorem T_some (l : List (List S37)) {r : List UInt8} (h : ¬ badL r = true) (out : List UInt8) {v : ByteArray} (e : resolve l (bt ⟨r.toArray⟩ 0 - 48) ⟨((r.drop 2).takeWhile smB).toArray⟩ = some v) :
    T l (36 :: r) out = T l ((r.drop 2).dropWhile smB) (out ++ v.data.toList) := by
  rw [T, if_pos rfl, if_neg h, e]
theorem T_cut (l : List (List S37)) : ∀ L out, T l L out = if (Cut1.cut1 L 36).2.2 = false then (out ++ (Cut1.cut1 L 36).1, 0) else T l (36 :: (Cut1.cut1 L 36).2.1) (out ++ (Cut1.cut1 L 36).1) := by
  intro L
  induction L with
  | nil => intro out; rw [cut1_nil, T_nil]; simp
  | cons c L ih =>
    intro out
    by_cases h : c = 36
    · subst h; rw [cut1_hit]; simp
    · rw [cut1_miss h, T_lit l h, ih]
      simp only [List.append_assoc, List.singleton_append]
theorem badL_iff {r : List UInt8} {x y z : Int} (h0 : bt ⟨r.toArray⟩ 0 = x) (h1 : bt ⟨r.toArray⟩ 1 = y) (h2 : bt ⟨r.toArray⟩ 2 = z) : badL r = true ↔ (r.length < 3 ∨ x < 48 ∨ 57 < x ∨ ¬ y = 46 ∨ sm z = false) := by
  subst h0 h1 h2
  unfold badL badRef
  rw [ba_size]
  simp [or_assoc]
theorem badL_len {r : List UInt8} (h : ¬ badL r = true) : 3 ≤ r.length := by
  unfold badL badRef at h
  rw [ba_size] at h
  simp at h; omega

/-- concrete.Template is the plain law, where no value is longer than M. -/
theorem tpl_T (l : List (List S37)) (M : Nat) (hM1 : 1 ≤ M) (hM : ∀ i nm v, resolve l i nm = some v → v.size ≤ M) : ∀ n (L out : List UInt8), L.length < n → out.length + L.length * M ≤ 140737488355328 →
    tpl l n ⟨L.toArray⟩ out = some (⟨(T l L out).1.toArray⟩, (T l L out).2) := by
  intro n
  induction n with
  | zero => intro L out h; omega
  | succ n ih =>
    intro L out hL hs
    rw [T_cut]
    have h1 := cut1_le 36 L
    have h2 := cut1_len 36 L
    have h3 : (Cut1.cut1 L 36).1.length ≤ (Cut1.cut1 L 36).1.length * M := Nat.le_mul_of_pos_right _ hM1
    have h4 : (Cut1.cut1 L 36).1.length * M ≤ L.length * M := Nat.mul_le_mul_right M h1
    simp only [tpl]
    rw [if_neg (by rw [List.length_append]; omega)]
    by_cases c0 : (Cut1.cut1 L 36).2.2 = false
    · rw [if_pos c0, if_pos c0]
    · rw [if_neg c0, if_neg c0]
      have h2 := h2 (by simpa using c0)
      generalize hr : (Cut1.cut1 L 36).2.1 = r at h2 ⊢
      generalize hx : (Cut1.cut1 L 36).1 = x at h1 h2 h3 h4 ⊢
      by_cases hb : badL r = true
      · rw [if_pos (show badRef ⟨r.toArray⟩ = true from hb), T_bad l hb]
      · rw [if_neg (show ¬ badRef ⟨r.toArray⟩ = true from hb)]
        have hl := badL_len hb
        have hne : nameEnd ⟨r.toArray⟩ 2 = 2 + ((r.drop 2).takeWhile smB).length := nameEnd_list _ _ 2 rfl
        have hx1 : (⟨r.toArray⟩ : ByteArray).extract 2 (nameEnd ⟨r.toArray⟩ 2) = ⟨((r.drop 2).takeWhile smB).toArray⟩ := by
          rw [extract_list, hne, Nat.add_sub_cancel_left]
          congr 2
          have e := congrArg (List.take ((r.drop 2).takeWhile smB).length) (List.takeWhile_append_dropWhile (p := smB) (l := r.drop 2))
          rw [List.take_left] at e
          exact e.symm
        have hx2 : (⟨r.toArray⟩ : ByteArray).extract (nameEnd ⟨r.toArray⟩ 2) (⟨r.toArray⟩ : ByteArray).size = ⟨((r.drop 2).dropWhile smB).toArray⟩ := by
          rw [extract_list, hne, ba_size, ← drop_take_while, List.drop_drop]
          congr 2
          apply List.take_of_length_le
          rw [List.length_drop]
          exact Nat.le_refl _
        rw [hx1, hx2]
        cases e : resolve l (bt ⟨r.toArray⟩ 0 - 48) ⟨((r.drop 2).takeWhile smB).toArray⟩ with
        | none => rw [T_none l hb _ e]
        | some v =>
          have hv := hM _ _ _ e
          have hv' : v.data.toList.length = v.size := (size_list v).symm
          have h5 := (List.dropWhile_sublist smB (l := r.drop 2)).length_le
          rw [List.length_drop] at h5
          have h6 : (x.length + 1 + ((r.drop 2).dropWhile smB).length) * M ≤ L.length * M := Nat.mul_le_mul_right M (by omega)
          rw [Nat.add_mul, Nat.add_mul, Nat.one_mul] at h6
          simp only
          rw [if_neg (by rw [List.length_append, List.length_append]; omega), T_some l hb _ e]
          exact ih _ _ (by omega) (by rw [List.length_append, List.length_append]; omega)

/-! ### The reference -/
theorem value_ev (xs : List S37) (nm : ByteArray) (hx : xs.length ≤ 9223372036854775807) : Ev (fun k => pentaglotref33_value.f k xs nm) (resV (valFrom xs nm 0), (valFrom xs nm 0).isSome) := by
  have key : ∀ d (i : Nat), xs.length - i = d → Ev (fun k => pentaglotref33_value.l0 k nm xs (xs.length : Int) i) (resV (valFrom xs nm i), (valFrom xs nm i).isSome) := by
    intro d
    induction d with
    | zero =>
      intro i hd
      rw [valFrom_end (by omega)]
      refine Ev.step (f := fun _ => some ((⟨#[]⟩ : ByteArray), false)) (fun k => ?_) (Ev.now _)
      simp only [pentaglotref33_value.l0]; rw [if_neg (by omega)]
    | succ d ih =>
      intro i hd
      have hi : i < xs.length := by omega
      have hg : xs.getD i z37 = xs[i] := by simp [List.getD_eq_getElem?_getD, hi]
      by_cases e : (xs[i].f0).toList = nm.toList
      · rw [valFrom_hit hi (by rw [hg]; exact e), hg]
        refine Ev.step (f := fun _ => some (xs[i].f1, true)) (fun k => ?_) (Ev.now _)
        simp only [pentaglotref33_value.l0, rd_feat hi]; rw [if_pos (by omega), if_pos (by omega), if_pos (by omega), if_pos e]
      · rw [valFrom_miss hi (by rw [hg]; exact e)]
        refine Ev.step (fun k => ?_) (ih (i + 1) (by omega))
        simp only [pentaglotref33_value.l0, rd_feat hi]; rw [if_pos (by omega), if_pos (by omega), if_pos (by omega), if_neg e, wrap_next hi hx]
  exact key _ 0 rfl
theorem refSmall_f (c : Int) : pentaglotref33_small.f c = some (sm c) := by
  unfold pentaglotref33_small.f sm
  by_cases h1 : 97 ≤ c <;> by_cases h2 : c ≤ 122 <;> by_cases h3 : 48 ≤ c <;> by_cases h4 : c ≤ 57 <;> simp [h1, h2, h3, h4] <;> omega
theorem wrap_at {i n : Nat} (a : Nat) (h : i < n) (hn : n ≤ 4611686018427387904) (ha : a ≤ 8) : wrap64 ((i : Int) + (a : Int)) = ((i + a : Nat) : Int) := by
  unfold wrap64; omega

/-! ### Values -/
theorem valFrom_mem (xs : List S37) (nm v : ByteArray) : ∀ d i, xs.length - i = d → valFrom xs nm i = some v → ∃ f ∈ xs, v = f.f1 := by
  intro d
  induction d with
  | zero => intro i hd h; rw [valFrom_end (by omega)] at h; cases h
  | succ d ih =>
    intro i hd h
    have hi : i < xs.length := by omega
    have hg : xs.getD i z37 = xs[i] := by simp [List.getD_eq_getElem?_getD, hi]
    by_cases e : (xs[i].f0).toList = nm.toList
    · rw [valFrom_hit hi (by rw [hg]; exact e), hg] at h
      exact ⟨xs[i], List.getElem_mem hi, (Option.some.inj h).symm⟩
    · rw [valFrom_miss hi (by rw [hg]; exact e)] at h
      exact ih (i + 1) (by omega) h
theorem resolve_mem {l : List (List S37)} {i : Int} {nm v : ByteArray} (h : resolve l i nm = some v) : ∃ xs ∈ l, ∃ f ∈ xs, v = f.f1 := by
  unfold resolve at h
  by_cases hi : i < (l.length : Int)
  · rw [if_pos hi] at h
    obtain ⟨f, hf, e⟩ := valFrom_mem _ _ _ _ 0 rfl h
    by_cases hn : i.toNat < l.length
    · have hg : l.getD i.toNat [] = l[i.toNat] := by simp [List.getD_eq_getElem?_getD, hn]
      rw [hg] at hf
      exact ⟨_, List.getElem_mem hn, f, hf, e⟩
    · have hg : l.getD i.toNat [] = [] := by simp [List.getD_eq_getElem?_getD, hn]
      rw [hg] at hf; cases hf
  · rw [if_neg hi] at h; cases h

theorem T_len (l : List (List S37)) (M : Nat) (hM1 : 1 ≤ M) (hM : ∀ i nm v, resolve l i nm = some v → v.size ≤ M) : ∀ n (L out : List UInt8), L.length ≤ n → (T l L out).1.length ≤ out.length + L.length * M := by
  intro n
  induction n with
  | zero => intro L out h; have : L = [] := List.length_eq_zero_iff.1 (by omega); subst this; rw [T_nil]; simp
  | succ n ih =>
    intro L out h
    cases L with
    | nil => rw [T_nil]; simp
    | cons c r =>
      rw [List.length_cons] at h ⊢
      rw [Nat.add_mul, Nat.one_mul]
      by_cases hc : c = 36
      · subst hc
        by_cases hb : badL r = true
        · rw [T_bad l hb]; simp
        · cases e : resolve l (bt ⟨r.toArray⟩ 0 - 48) ⟨((r.drop 2).takeWhile smB).toArray⟩ with
          | none => rw [T_none l hb _ e]; simp
          | some v =>
            rw [T_some l hb _ e]
            have hv := hM _ _ _ e
            have hv' : v.data.toList.length = v.size := (size_list v).symm
            have h5 := (List.dropWhile_sublist smB (l := r.drop 2)).length_le
            rw [List.length_drop] at h5
            have h6 : ((r.drop 2).dropWhile smB).length * M ≤ r.length * M := Nat.mul_le_mul_right M (by omega)
            have h7 := ih ((r.drop 2).dropWhile smB) (out ++ v.data.toList) (by omega)
            rw [List.length_append] at h7
            omega
      · rw [T_lit l hc]
        have h7 := ih r (out ++ [c]) (by omega)
        rw [List.length_append, List.length_singleton] at h7
        omega

/-! ### Two templates -/
theorem T_acc (l : List (List S37)) : ∀ n (L out : List UInt8), L.length ≤ n → T l L out = if (T l L []).2 = 0 then (out ++ (T l L []).1, 0) else ([], (T l L []).2) := by
  intro n
  induction n with
  | zero => intro L out h; have : L = [] := List.length_eq_zero_iff.1 (by omega); subst this; rw [T_nil, T_nil]; simp
  | succ n ih =>
    intro L out h
    cases L with
    | nil => rw [T_nil, T_nil]; simp
    | cons c r =>
      rw [List.length_cons] at h
      by_cases hc : c = 36
      · subst hc
        by_cases hb : badL r = true
        · rw [T_bad l hb, T_bad l hb]; simp
        · cases e : resolve l (bt ⟨r.toArray⟩ 0 - 48) ⟨((r.drop 2).takeWhile smB).toArray⟩ with
          | none => rw [T_none l hb _ e, T_none l hb _ e]; simp
          | some v =>
            rw [T_some l hb _ e, T_some l hb _ e]
            have h5 := (List.dropWhile_sublist smB (l := r.drop 2)).length_le
            rw [List.length_drop] at h5
            rw [ih _ (out ++ v.data.toList) (by omega), ih _ ([] ++ v.data.toList) (by omega)]
            by_cases h0 : (T l ((r.drop 2).dropWhile smB) []).2 = 0
            · simp [h0]
            · simp [h0]
      · rw [T_lit l hc, T_lit l hc, ih r (out ++ [c]) (by omega), ih r ([] ++ [c]) (by omega)]
        by_cases h0 : (T l r []).2 = 0
        · simp [h0]
        · simp [h0]
theorem while_append (p : UInt8 → Bool) (b : List UInt8) (hb : ∀ h : 0 < b.length, p b[0] = false) : ∀ a : List UInt8, (a ++ b).takeWhile p = a.takeWhile p ∧ (a ++ b).dropWhile p = a.dropWhile p ++ b := by
  intro a
  induction a with
  | nil =>
    cases b with
    | nil => simp
    | cons c b => have := hb (by simp); simp at this; simp [this]
  | cons c a ih =>
    cases hc : p c with
    | true => simp [hc, ih.1, ih.2]
    | false => simp [hc]
theorem badL_append {a : List UInt8} (b : List UInt8) (h : ¬ badL a = true) : badL (a ++ b) = false := by
  have hl := badL_len h
  simp only [Bool.not_eq_true] at h
  unfold badL badRef at h ⊢
  have e0 : bt ⟨(a ++ b).toArray⟩ 0 = bt ⟨a.toArray⟩ 0 := bt_append a b 0 (by omega)
  have e1 : bt ⟨(a ++ b).toArray⟩ 1 = bt ⟨a.toArray⟩ 1 := bt_append a b 1 (by omega)
  have e2 : bt ⟨(a ++ b).toArray⟩ 2 = bt ⟨a.toArray⟩ 2 := bt_append a b 2 (by omega)
  rw [ba_size, List.length_append, e0, e1, e2]
  rw [ba_size] at h
  simp at h ⊢
  refine ⟨⟨⟨⟨?_, h.1.1.1.2⟩, h.1.1.2⟩, h.1.2⟩, h.2⟩
  omega
theorem T_append (l : List (List S37)) (b : List UInt8) (hb : ∀ h : 0 < b.length, smB b[0] = false) : ∀ n (a out : List UInt8), a.length ≤ n → (T l a out).2 = 0 → T l (a ++ b) out = T l b (T l a out).1 := by
  intro n
  induction n with
  | zero => intro a out h _; have : a = [] := List.length_eq_zero_iff.1 (by omega); subst this; rw [T_nil]; simp
  | succ n ih =>
    intro a out h h0
    cases a with
    | nil => rw [T_nil]; simp
    | cons c r =>
      rw [List.length_cons] at h
      rw [List.cons_append]
      by_cases hc : c = 36
      · subst hc
        by_cases hbd : badL r = true
        · rw [T_bad l hbd] at h0; simp at h0
        · have hbd' : ¬ badL (r ++ b) = true := by rw [badL_append b hbd]; simp
          have hl := badL_len hbd
          have e0 : bt ⟨(r ++ b).toArray⟩ 0 = bt ⟨r.toArray⟩ 0 := bt_append r b 0 (by omega)
          have hdr : (r ++ b).drop 2 = r.drop 2 ++ b := List.drop_append_of_le_length (by omega)
          have hw := while_append smB b hb (r.drop 2)
          cases e : resolve l (bt ⟨r.toArray⟩ 0 - 48) ⟨((r.drop 2).takeWhile smB).toArray⟩ with
          | none => rw [T_none l hbd _ e] at h0; simp at h0
          | some v =>
            rw [T_some l hbd _ e] at h0 ⊢
            rw [T_some l hbd' out (by rw [e0, hdr, hw.1]; exact e), hdr, hw.2]
            have h5 := (List.dropWhile_sublist smB (l := r.drop 2)).length_le
            rw [List.length_drop] at h5
            exact ih _ _ (by omega) h0
      · rw [T_lit l hc] at h0 ⊢
        rw [T_lit l hc]
        exact ih _ _ (by omega) h0
end Go.Proofs.Ytfbfopfhfeijdaa.Pr
