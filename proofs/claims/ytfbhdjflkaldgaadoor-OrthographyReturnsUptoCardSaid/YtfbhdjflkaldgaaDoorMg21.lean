/- Several texts in one: StOrthographyReturns, Pls, PrF23, PrF24, PrF26, Evs, Pub, Snt. -/
import Derived.Test.YtfbhdjflkaldgaaDoorMg1
import Derived.Test.YtfbhdjflkaldgaaDoorPrF5
import Derived.Test.YtfbhdjflkaldgaaDoorOrS
import Derived.Test.YtfbhdjflkaldgaaDoorCt
import Derived.Test.YtfbhdjflkaldgaaDoorSeg
import Derived.Test.YtfbhdjflkaldgaaDoorMg19
import Derived.Test.YtfbhdjflkaldgaaDoorMg18
/- What the reader reads: the parts between blanks. No program in sight. -/
/- The reference's split, stopped, join, Host and Same on strings. -/
/- What an input's weight and ranges tell: the bounds that the contracts ask. -/
/- orthography.Sentence and Text in plain words. -/
namespace Go.Proofs.YtfbhdjflkaldgaaDoor.PuOrthographyReturns
open Go.RowKit Go.Proofs.YtfbhdjflkaldgaaDoor.Pr Go.Proofs.YtfbhdjflkaldgaaDoor.Opn
def Upto : Prop := ∀ (a_0 : ByteArray) (a_1 : Bool) (l_2 : List (S80)) (l_3 : List (S85)) (l_4 : List (S180)) (l_5 : List (S183)) (l_6 : List (List Int)) (a_7 : Int) (a_8 : Int) (l_9 : List (S85)) (a_a : Int) (l_b : List ByteArray) (l_c : List ByteArray) (a_d : Bool) (a_e : ByteArray) (a_f : Int) (a_g : ByteArray) (a_h : Bool) (a_i : Int) (a_j : Int) (l_k : List (S186)) (l_l : List (S186)) (l_m : List ByteArray) (l_n : List ByteArray) (l_o : List ByteArray) (a_p : Bool) (l_q : List (S188)) (l_r : List (S190)) (l_s : List (S194)) (a_t : ByteArray) (l1 : List (List ByteArray)), (Ms.pair Ms.string (Ms.pair Ms.bool (Ms.pair (Ms.pair (Ms.slice ms80) (Ms.pair (Ms.slice ms85) (Ms.pair (Ms.slice ms180) (Ms.slice ms183)))) (Ms.pair (Ms.pair (Ms.slice (Ms.slice (Ms.int .u32))) (Ms.pair (Ms.int .i64) (Ms.int .i64))) (Ms.pair (Ms.slice ms85) (Ms.pair (Ms.pair (Ms.int .i64) (Ms.pair (Ms.slice Ms.string) (Ms.pair (Ms.slice Ms.string) (Ms.pair Ms.bool (Ms.pair Ms.string (Ms.pair (Ms.int .i64) (Ms.pair Ms.string Ms.bool))))))) (Ms.pair (Ms.pair (Ms.int .i64) (Ms.pair (Ms.int .i64) (Ms.pair (Ms.slice ms186) (Ms.pair (Ms.slice ms186) (Ms.pair (Ms.slice Ms.string) (Ms.pair (Ms.slice Ms.string) (Ms.pair (Ms.slice Ms.string) Ms.bool))))))) (Ms.pair (Ms.slice ms188) (Ms.pair (Ms.slice ms190) (Ms.pair (Ms.slice ms194) Ms.string)))))))))).good (a_0, a_1, (l_2, l_3, l_4, l_5), (l_6, a_7, a_8), l_9, (a_a, l_b, l_c, a_d, a_e, a_f, a_g, a_h), (a_i, a_j, l_k, l_l, l_m, l_n, l_o, a_p), l_q, l_r, l_s, a_t) → (Ms.slice (Ms.slice Ms.string)).good l1 → (Ms.pair Ms.string (Ms.pair Ms.bool (Ms.pair (Ms.pair (Ms.slice ms80) (Ms.pair (Ms.slice ms85) (Ms.pair (Ms.slice ms180) (Ms.slice ms183)))) (Ms.pair (Ms.pair (Ms.slice (Ms.slice (Ms.int .u32))) (Ms.pair (Ms.int .i64) (Ms.int .i64))) (Ms.pair (Ms.slice ms85) (Ms.pair (Ms.pair (Ms.int .i64) (Ms.pair (Ms.slice Ms.string) (Ms.pair (Ms.slice Ms.string) (Ms.pair Ms.bool (Ms.pair Ms.string (Ms.pair (Ms.int .i64) (Ms.pair Ms.string Ms.bool))))))) (Ms.pair (Ms.pair (Ms.int .i64) (Ms.pair (Ms.int .i64) (Ms.pair (Ms.slice ms186) (Ms.pair (Ms.slice ms186) (Ms.pair (Ms.slice Ms.string) (Ms.pair (Ms.slice Ms.string) (Ms.pair (Ms.slice Ms.string) Ms.bool))))))) (Ms.pair (Ms.slice ms188) (Ms.pair (Ms.slice ms190) (Ms.pair (Ms.slice ms194) Ms.string)))))))))).bulk (a_0, a_1, (l_2, l_3, l_4, l_5), (l_6, a_7, a_8), l_9, (a_a, l_b, l_c, a_d, a_e, a_f, a_g, a_h), (a_i, a_j, l_k, l_l, l_m, l_n, l_o, a_p), l_q, l_r, l_s, a_t) + (Ms.slice (Ms.slice Ms.string)).bulk l1 ≤ 1048576 → ∃ k, pentaglotlaw42_OrthographyReturns.f k a_0 a_1 l_2 l_3 l_4 l_5 l_6 a_7 a_8 l_9 a_a l_b l_c a_d a_e a_f a_g a_h a_i a_j l_k l_l l_m l_n l_o a_p l_q l_r l_s a_t l1 = some true
end Go.Proofs.YtfbhdjflkaldgaaDoor.PuOrthographyReturns

namespace Go.Proofs.YtfbhdjflkaldgaaDoor.Pr
open Go.Proofs.YtfbhdjflkaldgaaDoor.Ct Go.RowKit Go.Maps Go.Lib Go.Proofs.YtfbhdjflkaldgaaDoorW.PrintWords Go.Proofs.YtfbhdjflkaldgaaDoorW.PrintLast Go.Proofs.YtfbhdjflkaldgaaDoorW.PrintMore
set_option linter.unusedVariables false
set_option linter.unusedSimpArgs false
def toB (l : List UInt8) : ByteArray := ⟨l.toArray⟩
theorem toB_of (b : ByteArray) : toB b.data.toList = b := by unfold toB; simp
theorem encS_toB (rs : List Int) : encS rs = toB (encL rs) := rfl
theorem look_rune (l : List S80) (r : Int) : ∀ k, k ≤ l.length → ∀ j, look l k r = some j → ∃ x ∈ l, x.f0 = r
  | 0, _, j, h => by cases h
  | k + 1, hk, j, h => by
    unfold look at h
    split at h
    · rename_i j' e
      exact look_rune l r k (by omega) j' e
    · split at h
      · rename_i hr
        exact ⟨_, List.mem_of_mem_drop (i := k) (by rw [drop_rd l k (by omega)]; simp), hr⟩
      · cases h
theorem isL_32 {l : List S80} (h : validA l = true) : isL l 32 = false := by
  unfold isL
  cases e : look l l.length 32 with
  | none => rfl
  | some j =>
    obtain ⟨x, hx, hr⟩ := look_rune l 32 l.length (Nat.le_refl _) j e
    unfold validA at h
    simp only [Bool.and_eq_true, List.all_eq_true] at h
    have h1 := h.2.2.1 x hx
    rw [hr] at h1
    exact absurd h1 (by decide)
theorem okR_facts {l : List S80} {S : Int} (h : okR l S = true) : isL l S = false ∧ S ≠ 32 := by
  unfold okR at h
  simp only [Bool.and_eq_true, Bool.not_eq_true', decide_eq_false_iff_not] at h
  exact ⟨h.2.2.2, fun e => h.1 (by omega)⟩
theorem readT_ref {l : List S80} {rules : List S85} {stop : ByteArray} (h : orthP l rules stop = true) (text : ByteArray) : readT l ((decodeGo stop).1 : Int) text = (refG (stoppedB stop.data.toList) (hostB (isL l)) (splitB text.data.toList) []).map (fun o => o.map (fun ws => ws.map toB)) := by
  unfold orthP at h
  rw [Bool.and_eq_true] at h
  obtain ⟨h1, h2, h3⟩ := stop_rune h.1
  have hA : validA l = true := by
    have h4 := h.2
    unfold cliticP at h4
    simp only [Bool.and_eq_true] at h4
    exact h4.1.1
  obtain ⟨S, hS⟩ : ∃ S : Int, ((decodeGo stop).1 : Int) = S := ⟨_, rfl⟩
  rw [hS] at h1 h2 h3 ⊢
  rw [h1, refB_eq (isL l) S h2]
  unfold readT
  by_cases hv : validD text.data.toList = true
  · rw [if_pos hv, if_pos hv]
    obtain ⟨hL, h32⟩ := okR_facts h3
    obtain ⟨p, rest, hp⟩ := List.exists_cons_of_ne_nil (splitR_ne (runesL text.data.toList))
    have h5 := read_eq hL (isL_32 hA) h32 _ (runesL text.data.toList) (Nat.le_refl _) [] [] (by simp) (by simp) p rest hp
    rw [List.nil_append, ← hp] at h5
    show (readOk (isL l) S (runesL text.data.toList) [] [] false (decide (([] : List Int).length = 0))).map _ = _
    rw [h5, Option.map_map]
    congr 1
    funext o
    simp [encS_toB, Function.comp_def]
  · rw [if_neg hv, if_neg hv]; rfl
def hostS (l : List S80) (p : ByteArray) : Bool := hostB (isL l) p.data.toList
end Go.Proofs.YtfbhdjflkaldgaaDoor.Pr

namespace Go.Proofs.YtfbhdjflkaldgaaDoor.Pr
open Go.Proofs.YtfbhdjflkaldgaaDoor.Ct Go.RowKit Go.Proofs.YtfbhdjflkaldgaaDoorW.PrintWords Go.Proofs.YtfbhdjflkaldgaaDoorW.PrintLast Go.Proofs.YtfbhdjflkaldgaaDoorW.PrintMore
attribute [local go_sem] max2_int min2_int max_two min_two max_three min_three max_four min_four
set_option linter.unusedVariables false
set_option linter.unusedSimpArgs false
def pentaglotref42_split.l0 : Nat → ByteArray → List ByteArray → Int → Int → Option (List ByteArray)
 | 0, _, _, _, _ => none
 | k + 1, x0, x3, x4, x5 => if x5 ≤ (x0.size : Int) then (if x5 = (x0.size : Int) then (if 0 ≤ x4 then (if x4 ≤ x5 then (if x3.length < 8796093022208 then (pentaglotref42_split.l0 k x0 (x3 ++ [x0.extract (x4 : Int).toNat (x5 : Int).toNat]) (wrap64 (x5 + 1)) (wrap64 (x5 + 1))) else (none)) else (none)) else (none)) else (if 0 ≤ x5 then (if x5 < (x0.size : Int) then (if (bt x0 x5) = 32 then (if 0 ≤ x4 then (if x4 ≤ x5 then (if x3.length < 8796093022208 then (pentaglotref42_split.l0 k x0 (x3 ++ [x0.extract (x4 : Int).toNat (x5 : Int).toNat]) (wrap64 (x5 + 1)) (wrap64 (x5 + 1))) else (none)) else (none)) else (none)) else (pentaglotref42_split.l0 k x0 x3 x4 (wrap64 (x5 + 1)))) else (none)) else (none))) else (some x3)
def pentaglotref42_join.l0 : Nat → List ByteArray → ByteArray → Int → Option (ByteArray)
 | 0, _, _, _ => none
 | k + 1, x0, x3, x4 => if x4 < (x0.length : Int) then (if x4 > 0 then (if x3.size + 1 ≤ 9223372036854775807 then (if 0 ≤ x4 then (if (x3 ++ (⟨#[32]⟩ : ByteArray)).size + (rdOf ByteArray.empty x0 x4).size ≤ 9223372036854775807 then (pentaglotref42_join.l0 k x0 ((x3 ++ (⟨#[32]⟩ : ByteArray)) ++ (rdOf ByteArray.empty x0 x4)) (wrap64 (x4 + 1))) else (none)) else (none)) else (none)) else (if 0 ≤ x4 then (if x3.size + (rdOf ByteArray.empty x0 x4).size ≤ 9223372036854775807 then (pentaglotref42_join.l0 k x0 (x3 ++ (rdOf ByteArray.empty x0 x4)) (wrap64 (x4 + 1))) else (none)) else (none))) else (some x3)
end Go.Proofs.YtfbhdjflkaldgaaDoor.Pr

namespace Go.Proofs.YtfbhdjflkaldgaaDoor.Pr
open Go.Proofs.YtfbhdjflkaldgaaDoor.Ct Go.RowKit Go.Maps Go.Lib Go.Proofs.YtfbhdjflkaldgaaDoorW.PrintWords Go.Proofs.YtfbhdjflkaldgaaDoorW.PrintLast Go.Proofs.YtfbhdjflkaldgaaDoorW.PrintMore
set_option linter.unusedVariables false
set_option linter.unusedSimpArgs false
theorem bt_L (s : ByteArray) (i : Nat) (h : i < s.data.toList.length) : bt s (i : Int) = ((s.data.toList[i]).toNat : Int) := by
  unfold bt
  rw [Int.toNat_natCast, dif_pos (by rw [← sizeL]; exact h)]
  simp [ByteArray.getElem_eq_getElem_data]
theorem isWord_ref (l : List S80) (a : ByteArray) (h : a.size ≤ 1099511627776) : pentaglotref10_Word.f l a = some (isWordP l a) := by
  unfold pentaglotref10_Word.f pentaglotref06_Over.f isWordP
  rw [if_pos h, Option.bind_some]
  unfold overP
  by_cases c : (runesS a).all (isL l) = true
  · rw [if_pos c, c]
    by_cases c2 : validD a.data.toList = true
    · rw [if_pos c2, c2, List.length_map]
      simp only [Bool.true_and]
      congr 1
      rw [decide_eq_decide]; omega
    · rw [if_neg c2]
      simp at c2
      rw [c2]; rfl
  · rw [if_neg c]
    simp only [Bool.false_eq_true, if_false]
    simp at c
    rw [show (runesS a).all (isL l) = false by simpa using c, Bool.false_and, Bool.and_false]
theorem host_f (a_0 : ByteArray) (a_1 : Bool) (l_2 : List (S80)) (l_3 : List (S85)) (l_4 : List (S180)) (l_5 : List (S183)) (l_6 : List (List Int)) (a_7 : Int) (a_8 : Int) (l_9 : List (S85)) (a_a : Int) (l_b : List ByteArray) (l_c : List ByteArray) (a_d : Bool) (a_e : ByteArray) (a_f : Int) (a_g : ByteArray) (a_h : Bool) (a_i : Int) (a_j : Int) (l_k : List (S186)) (l_l : List (S186)) (l_m : List ByteArray) (l_n : List ByteArray) (l_o : List ByteArray) (a_p : Bool) (l_q : List (S188)) (l_r : List (S190)) (l_s : List (S194)) (a_t : ByteArray) (a1 : ByteArray) (h61 : isL l_2 61 = false) (h : a1.size ≤ 1099511627776) : pentaglotref42_Host.f a_0 a_1 l_2 l_3 l_4 l_5 l_6 a_7 a_8 l_9 a_a l_b l_c a_d a_e a_f a_g a_h a_i a_j l_k l_l l_m l_n l_o a_p l_q l_r l_s a_t a1 = some (hostS l_2 a1) := by
  unfold pentaglotref42_Host.f hostS hostB
  by_cases c : a1 = ByteArray.empty
  · subst c
    rw [if_pos (by rw [toList_data]; rfl)]; rfl
  · have hne : a1.data.toList ≠ [] := fun e => c (bytes_eq (by rw [e]; rfl))
    have hz : 0 < a1.size := by
      rw [← sizeL]; exact List.length_pos_iff.2 hne
    rw [if_neg (by rw [toList_data]; exact hne), if_pos (by omega), decide_eq_true (by rw [sizeL]; exact hz), Bool.true_and]
    have hlt : 0 < a1.data.toList.length := by rw [sizeL]; exact hz
    have hbt := bt_L a1 0 hlt
    by_cases c2 : a1.data.toList[0] = 61
    · rw [if_pos (by rw [show (0 : Int) = ((0 : Nat) : Int) from rfl, hbt, c2]; rfl)]
      have e : a1.data.toList = encodeRune 61 ++ a1.data.toList.drop 1 := by
        rw [show encodeRune 61 = [61] by decide, ← c2]
        exact (List.drop_eq_getElem_cons hlt)
      have : (runesL a1.data.toList).all (isL l_2) = false := by
        rw [e, runes_enc 61 (by unfold scalar; omega), List.all_cons, h61, Bool.false_and]
      rw [this, Bool.false_and, Bool.and_false]
    · rw [if_neg, isWord_ref l_2 a1 h]
      · rfl
      · rw [show (0 : Int) = ((0 : Nat) : Int) from rfl, hbt]
        intro h9
        apply c2
        apply UInt8.toNat_inj.1
        have : (a1.data.toList[0]'hlt).toNat = 61 := by omega
        rw [this]; rfl
end Go.Proofs.YtfbhdjflkaldgaaDoor.Pr

namespace Go.Proofs.YtfbhdjflkaldgaaDoor.Pr
open Go.RowKit Go.Proofs.YtfbhdjflkaldgaaDoor.Ct Go.Proofs.YtfbhdjflkaldgaaDoor.Opn Go.Proofs.YtfbhdjflkaldgaaDoorW.PrintWords Go.Proofs.YtfbhdjflkaldgaaDoorW.PrintLast
set_option linter.unusedVariables false
theorem bulk_mem {α : Type} (m : Ms α) : ∀ (xs : List α) (x : α), x ∈ xs → m.bulk x ≤ (xs.map m.bulk).sum
  | y :: xs, x, h => by
    rw [List.map_cons, List.sum_cons]
    rcases List.mem_cons.1 h with rfl | h
    · omega
    · have := bulk_mem m xs x h; omega
theorem bulk_len {α : Type} (m : Ms α) (h : ∀ x, 1 ≤ m.bulk x) : ∀ xs : List α, xs.length ≤ (xs.map m.bulk).sum
  | [] => by simp
  | y :: xs => by
    rw [List.map_cons, List.sum_cons, List.length_cons]
    have := bulk_len m h xs
    have := h y
    omega
theorem items_small (l : List S82) (h : (Ms.slice ms82).bulk l ≤ 1048576) : smallP l = true ∧ l.length ≤ 1099511627776 := by
  have h1 : (l.map ms82.bulk).sum + 1 ≤ 1048576 := h
  refine ⟨?_, ?_⟩
  · unfold smallP
    rw [List.all_eq_true]
    intro x hx
    have h2 := Nat.le_trans (bulk_mem ms82 _ _ hx) (show (l.map ms82.bulk).sum ≤ 1048576 by omega)
    have h3 : 1 + ((x.f1.size + 1) + (1 + 1)) ≤ 1048576 := h2
    simp
    omega
  · have := bulk_len ms82 (fun x => by show 1 ≤ 1 + _; omega) l
    omega
theorem rules_small (l : List S85) (h : (Ms.slice ms85).bulk l ≤ 1048576) : l.all smallR = true ∧ okLen l = true := by
  have h1 : (l.map ms85.bulk).sum + 1 ≤ 1048576 := h
  have key : ∀ x ∈ l, x.f1.size ≤ 1048576 ∧ (Ms.slice ms82).bulk x.f2 ≤ 1048576 ∧ (Ms.slice ms82).bulk x.f3 ≤ 1048576 := by
    intro x hx
    have h2 := Nat.le_trans (bulk_mem ms85 _ _ hx) (show (l.map ms85.bulk).sum ≤ 1048576 by omega)
    have h3 : 1 + ((x.f1.size + 1) + ((Ms.slice ms82).bulk x.f2 + ((Ms.slice ms82).bulk x.f3 + (1 + 1)))) ≤ 1048576 := h2
    omega
  refine ⟨?_, ?_⟩
  · rw [List.all_eq_true]
    intro x hx
    obtain ⟨a, b, c⟩ := key x hx
    unfold smallR
    rw [(items_small _ b).1, (items_small _ c).1]
    simp
    omega
  · unfold okLen
    rw [List.all_eq_true]
    intro x hx
    obtain ⟨a, b, c⟩ := key x hx
    rw [Bool.and_eq_true]
    exact ⟨decide_eq_true (items_small _ b).2, decide_eq_true (items_small _ c).2⟩
theorem letters_ok (l : List S80) (h : (Ms.slice ms80).good l) : runesOk l = true := by
  unfold runesOk
  rw [List.all_eq_true]
  intro x hx
  exact (h.2 x hx).1
end Go.Proofs.YtfbhdjflkaldgaaDoor.Pr

namespace Go.Proofs.YtfbhdjflkaldgaaDoor.Pr
open Go.Proofs.YtfbhdjflkaldgaaDoor.Ct Go.RowKit Go.Maps Go.Lib Go.Proofs.YtfbhdjflkaldgaaDoorW.PrintWords Go.Proofs.YtfbhdjflkaldgaaDoorW.PrintLast Go.Proofs.YtfbhdjflkaldgaaDoorW.PrintMore
set_option linter.unusedVariables false
set_option linter.unusedSimpArgs false
theorem rd_in (l : List ByteArray) (i : Nat) (h : i < l.length) : rdOf ByteArray.empty l (i : Int) ∈ l :=
  List.mem_of_mem_drop (i := i) (by rw [drop_str l i h]; simp)
theorem str_iff (a b : ByteArray) : a.toList = b.toList ↔ a = b := by
  rw [ByteArray.toList_eq, ByteArray.toList_eq]
  exact ⟨bytes_eq, fun h => by rw [h]⟩
theorem isWord_size {l : List S80} {w : ByteArray} (h : isWordP l w = true) : w.size ≤ 160 := by
  have hl := word_len h
  unfold isWordP at h
  simp only [Bool.and_eq_true] at h
  have e := (valid_iff w.data.toList).1 h.1
  have := encL_len (runesL w.data.toList)
  rw [e, sizeL] at this
  unfold runesS at hl
  omega
theorem cascadeP_size (l : List S80) (rules : List S85) (w : ByteArray) : (cascadeP l rules w).1.size ≤ 820 := by
  unfold cascadeP
  split
  · rename_i h
    exact casF_size l rules w 820 (Nat.le_refl _) (Nat.le_trans (isWord_size h.2.1) (by decide))
  · exact Nat.zero_le _
theorem attach_size (l : List S80) (rules : List S85) (h c : ByteArray) : (attachP l rules h c).1.size ≤ 3280 := by
  unfold attachP
  split
  · exact Nat.zero_le _
  · split
    · have h1 := encS_size ((runesS (cascadeP l rules (jointS h c)).1).filter fun r => r != 61)
      have h2 := List.length_filter_le (fun r : Int => r != 61) (runesS (cascadeP l rules (jointS h c)).1)
      have h3 := runesL_length _ (cascadeP l rules (jointS h c)).1.data.toList (Nat.le_refl _)
      rw [sizeL] at h3
      have h4 := cascadeP_size l rules (jointS h c)
      unfold runesS at h1 h2 ⊢
      show (encS _).size ≤ 3280
      omega
    · exact Nat.zero_le _
theorem words_ev (l : List S80) (ts : List ByteArray) (h1 : runesOk l = true) (hs : ∀ x ∈ ts, x.size ≤ 1099511627776) (hl : ts.length ≤ 9223372036854775807) : Ev (fun k => clitic_words.f k l ts) (ts.all (isWordP l)) := by
  have key : ∀ d i, ts.length - i = d → i ≤ ts.length → Ev (fun k => clitic_words.l0 k l ts (ts.length : Int) (i : Int)) ((ts.drop i).all (isWordP l)) := by
    intro d
    induction d with
    | zero =>
      intro i hd hi
      obtain rfl : i = ts.length := by omega
      rw [List.drop_length]
      refine Ev.step (f := fun _ => some true) (fun k => ?_) (Ev.now _)
      simp only [clitic_words.l0]; rw [if_neg (by omega)]
    | succ d ih =>
      intro i hd hi
      have hlt : i < ts.length := by omega
      have hx : alphabet_IsWord.f l (rdOf ByteArray.empty ts (i : Int)) = some (isWordP l (rdOf ByteArray.empty ts (i : Int))) := by
        unfold alphabet_IsWord.f
        rw [if_pos ⟨h1, Nat.le_trans (hs _ (rd_in ts i hlt)) (by decide)⟩]
      rw [drop_str ts i hlt, List.all_cons]
      cases e : isWordP l (rdOf ByteArray.empty ts (i : Int)) with
      | true =>
        rw [Bool.true_and]
        refine Ev.step (fun k => ?_) (ih (i + 1) (by omega) (by omega))
        simp only [clitic_words.l0]
        rw [if_pos (by omega), if_pos (by omega), if_pos (by omega), hx, e, Option.bind_some, if_pos rfl, idx_next hlt hl]
      | false =>
        refine Ev.step (f := fun _ => some false) (fun k => ?_) (Ev.now _)
        simp only [clitic_words.l0]
        rw [if_pos (by omega), if_pos (by omega), if_pos (by omega), hx, e, Option.bind_some]; rfl
  have := key ts.length 0 (by omega) (by omega)
  rw [List.drop_zero] at this
  exact this
def allF (l : List S80) (rules : List S85) : List ByteArray → ByteArray → ByteArray × Int
  | [], w => (w, 0)
  | c :: cs, w => if (attachP l rules w c).2 = 0 then allF l rules cs (attachP l rules w c).1 else ((⟨#[]⟩ : ByteArray), (attachP l rules w c).2)
theorem allF_size (l : List S80) (rules : List S85) : ∀ (cs : List ByteArray) (w : ByteArray), (allF l rules cs w).1.size ≤ max w.size 3280
  | [], w => Nat.le_max_left _ _
  | c :: cs, w => by
    unfold allF
    split
    · have := allF_size l rules cs (attachP l rules w c).1
      have := attach_size l rules w c
      omega
    · exact Nat.zero_le _
theorem all_ev (l : List S80) (rules : List S85) (h1 : runesOk l = true) (h2 : rules.all smallR = true) (cs : List ByteArray) (hs : ∀ x ∈ cs, x.size ≤ 274877906944) (hl : cs.length ≤ 9223372036854775807) (w : ByteArray) (hw : w.size ≤ 274877906944) : Ev (fun k => clitic_joint_all.f k l rules w cs) (allF l rules cs w) := by
  have key : ∀ d i w, cs.length - i = d → i ≤ cs.length → w.size ≤ 274877906944 → Ev (fun k => clitic_joint_all.l0 k w cs (cs.length : Int) (i : Int) l rules) (allF l rules (cs.drop i) w) := by
    intro d
    induction d with
    | zero =>
      intro i w hd hi hw
      obtain rfl : i = cs.length := by omega
      rw [List.drop_length]
      refine Ev.step (f := fun _ => some (w, 0)) (fun k => ?_) (Ev.now _)
      simp only [clitic_joint_all.l0]; rw [if_neg (by omega)]
    | succ d ih =>
      intro i w hd hi hw
      have hlt : i < cs.length := by omega
      have hx : clitic_joint_attach.f l rules w (rdOf ByteArray.empty cs (i : Int)) = some (attachP l rules w (rdOf ByteArray.empty cs (i : Int))) := by
        unfold clitic_joint_attach.f
        rw [if_pos ⟨⟨h1, h2⟩, hw, hs _ (rd_in cs i hlt)⟩]
      rw [drop_str cs i hlt]
      unfold allF
      by_cases e : (attachP l rules w (rdOf ByteArray.empty cs (i : Int))).2 = 0
      · rw [if_pos e]
        refine Ev.step (fun k => ?_) (ih (i + 1) _ (by omega) (by omega) (Nat.le_trans (attach_size l rules w _) (by decide)))
        simp only [clitic_joint_all.l0]
        rw [if_pos (by omega), if_pos (by omega), if_pos (by omega), hx, Option.bind_some, if_pos e, idx_next hlt hl]
      · rw [if_neg e]
        refine Ev.step (f := fun _ => some _) (fun k => ?_) (Ev.now _)
        simp only [clitic_joint_all.l0]
        rw [if_pos (by omega), if_pos (by omega), if_pos (by omega), hx, Option.bind_some, if_neg e]
  have := key cs.length 0 w (by omega) (by omega) hw
  rw [List.drop_zero] at this
  exact this
def attachAllP (l : List S80) (rules : List S85) (h : ByteArray) (cs : List ByteArray) : ByteArray × Int := if cliticP l rules = true ∧ isWordP l h = true ∧ cs.all (isWordP l) = true then allF (ext l) rules cs h else ((⟨#[]⟩ : ByteArray), 1)
theorem attachAll_size (l : List S80) (rules : List S85) (h : ByteArray) (cs : List ByteArray) : (attachAllP l rules h cs).1.size ≤ 3280 := by
  unfold attachAllP
  split
  · rename_i hc
    have := allF_size (ext l) rules cs h
    have := isWord_size hc.2.1
    omega
  · exact Nat.zero_le _
theorem attachAll_ev (l : List S80) (rules : List S85) (h1 : runesOk l = true) (h2 : rules.all smallR = true) (hll : l.length ≤ 1099511627776) (h : ByteArray) (cs : List ByteArray) (hh : h.size ≤ 274877906944) (hs : ∀ x ∈ cs, x.size ≤ 274877906944) (hl : cs.length ≤ 9223372036854775807) : Ev (fun k => clitic_AttachAll.f k l rules h cs) (attachAllP l rules h cs) := by
  have bad : Ev (fun k => clitic_AttachAll.j0 k l rules true h cs) ((⟨#[]⟩ : ByteArray), 1) := by
    refine Ev.step (f := fun _ => some _) (fun k => ?_) (Ev.now _)
    simp only [clitic_AttachAll.j0]; rfl
  have hex : clitic_Extended.f l = some (ext l) := by
    unfold clitic_Extended.f api_Letter.f
    rw [if_pos (by omega), Option.bind_some, if_pos (by omega)]; rfl
  have good : Ev (fun k => clitic_AttachAll.j0 k l rules false h cs) (allF (ext l) rules cs h) := by
    refine Ev.step (f := fun k => (clitic_joint_all.f k (ext l) rules h cs).bind fun bt => some (bt.1, bt.2)) (fun k => ?_) (Ev.bind (all_ev (ext l) rules (ext_runes h1) h2 cs hs hl h hh) (Ev.now _))
    simp only [clitic_AttachAll.j0]
    rw [if_neg (by decide), hex, Option.bind_some]
  have w1 : Ev (fun k => clitic_words.f k l [h]) (isWordP l h) := by
    have := words_ev l [h] h1 (by simp; omega) (by simp)
    simpa using this
  have w2 := words_ev l cs h1 (fun x hx => Nat.le_trans (hs x hx) (by decide)) hl
  unfold attachAllP
  cases c1 : cliticP l rules with
  | false =>
    rw [if_neg (by simp)]
    have hv := clitic_ev l rules h1 h2
    rw [c1] at hv
    exact Ev.bind hv bad
  | true =>
    have hv := clitic_ev l rules h1 h2
    rw [c1] at hv
    refine Ev.bind hv (Ev.congr (fun k => if_pos rfl) ?_)
    cases c2 : isWordP l h with
    | false => rw [if_neg (by simp)]; rw [c2] at w1; exact Ev.bind w1 bad
    | true =>
      rw [c2] at w1
      refine Ev.bind w1 (Ev.congr (fun k => if_pos rfl) ?_)
      cases c3 : cs.all (isWordP l) with
      | false => rw [if_neg (by simp)]; rw [c3] at w2; exact Ev.bind w2 bad
      | true => rw [if_pos ⟨rfl, rfl, rfl⟩]; rw [c3] at w2; exact Ev.bind w2 good
theorem index_ev (ws : List ByteArray) (x : ByteArray) (hl : ws.length ≤ 9223372036854775807) : ∃ r : Int, Ev (fun k => slices_Index_string_string.f k ws x) r ∧ (r ≥ 0 ↔ x ∈ ws) := by
  have key : ∀ d i, ws.length - i = d → i ≤ ws.length → ∃ r : Int, Ev (fun k => slices_Index_string_string.l0 k ws x (ws.length : Int) (i : Int)) r ∧ (r ≥ 0 ↔ x ∈ ws.drop i) := by
    intro d
    induction d with
    | zero =>
      intro i hd hi
      obtain rfl : i = ws.length := by omega
      rw [List.drop_length]
      refine ⟨-1, Ev.step (f := fun _ => some (-1)) (fun k => ?_) (Ev.now _), by simp⟩
      simp only [slices_Index_string_string.l0]; rw [if_neg (by omega)]
    | succ d ih =>
      intro i hd hi
      have hlt : i < ws.length := by omega
      rw [drop_str ws i hlt]
      by_cases e : x = rdOf ByteArray.empty ws (i : Int)
      · refine ⟨(i : Int), Ev.step (f := fun _ => some (i : Int)) (fun k => ?_) (Ev.now _), ⟨fun _ => by rw [e]; simp, fun _ => by omega⟩⟩
        simp only [slices_Index_string_string.l0]
        rw [if_pos (by omega), if_pos (by omega), if_pos (by omega), if_pos ((str_iff _ _).2 e)]
      · obtain ⟨r, h1, h2⟩ := ih (i + 1) (by omega) (by omega)
        refine ⟨r, Ev.step (fun k => ?_) h1, h2.trans ⟨fun h => List.mem_cons_of_mem _ h, fun h => (List.mem_cons.1 h).resolve_left e⟩⟩
        simp only [slices_Index_string_string.l0]
        rw [if_pos (by omega), if_pos (by omega), if_pos (by omega), if_neg (fun h => e ((str_iff _ _).1 h)), idx_next hlt hl]
  obtain ⟨r, h1, h2⟩ := key ws.length 0 (by omega) (by omega)
  rw [List.drop_zero] at h2
  exact ⟨r, h1, h2⟩
def hasE (ws : List ByteArray) : Bool := ws.any fun w => decide (w = (⟨#[]⟩ : ByteArray))
theorem hasE_iff {ws : List ByteArray} : hasE ws = true ↔ (⟨#[]⟩ : ByteArray) ∈ ws := by
  unfold hasE
  rw [List.any_eq_true]
  exact ⟨fun ⟨w, h1, h2⟩ => by rw [← of_decide_eq_true h2]; exact h1, fun h => ⟨_, h, decide_eq_true rfl⟩⟩
theorem contains_ev (ws : List ByteArray) (hl : ws.length ≤ 9223372036854775807) : Ev (fun k => slices_Contains_string_string.f k ws (⟨#[]⟩ : ByteArray)) (hasE ws) := by
  obtain ⟨r, h1, h2⟩ := index_ev ws _ hl
  have := Ev.bind h1 (f := fun _ t => some (decide (t ≥ 0))) (Ev.now _)
  have e : decide (r ≥ 0) = hasE ws := by rw [Bool.eq_iff_iff, decide_eq_true_eq, hasE_iff]; exact h2
  rw [e] at this
  exact this
theorem join_g (ws : List ByteArray) (n : Nat) (h : ∀ x ∈ ws, x.size ≤ n) (hn : (n + 1) * ws.length ≤ 140737488355328) (hl : ws.length ≤ 140737488355328) : strings_Join.f ws ⟨#[32]⟩ = some (joinS ws) := by
  have h1 := joinS_size ws n h
  have e : (joinS ws).size = (Lib.join (ws.map (·.data.toList)) [32]).length := by unfold joinS; simp [ByteArray.size]
  unfold strings_Join.f
  rw [if_pos ⟨hl, by show (Lib.join (ws.map (·.data.toList)) [32]).length ≤ _; rw [← e]; omega⟩]; rfl
def formsF (l : List S80) (rules : List S85) : List S57 → List ByteArray → List ByteArray × Int
  | [], acc => (acc, 0)
  | s :: ss, acc => if (attachAllP l rules s.f0 s.f1).2 = 0 then formsF l rules ss (acc ++ [(attachAllP l rules s.f0 s.f1).1]) else ([], (attachAllP l rules s.f0 s.f1).2)
def sentenceP (l : List S80) (rules : List S85) (stop : ByteArray) (ts : List ByteArray) : ByteArray × Int :=
  if (segP l ts).2 = true ∧ orthP l rules stop = true then (if (formsF l rules (segP l ts).1 []).2 = 0 then (if hasE (formsF l rules (segP l ts).1 []).1 = true then ((⟨#[]⟩ : ByteArray), 1) else (sentS stop (formsF l rules (segP l ts).1 []).1, 0)) else ((⟨#[]⟩ : ByteArray), (formsF l rules (segP l ts).1 []).2)) else ((⟨#[]⟩ : ByteArray), 1)
def textF (l : List S80) (rules : List S85) (stop : ByteArray) : List (List ByteArray) → List ByteArray → ByteArray × Int
  | [], acc => (joinS acc, 0)
  | ts :: rest, acc => if (sentenceP l rules stop ts).2 = 0 then textF l rules stop rest (acc ++ [(sentenceP l rules stop ts).1]) else ((⟨#[]⟩ : ByteArray), (sentenceP l rules stop ts).2)
def textP (l : List S80) (rules : List S85) (stop : ByteArray) (sents : List (List ByteArray)) : ByteArray × Int := if orthP l rules stop = true ∧ 1 ≤ sents.length ∧ sents.length ≤ 8 then textF l rules stop sents [] else ((⟨#[]⟩ : ByteArray), 1)
theorem segF_ok {l : List S80} (P : ByteArray → Prop) (hP : ∀ t, P t → P (cutE t).1) : ∀ (ts : List ByteArray) (out : List S57), (∀ t ∈ ts, P t) → (∀ s ∈ out, P s.f0 ∧ s.f1.length ≤ 2 ∧ ∀ c ∈ s.f1, P c) → (∀ s ∈ (segF l ts out).1, P s.f0 ∧ s.f1.length ≤ 2 ∧ ∀ c ∈ s.f1, P c) ∧ (segF l ts out).1.length ≤ ts.length + out.length
  | [], out, _, h => ⟨h, by unfold segF; simp⟩
  | t :: ts, out, ht, h => by
    unfold segF
    have h0 := ht t (by simp)
    have hts : ∀ x ∈ ts, P x := fun x hx => ht x (by simp [hx])
    split
    · split
      · obtain ⟨a, b⟩ := segF_ok P hP ts (out ++ [(⟨t, []⟩ : S57)]) hts (fun s hs => by
          rcases List.mem_append.1 hs with hs | hs
          · exact h s hs
          · obtain rfl := List.mem_singleton.1 hs
            exact ⟨h0, by simp, by simp⟩)
        exact ⟨a, by rw [List.length_append, List.length_singleton] at b; rw [List.length_cons]; omega⟩
      · exact ⟨by simp, by simp⟩
    · split
      · rename_i hc
        have hlast : lastF out ∈ out := by
          unfold lastF rd_T57
          rw [Int.toNat_natCast, List.getD_eq_getElem?_getD, List.getElem?_eq_getElem (by omega)]
          exact List.getElem_mem _
        obtain ⟨g1, g2, g3⟩ := h _ hlast
        obtain ⟨a, b⟩ := segF_ok P hP ts (out.set (out.length - 1) ⟨(lastF out).f0, (lastF out).f1 ++ [(cutE t).1]⟩) hts (fun s hs => by
          rcases List.mem_or_eq_of_mem_set hs with hs | rfl
          · exact h s hs
          · refine ⟨g1, by simp; omega, fun c hc' => ?_⟩
            rcases List.mem_append.1 hc' with hc' | hc'
            · exact g3 c hc'
            · obtain rfl := List.mem_singleton.1 hc'
              exact hP t h0)
        exact ⟨a, by rw [List.length_set] at b; rw [List.length_cons]; omega⟩
      · exact ⟨by simp, by simp⟩
theorem segP_ok {l : List S80} (P : ByteArray → Prop) (hP : ∀ t, P t → P (cutE t).1) (ts : List ByteArray) (ht : ∀ t ∈ ts, P t) : (∀ s ∈ (segP l ts).1, P s.f0 ∧ s.f1.length ≤ 2 ∧ ∀ c ∈ s.f1, P c) ∧ (segP l ts).1.length ≤ 40 := by
  unfold segP
  split
  · rename_i h
    obtain ⟨a, b⟩ := segF_ok (l := l) P hP ts [] ht (by simp)
    exact ⟨a, by simp at b; omega⟩
  · exact ⟨by simp, by simp⟩
theorem formsF_size (l : List S80) (rules : List S85) : ∀ (ss : List S57) (acc : List ByteArray), (∀ x ∈ acc, x.size ≤ 3280) → (∀ x ∈ (formsF l rules ss acc).1, x.size ≤ 3280) ∧ (formsF l rules ss acc).1.length ≤ ss.length + acc.length
  | [], acc, h => ⟨h, by unfold formsF; simp⟩
  | s :: ss, acc, h => by
    unfold formsF
    split
    · obtain ⟨a, b⟩ := formsF_size l rules ss (acc ++ [(attachAllP l rules s.f0 s.f1).1]) (fun x hx => by
        rcases List.mem_append.1 hx with hx | hx
        · exact h x hx
        · obtain rfl := List.mem_singleton.1 hx
          exact attachAll_size l rules s.f0 s.f1)
      exact ⟨a, by rw [List.length_append, List.length_singleton] at b; rw [List.length_cons]; omega⟩
    · exact ⟨by simp, by simp⟩
theorem drop_seg (l : List S57) (i : Nat) (h : i < l.length) : l.drop i = rd_T57 l (i : Int) :: l.drop (i + 1) := by
  unfold rd_T57
  rw [List.drop_eq_getElem_cons h, Int.toNat_natCast, List.getD_eq_getElem?_getD, List.getElem?_eq_getElem h]; rfl
def Toks (ts : List ByteArray) : Prop := ∀ t ∈ ts, t.size ≤ 274877906944
theorem cut_small (t : ByteArray) (h : t.size ≤ 274877906944) : (cutE t).1.size ≤ 274877906944 := Nat.le_trans (cutE_size t) h
theorem sentence_loop (l : List S80) (F : Nat → List ByteArray → List S57 → Int → Int → Option (ByteArray × Int)) (rules : List S85) (stop : ByteArray) (h1 : runesOk l = true) (h2 : rules.all smallR = true) (hll : l.length ≤ 1099511627776) (hst : stop.size ≤ 4) (ss : List S57) (hss : ss.length ≤ 40) (hok : ∀ s ∈ ss, s.f0.size ≤ 274877906944 ∧ s.f1.length ≤ 2 ∧ ∀ c ∈ s.f1, c.size ≤ 274877906944)
    (hF : ∀ k x8 x29 x30 x31, F (k + 1) x8 x29 x30 x31 = if x31 < x30 then (if 0 ≤ x31 then (if x31 < (x29.length : Int) then ((clitic_AttachAll.f k l rules ((rd_T57 x29 x31).f0) ((rd_T57 x29 x31).f1)).bind fun bt285 => (if bt285.2 = 0 then (if x31 < (x8.length : Int) then F k (x8.set (x31 : Int).toNat bt285.1) x29 x30 (wrap64 (x31 + 1)) else (none)) else (some ((⟨#[]⟩ : ByteArray), bt285.2)))) else (none)) else (none)) else ((slices_Contains_string_string.f k x8 (⟨#[]⟩ : ByteArray)).bind fun t288 => (if t288 = true then (some ((⟨#[]⟩ : ByteArray), 1)) else ((strings_Join.f x8 (⟨#[32]⟩ : ByteArray)).bind fun t289 => (if t289.size + stop.size ≤ 9223372036854775807 then (some (t289 ++ stop, 0)) else (none)))))) :
    ∀ d i (acc : List ByteArray), ss.length - i = d → i ≤ ss.length → acc.length = i → (∀ x ∈ acc, x.size ≤ 3280) → Ev (fun k => F k (acc ++ List.replicate d (⟨#[]⟩ : ByteArray)) ss (ss.length : Int) (i : Int)) (if (formsF l rules (ss.drop i) acc).2 = 0 then (if hasE (formsF l rules (ss.drop i) acc).1 = true then ((⟨#[]⟩ : ByteArray), 1) else (sentS stop (formsF l rules (ss.drop i) acc).1, 0)) else ((⟨#[]⟩ : ByteArray), (formsF l rules (ss.drop i) acc).2)) := by
  intro d
  induction d with
  | zero =>
    intro i acc hd hi ha hsz
    obtain rfl : i = ss.length := by omega
    rw [List.drop_length, List.replicate_zero, List.append_nil]
    show Ev _ (if (0 : Int) = 0 then (if hasE acc = true then ((⟨#[]⟩ : ByteArray), 1) else (sentS stop acc, 0)) else _)
    rw [if_pos rfl]
    refine Ev.step (f := fun k => (slices_Contains_string_string.f k acc (⟨#[]⟩ : ByteArray)).bind fun t288 => (if t288 = true then (some ((⟨#[]⟩ : ByteArray), 1)) else ((strings_Join.f acc (⟨#[32]⟩ : ByteArray)).bind fun t289 => (if t289.size + stop.size ≤ 9223372036854775807 then (some (t289 ++ stop, 0)) else (none))))) (fun k => ?_) (Ev.bind (contains_ev acc (by omega)) ?_)
    · rw [hF, if_neg (by omega)]
    · by_cases c : hasE acc = true
      · rw [if_pos c]
        refine Ev.congr (f := fun _ => some _) (fun k => ?_) (Ev.now _)
        rw [if_pos c]
      · rw [if_neg c]
        refine Ev.congr (f := fun _ => some _) (fun k => ?_) (Ev.now _)
        have hj := joinS_size acc 3280 hsz
        rw [ha] at hj
        rw [if_neg c, join_g acc 3280 hsz (by omega) (by omega), Option.bind_some, if_pos (by omega)]; rfl
  | succ d ih =>
    intro i acc hd hi ha hsz
    have hlt : i < ss.length := by omega
    rw [drop_seg ss i hlt]
    have hm : rd_T57 ss (i : Int) ∈ ss := List.mem_of_mem_drop (i := i) (by rw [drop_seg ss i hlt]; simp)
    obtain ⟨s, hs⟩ : ∃ s, rd_T57 ss (i : Int) = s := ⟨_, rfl⟩
    rw [hs] at hm ⊢
    obtain ⟨o1, o2, o3⟩ := hok s hm
    have ha2 := attachAll_ev l rules h1 h2 hll s.f0 s.f1 o1 o3 (by omega)
    refine Ev.step (f := fun k => (clitic_AttachAll.f k l rules s.f0 s.f1).bind fun bt285 => (if bt285.2 = 0 then (if (i : Int) < ((acc ++ List.replicate (d + 1) (⟨#[]⟩ : ByteArray)).length : Int) then F k ((acc ++ List.replicate (d + 1) (⟨#[]⟩ : ByteArray)).set ((i : Int)).toNat bt285.1) ss (ss.length : Int) (wrap64 ((i : Int) + 1)) else (none)) else (some ((⟨#[]⟩ : ByteArray), bt285.2)))) (fun k => ?_) (Ev.bind ha2 ?_)
    · rw [hF, if_pos (by omega), if_pos (by omega), if_pos (by omega), hs]
    · unfold formsF
      by_cases e : (attachAllP l rules s.f0 s.f1).2 = 0
      · rw [if_pos e]
        refine Ev.congr (fun k => ?_) (ih (i + 1) (acc ++ [(attachAllP l rules s.f0 s.f1).1]) (by omega) (by omega) (by simp; omega) (fun x hx => by
          rcases List.mem_append.1 hx with hx | hx
          · exact hsz x hx
          · obtain rfl := List.mem_singleton.1 hx
            exact attachAll_size l rules s.f0 s.f1))
        rw [if_pos e, if_pos (by rw [List.length_append, List.length_replicate]; omega), idx_next hlt (by omega), Int.toNat_natCast]
        congr 1
        rw [List.set_append_right _ _ (by omega), ha, Nat.sub_self, List.replicate_succ, List.set_cons_zero, List.append_assoc]; rfl
      · rw [if_neg e]
        refine Ev.congr (f := fun _ => some _) (fun k => ?_) (Ev.now _)
        rw [if_neg e, if_neg (by exact e)]
theorem sentence_ev (a_0 : ByteArray) (a_1 : Bool) (l_2 : List (S80)) (l_3 : List (S85)) (l_4 : List (S180)) (l_5 : List (S183)) (l_6 : List (List Int)) (a_7 : Int) (a_8 : Int) (l_9 : List (S85)) (a_a : Int) (l_b : List ByteArray) (l_c : List ByteArray) (a_d : Bool) (a_e : ByteArray) (a_f : Int) (a_g : ByteArray) (a_h : Bool) (a_i : Int) (a_j : Int) (l_k : List (S186)) (l_l : List (S186)) (l_m : List ByteArray) (l_n : List ByteArray) (l_o : List ByteArray) (a_p : Bool) (l_q : List (S188)) (l_r : List (S190)) (l_s : List (S194)) (a_t : ByteArray) (ts : List ByteArray) (h1 : runesOk l_2 = true) (h2 : l_9.all smallR = true) (hll : l_2.length ≤ 1099511627776) (ht : Toks ts) : Ev (fun k => orthography_Sentence.f k a_0 a_1 l_2 l_3 l_4 l_5 l_6 a_7 a_8 l_9 a_a l_b l_c a_d a_e a_f a_g a_h a_i a_j l_k l_l l_m l_n l_o a_p l_q l_r l_s a_t ts) (sentenceP l_2 l_9 a_t ts) := by
  have hseg : orthography_segments.f a_0 a_1 l_2 l_3 l_4 l_5 l_6 a_7 a_8 l_9 a_a l_b l_c a_d a_e a_f a_g a_h a_i a_j l_k l_l l_m l_n l_o a_p l_q l_r l_s a_t ts = some (segP l_2 ts) := by
    unfold orthography_segments.f
    rw [if_pos ⟨h1, List.all_eq_true.2 fun t h => decide_eq_true (Nat.le_trans (ht t h) (by decide))⟩]
  have bad : ∀ ss, Ev (fun k => orthography_Sentence.j0 k ss true a_0 a_1 l_2 l_3 l_4 l_5 l_6 a_7 a_8 l_9 a_a l_b l_c a_d a_e a_f a_g a_h a_i a_j l_k l_l l_m l_n l_o a_p l_q l_r l_s a_t) ((⟨#[]⟩ : ByteArray), 1) := by
    intro ss
    refine Ev.step (f := fun _ => some _) (fun k => ?_) (Ev.now _)
    simp only [orthography_Sentence.j0]; rfl
  unfold sentenceP
  cases c1 : (segP l_2 ts).2 with
  | false =>
    rw [if_neg (by simp)]
    refine Ev.congr (fun k => ?_) (bad (segP l_2 ts).1)
    unfold orthography_Sentence.f
    rw [hseg, Option.bind_some, if_neg (by rw [c1]; decide)]
  | true =>
    have hv := valid_ev a_0 a_1 l_2 l_3 l_4 l_5 l_6 a_7 a_8 l_9 a_a l_b l_c a_d a_e a_f a_g a_h a_i a_j l_k l_l l_m l_n l_o a_p l_q l_r l_s a_t h1 h2
    refine Ev.congr (f := fun k => (orthography_valid.f k a_0 a_1 l_2 l_3 l_4 l_5 l_6 a_7 a_8 l_9 a_a l_b l_c a_d a_e a_f a_g a_h a_i a_j l_k l_l l_m l_n l_o a_p l_q l_r l_s a_t).bind fun t279 => orthography_Sentence.j0 k (segP l_2 ts).1 (!t279) a_0 a_1 l_2 l_3 l_4 l_5 l_6 a_7 a_8 l_9 a_a l_b l_c a_d a_e a_f a_g a_h a_i a_j l_k l_l l_m l_n l_o a_p l_q l_r l_s a_t) (fun k => ?_) (Ev.bind hv ?_)
    · unfold orthography_Sentence.f
      rw [hseg, Option.bind_some, if_pos c1]
    · cases c2 : orthP l_2 l_9 a_t with
      | false => rw [if_neg (by simp)]; exact bad _
      | true =>
        rw [if_pos ⟨rfl, rfl⟩]
        obtain ⟨hok, hle⟩ := segP_ok (l := l_2) (fun t => t.size ≤ 274877906944) cut_small ts ht
        generalize (segP l_2 ts).1 = ss at hok hle
        have := sentence_loop l_2 (fun k x8 x29 x30 x31 => orthography_Sentence.l0 k x8 x29 x30 x31 a_0 a_1 l_2 l_3 l_4 l_5 l_6 a_7 a_8 l_9 a_a l_b l_c a_d a_e a_f a_g a_h a_i a_j l_k l_l l_m l_n l_o a_p l_q l_r l_s a_t) l_9 a_t h1 h2 hll (orth_stop c2) ss hle hok (fun k x8 x29 x30 x31 => by simp only [orthography_Sentence.l0]) ss.length 0 [] (by omega) (by omega) rfl (by simp)
        rw [List.drop_zero, List.nil_append] at this
        refine Ev.step (fun k => ?_) this
        simp only [orthography_Sentence.j0]
        rw [if_neg (by decide), if_pos (by omega), if_pos (by rw [Int.toNat_natCast]; omega), Int.toNat_natCast]; rfl
theorem sentence_size (l : List S80) (rules : List S85) (stop : ByteArray) (ts : List ByteArray) : (sentenceP l rules stop ts).1.size ≤ 131244 := by
  unfold sentenceP
  split
  · rename_i hc
    split
    · split
      · exact Nat.zero_le _
      · obtain ⟨_, hle⟩ := segP_ok (l := l) (fun _ => True) (fun _ _ => trivial) ts (fun _ _ => trivial)
        obtain ⟨a, b⟩ := formsF_size l rules (segP l ts).1 [] (by simp)
        have h1 := joinS_size _ 3280 a
        have h2 : (formsF l rules (segP l ts).1 []).1.length ≤ 40 := by simp at b; omega
        have h3 := orth_stop hc.2
        unfold sentS
        show (_ ++ _ : ByteArray).size ≤ _
        rw [ByteArray.size_append]
        omega
    · exact Nat.zero_le _
  · exact Nat.zero_le _
theorem drop_toks (l : List (List ByteArray)) (i : Nat) (h : i < l.length) : l.drop i = rd_L10 l (i : Int) :: l.drop (i + 1) := by
  unfold rd_L10
  rw [List.drop_eq_getElem_cons h, Int.toNat_natCast, List.getD_eq_getElem?_getD, List.getElem?_eq_getElem h]; rfl
theorem text_ev (a_0 : ByteArray) (a_1 : Bool) (l_2 : List (S80)) (l_3 : List (S85)) (l_4 : List (S180)) (l_5 : List (S183)) (l_6 : List (List Int)) (a_7 : Int) (a_8 : Int) (l_9 : List (S85)) (a_a : Int) (l_b : List ByteArray) (l_c : List ByteArray) (a_d : Bool) (a_e : ByteArray) (a_f : Int) (a_g : ByteArray) (a_h : Bool) (a_i : Int) (a_j : Int) (l_k : List (S186)) (l_l : List (S186)) (l_m : List ByteArray) (l_n : List ByteArray) (l_o : List ByteArray) (a_p : Bool) (l_q : List (S188)) (l_r : List (S190)) (l_s : List (S194)) (a_t : ByteArray) (sents : List (List ByteArray)) (h1 : runesOk l_2 = true) (h2 : l_9.all smallR = true) (hll : l_2.length ≤ 1099511627776) (ht : ∀ ts ∈ sents, Toks ts) : Ev (fun k => orthography_Text.f k a_0 a_1 l_2 l_3 l_4 l_5 l_6 a_7 a_8 l_9 a_a l_b l_c a_d a_e a_f a_g a_h a_i a_j l_k l_l l_m l_n l_o a_p l_q l_r l_s a_t sents) (textP l_2 l_9 a_t sents) := by
  have hv := valid_ev a_0 a_1 l_2 l_3 l_4 l_5 l_6 a_7 a_8 l_9 a_a l_b l_c a_d a_e a_f a_g a_h a_i a_j l_k l_l l_m l_n l_o a_p l_q l_r l_s a_t h1 h2
  have bad : Ev (fun k => orthography_Text.j0 k sents true a_0 a_1 l_2 l_3 l_4 l_5 l_6 a_7 a_8 l_9 a_a l_b l_c a_d a_e a_f a_g a_h a_i a_j l_k l_l l_m l_n l_o a_p l_q l_r l_s a_t) ((⟨#[]⟩ : ByteArray), 1) := by
    refine Ev.step (f := fun _ => some _) (fun k => ?_) (Ev.now _)
    simp only [orthography_Text.j0]; rfl
  refine Ev.bind hv ?_
  unfold textP
  cases c1 : orthP l_2 l_9 a_t with
  | false => rw [if_neg (by simp)]; exact bad
  | true =>
    refine Ev.congr (fun k => if_pos rfl) ?_
    by_cases c2 : 1 ≤ sents.length
    · refine Ev.congr (fun k => if_neg (by omega)) ?_
      by_cases c3 : sents.length ≤ 8
      · rw [if_pos ⟨rfl, c2, c3⟩]
        refine Ev.congr (f := fun k => orthography_Text.j0 k sents false a_0 a_1 l_2 l_3 l_4 l_5 l_6 a_7 a_8 l_9 a_a l_b l_c a_d a_e a_f a_g a_h a_i a_j l_k l_l l_m l_n l_o a_p l_q l_r l_s a_t) (fun k => by rw [decide_eq_false (by omega)]) ?_
        have key : ∀ d i acc, sents.length - i = d → i ≤ sents.length → acc.length ≤ i → (∀ x ∈ acc, x.size ≤ 131244) → Ev (fun k => orthography_Text.l0 k acc sents (sents.length : Int) (i : Int) a_0 a_1 l_2 l_3 l_4 l_5 l_6 a_7 a_8 l_9 a_a l_b l_c a_d a_e a_f a_g a_h a_i a_j l_k l_l l_m l_n l_o a_p l_q l_r l_s a_t) (textF l_2 l_9 a_t (sents.drop i) acc) := by
          intro d
          induction d with
          | zero =>
            intro i acc hd hi ha hsz
            obtain rfl : i = sents.length := by omega
            rw [List.drop_length]
            refine Ev.step (f := fun _ => some (joinS acc, 0)) (fun k => ?_) (Ev.now _)
            simp only [orthography_Text.l0]
            rw [if_neg (by omega), join_g acc 131244 hsz (by omega) (by omega), Option.bind_some]
          | succ d ih =>
            intro i acc hd hi ha hsz
            have hlt : i < sents.length := by omega
            rw [drop_toks sents i hlt]
            have hm : rd_L10 sents (i : Int) ∈ sents := List.mem_of_mem_drop (i := i) (by rw [drop_toks sents i hlt]; simp)
            obtain ⟨ts, hts⟩ : ∃ ts, rd_L10 sents (i : Int) = ts := ⟨_, rfl⟩
            rw [hts] at hm ⊢
            refine Ev.step (f := fun k => (orthography_Sentence.f k a_0 a_1 l_2 l_3 l_4 l_5 l_6 a_7 a_8 l_9 a_a l_b l_c a_d a_e a_f a_g a_h a_i a_j l_k l_l l_m l_n l_o a_p l_q l_r l_s a_t ts).bind fun bt293 => (if bt293.2 = 0 then (if acc.length < 8796093022208 then (orthography_Text.l0 k (acc ++ [bt293.1]) sents (sents.length : Int) (wrap64 ((i : Int) + 1)) a_0 a_1 l_2 l_3 l_4 l_5 l_6 a_7 a_8 l_9 a_a l_b l_c a_d a_e a_f a_g a_h a_i a_j l_k l_l l_m l_n l_o a_p l_q l_r l_s a_t) else (none)) else (some ((⟨#[]⟩ : ByteArray), bt293.2)))) (fun k => ?_) (Ev.bind (sentence_ev a_0 a_1 l_2 l_3 l_4 l_5 l_6 a_7 a_8 l_9 a_a l_b l_c a_d a_e a_f a_g a_h a_i a_j l_k l_l l_m l_n l_o a_p l_q l_r l_s a_t ts h1 h2 hll (ht ts hm)) ?_)
            · simp only [orthography_Text.l0]
              rw [if_pos (by omega), if_pos (by omega), if_pos (by omega), hts]
            · unfold textF
              by_cases e : (sentenceP l_2 l_9 a_t ts).2 = 0
              · rw [if_pos e]
                refine Ev.congr (fun k => ?_) (ih (i + 1) _ (by omega) (by omega) Gc18 (fun x hx => by
                  rcases List.mem_append.1 hx with hx | hx
                  · exact hsz x hx
                  · obtain rfl := List.mem_singleton.1 hx
                    exact sentence_size _ _ _ _))
                rw [if_pos e, if_pos (by omega), idx_next hlt (by omega)]
              · rw [if_neg e]
                refine Ev.congr (f := fun _ => some _) (fun k => ?_) (Ev.now _)
                rw [if_neg e]
        have := key sents.length 0 [] (by omega) (by omega) (by simp) (by simp)
        rw [List.drop_zero] at this
        refine Ev.step (fun k => ?_) this
        simp only [orthography_Text.j0]
        rw [if_neg (by decide)]; rfl
      · rw [if_neg (by omega)]
        refine Ev.congr (fun k => ?_) bad
        rw [decide_eq_true (by omega)]
    · rw [if_neg (by omega)]
      refine Ev.congr (fun k => if_pos (by omega)) bad
end Go.Proofs.YtfbhdjflkaldgaaDoor.Pr
