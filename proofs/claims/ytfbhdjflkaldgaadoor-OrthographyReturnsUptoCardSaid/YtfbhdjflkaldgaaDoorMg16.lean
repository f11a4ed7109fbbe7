/- Several texts in one: ClV, RfV, CdV, OrW. -/
import Derived.Test.YtfbhdjflkaldgaaDoorMg13
import Derived.Test.YtfbhdjflkaldgaaDoorMg14
import Derived.Test.YtfbhdjflkaldgaaDoorMg15
import Derived.Test.YtfbhdjflkaldgaaDoorMg10
import Derived.Test.YtfbhdjflkaldgaaDoorMg4
import Derived.Test.YtfbhdjflkaldgaaDoorMg12
/- The validity of sandhi, of the code and of the reference, in plain words. -/
/- The reference's Valid of a language's orthography. -/
/- orthography.valid in plain words. -/
/- orthography.Words. -/
namespace Go.Proofs.YtfbhdjflkaldgaaDoor.Pr
open Go.Proofs.YtfbhdjflkaldgaaDoor.Ct Go.RowKit Go.Maps Go.Lib Go.Proofs.YtfbhdjflkaldgaaDoorW.PrintWords Go.Proofs.YtfbhdjflkaldgaaDoorW.PrintLast Go.Proofs.YtfbhdjflkaldgaaDoorW.PrintMore
set_option linter.unusedVariables false
set_option linter.unusedSimpArgs false
theorem idx_isL (l : List S80) (r : Int) : decide (idxI l r ≥ 0) = isL l r := by
  unfold idxI isL
  cases look l l.length r with
  | none => rfl
  | some j => simp
def ext (l : List S80) : List S80 := l ++ [(⟨61, 2147483648⟩ : S80)]
theorem ext_runes {l : List S80} (h : runesOk l = true) : runesOk (ext l) = true := by
  unfold runesOk ext at *
  rw [List.all_append, h]; rfl
theorem ext_len (l : List S80) : (ext l).length = l.length + 1 := by unfold ext; simp
def no61 (s : ByteArray) : Bool := s.data.toList.all fun b => b != 61
theorem indexByte_no : ∀ (l : List UInt8) (c : UInt8), (indexByte l c = -1 ∨ 0 ≤ indexByte l c) ∧ ((indexByte l c ≥ 0) ↔ ¬ l.all (fun b => b != c) = true)
  | [], c => by simp [indexByte]
  | b :: l, c => by
    obtain ⟨h1, h2⟩ := indexByte_no l c
    unfold indexByte
    by_cases e : b = c
    · subst e; simp
    · have e1 : (b == c) = false := beq_eq_false_iff_ne.2 e
      have e2 : (b != c) = true := by unfold bne; rw [e1]; rfl
      rw [e1, List.all_cons, e2, Bool.true_and]
      simp only [Bool.false_eq_true, if_false]
      by_cases e3 : indexByte l c = -1
      · rw [e3] at h2 ⊢
        simp at h2 ⊢
        exact h2
      · have e4 : (indexByte l c == -1) = false := beq_eq_false_iff_ne.2 e3
        rw [e4]
        simp only [Bool.false_eq_true, if_false]
        exact ⟨.inr (by omega), ⟨fun _ => h2.1 (by omega), fun _ => by omega⟩⟩
def ruleOk (x : List S80) (r : S85) : Bool := (decide (r.f0 ≠ 61) && no61 r.f1) && ruleP x r
def cliticP (l : List S80) (s : List S85) : Bool := (validA l && !isL l 61) && (decide (s.length ≤ 64) && s.all (ruleOk (ext l)))
theorem clitic_ev (l : List S80) (s : List S85) (h1 : runesOk l = true) (h2 : s.all smallR = true) : Ev (fun k => clitic_Valid.f k l s) (cliticP l s) := by
  have hva : alphabet_Valid.f l = some (validA l) := by unfold alphabet_Valid.f; rw [if_pos h1]
  have hix : alphabet_Index.f l 61 = some (idxI l 61) := by unfold alphabet_Index.f; rw [if_pos ⟨h1, by decide⟩]
  have bad : Ev (fun k => clitic_Valid.j0 k l s true) false := by
    refine Ev.step (f := fun _ => some _) (fun k => ?_) (Ev.now _)
    simp only [clitic_Valid.j0]; rfl
  unfold cliticP
  cases c1 : validA l with
  | false =>
    refine Ev.congr (fun k => ?_) bad
    unfold clitic_Valid.f; rw [hva, c1]; rfl
  | true =>
    have hll : l.length ≤ 64 := by
      unfold validA at c1
      simp only [Bool.and_eq_true, decide_eq_true_eq] at c1
      exact c1.2.1
    cases c2 : isL l 61 with
    | true =>
      refine Ev.congr (fun k => ?_) bad
      have := idx_isL l 61
      rw [c2, decide_eq_true_eq] at this
      unfold clitic_Valid.f; rw [hva, c1, Option.bind_some, if_pos rfl, hix, Option.bind_some, if_pos this]
    | false =>
      have hn : ¬ idxI l 61 ≥ 0 := by
        have := idx_isL l 61
        rw [c2] at this
        exact of_decide_eq_false this
      refine Ev.congr (f := fun k => clitic_Valid.j0 k l s (decide ((s.length : Int) > 64))) (fun k => ?_) ?_
      · unfold clitic_Valid.f; rw [hva, c1, Option.bind_some, if_pos rfl, hix, Option.bind_some, if_neg hn]
      · by_cases c3 : s.length ≤ 64
        · rw [decide_eq_false (show ¬ (s.length : Int) > 64 by omega), decide_eq_true c3]
          have hex : clitic_Extended.f l = some (ext l) := by
            unfold clitic_Extended.f api_Letter.f
            rw [if_pos (by omega), Option.bind_some, if_pos (by omega)]; rfl
          have key : ∀ d i, s.length - i = d → i ≤ s.length → Ev (fun k => clitic_Valid.l0 k (ext l) s (s.length : Int) (i : Int)) ((s.drop i).all (ruleOk (ext l))) := by
            intro d
            induction d with
            | zero =>
              intro i hd hi
              obtain rfl : i = s.length := by omega
              rw [List.drop_length]
              refine Ev.step (f := fun _ => some true) (fun k => ?_) (Ev.now _)
              simp only [clitic_Valid.l0]; rw [if_neg (by omega)]
            | succ d ih =>
              intro i hd hi
              have hlt : i < s.length := by omega
              have hmem : rd_T85 s (i : Int) ∈ s := by
                have := drop_rule s i hlt
                exact List.mem_of_mem_drop (i := i) (by rw [this]; simp)
              rw [drop_rule s i hlt, List.all_cons]
              obtain ⟨R, hR⟩ : ∃ R, rd_T85 s (i : Int) = R := ⟨_, rfl⟩
              rw [hR] at hmem ⊢
              have hv : rewrite_Valid.f (ext l) R.f0 R.f1 R.f2 R.f3 R.f4 R.f5 = some (ruleP (ext l) R) := by unfold rewrite_Valid.f; rw [if_pos ⟨ext_runes h1, List.all_eq_true.1 h2 R hmem⟩]
              have hib : strings_IndexByte.f R.f1 61 = some (indexByte R.f1.data.toList 61) := rfl
              obtain ⟨hb1, hb2⟩ := indexByte_no R.f1.data.toList 61
              unfold ruleOk
              by_cases d1 : R.f0 = 61
              · refine Ev.step (f := fun _ => some false) (fun k => ?_) ?_
                · simp only [clitic_Valid.l0]; rw [if_pos (by omega), if_pos (by omega), if_pos (by omega), hR, if_pos d1]
                · rw [decide_eq_false (by simpa using d1)]; exact Ev.now _
              · rw [decide_eq_true d1, Bool.true_and]
                by_cases d2 : no61 R.f1 = true
                · have d2' : ¬ indexByte R.f1.data.toList 61 ≥ 0 := fun h => hb2.1 h d2
                  rw [d2, Bool.true_and]
                  cases d3 : ruleP (ext l) R with
                  | false =>
                    refine Ev.step (f := fun _ => some false) (fun k => ?_) (Ev.now _)
                    simp only [clitic_Valid.l0]; rw [if_pos (by omega), if_pos (by omega), if_pos (by omega), hR, if_neg d1, hib, Option.bind_some, if_neg d2', hv, d3]; rfl
                  | true =>
                    rw [Bool.true_and]
                    refine Ev.step (fun k => ?_) (ih (i + 1) (by omega) (by omega))
                    simp only [clitic_Valid.l0]; rw [if_pos (by omega), if_pos (by omega), if_pos (by omega), hR, if_neg d1, hib, Option.bind_some, if_neg d2', hv, d3, Option.bind_some, if_pos rfl, idx_next hlt (by omega)]
                · have d2' : indexByte R.f1.data.toList 61 ≥ 0 := hb2.2 d2
                  refine Ev.step (f := fun _ => some false) (fun k => ?_) ?_
                  · simp only [clitic_Valid.l0]; rw [if_pos (by omega), if_pos (by omega), if_pos (by omega), hR, if_neg d1, hib, Option.bind_some, if_pos d2']
                  · rw [show no61 R.f1 = false by simpa using d2]; exact Ev.now _
          refine Ev.step (fun k => ?_) (key s.length 0 (by omega) (by omega))
          simp only [clitic_Valid.j0]; rw [if_neg (by decide), hex]; rfl
        · rw [decide_eq_true (show (s.length : Int) > 64 by omega), decide_eq_false c3]
          exact bad
def okLen (s : List S85) : Bool := s.all fun r => decide (r.f2.length ≤ 1099511627776) && decide (r.f3.length ≤ 1099511627776)
def okR (l : List S80) (r : Int) : Bool := !decide (r ≤ 32) && (!(r == 45) && (!(r == 61) && !isL l r))
def stopOk (l : List S80) (s : ByteArray) : Bool := (runesS s).all (okR l) && (decide ((runesS s).length = 1) && validD s.data.toList)
def orthP (l : List S80) (rules : List S85) (s : ByteArray) : Bool := stopOk l s && cliticP l rules
def stopC (l : List S80) (s : ByteArray) : Bool := decide (0 < (decodeGo s).2) && (decide ((decodeGo s).2 = s.size) && (decide (¬ (decodeGo s).1 = 65533 ∨ (decodeGo s).2 = 3) && okR l ((decodeGo s).1 : Int)))
theorem replacement_width (l : List UInt8) (hne : l ≠ []) (h : (decodeL l).1 = 65533) (h2 : (decodeL l).2 ≤ l.length) : (decodeL l).2 = 1 ∨ (decodeL l).2 = 3 := by
  by_cases h1 : (decodeL l).2 = 1
  · exact .inl h1
  · have e := encode_decode l hne (fun h3 => h1 h3.2)
    rw [h] at e
    have e2 := congrArg List.length e
    rw [List.length_take, Nat.min_eq_left h2] at e2
    refine .inr (e2.symm.trans ?_)
    decide
theorem width_le (l : List UInt8) (hne : l ≠ []) : (decodeL l).2 ≤ l.length := by
  have hl : 0 < l.length := List.length_pos_iff.2 hne
  rw [decodeL_N]
  unfold decodeN
  repeat' split
  all_goals (simp only; omega)
theorem decodeGo_L (s : ByteArray) (h : 0 < s.size) : decodeGo s = decodeL s.data.toList := by
  unfold decodeGo
  rw [if_neg (by omega)]
  have := decodeL_drop s 0
  rw [List.drop_zero] at this
  exact this.symm
theorem stop_eq (l : List S80) (s : ByteArray) : stopC l s = stopOk l s := by
  by_cases hz : 0 < s.size
  · have hne : s.data.toList ≠ [] := fun e => by
      have := congrArg List.length e
      rw [sizeL, List.length_nil] at this; omega
    have hle : (decodeL s.data.toList).2 ≤ s.size := by rw [← sizeL]; exact width_le _ hne
    unfold stopC stopOk runesS
    rw [decodeGo_L s hz]
    have hw := width_pos _ hne
    rw [runesL_step _ hne, validD_step _ hne]
    rw [decide_eq_true (show 0 < (decodeL s.data.toList).2 by omega), Bool.true_and]
    by_cases hn : (decodeL s.data.toList).2 = s.size
    · have hd : s.data.toList.drop (decodeL s.data.toList).2 = [] := List.drop_of_length_le (by rw [sizeL]; omega)
      rw [hd, runesL_nil, decide_eq_true hn, Bool.true_and]
      have hr := fun h => replacement_width _ hne h (by rw [sizeL]; exact hle)
      rw [List.all_cons, List.all_nil, Bool.and_true, decide_eq_true (show [((decodeL s.data.toList).1 : Int)].length = 1 from rfl), Bool.true_and, Bool.and_comm]
      congr 1
      by_cases h9 : (decodeL s.data.toList).1 = 65533
      · rcases hr h9 with h8 | h8
        · rw [if_pos ⟨h9, h8⟩, decide_eq_false (by omega)]
        · rw [if_neg (by omega), decide_eq_true (.inr h8)]; rfl
      · rw [if_neg (fun h => h9 h.1), decide_eq_true (.inl h9)]; rfl
    · rw [decide_eq_false hn, Bool.false_and]
      have hd : 0 < (s.data.toList.drop (decodeL s.data.toList).2).length := by rw [List.length_drop, sizeL]; omega
      have hd2 : s.data.toList.drop (decodeL s.data.toList).2 ≠ [] := fun e => by rw [e] at hd; simp at hd
      rw [runesL_step _ hd2, decide_eq_false (by simp), Bool.false_and, Bool.and_false]
  · have he : s.data.toList = [] := List.eq_nil_of_length_eq_zero (by rw [sizeL]; omega)
    unfold stopC stopOk runesS decodeGo
    rw [if_pos (by omega), he, runesL_nil]; rfl
theorem valid_ev (a_0 : ByteArray) (a_1 : Bool) (l_2 : List (S80)) (l_3 : List (S85)) (l_4 : List (S180)) (l_5 : List (S183)) (l_6 : List (List Int)) (a_7 : Int) (a_8 : Int) (l_9 : List (S85)) (a_a : Int) (l_b : List ByteArray) (l_c : List ByteArray) (a_d : Bool) (a_e : ByteArray) (a_f : Int) (a_g : ByteArray) (a_h : Bool) (a_i : Int) (a_j : Int) (l_k : List (S186)) (l_l : List (S186)) (l_m : List ByteArray) (l_n : List ByteArray) (l_o : List ByteArray) (a_p : Bool) (l_q : List (S188)) (l_r : List (S190)) (l_s : List (S194)) (a_t : ByteArray) (h1 : runesOk l_2 = true) (h2 : l_9.all smallR = true) : Ev (fun k => orthography_valid.f k a_0 a_1 l_2 l_3 l_4 l_5 l_6 a_7 a_8 l_9 a_a l_b l_c a_d a_e a_f a_g a_h a_i a_j l_k l_l l_m l_n l_o a_p l_q l_r l_s a_t) (orthP l_2 l_9 a_t) := by
  unfold orthP
  rw [← stop_eq, Bool.and_comm]
  obtain ⟨r, hr⟩ : ∃ r, (decodeGo a_t).1 = r := ⟨_, rfl⟩
  obtain ⟨n, hn⟩ : ∃ n, (decodeGo a_t).2 = n := ⟨_, rfl⟩
  have hsc : scalar (r : Int) := by
    rw [← hr]
    unfold decodeGo
    split
    · exact ⟨by decide, by decide⟩
    · exact scalar_at _ _
  have hdec : utf8_DecodeRuneInString.f a_t = some ((r : Int), (n : Int)) := by unfold utf8_DecodeRuneInString.f; rw [hr, hn]
  have hix : alphabet_Index.f l_2 (r : Int) = some (idxI l_2 r) := by unfold alphabet_Index.f; rw [if_pos ⟨h1, scalar_wf hsc⟩]
  have hid : decide (idxI l_2 (r : Int) < 0) = !isL l_2 r := by
    have := idx_isL l_2 (r : Int)
    by_cases c : idxI l_2 (r : Int) ≥ 0
    · rw [decide_eq_true c] at this; rw [decide_eq_false (by omega), ← this]; rfl
    · rw [decide_eq_false c] at this; rw [decide_eq_true (by omega), ← this]; rfl
  have e : ∀ k, orthography_valid.f k a_0 a_1 l_2 l_3 l_4 l_5 l_6 a_7 a_8 l_9 a_a l_b l_c a_d a_e a_f a_g a_h a_i a_j l_k l_l l_m l_n l_o a_p l_q l_r l_s a_t = (clitic_Valid.f k l_2 l_9).bind fun t129 => some (t129 && stopC l_2 a_t) := by
    intro k
    unfold orthography_valid.f
    rw [hdec, Option.bind_some]
    congr 1
    funext t
    unfold stopC okR
    rw [hr, hn]
    cases t with
    | false => rfl
    | true =>
      rw [Bool.true_and, if_pos rfl]
      by_cases c1 : 0 < n
      · rw [if_pos (by simp; omega), decide_eq_true c1, Bool.true_and]
        by_cases c2 : n = a_t.size
        · rw [if_pos (by simp; omega), decide_eq_true c2, Bool.true_and]
          have rest : (if (r : Int) > 32 then (if (r : Int) = 45 then (some false) else (if (r : Int) = 61 then (some false) else ((alphabet_Index.f l_2 (r : Int)).bind fun t131 => (some (decide (t131 < 0)))))) else (some false)) = some (!decide ((r : Int) ≤ 32) && (!((r : Int) == 45) && (!((r : Int) == 61) && !isL l_2 r))) := by
            by_cases d1 : (r : Int) > 32
            · rw [if_pos d1, decide_eq_false (by omega)]
              by_cases d2 : (r : Int) = 45
              · rw [if_pos d2, beq_iff_eq.2 d2]; rfl
              · rw [if_neg d2, beq_eq_false_iff_ne.2 d2]
                by_cases d3 : (r : Int) = 61
                · rw [if_pos d3, beq_iff_eq.2 d3]; rfl
                · rw [if_neg d3, beq_eq_false_iff_ne.2 d3, hix, Option.bind_some, hid]; rfl
            · rw [if_neg d1, decide_eq_true (by omega)]; rfl
          by_cases c3 : r = 65533
          · rw [if_pos (show (r : Int) = 65533 by omega)]
            by_cases c4 : n = 3
            · rw [if_pos (show (n : Int) = 3 by omega), decide_eq_true (.inr c4), Bool.true_and]
              exact rest
            · rw [if_neg (show ¬ (n : Int) = 3 by omega), decide_eq_false (by omega)]; rfl
          · rw [if_neg (show ¬ (r : Int) = 65533 by omega), decide_eq_true (.inl c3), Bool.true_and]
            exact rest
        · rw [if_neg (by simp; omega), decide_eq_false c2]; rfl
      · rw [if_neg (by simp; omega), decide_eq_false c1]; rfl
  exact Ev.congr e (Ev.bind (clitic_ev l_2 l_9 h1 h2) (Ev.now _))
theorem valid_calls (a_0 : ByteArray) (a_1 : Bool) (A_2 : Option Addr) (c_2 : Nat) (l_2 : List (S80)) (A_3 : Option Addr) (c_3 : Nat) (l_3 : List (S85)) (A_4 : Option Addr) (c_4 : Nat) (l_4 : List (S180)) (A_5 : Option Addr) (c_5 : Nat) (l_5 : List (S183)) (A_6 : Option Addr) (c_6 : Nat) (l_6 : List (List Int)) (a_7 : Int) (a_8 : Int) (A_9 : Option Addr) (c_9 : Nat) (l_9 : List (S85)) (a_a : Int) (A_b : Option Addr) (c_b : Nat) (l_b : List ByteArray) (A_c : Option Addr) (c_c : Nat) (l_c : List ByteArray) (a_d : Bool) (a_e : ByteArray) (a_f : Int) (a_g : ByteArray) (a_h : Bool) (a_i : Int) (a_j : Int) (A_k : Option Addr) (c_k : Nat) (l_k : List (S186)) (A_l : Option Addr) (c_l : Nat) (l_l : List (S186)) (A_m : Option Addr) (c_m : Nat) (l_m : List ByteArray) (A_n : Option Addr) (c_n : Nat) (l_n : List ByteArray) (A_o : Option Addr) (c_o : Nat) (l_o : List ByteArray) (a_p : Bool) (A_q : Option Addr) (c_q : Nat) (l_q : List (S188)) (A_r : Option Addr) (c_r : Nat) (l_r : List (S190)) (A_s : Option Addr) (c_s : Nat) (l_s : List (S194)) (a_t : ByteArray) (w : World) (hT : Tabs w) (hr_2 : Kd.C k80 w A_2 l_2.length l_2) (hc_2 : l_2.length ≤ c_2) (hr_3 : Kd.C k85 w A_3 l_3.length l_3) (hc_3 : l_3.length ≤ c_3) (hr_4 : Kd.C k180 w A_4 l_4.length l_4) (hc_4 : l_4.length ≤ c_4) (hr_5 : Kd.C k183 w A_5 l_5.length l_5) (hc_5 : l_5.length ≤ c_5) (hr_6 : Kd.C (Kd.slice 78 (Kd.int .u32)) w A_6 l_6.length l_6) (hc_6 : l_6.length ≤ c_6) (hr_9 : Kd.C k85 w A_9 l_9.length l_9) (hc_9 : l_9.length ≤ c_9) (hr_b : Kd.C Kd.string w A_b l_b.length l_b) (hc_b : l_b.length ≤ c_b) (hr_c : Kd.C Kd.string w A_c l_c.length l_c) (hc_c : l_c.length ≤ c_c) (hr_k : Kd.C k186 w A_k l_k.length l_k) (hc_k : l_k.length ≤ c_k) (hr_l : Kd.C k186 w A_l l_l.length l_l) (hc_l : l_l.length ≤ c_l) (hr_m : Kd.C Kd.string w A_m l_m.length l_m) (hc_m : l_m.length ≤ c_m) (hr_n : Kd.C Kd.string w A_n l_n.length l_n) (hc_n : l_n.length ≤ c_n) (hr_o : Kd.C Kd.string w A_o l_o.length l_o) (hc_o : l_o.length ≤ c_o) (hr_q : Kd.C k188 w A_q l_q.length l_q) (hc_q : l_q.length ≤ c_q) (hr_r : Kd.C k190 w A_r l_r.length l_r) (hc_r : l_r.length ≤ c_r) (hr_s : Kd.C k194 w A_s l_s.length l_s) (hc_s : l_s.length ≤ c_s) (h1 : runesOk l_2 = true) (h2 : l_9.all smallR = true) :
    Calls Tryd.prog 18 #[.agg #[.string a_0, .bool a_1, .slice A_2 l_2.length c_2, .slice A_3 l_3.length c_3, .slice A_4 l_4.length c_4, .slice A_5 l_5.length c_5, .slice A_6 l_6.length c_6, .int .i64 a_7, .int .i64 a_8, .slice A_9 l_9.length c_9, .int .i64 a_a, .slice A_b l_b.length c_b, .slice A_c l_c.length c_c, .bool a_d, .string a_e, .int .i64 a_f, .string a_g, .bool a_h, .int .i64 a_i, .int .i64 a_j, .slice A_k l_k.length c_k, .slice A_l l_l.length c_l, .slice A_m l_m.length c_m, .slice A_n l_n.length c_n, .slice A_o l_o.length c_o, .bool a_p, .slice A_q l_q.length c_q, .slice A_r l_r.length c_r, .slice A_s l_s.length c_s, .string a_t]] w fun e w' => e = .returned (.bool (orthP l_2 l_9 a_t)) ∧ Below w.heap.size w w' := by
  obtain ⟨k, hk⟩ := (valid_ev a_0 a_1 l_2 l_3 l_4 l_5 l_6 a_7 a_8 l_9 a_a l_b l_c a_d a_e a_f a_g a_h a_i a_j l_k l_l l_m l_n l_o a_p l_q l_r l_s a_t h1 h2).rounds
  exact orthography_valid.calls k a_0 a_1 A_2 c_2 l_2 A_3 c_3 l_3 A_4 c_4 l_4 A_5 c_5 l_5 A_6 c_6 l_6 a_7 a_8 A_9 c_9 l_9 a_a A_b c_b l_b A_c c_c l_c a_d a_e a_f a_g a_h a_i a_j A_k c_k l_k A_l c_l l_l A_m c_m l_m A_n c_n l_n A_o c_o l_o a_p A_q c_q l_q A_r c_r l_r A_s c_s l_s a_t _ w hT hr_2 hc_2 hr_3 hc_3 hr_4 hc_4 hr_5 hc_5 hr_6 hc_6 hr_9 hc_9 hr_b hc_b hr_c hc_c hr_k hc_k hr_l hc_l hr_m hc_m hr_n hc_n hr_o hc_o hr_q hc_q hr_r hc_r hr_s hc_s hk
theorem stop_rune {l : List S80} {s : ByteArray} (h : stopOk l s = true) : s.data.toList = encodeRune ((decodeGo s).1 : Int) ∧ scalar ((decodeGo s).1 : Int) ∧ okR l ((decodeGo s).1 : Int) = true := by
  have hc := h
  rw [← stop_eq] at hc
  unfold stopC at hc
  simp only [Bool.and_eq_true, decide_eq_true_eq] at hc
  unfold stopOk at h
  simp only [Bool.and_eq_true, decide_eq_true_eq] at h
  have hz : 0 < s.size := by omega
  have hne : s.data.toList ≠ [] := fun e => by
    have := congrArg List.length e
    rw [sizeL, List.length_nil] at this; omega
  have hb := (valid_iff s.data.toList).1 h.2.2
  have hs : runesL s.data.toList = [((decodeGo s).1 : Int)] := by
    rw [decodeGo_L s hz] at hc ⊢
    rw [runesL_step _ hne, List.drop_of_length_le (by rw [sizeL]; omega), runesL_nil]
  refine ⟨?_, ?_, hc.2.2.2⟩
  · rw [← hb, hs]; simp [encL]
  · exact scalar_runes s.data.toList _ (by rw [hs]; simp)
def wordsP (l : List S80) (rules : List S85) (stop text : ByteArray) : List ByteArray × Int := if orthP l rules stop = true then (match readT l ((decodeGo stop).1 : Int) text with | some [ws] => if 40 < ws.length then ([], 2) else (ws, 0) | _ => ([], 3)) else ([], 1)
def orthography_Words.f (a_0 : ByteArray) (a_1 : Bool) (l_2 : List (S80)) (l_3 : List (S85)) (l_4 : List (S180)) (l_5 : List (S183)) (l_6 : List (List Int)) (a_7 : Int) (a_8 : Int) (l_9 : List (S85)) (a_a : Int) (l_b : List ByteArray) (l_c : List ByteArray) (a_d : Bool) (a_e : ByteArray) (a_f : Int) (a_g : ByteArray) (a_h : Bool) (a_i : Int) (a_j : Int) (l_k : List (S186)) (l_l : List (S186)) (l_m : List ByteArray) (l_n : List ByteArray) (l_o : List ByteArray) (a_p : Bool) (l_q : List (S188)) (l_r : List (S190)) (l_s : List (S194)) (a_t : ByteArray) (a1 : ByteArray) : Option (List ByteArray × Int) := if (runesOk l_2 = true ∧ l_9.all smallR = true) ∧ a1.size ≤ 1099511627776 then some (wordsP l_2 l_9 a_t a1) else none
theorem R_row {W : World} {base : Nat} {ok : Nat → Prop} {A : Option Addr} {n cap : Nat} {xs : List (List ByteArray)} (h : Kd.R (Kd.slice 9 Kd.string) 31 W base ok (.slice A n cap) xs) (i : Nat) (hi : i < xs.length) (x : List ByteArray) (hx : xs[i]? = some x) : ∃ g, A = some ⟨g, 0, none⟩ ∧ ∃ A9 c9, W.cell? ⟨g, i, none⟩ = some (.slice A9 x.length c9) ∧ Kd.R Kd.string 9 W base (fun _ => True) (.slice A9 x.length c9) x := by
  obtain ⟨g, q, f, _, _, _, _⟩ := Kd.R_form h (by omega)
  injection f with a1 a2 a3
  subst a1 a2 a3
  refine ⟨g, rfl, ?_⟩
  obtain ⟨ce, hce, hMe, hcc⟩ := Kd.R_get h ([] : List ByteArray) (i : Int) (by omega) (by omega)
  obtain ⟨v, rfl, hR⟩ : ∃ v, ce = [v] ∧ Kd.R Kd.string 9 W base _ v (xs.getD (i : Int).toNat []) := hMe
  have hx2 : xs.getD (i : Int).toNat [] = x := by rw [Int.toNat_natCast, List.getD_eq_getElem?_getD, hx]; rfl
  rw [hx2] at hR
  have hc := hcc 0 _ rfl
  obtain ⟨A9, c9, e9⟩ := Kd.R_slice hR
  subst e9
  refine ⟨A9, c9, ?_, Kd.R_mono hR (fun _ _ => trivial)⟩
  rw [show (Kd.slice 9 Kd.string).sz = 1 from rfl, Int.toNat_natCast, Nat.mul_one, Nat.add_zero, Addr.add_lit, Nat.zero_add] at hc
  exact hc
theorem LOrWa1 {p : Prop} (h : p := by
  go_enter Tryd.func11, Tryd.ntmps11
  go_wp2_with (first | ((with_reducible refine gate_load (t := 41) (p := 2) rfl ?_); (try (refine gate_guard (by rfl) ?_; dsimp only)); refine wpList_load_row rfl 41 (.tmp 2) rfl w.heap.size rfl 41 _ (0, 0) _ hbk2 Tryd.underlying41 rfl (by kernel_rfl) ?_) | (go_at_call 18; with_reducible refine (hva'.out _ HB0).mono ?_; rw [cv]; rintro e z1_ ⟨rfl, z2_⟩; clear hbk2; have HB2 := HB0.trans (z2_.mono HB0.size); have hbk2 := hblk'.out _ HB2) | (have ma_ := ma1_; (go_at_call 19; with_reducible refine (hnr'.out _ HB2).mono ?_; rintro e w3 ⟨B, mb, rfl, hRA, z2_⟩; clear hbk2; have HB3 := HB2.trans (z2_.mono HB2.size); have hRA' := Aside0.mk hRA; clear hRA; have hbk2 := hblk'.out _ HB3)) | (have ma_ := ma2_; (go_at_call 20; with_reducible refine (hrd'.out B mb _ HB3 hRA'.out).mono ?_; rw [ct]; rintro e z1_ ⟨z2_, z3_, rfl, ⟨z4_, z5_⟩, z6_⟩; subst z4_; obtain ⟨z7_, z8_, z9_⟩ := Kd.R_slice z5_; subst z9_; have z10_ := Aside0.mk (show Kd.R (Kd.slice 9 Kd.string) 31 z1_ w3.heap.size (fun _ => True) (.slice z7_ OUT.length z8_) OUT from z5_); clear z5_; have HB4 := HB3.trans (z6_.mono HB3.size); clear hbk2; have hbk2 := hblk'.out _ HB4)) | (have ma_ := ma3_; (go_at_call 20; with_reducible refine (hrd'.out B mb _ HB3 hRA'.out).mono ?_; rw [ct]; rintro e z1_ ⟨z2_, z3_, rfl, ⟨z4_, z5_⟩, z6_⟩; subst z4_; obtain ⟨z7_, z8_, z9_⟩ := Kd.R_slice z5_; subst z9_; have z10_ := Aside0.mk (show Kd.R (Kd.slice 9 Kd.string) 31 z1_ w3.heap.size (fun _ => True) (.slice z7_ [ws].length z8_) [ws] from z5_); clear z5_; obtain ⟨z11_, z9_, z12_, z13_, z14_, z15_⟩ := R_row z10_.out 0 (by simp) ws rfl; subst z9_; have z16_ := Aside0.mk z15_; clear z15_; have HB4 := HB3.trans (z6_.mono HB3.size); clear hbk2; have hbk2 := hblk'.out _ HB4)) | (have ma_ := ma4_; (go_at_call 19; with_reducible refine (hnr'.out _ HB2).mono ?_; rintro e z1_ ⟨B, mb, rfl, hRA, z2_⟩; clear hbk2; have HB3 := HB2.trans (z2_.mono HB2.size); have hRA' := Aside0.mk hRA; clear hRA; have hbk2 := hblk'.out _ HB3)) | (have ma_ := ma5_; (go_at_call 20; with_reducible refine (hrd'.out B mb _ HB3 hRA'.out).mono ?_; rw [ct]; rintro e z1_ ⟨z2_, z3_, rfl, z4_, z5_⟩; have z6_ : z3_ = false := z4_; clear z4_; subst z6_; have HB4 := HB3.trans (z5_.mono HB3.size); clear hbk2; have hbk2 := hblk'.out _ HB4)))
  go_ret2
  exact ⟨_, rfl, Kd.R_nil _ _ _ _ _, hB0'.out.trans (HB4.mono hB0'.out.size)⟩) : p := h
set_option maxRecDepth 100000 in
set_option maxHeartbeats 4000000 in
theorem orthography_Words.calls (a_0 : ByteArray) (a_1 : Bool) (A_2 : Option Addr) (c_2 : Nat) (l_2 : List (S80)) (A_3 : Option Addr) (c_3 : Nat) (l_3 : List (S85)) (A_4 : Option Addr) (c_4 : Nat) (l_4 : List (S180)) (A_5 : Option Addr) (c_5 : Nat) (l_5 : List (S183)) (A_6 : Option Addr) (c_6 : Nat) (l_6 : List (List Int)) (a_7 : Int) (a_8 : Int) (A_9 : Option Addr) (c_9 : Nat) (l_9 : List (S85)) (a_a : Int) (A_b : Option Addr) (c_b : Nat) (l_b : List ByteArray) (A_c : Option Addr) (c_c : Nat) (l_c : List ByteArray) (a_d : Bool) (a_e : ByteArray) (a_f : Int) (a_g : ByteArray) (a_h : Bool) (a_i : Int) (a_j : Int) (A_k : Option Addr) (c_k : Nat) (l_k : List (S186)) (A_l : Option Addr) (c_l : Nat) (l_l : List (S186)) (A_m : Option Addr) (c_m : Nat) (l_m : List ByteArray) (A_n : Option Addr) (c_n : Nat) (l_n : List ByteArray) (A_o : Option Addr) (c_o : Nat) (l_o : List ByteArray) (a_p : Bool) (A_q : Option Addr) (c_q : Nat) (l_q : List (S188)) (A_r : Option Addr) (c_r : Nat) (l_r : List (S190)) (A_s : Option Addr) (c_s : Nat) (l_s : List (S194)) (a_t : ByteArray) (a1 : ByteArray) (r1 : List ByteArray) (r2 : Int) (w : World) (hT : Tabs w) (hr_2 : Kd.C k80 w A_2 l_2.length l_2) (hc_2 : l_2.length ≤ c_2) (hr_3 : Kd.C k85 w A_3 l_3.length l_3) (hc_3 : l_3.length ≤ c_3) (hr_4 : Kd.C k180 w A_4 l_4.length l_4) (hc_4 : l_4.length ≤ c_4) (hr_5 : Kd.C k183 w A_5 l_5.length l_5) (hc_5 : l_5.length ≤ c_5) (hr_6 : Kd.C (Kd.slice 78 (Kd.int .u32)) w A_6 l_6.length l_6) (hc_6 : l_6.length ≤ c_6) (hr_9 : Kd.C k85 w A_9 l_9.length l_9) (hc_9 : l_9.length ≤ c_9) (hr_b : Kd.C Kd.string w A_b l_b.length l_b) (hc_b : l_b.length ≤ c_b) (hr_c : Kd.C Kd.string w A_c l_c.length l_c) (hc_c : l_c.length ≤ c_c) (hr_k : Kd.C k186 w A_k l_k.length l_k) (hc_k : l_k.length ≤ c_k) (hr_l : Kd.C k186 w A_l l_l.length l_l) (hc_l : l_l.length ≤ c_l) (hr_m : Kd.C Kd.string w A_m l_m.length l_m) (hc_m : l_m.length ≤ c_m) (hr_n : Kd.C Kd.string w A_n l_n.length l_n) (hc_n : l_n.length ≤ c_n) (hr_o : Kd.C Kd.string w A_o l_o.length l_o) (hc_o : l_o.length ≤ c_o) (hr_q : Kd.C k188 w A_q l_q.length l_q) (hc_q : l_q.length ≤ c_q) (hr_r : Kd.C k190 w A_r l_r.length l_r) (hc_r : l_r.length ≤ c_r) (hr_s : Kd.C k194 w A_s l_s.length l_s) (hc_s : l_s.length ≤ c_s) (h : orthography_Words.f a_0 a_1 l_2 l_3 l_4 l_5 l_6 a_7 a_8 l_9 a_a l_b l_c a_d a_e a_f a_g a_h a_i a_j l_k l_l l_m l_n l_o a_p l_q l_r l_s a_t a1 = some (r1, r2)) :
    Calls Tryd.prog 11 #[.agg #[.string a_0, .bool a_1, .slice A_2 l_2.length c_2, .slice A_3 l_3.length c_3, .slice A_4 l_4.length c_4, .slice A_5 l_5.length c_5, .slice A_6 l_6.length c_6, .int .i64 a_7, .int .i64 a_8, .slice A_9 l_9.length c_9, .int .i64 a_a, .slice A_b l_b.length c_b, .slice A_c l_c.length c_c, .bool a_d, .string a_e, .int .i64 a_f, .string a_g, .bool a_h, .int .i64 a_i, .int .i64 a_j, .slice A_k l_k.length c_k, .slice A_l l_l.length c_l, .slice A_m l_m.length c_m, .slice A_n l_n.length c_n, .slice A_o l_o.length c_o, .bool a_p, .slice A_q l_q.length c_q, .slice A_r l_r.length c_r, .slice A_s l_s.length c_s, .string a_t], .string a1] w fun e w' => ∃ v0_ : Value, e = .returned (.tuple #[v0_, .int .i64 r2]) ∧ Kd.R Kd.string 9 w' w.heap.size (fun _ => True) v0_ r1 ∧ Below w.heap.size w w' := by
  unfold orthography_Words.f at h
  by_cases hg : (runesOk l_2 = true ∧ l_9.all smallR = true) ∧ a1.size ≤ 1099511627776
  · rw [if_pos hg] at h
    have hr := Option.some.inj h
    clear h
    have hu41 := Tryd.underlying41
    obtain ⟨W0, hW0⟩ : ∃ W0, w.alloc (.cells #[.string a_0, .bool a_1, .slice A_2 l_2.length c_2, .slice A_3 l_3.length c_3, .slice A_4 l_4.length c_4, .slice A_5 l_5.length c_5, .slice A_6 l_6.length c_6, .int .i64 a_7, .int .i64 a_8, .slice A_9 l_9.length c_9, .int .i64 a_a, .slice A_b l_b.length c_b, .slice A_c l_c.length c_c, .bool a_d, .string a_e, .int .i64 a_f, .string a_g, .bool a_h, .int .i64 a_i, .int .i64 a_j, .slice A_k l_k.length c_k, .slice A_l l_l.length c_l, .slice A_m l_m.length c_m, .slice A_n l_n.length c_n, .slice A_o l_o.length c_o, .bool a_p, .slice A_q l_q.length c_q, .slice A_r l_r.length c_r, .slice A_s l_s.length c_s, .string a_t] 41) = W0 := ⟨_, rfl⟩
    have hB0 : Below w.heap.size w W0 := by rw [← hW0]; exact (Below.refl _ w).alloc (Nat.le_refl _) _
    have hsz0 : w.heap.size < W0.heap.size := by rw [← hW0]; simp
    have hblk : ∀ w1, Below W0.heap.size W0 w1 → w1.heap[w.heap.size]? = some (.cells #[.string a_0, .bool a_1, .slice A_2 l_2.length c_2, .slice A_3 l_3.length c_3, .slice A_4 l_4.length c_4, .slice A_5 l_5.length c_5, .slice A_6 l_6.length c_6, .int .i64 a_7, .int .i64 a_8, .slice A_9 l_9.length c_9, .int .i64 a_a, .slice A_b l_b.length c_b, .slice A_c l_c.length c_c, .bool a_d, .string a_e, .int .i64 a_f, .string a_g, .bool a_h, .int .i64 a_i, .int .i64 a_j, .slice A_k l_k.length c_k, .slice A_l l_l.length c_l, .slice A_m l_m.length c_m, .slice A_n l_n.length c_n, .slice A_o l_o.length c_o, .bool a_p, .slice A_q l_q.length c_q, .slice A_r l_r.length c_r, .slice A_s l_s.length c_s, .string a_t] 41 (0, 0)) := by
      intro w1 hB
      refine (hB.block _ hsz0).trans ?_
      rw [← hW0]; exact World.alloc_heap_new w _
    have hva := fun (w1 : World) (hB : Below W0.heap.size W0 w1) => valid_calls a_0 a_1 A_2 c_2 l_2 A_3 c_3 l_3 A_4 c_4 l_4 A_5 c_5 l_5 A_6 c_6 l_6 a_7 a_8 A_9 c_9 l_9 a_a A_b c_b l_b A_c c_c l_c a_d a_e a_f a_g a_h a_i a_j A_k c_k l_k A_l c_l l_l A_m c_m l_m A_n c_n l_n A_o c_o l_o a_p A_q c_q l_q A_r c_r l_r A_s c_s l_s a_t w1 (tabs_below hT (hB0.trans (hB.mono hB0.size))) (Kd.C_below hr_2 (hB0.trans (hB.mono hB0.size))) hc_2 (Kd.C_below hr_3 (hB0.trans (hB.mono hB0.size))) hc_3 (Kd.C_below hr_4 (hB0.trans (hB.mono hB0.size))) hc_4 (Kd.C_below hr_5 (hB0.trans (hB.mono hB0.size))) hc_5 (Kd.C_below hr_6 (hB0.trans (hB.mono hB0.size))) hc_6 (Kd.C_below hr_9 (hB0.trans (hB.mono hB0.size))) hc_9 (Kd.C_below hr_b (hB0.trans (hB.mono hB0.size))) hc_b (Kd.C_below hr_c (hB0.trans (hB.mono hB0.size))) hc_c (Kd.C_below hr_k (hB0.trans (hB.mono hB0.size))) hc_k (Kd.C_below hr_l (hB0.trans (hB.mono hB0.size))) hc_l (Kd.C_below hr_m (hB0.trans (hB.mono hB0.size))) hc_m (Kd.C_below hr_n (hB0.trans (hB.mono hB0.size))) hc_n (Kd.C_below hr_o (hB0.trans (hB.mono hB0.size))) hc_o (Kd.C_below hr_q (hB0.trans (hB.mono hB0.size))) hc_q (Kd.C_below hr_r (hB0.trans (hB.mono hB0.size))) hc_r (Kd.C_below hr_s (hB0.trans (hB.mono hB0.size))) hc_s hg.1.1 hg.1.2
    have hnr := fun (w1 : World) (hB : Below W0.heap.size W0 w1) => newReader_calls a_0 a_1 A_2 c_2 l_2 A_3 c_3 l_3 A_4 c_4 l_4 A_5 c_5 l_5 A_6 c_6 l_6 a_7 a_8 A_9 c_9 l_9 a_a A_b c_b l_b A_c c_c l_c a_d a_e a_f a_g a_h a_i a_j A_k c_k l_k A_l c_l l_l A_m c_m l_m A_n c_n l_n A_o c_o l_o a_p A_q c_q l_q A_r c_r l_r A_s c_s l_s a_t w1 (tabs_below hT (hB0.trans (hB.mono hB0.size))) (Kd.C_below hr_2 (hB0.trans (hB.mono hB0.size))) hc_2 (Kd.C_below hr_3 (hB0.trans (hB.mono hB0.size))) hc_3 (Kd.C_below hr_4 (hB0.trans (hB.mono hB0.size))) hc_4 (Kd.C_below hr_5 (hB0.trans (hB.mono hB0.size))) hc_5 (Kd.C_below hr_6 (hB0.trans (hB.mono hB0.size))) hc_6 (Kd.C_below hr_9 (hB0.trans (hB.mono hB0.size))) hc_9 (Kd.C_below hr_b (hB0.trans (hB.mono hB0.size))) hc_b (Kd.C_below hr_c (hB0.trans (hB.mono hB0.size))) hc_c (Kd.C_below hr_k (hB0.trans (hB.mono hB0.size))) hc_k (Kd.C_below hr_l (hB0.trans (hB.mono hB0.size))) hc_l (Kd.C_below hr_m (hB0.trans (hB.mono hB0.size))) hc_m (Kd.C_below hr_n (hB0.trans (hB.mono hB0.size))) hc_n (Kd.C_below hr_o (hB0.trans (hB.mono hB0.size))) hc_o (Kd.C_below hr_q (hB0.trans (hB.mono hB0.size))) hc_q (Kd.C_below hr_r (hB0.trans (hB.mono hB0.size))) hc_r (Kd.C_below hr_s (hB0.trans (hB.mono hB0.size))) hc_s hg.1.1
    have hrd := fun (B mb : Nat) (w1 : World) (hB : Below W0.heap.size W0 w1) (hR : ReaderAt w1 B mb l_2 ((decodeGo a_t).1 : Int)) => read_calls B mb l_2 ((decodeGo a_t).1 : Int) a1 w1 (tabs_below hT (hB0.trans (hB.mono hB0.size))) hR hg.2
    obtain ⟨S, hS⟩ : ∃ S : Int, ((decodeGo a_t).1 : Int) = S := ⟨_, rfl⟩
    rw [hS] at hnr hrd
    have hva' := Aside0.mk hva
    have hnr' := Aside0.mk hnr
    have hrd' := Aside0.mk hrd
    have hB0' := Aside0.mk hB0
    have hblk' := Aside0.mk hblk
    have hsz0' := Aside0.mk hsz0
    have hG := Aside0.mk hg.2
    have HB0 : Below W0.heap.size W0 W0 := Below.refl _ _
    have hbk2 := hblk _ HB0
    clear hT hr_2 hr_3 hr_4 hr_5 hr_6 hr_9 hr_b hr_c hr_k hr_l hr_m hr_n hr_o hr_q hr_r hr_s hg hva hnr hrd hB0 hblk hsz0
    unfold wordsP at hr
    rw [hS] at hr
    clear hS
    cases cv : orthP l_2 l_9 a_t with
    | false =>
      rw [cv, if_neg (by decide)] at hr
      obtain ⟨e1, e2⟩ := Prod.mk.inj hr
      subst e1 e2
      clear hr
      go_enter Tryd.func11, Tryd.ntmps11
      go_wp2_with (first | ((with_reducible refine gate_load (t := 41) (p := 2) rfl ?_); (try (refine gate_guard (by rfl) ?_; dsimp only)); refine wpList_load_row rfl 41 (.tmp 2) rfl w.heap.size rfl 41 _ (0, 0) _ hbk2 Tryd.underlying41 rfl (by kernel_rfl) ?_) | (go_at_call 18; with_reducible refine (hva'.out _ HB0).mono ?_; rw [cv]; rintro e w2 ⟨rfl, hB2⟩; clear hbk2; have HB2 := HB0.trans (hB2.mono HB0.size); have hbk2 := hblk'.out _ HB2))
      go_ret2
      exact ⟨_, rfl, Kd.R_nil _ _ _ _ _, hB0'.out.trans (HB2.mono hB0'.out.size)⟩
    | true =>
      rw [cv, if_pos rfl] at hr
      cases ct : readT l_2 S a1 with
      | none =>
        rw [ct] at hr
        obtain ⟨e1, e2⟩ := Prod.mk.inj hr
        subst e1 e2
        clear hr
        have ma4_ := trivial; have ma5_ := trivial
        exact LOrWa1
      | some OUT =>
        rw [ct] at hr
        by_cases h1 : OUT.length = 1
        · obtain ⟨ws, rfl⟩ : ∃ ws, OUT = [ws] := List.length_eq_one_iff.1 h1
          simp only at hr
          clear h1
          by_cases h40 : 40 < ws.length
          · have h40' : (40 : Int) < (ws.length : Int) := by omega
            rw [if_pos h40] at hr
            obtain ⟨e1, e2⟩ := Prod.mk.inj hr
            subst e1 e2
            clear hr h40
            have ma1_ := trivial; have ma3_ := trivial
            exact LOrWa1
          · have h40' : ¬ (40 : Int) < (ws.length : Int) := by omega
            rw [if_neg h40] at hr
            obtain ⟨e1, e2⟩ := Prod.mk.inj hr
            subst e1 e2
            clear hr h40
            go_enter Tryd.func11, Tryd.ntmps11
            go_wp2_with (first | ((with_reducible refine gate_load (t := 41) (p := 2) rfl ?_); (try (refine gate_guard (by rfl) ?_; dsimp only)); refine wpList_load_row rfl 41 (.tmp 2) rfl w.heap.size rfl 41 _ (0, 0) _ hbk2 Tryd.underlying41 rfl (by kernel_rfl) ?_) | (go_at_call 18; with_reducible refine (hva'.out _ HB0).mono ?_; rw [cv]; rintro e w2 ⟨rfl, hB2⟩; clear hbk2; have HB2 := HB0.trans (hB2.mono HB0.size); have hbk2 := hblk'.out _ HB2) | (go_at_call 19; with_reducible refine (hnr'.out _ HB2).mono ?_; rintro e w3 ⟨B, mb, rfl, hRA, hB3⟩; clear hbk2; have HB3 := HB2.trans (hB3.mono HB2.size); have hRA' := Aside0.mk hRA; clear hRA; have hbk2 := hblk'.out _ HB3) | (go_at_call 20; with_reducible refine (hrd'.out B mb _ HB3 hRA'.out).mono ?_; rw [ct]; rintro e w4 ⟨v4, b4, rfl, ⟨hb5, hR4⟩, hB4⟩; subst hb5; obtain ⟨A4, c4, e4⟩ := Kd.R_slice hR4; subst e4; have hR4' := Aside0.mk (show Kd.R (Kd.slice 9 Kd.string) 31 w4 w3.heap.size (fun _ => True) (.slice A4 [ws].length c4) [ws] from hR4); clear hR4; obtain ⟨g4, e4, A9, c9, hx0, hR9⟩ := R_row hR4'.out 0 (by simp) ws rfl; subst e4; have hR9' := Aside0.mk hR9; clear hR9; have HB4 := HB3.trans (hB4.mono HB3.size); clear hbk2; have hbk2 := hblk'.out _ HB4))
            go_ret2
            exact ⟨_, rfl, Kd.R_lower hR9'.out (Nat.le_trans hB0'.out.size HB3.size), hB0'.out.trans (HB4.mono hB0'.out.size)⟩
        · have h1' : ((OUT.length : Int) == 1) = false := beq_eq_false_iff_ne.2 (by omega)
          have hr2 : (([], 3) : List ByteArray × Int) = (r1, r2) := by
            rw [← hr]
            cases OUT with
            | nil => rfl
            | cons a t =>
              cases t with
              | nil => exact absurd rfl h1
              | cons b t => rfl
          obtain ⟨e1, e2⟩ := Prod.mk.inj hr2
          subst e1 e2
          clear hr hr2 h1
          have ma1_ := trivial; have ma2_ := trivial
          exact LOrWa1
  · rw [if_neg hg] at h; cases h
end Go.Proofs.YtfbhdjflkaldgaaDoor.Pr
