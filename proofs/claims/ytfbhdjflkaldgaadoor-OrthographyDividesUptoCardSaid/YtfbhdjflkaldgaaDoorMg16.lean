/- Several texts in one: PrF70, Cas, ClV. -/
import Derived.Test.YtfbhdjflkaldgaaDoorMg1
import Derived.Test.YtfbhdjflkaldgaaDoorMg2
import Derived.Test.YtfbhdjflkaldgaaDoorPrF82
import Derived.Test.YtfbhdjflkaldgaaDoorMg3
import Derived.Test.YtfbhdjflkaldgaaDoorRewS
import Derived.Test.YtfbhdjflkaldgaaDoorMg13
import Derived.Test.YtfbhdjflkaldgaaDoorMg15
import Derived.Test.YtfbhdjflkaldgaaDoorMg10
/- rewrite.Apply, Trace, Cascade: what they answer, in plain words. -/
/- The validity of sandhi, of the code and of the reference, in plain words. -/
namespace Go.Proofs.YtfbhdjflkaldgaaDoor.Pr
open Go.Proofs.YtfbhdjflkaldgaaDoor.Ct Go.RowKit Go.Proofs.YtfbhdjflkaldgaaDoorW.PrintWords Go.Proofs.YtfbhdjflkaldgaaDoorW.PrintLast Go.Proofs.YtfbhdjflkaldgaaDoorW.PrintMore
attribute [local go_sem] max2_int min2_int max_two min_two max_three min_three max_four min_four
set_option linter.unusedVariables false
set_option linter.unusedSimpArgs false
def rewrite_Cascade.f (k : Nat) (l0 : List (S80)) (l1 : List (S85)) (a2 : ByteArray) : Option (ByteArray × Int) := (rewrite_Trace.f k l0 l1 a2).bind fun bt209 => (if bt209.2 = 0 then (if 0 ≤ (wrap64 ((bt209.1.length : Int) - 1)) then (if (wrap64 ((bt209.1.length : Int) - 1)) < (bt209.1.length : Int) then (some (rdOf ByteArray.empty bt209.1 (wrap64 ((bt209.1.length : Int) - 1)), 0)) else (none)) else (none)) else (some ((⟨#[]⟩ : ByteArray), bt209.2)))
set_option maxHeartbeats 8000000 in
set_option maxRecDepth 100000 in
theorem rewrite_Cascade.calls (k : Nat) (A0 : Option Addr) (c0 : Nat) (l0 : List (S80)) (A1 : Option Addr) (c1 : Nat) (l1 : List (S85)) (a2 : ByteArray) (r1 : ByteArray) (r2 : Int) (w : World) (hT : Tabs w) (hr0 : Kd.C k80 w A0 l0.length l0) (hc0 : l0.length ≤ c0) (hr1 : Kd.C k85 w A1 l1.length l1) (hc1 : l1.length ≤ c1) (h : rewrite_Cascade.f k l0 l1 a2 = some (r1, r2)) :
 Calls Tryd.prog 70 #[.slice A0 l0.length c0, .slice A1 l1.length c1, .string a2] w fun e w' => e = .returned (.tuple #[.string r1, .int .i64 r2]) ∧ Below w.heap.size w w' := by
 have HT := Aside0.mk hT
 clear hT
 have HR0 := Aside0.mk hr0
 have HC0 := Aside0.mk hc0
 clear hr0 hc0
 have HR1 := Aside0.mk hr1
 have HC1 := Aside0.mk hc1
 clear hr1 hc1
 have HB := Aside0.mk (Below.refl w.heap.size w)
 have H : ((rewrite_Trace.f k l0 l1 a2).bind fun bt209 => (if bt209.2 = 0 then (if 0 ≤ (wrap64 ((bt209.1.length : Int) - 1)) then (if (wrap64 ((bt209.1.length : Int) - 1)) < (bt209.1.length : Int) then (some (rdOf ByteArray.empty bt209.1 (wrap64 ((bt209.1.length : Int) - 1)), 0)) else (none)) else (none)) else (some ((⟨#[]⟩ : ByteArray), bt209.2)))) = some (r1, r2) := h
 clear h
 replace H := bI H; obtain ⟨⟨t209, t210⟩, A4, H⟩ := H; (try dsimp only at H)
 replace H := iE H; obtain ⟨-, c5b0, c5b1, H⟩ | ⟨c5, c5b0, c5b1, H⟩ := H
 ·
  obtain ⟨ji6, hji6⟩ : ∃ j_ : Int, (wrap64 ((t209.length : Int) - 1)) = j_ := ⟨_, rfl⟩
  replace H : (if 0 ≤ (ji6) then (if (ji6) < (t209.length : Int) then (some (rdOf ByteArray.empty t209 (ji6), 0)) else (none)) else (none)) = some (r1, r2) := by first | (rw [hji6] at H; exact H) | (simp only [hji6] at H ⊢; exact H)
  (try rw [hji6] at A4)
  have hji6w : (IntKind.i64.wrap ((t209.length : Int) - 1)) = ji6 := (i64_w _).trans hji6
  replace H := iF H; obtain ⟨c7, H⟩ | ⟨c7, H⟩ := H
  ·
   have c7b0 : decide (0 ≤ (ji6)) = true := decide_eq_true c7
   clear c7
   replace H := iF H; obtain ⟨c8, H⟩ | ⟨c8, H⟩ := H
   ·
    have c8b0 : decide ((ji6) < (t209.length : Int)) = true := decide_eq_true c8
    clear c8
    simp only [Option.some.injEq, Prod.mk.injEq] at H
    obtain ⟨rfl, rfl⟩ := H
    go_enter Tryd.func70, Tryd.ntmps70
    go_wp2_with (first | ((with_reducible refine gate_callee (f := 82) rfl ?_); refine goesL_ (some 14) rfl rfl Tryd.func82 (by kernel_rfl) rfl #[.slice A0 l0.length c0, .slice A1 l1.length c1, .string a2] rfl Gc2 ?_; (with_reducible refine (rewrite_Trace.calls k _ _ l0 _ _ l1 a2 t209 t210 _ ?sT ?s1 HC0.out ?s3 HC1.out A4.out).mono ?_); (case sT => exact Gc1); (case s1 => exact Gc6); (case s3 => exact Gc8); rintro e w9 ⟨v211, rfl, ho0, hb⟩; refine ⟨_, rfl, ?_⟩; have n0_ := Aside0.mk (Kd.R_lower ho0 (tS HB)); have n1_ := Aside0.mk (below_step (tB HB) hb); revert n0_ n1_; clear HB; intro HO212 HB; (try clear hb); (try clear hb2); (try clear hk); (try clear hi); (try clear ho0); obtain ⟨Ao10, co10, eo10⟩ := Kd.R_slice HO212.out; subst eo10; have p213 : 0 ≤ ((ji6) : Int) := oD; have q213 : (ji6) < (t209.length : Int) := oD; obtain ⟨ad213, e213, hx213_0⟩ := Kd.at_string (Kd.R_reads' HO212.out).2.2 (ji6) p213 q213; cases e213; replace p213 := eq_true p213; replace q213 := eq_true q213))
    go_ret2
    exact ⟨by first | rfl | (simp [errW_none, errW_some] <;> rfl) | (simp only [← hji6]; first | rfl | (simp [errW_none, errW_some] <;> rfl)) | (simp [*, errW_none, errW_some] <;> rfl), by repeat (first | (with_reducible first | exact HB.out | apply below_alloc | apply pw_below_drewN | apply below_drew1) | exact HB.out)⟩
   ·
    exact absurd H (by simp)
  ·
   exact absurd H (by simp)
 ·
  simp only [Option.some.injEq, Prod.mk.injEq] at H
  obtain ⟨rfl, rfl⟩ := H
  go_enter Tryd.func70, Tryd.ntmps70
  go_wp2_with (first | ((with_reducible refine gate_callee (f := 82) rfl ?_); refine goesL_ (some 14) rfl rfl Tryd.func82 (by kernel_rfl) rfl #[.slice A0 l0.length c0, .slice A1 l1.length c1, .string a2] rfl Gc2 ?_; (with_reducible refine (rewrite_Trace.calls k _ _ l0 _ _ l1 a2 t209 t210 _ ?sT ?s1 HC0.out ?s3 HC1.out A4.out).mono ?_); (case sT => exact Gc1); (case s1 => exact Gc6); (case s3 => exact Gc8); rintro e w11 ⟨v211, rfl, ho0, hb⟩; refine ⟨_, rfl, ?_⟩; have n0_ := Aside0.mk (Kd.R_lower ho0 (tS HB)); have n1_ := Aside0.mk (below_step (tB HB) hb); revert n0_ n1_; clear HB; intro HO212 HB; (try clear hb); (try clear hb2); (try clear hk); (try clear hi); (try clear ho0)))
  go_ret2
  exact ⟨tE, by repeat (first | (with_reducible first | exact HB.out | apply below_alloc | apply pw_below_drewN | apply below_drew1) | exact HB.out)⟩
end Go.Proofs.YtfbhdjflkaldgaaDoor.Pr

namespace Go.Proofs.YtfbhdjflkaldgaaDoor.Pr
open Go.Proofs.YtfbhdjflkaldgaaDoor.Ct Go.RowKit Go.Maps Go.Lib Go.Proofs.YtfbhdjflkaldgaaDoorW.PrintWords Go.Proofs.YtfbhdjflkaldgaaDoorW.PrintLast Go.Proofs.YtfbhdjflkaldgaaDoorW.PrintMore
set_option linter.unusedVariables false
set_option linter.unusedSimpArgs false
theorem runeCount_at (s : ByteArray) : ∀ fuel pos, s.size - pos ≤ fuel → runeCountFrom s fuel pos = (runesAt s pos).length
  | 0, pos, h => by
    rw [runesAt_end (by omega)]; rfl
  | f + 1, pos, h => by
    unfold runeCountFrom
    by_cases hp : pos < s.size
    · rw [if_pos hp, runesAt_step hp, runeCount_at s f _ (by have := width_at hp; omega), List.length_cons]; omega
    · rw [if_neg hp, runesAt_end hp]; rfl
theorem runeCount_runes (s : ByteArray) : runeCount s = (runesS s).length := by
  unfold runeCount
  rw [runeCount_at s s.size 0 (by omega), runesAt_zero]
def outP (l : List S80) (r : S85) (w : ByteArray) : ByteArray := resultP (decide (r.f0 = 0)) r.f1 (sitesP l r w) w
def applyP (l : List S80) (r : S85) (w : ByteArray) : ByteArray × Int := if ruleP l r = true ∧ isWordP l w = true then (if 40 < (runesS (outP l r w)).length then ((⟨#[]⟩ : ByteArray), 2) else (outP l r w, 0)) else ((⟨#[]⟩ : ByteArray), 1)
theorem rule_to {l : List S80} {r : S85} (h : ruleP l r = true) : (runesS r.f1).length ≤ 4 := by
  unfold ruleP consistsP at h
  simp only [Bool.and_eq_true, decide_eq_true_eq] at h
  exact h.2.1.2.2
theorem word_len {l : List S80} {w : ByteArray} (h : isWordP l w = true) : (runesS w).length ≤ 40 := by
  unfold isWordP at h
  simp only [Bool.and_eq_true, decide_eq_true_eq] at h
  exact h.2.2
theorem out_size {l : List S80} {r : S85} {w : ByteArray} (h : ruleP l r = true) (hw : isWordP l w = true) : (outP l r w).size ≤ 820 := by
  unfold outP resultP
  have h1 := encS_size (resF (decide (r.f0 = 0)) (runesS r.f1) (sitesP l r w) 0 (runesS w))
  have h2 := resF_length (decide (r.f0 = 0)) (runesS r.f1) (runesS w) (sitesP l r w) 0
  have h3 : ((runesS w).length + 1) * ((runesS r.f1).length + 1) ≤ 41 * 5 := Nat.mul_le_mul (by have := word_len hw; omega) (by have := rule_to h; omega)
  omega
theorem smallR_to {r : S85} (h : smallR r = true) : r.f1.size ≤ 1099511627776 := by
  unfold smallR at h
  simp only [Bool.and_eq_true, decide_eq_true_eq] at h
  exact h.1
theorem apply_ev (l : List S80) (r : S85) (w : ByteArray) (h1 : runesOk l = true) (h2 : smallR r = true) (h3 : w.size ≤ 1099511627776) : Ev (fun k => rewrite_Apply.f k l r.f0 r.f1 r.f2 r.f3 r.f4 r.f5 w) (applyP l r w) := by
  have hv : rewrite_Valid.f l r.f0 r.f1 r.f2 r.f3 r.f4 r.f5 = some (ruleP l r) := by unfold rewrite_Valid.f; rw [if_pos ⟨h1, h2⟩]
  have hw : rewrite_letters_isWord.f l w = some (isWordP l w) := by unfold rewrite_letters_isWord.f; rw [if_pos h3]
  have bad : Ev (fun k => rewrite_Apply.j0 k l w true r.f0 r.f1 r.f2 r.f3 r.f4 r.f5) ((⟨#[]⟩ : ByteArray), 1) := by
    refine Ev.step (f := fun _ => some _) (fun k => ?_) (Ev.now _)
    simp only [rewrite_Apply.j0]; rfl
  unfold applyP
  cases e1 : ruleP l r with
  | false =>
    refine Ev.congr (fun k => ?_) bad
    unfold rewrite_Apply.f
    rw [hv, e1]; rfl
  | true =>
    cases e2 : isWordP l w with
    | false =>
      refine Ev.congr (fun k => ?_) bad
      unfold rewrite_Apply.f
      rw [hv, e1, hw, e2]; rfl
    | true =>
      refine Ev.congr (f := fun k => rewrite_Apply.j0 k l w false r.f0 r.f1 r.f2 r.f3 r.f4 r.f5) (fun k => ?_) ?_
      · unfold rewrite_Apply.f
        rw [hv, e1, hw, e2]; rfl
      · refine Ev.step (f := fun _ => some _) (fun k => ?_) (Ev.now _)
        simp only [rewrite_Apply.j0]
        rw [if_neg (by decide)]
        have hs : rewrite_Sites.f l r.f0 r.f1 r.f2 r.f3 r.f4 r.f5 w = some (sitesP l r w) := by unfold rewrite_Sites.f; rw [if_pos ⟨h1, h2, h3⟩]
        have ho : rewrite_result.f r.f0 r.f1 r.f2 r.f3 r.f4 r.f5 (sitesP l r w) w = some (outP l r w) := by unfold rewrite_result.f; rw [if_pos ⟨⟨smallR_to h2, h3⟩, rule_to e1, word_len e2⟩]; rfl
        have hc : utf8_RuneCountInString.f (outP l r w) = some (((runesS (outP l r w)).length : Nat) : Int) := by
          unfold utf8_RuneCountInString.f
          rw [if_pos (by have := out_size e1 e2; omega), runeCount_runes]
        rw [hs, Option.bind_some, ho, Option.bind_some, hc, Option.bind_some]
        by_cases h40 : 40 < (runesS (outP l r w)).length
        · rw [if_pos (by omega), if_pos ⟨trivial, trivial⟩, if_pos h40]
        · rw [if_neg (by omega), if_pos ⟨trivial, trivial⟩, if_neg h40]
theorem apply_size (l : List S80) (r : S85) (w : ByteArray) : (applyP l r w).1.size ≤ 820 := by
  unfold applyP
  split
  · rename_i h
    split
    · exact Nat.zero_le _
    · exact out_size h.1 h.2
  · exact Nat.zero_le _
def casF (l : List S80) : List S85 → ByteArray → ByteArray × Int
  | [], w => (w, 0)
  | r :: rs, w => if (applyP l r w).2 = 0 then casF l rs (applyP l r w).1 else ((⟨#[]⟩ : ByteArray), (applyP l r w).2)
def cascadeP (l : List S80) (rules : List S85) (w : ByteArray) : ByteArray × Int := if (rules.length ≤ 64 ∧ admisP l = true) ∧ isWordP l w = true ∧ rules.all (ruleP l) = true then casF l rules w else ((⟨#[]⟩ : ByteArray), 1)
theorem casF_size (l : List S80) : ∀ (rs : List S85) (w : ByteArray) (n : Nat), 820 ≤ n → w.size ≤ n → (casF l rs w).1.size ≤ n
  | [], w, n, _, h => h
  | r :: rs, w, n, h8, h => by
    unfold casF
    split
    · exact casF_size l rs _ n h8 (Nat.le_trans (apply_size l r w) h8)
    · exact Nat.zero_le _
def trL (l : List S80) : List S85 → List ByteArray → ByteArray → List ByteArray × Int
  | [], acc, _ => (acc, 0)
  | r :: rs, acc, w => if (applyP l r w).2 = 0 then trL l rs (acc ++ [(applyP l r w).1]) (applyP l r w).1 else ([], (applyP l r w).2)
theorem trL_cas (l : List S80) : ∀ (rs : List S85) (acc : List ByteArray) (w : ByteArray), (∃ a, acc = a ++ [w]) → acc.length + rs.length ≤ 65 → (trL l rs acc w).2 = (casF l rs w).2 ∧ ((casF l rs w).2 = 0 → ∃ a, (trL l rs acc w).1 = a ++ [(casF l rs w).1] ∧ a.length ≤ 64) ∧ (¬ (casF l rs w).2 = 0 → (casF l rs w).1 = (⟨#[]⟩ : ByteArray))
  | [], acc, w, ⟨a, ha⟩, hn => ⟨rfl, fun _ => ⟨a, ha, by rw [ha, List.length_append] at hn; simp at hn; omega⟩, fun h => absurd rfl h⟩
  | r :: rs, acc, w, ⟨a, ha⟩, hn => by
    unfold trL casF
    by_cases h : (applyP l r w).2 = 0
    · rw [if_pos h, if_pos h]
      exact trL_cas l rs _ _ ⟨acc, rfl⟩ (by rw [List.length_append, List.length_singleton]; rw [List.length_cons] at hn; omega)
    · rw [if_neg h, if_neg h]
      exact ⟨rfl, fun h2 => absurd h2 h, fun _ => rfl⟩
theorem drop_rule (l : List S85) (i : Nat) (h : i < l.length) : l.drop i = rd_T85 l (i : Int) :: l.drop (i + 1) := by
  unfold rd_T85
  rw [List.drop_eq_getElem_cons h, Int.toNat_natCast, List.getD_eq_getElem?_getD, List.getElem?_eq_getElem h]; rfl
theorem last_get (a : List ByteArray) (w : ByteArray) (h : a.length ≤ 1099511627776) : wrap64 (((a ++ [w]).length : Int) - 1) = (a.length : Int) ∧ rdOf ByteArray.empty (a ++ [w]) (a.length : Int) = w := by
  constructor
  · rw [List.length_append, List.length_singleton, wrapIn _ ⟨by omega, by omega⟩]; omega
  · unfold rdOf
    rw [Int.toNat_natCast]; simp
theorem trace_ev (l : List S80) (rules : List S85) (w : ByteArray) (h1 : runesOk l = true) (h2 : rules.all smallR = true) (h3 : w.size ≤ 1099511627776) (hl : l.length ≤ 9223372036854775807) : Ev (fun k => rewrite_Trace.f k l rules w) (if (rules.length ≤ 64 ∧ admisP l = true) ∧ isWordP l w = true ∧ rules.all (ruleP l) = true then trL l rules [w] w else ([], 1)) := by
  have bad : Ev (fun k => rewrite_Trace.j0 k l rules w true) (([] : List ByteArray), 1) := by
    refine Ev.step (f := fun _ => some _) (fun k => ?_) (Ev.now _)
    simp only [rewrite_Trace.j0]; rfl
  have hw : rewrite_letters_isWord.f l w = some (isWordP l w) := by unfold rewrite_letters_isWord.f; rw [if_pos h3]
  by_cases c1 : rules.length ≤ 64
  · refine Ev.congr (f := fun k => (rewrite_letters_admissible.f k l).bind fun t193 => (if t193 = true then ((rewrite_letters_isWord.f l w).bind fun t194 => (rewrite_Trace.j0 k l rules w (!t194))) else (rewrite_Trace.j0 k l rules w true))) (fun k => ?_) (Ev.bind (admissible_ev l hl) ?_)
    · unfold rewrite_Trace.f; rw [if_neg (by omega)]
    cases c2 : admisP l with
    | false => rw [if_neg (by simp)]; simp only [Bool.false_eq_true, if_false]; exact bad
    | true =>
      simp only [if_true]
      rw [hw]
      cases c3 : isWordP l w with
      | false => rw [if_neg (by simp)]; exact bad
      | true =>
        have hloop : ∀ d i (acc : List ByteArray) (u : ByteArray), rules.length - i = d → i ≤ rules.length → (∃ a, acc = a ++ [u] ∧ a.length ≤ i) → u.size ≤ 1099511627776 → Ev (fun k => rewrite_Trace.l1 k l acc rules (rules.length : Int) (i : Int)) (trL l (rules.drop i) acc u) := by
          intro d
          induction d with
          | zero =>
            intro i acc u hd hi ha hu
            obtain rfl : i = rules.length := by omega
            rw [List.drop_length]
            refine Ev.step (f := fun _ => some _) (fun k => ?_) (Ev.now _)
            simp only [rewrite_Trace.l1]; rw [if_neg (by omega)]; rfl
          | succ d ih =>
            intro i acc u hd hi ha hu
            obtain ⟨a, rfl, hal⟩ := ha
            have hlt : i < rules.length := by omega
            obtain ⟨g1, g2⟩ := last_get a u (by omega)
            rw [drop_rule rules i hlt]
            have hmem : rd_T85 rules (i : Int) ∈ rules := by
              have := drop_rule rules i hlt
              exact List.mem_of_mem_drop (i := i) (by rw [this]; simp)
            obtain ⟨R, hR⟩ : ∃ R, rd_T85 rules (i : Int) = R := ⟨_, rfl⟩
            rw [hR] at hmem
            refine Ev.step (f := fun k => (rewrite_Apply.f k l R.f0 R.f1 R.f2 R.f3 R.f4 R.f5 u).bind fun bt204 => (if bt204.2 = 0 then (if (a ++ [u]).length < 8796093022208 then (rewrite_Trace.l1 k l ((a ++ [u]) ++ [bt204.1]) rules (rules.length : Int) ((i + 1 : Nat) : Int)) else (none)) else (some (([] : List ByteArray), bt204.2)))) (fun k => ?_) ?_
            · simp only [rewrite_Trace.l1]
              rw [if_pos (by omega), if_pos (by omega), if_pos (by omega), g1, if_pos (by omega), if_pos Gc13, g2, hR, idx_next hlt (by omega)]
            · refine Ev.bind (apply_ev l R u h1 (List.all_eq_true.1 h2 R hmem) hu) ?_
              rw [hR]
              unfold trL
              by_cases e : (applyP l R u).2 = 0
              · rw [if_pos e]
                refine Ev.congr (fun k => ?_) (ih (i + 1) _ _ (by omega) (by omega) ⟨a ++ [u], rfl, by rw [List.length_append, List.length_singleton]; omega⟩ (Nat.le_trans (apply_size l R u) (by decide)))
                rw [if_pos e, if_pos Gc13]
              · rw [if_neg e]
                refine Ev.congr (f := fun _ => some _) (fun k => ?_) (Ev.now _)
                rw [if_neg e]
        have hall : ∀ d i, rules.length - i = d → i ≤ rules.length → Ev (fun k => rewrite_Trace.l0 k l rules w rules (rules.length : Int) (i : Int)) (if (rules.drop i).all (ruleP l) = true then trL l rules [w] w else ([], 1)) := by
          intro d
          induction d with
          | zero =>
            intro i hd hi
            obtain rfl : i = rules.length := by omega
            rw [List.drop_length]
            refine Ev.step (fun k => ?_) (hloop rules.length 0 [w] w (by omega) (by omega) ⟨[], rfl, by simp⟩ h3)
            simp only [rewrite_Trace.l0]; rw [if_neg (by omega)]; rfl
          | succ d ih =>
            intro i hd hi
            have hlt : i < rules.length := by omega
            have hmem : rd_T85 rules (i : Int) ∈ rules := by
              have := drop_rule rules i hlt
              exact List.mem_of_mem_drop (i := i) (by rw [this]; simp)
            rw [drop_rule rules i hlt, List.all_cons]
            obtain ⟨R, hR⟩ : ∃ R, rd_T85 rules (i : Int) = R := ⟨_, rfl⟩
            rw [hR] at hmem ⊢
            have hv : rewrite_Valid.f l R.f0 R.f1 R.f2 R.f3 R.f4 R.f5 = some (ruleP l R) := by unfold rewrite_Valid.f; rw [if_pos ⟨h1, List.all_eq_true.1 h2 R hmem⟩]
            cases e : ruleP l R with
            | false =>
              refine Ev.step (f := fun _ => some _) (fun k => ?_) (Ev.now _)
              simp only [rewrite_Trace.l0]
              rw [if_pos (by omega), if_pos (by omega), if_pos (by omega), hR, hv, e]; rfl
            | true =>
              rw [Bool.true_and]
              refine Ev.step (fun k => ?_) (ih (i + 1) (by omega) (by omega))
              simp only [rewrite_Trace.l0]
              rw [if_pos (by omega), if_pos (by omega), if_pos (by omega), hR, hv, e, Option.bind_some, if_pos rfl, idx_next hlt (by omega)]
        refine Ev.congr (f := fun k => rewrite_Trace.j0 k l rules w false) (fun k => rfl) ?_
        refine Ev.step (fun k => ?_) (?_ : Ev (fun k => rewrite_Trace.l0 k l rules w rules (rules.length : Int) ((0 : Nat) : Int)) _)
        · simp only [rewrite_Trace.j0]; rw [if_neg (by decide)]; rfl
        · have := hall rules.length 0 (by omega) (by omega)
          rw [List.drop_zero] at this
          by_cases c4 : rules.all (ruleP l) = true
          · rw [if_pos c4] at this; rw [if_pos ⟨⟨c1, trivial⟩, rfl, c4⟩]; exact this
          · rw [if_neg c4] at this; rw [if_neg (fun h => c4 h.2.2)]; exact this
  · rw [if_neg (fun h => c1 h.1.1)]
    refine Ev.congr (fun k => ?_) bad
    unfold rewrite_Trace.f; rw [if_pos (by omega)]
theorem cascade_ev (l : List S80) (rules : List S85) (w : ByteArray) (h1 : runesOk l = true) (h2 : rules.all smallR = true) (h3 : w.size ≤ 1099511627776) (hl : l.length ≤ 9223372036854775807) : Ev (fun k => rewrite_Cascade.f k l rules w) (cascadeP l rules w) := by
  refine Ev.congr (fun k => rfl) (Ev.bind (trace_ev l rules w h1 h2 h3 hl) ?_)
  unfold cascadeP
  by_cases c : (rules.length ≤ 64 ∧ admisP l = true) ∧ isWordP l w = true ∧ rules.all (ruleP l) = true
  · rw [if_pos c, if_pos c]
    obtain ⟨e1, e2, e3⟩ := trL_cas l rules [w] w ⟨[], rfl⟩ (by have := c.1.1; simp; omega)
    rw [e1]
    by_cases z : (casF l rules w).2 = 0
    · obtain ⟨a, ha, hal⟩ := e2 z
      obtain ⟨g1, g2⟩ := last_get a (casF l rules w).1 (by omega)
      refine Ev.congr (f := fun _ => some _) (fun k => ?_) (Ev.now _)
      rw [if_pos z, ha, g1, if_pos (by omega), if_pos Gc13, g2]
      congr 1
      exact Prod.ext rfl z.symm
    · refine Ev.congr (f := fun _ => some _) (fun k => ?_) (Ev.now _)
      rw [if_neg z]
      congr 1
      exact Prod.ext (e3 z).symm rfl
  · rw [if_neg c, if_neg c]
    refine Ev.congr (f := fun _ => some _) (fun k => ?_) (Ev.now _)
    rw [if_neg (by decide)]
theorem cascade_size (l : List S80) (rules : List S85) (w : ByteArray) (n : Nat) (hn : 820 ≤ n) (h : w.size ≤ n) : (cascadeP l rules w).1.size ≤ n := by
  unfold cascadeP
  split
  · exact casF_size l rules w n hn h
  · exact Nat.zero_le _
theorem cascade_calls (A0 : Option Addr) (c0 : Nat) (l0 : List S80) (A1 : Option Addr) (c1 : Nat) (l1 : List S85) (a2 : ByteArray) (w : World) (hT : Tabs w) (hr0 : Kd.C k80 w A0 l0.length l0) (hc0 : l0.length ≤ c0) (hr1 : Kd.C k85 w A1 l1.length l1) (hc1 : l1.length ≤ c1) (h1 : runesOk l0 = true) (h2 : l1.all smallR = true) (h3 : a2.size ≤ 1099511627776) :
    Calls Tryd.prog 70 #[.slice A0 l0.length c0, .slice A1 l1.length c1, .string a2] w fun e w' => e = .returned (.tuple #[.string (cascadeP l0 l1 a2).1, .int .i64 (cascadeP l0 l1 a2).2]) ∧ Below w.heap.size w w' := by
  obtain ⟨k, hk⟩ := (cascade_ev l0 l1 a2 h1 h2 h3 hr0.2.1).rounds
  exact rewrite_Cascade.calls k A0 c0 l0 A1 c1 l1 a2 _ _ w hT hr0 hc0 hr1 hc1 hk
theorem refIndex6_ev (l : List S80) (r : Int) (hl : l.length ≤ 9223372036854775807) : Ev (fun k => pentaglotref06_Index.f k l r) (idxI l r) := by
  have key : ∀ d i, l.length - i = d → i ≤ l.length → look l i r = none → Ev (fun k => pentaglotref06_Index.l0 k l r (i : Int)) (idxI l r) := by
    intro d
    induction d with
    | zero =>
      intro i hd hi hn
      obtain rfl : i = l.length := by omega
      refine Ev.step (f := fun _ => some (-1)) (fun k => ?_) ?_
      · simp only [pentaglotref06_Index.l0]; rw [if_neg (by omega)]
      · unfold idxI; rw [hn]; exact Ev.now _
    | succ d ih =>
      intro i hd hi hn
      have hlt : i < l.length := by omega
      by_cases hr : (rd_T80 l (i : Int)).f0 = r
      · have h1 : look l (i + 1) r = some i := by unfold look; rw [hn]; simp [hr]
        refine Ev.step (f := fun _ => some (i : Int)) (fun k => ?_) ?_
        · simp only [pentaglotref06_Index.l0]; rw [if_pos (by omega), if_pos (by omega), if_pos hr]
        · unfold idxI; rw [look_mono l r _ _ h1 l.length (by omega)]; exact Ev.now _
      · refine Ev.step (fun k => ?_) (ih (i + 1) (by omega) (by omega) (by unfold look; rw [hn]; simp [hr]))
        simp only [pentaglotref06_Index.l0]; rw [if_pos (by omega), if_pos (by omega), if_neg hr, idx_next hlt hl]
  exact key _ 0 rfl (by omega) rfl
theorem idx_isL (l : List S80) (r : Int) : decide (idxI l r ≥ 0) = isL l r := by
  unfold idxI isL
  cases look l l.length r with
  | none => rfl
  | some j => simp
def ext (l : List S80) : List S80 := l ++ [(⟨61, 2147483648⟩ : S80)]
theorem ext_runes {l : List S80} (h : runesOk l = true) : runesOk (ext l) = true := by
  unfold runesOk ext at *
  rw [List.all_append, h]; rfl
theorem ext_len (l : List S80) : (ext l).length = l.length + 1 := by unfold ext; simp
def no61 (s : ByteArray) : Bool := s.data.toList.all fun b => b != 61
theorem indexByte_no : ∀ (l : List UInt8) (c : UInt8), (indexByte l c = -1 ∨ 0 ≤ indexByte l c) ∧ ((indexByte l c ≥ 0) ↔ ¬ l.all (fun b => b != c) = true)
  | [], c => by simp [indexByte]
  | b :: l, c => by
    obtain ⟨h1, h2⟩ := indexByte_no l c
    unfold indexByte
    by_cases e : b = c
    · subst e; simp
    · have e1 : (b == c) = false := beq_eq_false_iff_ne.2 e
      have e2 : (b != c) = true := by unfold bne; rw [e1]; rfl
      rw [e1, List.all_cons, e2, Bool.true_and]
      simp only [Bool.false_eq_true, if_false]
      by_cases e3 : indexByte l c = -1
      · rw [e3] at h2 ⊢
        simp at h2 ⊢
        exact h2
      · have e4 : (indexByte l c == -1) = false := beq_eq_false_iff_ne.2 e3
        rw [e4]
        simp only [Bool.false_eq_true, if_false]
        exact ⟨.inr (by omega), ⟨fun _ => h2.1 (by omega), fun _ => by omega⟩⟩
def ruleOk (x : List S80) (r : S85) : Bool := (decide (r.f0 ≠ 61) && no61 r.f1) && ruleP x r
def cliticP (l : List S80) (s : List S85) : Bool := (validA l && !isL l 61) && (decide (s.length ≤ 64) && s.all (ruleOk (ext l)))
theorem clitic_ev (l : List S80) (s : List S85) (h1 : runesOk l = true) (h2 : s.all smallR = true) : Ev (fun k => clitic_Valid.f k l s) (cliticP l s) := by
  have hva : alphabet_Valid.f l = some (validA l) := by unfold alphabet_Valid.f; rw [if_pos h1]
  have hix : alphabet_Index.f l 61 = some (idxI l 61) := by unfold alphabet_Index.f; rw [if_pos ⟨h1, by decide⟩]
  have bad : Ev (fun k => clitic_Valid.j0 k l s true) false := by
    refine Ev.step (f := fun _ => some _) (fun k => ?_) (Ev.now _)
    simp only [clitic_Valid.j0]; rfl
  unfold cliticP
  cases c1 : validA l with
  | false =>
    refine Ev.congr (fun k => ?_) bad
    unfold clitic_Valid.f; rw [hva, c1]; rfl
  | true =>
    have hll : l.length ≤ 64 := by
      unfold validA at c1
      simp only [Bool.and_eq_true, decide_eq_true_eq] at c1
      exact c1.2.1
    cases c2 : isL l 61 with
    | true =>
      refine Ev.congr (fun k => ?_) bad
      have := idx_isL l 61
      rw [c2, decide_eq_true_eq] at this
      unfold clitic_Valid.f; rw [hva, c1, Option.bind_some, if_pos rfl, hix, Option.bind_some, if_pos this]
    | false =>
      have hn : ¬ idxI l 61 ≥ 0 := by
        have := idx_isL l 61
        rw [c2] at this
        exact of_decide_eq_false this
      refine Ev.congr (f := fun k => clitic_Valid.j0 k l s (decide ((s.length : Int) > 64))) (fun k => ?_) ?_
      · unfold clitic_Valid.f; rw [hva, c1, Option.bind_some, if_pos rfl, hix, Option.bind_some, if_neg hn]
      · by_cases c3 : s.length ≤ 64
        · rw [decide_eq_false (show ¬ (s.length : Int) > 64 by omega), decide_eq_true c3]
          have hex : clitic_Extended.f l = some (ext l) := by
            unfold clitic_Extended.f api_Letter.f
            rw [if_pos (by omega), Option.bind_some, if_pos (by omega)]; rfl
          have key : ∀ d i, s.length - i = d → i ≤ s.length → Ev (fun k => clitic_Valid.l0 k (ext l) s (s.length : Int) (i : Int)) ((s.drop i).all (ruleOk (ext l))) := by
            intro d
            induction d with
            | zero =>
              intro i hd hi
              obtain rfl : i = s.length := by omega
              rw [List.drop_length]
              refine Ev.step (f := fun _ => some true) (fun k => ?_) (Ev.now _)
              simp only [clitic_Valid.l0]; rw [if_neg (by omega)]
            | succ d ih =>
              intro i hd hi
              have hlt : i < s.length := by omega
              have hmem : rd_T85 s (i : Int) ∈ s := by
                have := drop_rule s i hlt
                exact List.mem_of_mem_drop (i := i) (by rw [this]; simp)
              rw [drop_rule s i hlt, List.all_cons]
              obtain ⟨R, hR⟩ : ∃ R, rd_T85 s (i : Int) = R := ⟨_, rfl⟩
              rw [hR] at hmem ⊢
              have hv : rewrite_Valid.f (ext l) R.f0 R.f1 R.f2 R.f3 R.f4 R.f5 = some (ruleP (ext l) R) := by unfold rewrite_Valid.f; rw [if_pos ⟨ext_runes h1, List.all_eq_true.1 h2 R hmem⟩]
              have hib : strings_IndexByte.f R.f1 61 = some (indexByte R.f1.data.toList 61) := rfl
              obtain ⟨hb1, hb2⟩ := indexByte_no R.f1.data.toList 61
              unfold ruleOk
              by_cases d1 : R.f0 = 61
              · refine Ev.step (f := fun _ => some false) (fun k => ?_) ?_
                · simp only [clitic_Valid.l0]; rw [if_pos (by omega), if_pos (by omega), if_pos (by omega), hR, if_pos d1]
                · rw [decide_eq_false (by simpa using d1)]; exact Ev.now _
              · rw [decide_eq_true d1, Bool.true_and]
                by_cases d2 : no61 R.f1 = true
                · have d2' : ¬ indexByte R.f1.data.toList 61 ≥ 0 := fun h => hb2.1 h d2
                  rw [d2, Bool.true_and]
                  cases d3 : ruleP (ext l) R with
                  | false =>
                    refine Ev.step (f := fun _ => some false) (fun k => ?_) (Ev.now _)
                    simp only [clitic_Valid.l0]; rw [if_pos (by omega), if_pos (by omega), if_pos (by omega), hR, if_neg d1, hib, Option.bind_some, if_neg d2', hv, d3]; rfl
                  | true =>
                    rw [Bool.true_and]
                    refine Ev.step (fun k => ?_) (ih (i + 1) (by omega) (by omega))
                    simp only [clitic_Valid.l0]; rw [if_pos (by omega), if_pos (by omega), if_pos (by omega), hR, if_neg d1, hib, Option.bind_some, if_neg d2', hv, d3, Option.bind_some, if_pos rfl, idx_next hlt (by omega)]
                · have d2' : indexByte R.f1.data.toList 61 ≥ 0 := hb2.2 d2
                  refine Ev.step (f := fun _ => some false) (fun k => ?_) ?_
                  · simp only [clitic_Valid.l0]; rw [if_pos (by omega), if_pos (by omega), if_pos (by omega), hR, if_neg d1, hib, Option.bind_some, if_pos d2']
                  · rw [show no61 R.f1 = false by simpa using d2]; exact Ev.now _
          refine Ev.step (fun k => ?_) (key s.length 0 (by omega) (by omega))
          simp only [clitic_Valid.j0]; rw [if_neg (by decide), hex]; rfl
        · rw [decide_eq_true (show (s.length : Int) > 64 by omega), decide_eq_false c3]
          exact bad
theorem look_once (l : List S80) (i : Nat) (h : i < l.length) : idxI l (rd_T80 l (i : Int)).f0 = (i : Int) ↔ look l i (rd_T80 l (i : Int)).f0 = none := by
  obtain ⟨R, hR⟩ : ∃ R, (rd_T80 l (i : Int)).f0 = R := ⟨_, rfl⟩
  rw [hR]
  cases e : look l i R with
  | some j =>
    have hj := look_lt l R i j e
    have : idxI l R = (j : Int) := by unfold idxI; rw [look_mono l R _ _ e l.length (by omega)]
    rw [this]
    exact ⟨fun h => by omega, fun h => by cases h⟩
  | none =>
    have h1 : look l (i + 1) R = some i := by unfold look; rw [e]; simp [hR]
    have : idxI l R = (i : Int) := by unfold idxI; rw [look_mono l R _ _ h1 l.length (by omega)]
    exact ⟨fun _ => rfl, fun _ => this⟩
theorem good_ref (x : Int) : goodR x = (if x > 32 then (if x < 55296 then decide (x ≤ 1114111) else if x > 57343 then decide (x ≤ 1114111) else false) else false) := by
  unfold goodR Lib.validRune
  rw [Bool.eq_iff_iff]
  repeat' split
  all_goals simp
  all_goals omega
theorem adm07_ev (l : List S80) (hl : l.length ≤ 9223372036854775807) : Ev (fun k => pentaglotref07_Admissible.f k l) (admisP l) := by
  have key : ∀ d i, l.length - i = d → i ≤ l.length → onceI l i = true → Ev (fun k => pentaglotref07_Admissible.l0 k l (i : Int)) (((l.drop i).all fun x => goodR x.f0) && (onceI l l.length && (decide (1 ≤ l.length) && decide (l.length ≤ 65)))) := by
    intro d
    induction d with
    | zero =>
      intro i hd hi ho
      obtain rfl : i = l.length := by omega
      rw [List.drop_length, ho]
      refine Ev.step (f := fun _ => some (decide (1 ≤ l.length) && decide (l.length ≤ 65))) (fun k => ?_) (Ev.now _)
      simp only [pentaglotref07_Admissible.l0]; rw [if_neg (by omega)]
      by_cases h1 : 1 ≤ l.length
      · rw [if_pos (by omega), decide_eq_true h1, Bool.true_and]; congr 1; exact decide_eq_decide.2 (by omega)
      · rw [if_neg (by omega), decide_eq_false h1]; rfl
    | succ d ih =>
      intro i hd hi ho
      have hlt : i < l.length := by omega
      rw [drop_rd l i hlt, List.all_cons]
      have hlo := look_once l i hlt
      have hos := once_step l i
      obtain ⟨R, hR⟩ : ∃ R, (rd_T80 l (i : Int)).f0 = R := ⟨_, rfl⟩
      rw [hR] at hos hlo ⊢
      by_cases c1 : R ≤ 32
      · refine Ev.step (f := fun _ => some false) (fun k => ?_) ?_
        · simp only [pentaglotref07_Admissible.l0, hR]; rw [if_pos (by omega), if_pos (by omega), if_pos c1]
        · rw [show goodR R = false by unfold goodR; rw [decide_eq_false (show ¬ 32 < R by omega)]; rfl, Bool.false_and, Bool.false_and]; exact Ev.now _
      · refine Ev.step (f := fun k => (utf8_ValidRune.f k R).bind fun t333 => (if t333 = true then ((pentaglotref07_Index.f k l R).bind fun t335 => (if t335 = (i : Int) then (pentaglotref07_Admissible.l0 k l ((i + 1 : Nat) : Int)) else (some false))) else (some false))) (fun k => ?_) ?_
        · simp only [pentaglotref07_Admissible.l0, hR]; rw [if_pos (by omega), if_pos (by omega), if_neg c1, idx_next hlt hl]
        · refine Ev.bind (vr_ev R) ?_
          cases c2 : Lib.validRune R with
          | false => rw [show goodR R = false by unfold goodR; rw [c2]; simp, Bool.false_and, Bool.false_and]; exact Ev.now _
          | true =>
            rw [show goodR R = true by unfold goodR; rw [c2, decide_eq_true (show 32 < R by omega)]; rfl, Bool.true_and]
            simp only [if_true]
            refine Ev.bind (refIndex7_ev l R hl) ?_
            by_cases e : idxI l R = (i : Int)
            · have e2 := hlo.1 e
              rw [e2, ho] at hos
              refine Ev.congr (fun k => ?_) (ih (i + 1) (by omega) (by omega) (by rw [hos]; rfl))
              rw [if_pos e]
            · have e2 : (look l i R).isNone = false := by
                cases e3 : look l i R with
                | none => exact absurd (hlo.2 e3) e
                | some j => rfl
              rw [e2, Bool.and_false] at hos
              rw [once_mono l (i + 1) hos l.length (by omega), Bool.false_and, Bool.and_false]
              refine Ev.congr (f := fun _ => some false) (fun k => ?_) (Ev.now _)
              rw [if_neg e]
  have h := key _ 0 rfl (Nat.zero_le _) rfl
  rw [List.drop_zero] at h
  refine (?_ : _ = admisP l) ▸ h
  unfold admisP properP
  cases (l.all fun x => goodR x.f0) <;> cases onceI l l.length <;> simp
theorem pat07_ev (l : List S80) (p : List S82) (hp : p.length ≤ 9223372036854775807) (hs : smallP p = true) : Ev (fun k => pentaglotref07_pattern.f k l p) (decide (p.length ≤ 3) && itemsP l p) := by
  have key : ∀ d i, p.length - i = d → i ≤ p.length → Ev (fun k => pentaglotref07_pattern.l0 k l p (i : Int)) ((p.drop i).all (fun x => (overQ l x.f1).2) && decide (p.length ≤ 3)) := by
    intro d
    induction d with
    | zero =>
      intro i hd hi
      obtain rfl : i = p.length := by omega
      rw [List.drop_length]
      refine Ev.step (f := fun _ => some (decide (p.length ≤ 3))) (fun k => ?_) (Ev.now _)
      simp only [pentaglotref07_pattern.l0]; rw [if_neg (by omega)]
      congr 1; exact decide_eq_decide.2 (by omega)
    | succ d ih =>
      intro i hd hi
      have hlt : i < p.length := by omega
      have hmem := mem_item p i hlt
      rw [drop_item p i hlt, List.all_cons]
      obtain ⟨X, hX⟩ : ∃ X, rd_T82 p (i : Int) = X := ⟨_, rfl⟩
      rw [hX] at hmem ⊢
      have hsz : X.f1.size ≤ 1099511627776 := by
        have := List.all_eq_true.1 hs X hmem
        simpa using this
      have hle : pentaglotref07_Letters.f l X.f1 = some (lettersP l X.f1) := by unfold pentaglotref07_Letters.f; rw [if_pos hsz]
      have h2 : (lettersP l X.f1).2 = (overQ l X.f1).2 := by
        unfold lettersP overQ
        cases (runesS X.f1).all (isL l) <;> cases validD X.f1.data.toList <;> simp
      cases e : (overQ l X.f1).2 with
      | false =>
        refine Ev.step (f := fun _ => some false) (fun k => ?_) (Ev.now _)
        simp only [pentaglotref07_pattern.l0, hX]; rw [if_pos (by omega), if_pos (by omega), hle, Option.bind_some, h2, e]; rfl
      | true =>
        rw [Bool.true_and]
        refine Ev.step (fun k => ?_) (ih (i + 1) (by omega) (by omega))
        simp only [pentaglotref07_pattern.l0, hX]; rw [if_pos (by omega), if_pos (by omega), hle, Option.bind_some, h2, e, if_pos rfl, idx_next hlt hp]
  have h := key _ 0 rfl (Nat.zero_le _)
  rw [List.drop_zero, Bool.and_comm] at h
  exact h
theorem valid07_ev (l : List S80) (r : S85) (hl : l.length ≤ 9223372036854775807) (h2 : r.f2.length ≤ 9223372036854775807) (h3 : r.f3.length ≤ 9223372036854775807) (hs : smallR r = true) : Ev (fun k => pentaglotref07_Valid.f k l r.f0 r.f1 r.f2 r.f3 r.f4 r.f5) (ruleP l r) := by
  obtain ⟨s1, s2, s3⟩ : r.f1.size ≤ 1099511627776 ∧ smallP r.f2 = true ∧ smallP r.f3 = true := by
    unfold smallR at hs
    simp only [Bool.and_eq_true, decide_eq_true_eq] at hs
    exact hs
  have hle : pentaglotref07_Letters.f l r.f1 = some (lettersP l r.f1) := by unfold pentaglotref07_Letters.f; rw [if_pos s1]
  obtain ⟨B, hB⟩ : ∃ B : Bool, ((lettersP l r.f1).2 && decide ((lettersP l r.f1).1.length ≤ 4)) = B := ⟨_, rfl⟩
  have hco : consistsP l r.f1 4 = B := by
    rw [← hB]
    unfold consistsP lettersP
    cases (runesS r.f1).all (isL l) <;> cases validD r.f1.data.toList <;> simp
  have rest : admisP l = true → Ev (fun k => (if (lettersP l r.f1).2 = true then (if ((lettersP l r.f1).1.length : Int) ≤ 4 then ((pentaglotref07_pattern.f k l r.f2).bind fun t350 => (if t350 = true then ((pentaglotref07_pattern.f k l r.f3).bind fun t351 => (some t351)) else (some false))) else (some false)) else (some false))) (consistsP l r.f1 4 && (patP l r.f2 && patP l r.f3)) := by
    intro ha
    have hpr : properP l = true := by unfold admisP at ha; rw [Bool.and_eq_true] at ha; exact ha.2
    rw [hco, ← hB]
    unfold patP
    rw [hpr, Bool.true_and, Bool.true_and]
    cases c1 : (lettersP l r.f1).2 with
    | false => exact Ev.congr (f := fun _ => some false) (fun k => if_neg (by decide)) (Ev.now _)
    | true =>
      by_cases c2 : (lettersP l r.f1).1.length ≤ 4
      · rw [decide_eq_true c2]
        simp only [Bool.true_and]
        refine Ev.congr (f := fun k => ((pentaglotref07_pattern.f k l r.f2).bind fun t350 => (if t350 = true then ((pentaglotref07_pattern.f k l r.f3).bind fun t351 => (some t351)) else (some false)))) (fun k => ?_) ?_
        · first | rw [if_pos rfl, if_pos (by omega)] | rw [if_pos trivial, if_pos (by omega)]
        · refine Ev.bind (pat07_ev l r.f2 h2 s2) ?_
          cases c3 : (decide (r.f2.length ≤ 3) && itemsP l r.f2) with
          | false => exact Ev.now _
          | true =>
            simp only [Bool.true_and, if_true]
            refine Ev.bind (pat07_ev l r.f3 h3 s3) (Ev.now _)
      · rw [decide_eq_false c2]
        refine Ev.congr (f := fun _ => some false) (fun k => ?_) (Ev.now _)
        first | rw [if_pos rfl, if_neg (by omega)] | rw [if_pos trivial, if_neg (by omega)]
  unfold ruleP
  refine Ev.congr (f := fun k => (pentaglotref07_Admissible.f k l).bind fun t346 => (if t346 = true then (if r.f0 = 0 then (if (lettersP l r.f1).2 = true then (if ((lettersP l r.f1).1.length : Int) ≤ 4 then ((pentaglotref07_pattern.f k l r.f2).bind fun t347 => (if t347 = true then ((pentaglotref07_pattern.f k l r.f3).bind fun t348 => (some t348)) else (some false))) else (some false)) else (some false)) else ((pentaglotref07_Index.f k l r.f0).bind fun t349 => (if t349 ≥ 0 then (if (lettersP l r.f1).2 = true then (if ((lettersP l r.f1).1.length : Int) ≤ 4 then ((pentaglotref07_pattern.f k l r.f2).bind fun t350 => (if t350 = true then ((pentaglotref07_pattern.f k l r.f3).bind fun t351 => (some t351)) else (some false))) else (some false)) else (some false)) else (some false)))) else (some false))) (fun k => ?_) (Ev.bind (adm07_ev l hl) ?_)
  · unfold pentaglotref07_Valid.f; rw [hle]; rfl
  cases ca : admisP l with
  | false => exact Ev.now _
  | true =>
    rw [Bool.true_and]
    by_cases c0 : r.f0 = 0
    · rw [decide_eq_true c0, Bool.true_or, Bool.true_and]
      refine Ev.congr (fun k => ?_) (rest ca)
      rw [if_pos rfl, if_pos c0]
    · rw [decide_eq_false c0, Bool.false_or]
      refine Ev.congr (f := fun k => ((pentaglotref07_Index.f k l r.f0).bind fun t349 => (if t349 ≥ 0 then (if (lettersP l r.f1).2 = true then (if ((lettersP l r.f1).1.length : Int) ≤ 4 then ((pentaglotref07_pattern.f k l r.f2).bind fun t350 => (if t350 = true then ((pentaglotref07_pattern.f k l r.f3).bind fun t351 => (some t351)) else (some false))) else (some false)) else (some false)) else (some false)))) (fun k => ?_) (Ev.bind (refIndex7_ev l r.f0 hl) ?_)
      · rw [if_pos rfl, if_neg c0]
      · have hd := idx_isL l r.f0
        cases e : isL l r.f0 with
        | false =>
          rw [e] at hd
          refine Ev.congr (f := fun _ => some false) (fun k => ?_) (Ev.now _)
          rw [if_neg (of_decide_eq_false hd)]
        | true =>
          rw [e] at hd
          rw [Bool.true_and]
          refine Ev.congr (fun k => ?_) (rest ca)
          rw [if_pos (of_decide_eq_true hd)]
theorem proper06_ev (l : List S80) (hl : l.length ≤ 9223372036854775807) : Ev (fun k => pentaglotref06_Proper.f k l) (properP l) := by
  have key : ∀ d i, l.length - i = d → i ≤ l.length → onceI l i = true → Ev (fun k => pentaglotref06_Proper.l0 k l (i : Int)) (((l.drop i).all fun x => goodR x.f0) && onceI l l.length) := by
    intro d
    induction d with
    | zero =>
      intro i hd hi ho
      obtain rfl : i = l.length := by omega
      rw [List.drop_length, ho]
      refine Ev.step (f := fun _ => some true) (fun k => ?_) (Ev.now _)
      simp only [pentaglotref06_Proper.l0]; rw [if_neg (by omega)]
    | succ d ih =>
      intro i hd hi ho
      have hlt : i < l.length := by omega
      rw [drop_rd l i hlt, List.all_cons]
      have hos := once_step l i
      obtain ⟨R, hR⟩ : ∃ R, (rd_T80 l (i : Int)).f0 = R := ⟨_, rfl⟩
      rw [hR] at hos ⊢
      have hcd : pentaglotref06_code.f R = some (goodR R) := by
        unfold pentaglotref06_code.f
        rw [good_ref]
        repeat' split
        all_goals rfl
      cases c2 : goodR R with
      | false =>
        refine Ev.step (f := fun _ => some false) (fun k => ?_) (Ev.now _)
        simp only [pentaglotref06_Proper.l0, hR]; rw [if_pos (by omega), if_pos (by omega), hcd, c2]; rfl
      | true =>
        rw [Bool.true_and]
        refine Ev.step (f := fun k => (pentaglotref06_Index.f k (l.take i) R).bind fun t319 => (if t319 ≥ 0 then (some false) else (pentaglotref06_Proper.l0 k l ((i + 1 : Nat) : Int)))) (fun k => ?_) ?_
        · simp only [pentaglotref06_Proper.l0, hR]; rw [if_pos (by omega), if_pos (by omega), hcd, c2, Option.bind_some, if_pos rfl, if_pos (by omega), Int.toNat_natCast, idx_next hlt hl]
        · refine Ev.bind (refIndex6_ev (l.take i) R (by rw [List.length_take]; omega)) ?_
          have hd := idx_isL (l.take i) R
          have hh : isL (l.take i) R = (look l i R).isSome := by
            unfold isL
            rw [List.length_take, Nat.min_eq_left (by omega), look_take l i R i (Nat.le_refl _)]
          rw [hh] at hd
          cases e : look l i R with
          | some j =>
            rw [e] at hd
            rw [e, ho] at hos
            rw [once_mono l (i + 1) (by rw [hos]; rfl) l.length (by omega), Bool.and_false]
            refine Ev.congr (f := fun _ => some false) (fun k => ?_) (Ev.now _)
            rw [if_pos (of_decide_eq_true hd)]
          | none =>
            rw [e] at hd
            rw [e, ho] at hos
            refine Ev.congr (fun k => ?_) (ih (i + 1) (by omega) (by omega) (by rw [hos]; rfl))
            rw [if_neg (of_decide_eq_false hd)]
  unfold properP
  by_cases h65 : l.length ≤ 65
  · have h := key _ 0 rfl (Nat.zero_le _) rfl
    rw [List.drop_zero] at h
    rw [decide_eq_true h65, Bool.and_true]
    refine Ev.congr (fun k => ?_) h
    unfold pentaglotref06_Proper.f; rw [if_neg (by omega)]; rfl
  · rw [decide_eq_false h65, Bool.and_false, Bool.and_false]
    refine Ev.congr (f := fun _ => some false) (fun k => ?_) (Ev.now _)
    unfold pentaglotref06_Proper.f; rw [if_pos (by omega)]
theorem alph10_ev (l : List S80) (hl : l.length ≤ 9223372036854775807) : Ev (fun k => pentaglotref10_Alphabet.f k l) (validA l) := by
  unfold validA
  by_cases h1 : 1 ≤ l.length
  · by_cases h2 : l.length ≤ 64
    · have e : (decide (1 ≤ l.length) && (decide (l.length ≤ 64) && ((l.all fun x => goodR x.f0) && onceI l l.length))) = properP l := by
        unfold properP
        rw [decide_eq_true h1, decide_eq_true h2, decide_eq_true (show l.length ≤ 65 by omega)]
        simp
      rw [e]
      refine Ev.congr (f := fun k => (pentaglotref06_Proper.f k l).bind fun t => some t) (fun k => ?_) (Ev.bind (proper06_ev l hl) (Ev.now _))
      unfold pentaglotref10_Alphabet.f; rw [if_pos (by omega), if_pos (by omega)]
    · rw [decide_eq_false h2, Bool.false_and, Bool.and_false]
      refine Ev.congr (f := fun _ => some false) (fun k => ?_) (Ev.now _)
      unfold pentaglotref10_Alphabet.f; rw [if_pos (by omega), if_neg (by omega)]
  · rw [decide_eq_false h1, Bool.false_and]
    refine Ev.congr (f := fun _ => some false) (fun k => ?_) (Ev.now _)
    unfold pentaglotref10_Alphabet.f; rw [if_neg (by omega)]
def okLen (s : List S85) : Bool := s.all fun r => decide (r.f2.length ≤ 1099511627776) && decide (r.f3.length ≤ 1099511627776)
theorem ref14_ev (l : List S80) (s : List S85) (hl : l.length ≤ 9223372036854775807) (hsl : s.length ≤ 9223372036854775807) (h2 : s.all smallR = true) (h3 : okLen s = true) : Ev (fun k => pentaglotref14_Valid.f k l s) (cliticP l s) := by
  have bad : Ev (fun k => pentaglotref14_Valid.j0 k l s true) false := by
    refine Ev.step (f := fun _ => some _) (fun k => ?_) (Ev.now _)
    simp only [pentaglotref14_Valid.j0]; rfl
  unfold cliticP
  refine Ev.congr (fun k => rfl) (Ev.bind (alph10_ev l hl) ?_)
  cases c1 : validA l with
  | false => exact bad
  | true =>
    have hll : l.length ≤ 64 := by
      unfold validA at c1
      simp only [Bool.and_eq_true, decide_eq_true_eq] at c1
      exact c1.2.1
    simp only [if_true]
    refine Ev.bind (refIndex7_ev l 61 hl) ?_
    have hd := idx_isL l 61
    cases c2 : isL l 61 with
    | true =>
      rw [c2] at hd
      refine Ev.congr (fun k => ?_) bad
      rw [if_pos (of_decide_eq_true hd)]
    | false =>
      rw [c2] at hd
      refine Ev.congr (f := fun k => pentaglotref14_Valid.j0 k l s (decide ((s.length : Int) > 64))) (fun k => ?_) ?_
      · rw [if_neg (of_decide_eq_false hd)]
      · by_cases c3 : s.length ≤ 64
        · rw [decide_eq_false (show ¬ (s.length : Int) > 64 by omega), decide_eq_true c3]
          have hex : pentaglotref14_Extended.f l = some (ext l) := by
            unfold pentaglotref14_Extended.f
            rw [Option.bind_some, if_pos (by simp; omega), Option.bind_some, if_pos (by simp; omega)]; rfl
          have bytes : ∀ (R : S85) (i : Nat) (v : Bool), R.f1.size ≤ 1099511627776 → Ev (fun k => pentaglotref14_Valid.l0 k s (ext l) (wrap64 ((i : Int) + 1))) v → ∀ d j, R.f1.size - j = d → j ≤ R.f1.size → Ev (fun k => pentaglotref14_Valid.l1 k s (ext l) (i : Int) (j : Int) R.f0 R.f1 R.f2 R.f3 R.f4 R.f5) ((R.f1.data.toList.drop j).all (fun b => b != 61) && v) := by
            intro R i v hsz hv d
            induction d with
            | zero =>
              intro j hd hj
              obtain rfl : j = R.f1.size := by omega
              rw [← sizeL, List.drop_length]
              refine Ev.step (fun k => ?_) hv
              simp only [pentaglotref14_Valid.l1]; rw [sizeL, if_neg (by omega)]
            | succ d ih =>
              intro j hd hj
              have hlt : j < R.f1.size := by omega
              have hlt2 : j < R.f1.data.toList.length := by rw [sizeL]; exact hlt
              rw [List.drop_eq_getElem_cons hlt2, List.all_cons]
              have hbt : bt R.f1 (j : Int) = ((R.f1.data.toList[j]'hlt2).toNat : Int) := by
                unfold bt
                rw [Int.toNat_natCast, dif_pos hlt]
                simp [ByteArray.getElem_eq_getElem_data]
              by_cases e : R.f1.data.toList[j]'hlt2 = 61
              · refine Ev.step (f := fun _ => some false) (fun k => ?_) ?_
                · simp only [pentaglotref14_Valid.l1]; rw [if_pos (by omega), if_pos (by omega), if_pos (by rw [hbt, e]; rfl)]
                · rw [e]; exact Ev.now _
              · rw [show (R.f1.data.toList[j]'hlt2 != 61) = true by unfold bne; rw [beq_eq_false_iff_ne.2 e]; rfl, Bool.true_and]
                refine Ev.step (fun k => ?_) (ih (j + 1) (by omega) (by omega))
                simp only [pentaglotref14_Valid.l1]; rw [if_pos (by omega), if_pos (by omega), if_neg, idx_next hlt (by omega)]
                rw [hbt]
                intro h9
                apply e
                apply UInt8.toNat_inj.1
                have : (R.f1.data.toList[j]'hlt2).toNat = 61 := by omega
                rw [this]; rfl
          have key : ∀ d i, s.length - i = d → i ≤ s.length → Ev (fun k => pentaglotref14_Valid.l0 k s (ext l) (i : Int)) ((s.drop i).all (ruleOk (ext l))) := by
            intro d
            induction d with
            | zero =>
              intro i hd hi
              obtain rfl : i = s.length := by omega
              rw [List.drop_length]
              refine Ev.step (f := fun _ => some true) (fun k => ?_) (Ev.now _)
              simp only [pentaglotref14_Valid.l0]; rw [if_neg (by omega)]
            | succ d ih =>
              intro i hd hi
              have hlt : i < s.length := by omega
              have hmem : rd_T85 s (i : Int) ∈ s := by
                have := drop_rule s i hlt
                exact List.mem_of_mem_drop (i := i) (by rw [this]; simp)
              rw [drop_rule s i hlt, List.all_cons]
              obtain ⟨R, hR⟩ : ∃ R, rd_T85 s (i : Int) = R := ⟨_, rfl⟩
              rw [hR] at hmem ⊢
              have hln := List.all_eq_true.1 h3 R hmem
              rw [Bool.and_eq_true, decide_eq_true_eq, decide_eq_true_eq] at hln
              have hsm := List.all_eq_true.1 h2 R hmem
              refine Ev.step (f := fun k => (pentaglotref07_Valid.f k (ext l) R.f0 R.f1 R.f2 R.f3 R.f4 R.f5).bind fun t359 => (if t359 = true then (pentaglotref14_Valid.j2 k s (ext l) (i : Int) (R.f0 == 61) R.f0 R.f1 R.f2 R.f3 R.f4 R.f5) else (pentaglotref14_Valid.j2 k s (ext l) (i : Int) true R.f0 R.f1 R.f2 R.f3 R.f4 R.f5))) (fun k => ?_) ?_
              · simp only [pentaglotref14_Valid.l0]; rw [if_pos (by omega), if_pos (by omega), hR]
              · refine Ev.bind (valid07_ev (ext l) R (by rw [ext_len]; omega) (by omega) (by omega) hsm) ?_
                have bad2 : Ev (fun k => pentaglotref14_Valid.j2 k s (ext l) (i : Int) true R.f0 R.f1 R.f2 R.f3 R.f4 R.f5) false := by
                  refine Ev.step (f := fun _ => some _) (fun k => ?_) (Ev.now _)
                  simp only [pentaglotref14_Valid.j2]; rfl
                unfold ruleOk
                cases d3 : ruleP (ext l) R with
                | false => rw [Bool.and_false, Bool.false_and]; exact bad2
                | true =>
                  rw [Bool.and_true]
                  simp only [if_true]
                  by_cases d1 : R.f0 = 61
                  · rw [decide_eq_false (by simpa using d1), Bool.false_and, Bool.false_and, beq_iff_eq.2 d1]; exact bad2
                  · rw [decide_eq_true d1, Bool.true_and, beq_eq_false_iff_ne.2 d1]
                    have hb := bytes R i _ (smallR_to hsm) (by have h9 := ih (i + 1) (by omega) (by omega); rw [← idx_next hlt hsl] at h9; exact h9) R.f1.size 0 (by omega) (by omega)
                    rw [List.drop_zero] at hb
                    refine Ev.step (fun k => ?_) hb
                    simp only [pentaglotref14_Valid.j2]; rw [if_neg (by decide)]; rfl
          refine Ev.step (fun k => ?_) (key s.length 0 (by omega) (by omega))
          simp only [pentaglotref14_Valid.j0]; rw [if_neg (by decide), hex]; rfl
        · rw [decide_eq_true (show (s.length : Int) > 64 by omega), decide_eq_false c3]
          exact bad
end Go.Proofs.YtfbhdjflkaldgaaDoor.Pr
