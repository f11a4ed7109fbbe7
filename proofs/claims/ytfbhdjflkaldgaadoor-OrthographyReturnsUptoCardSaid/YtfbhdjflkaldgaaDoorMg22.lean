/- Several texts in one: Ret, Sge, PureOrthographyReturns. -/
import Derived.Test.YtfbhdjflkaldgaaDoorMg21
import Derived.Test.YtfbhdjflkaldgaaDoorMg20
/- A written text read back: its sentences' words. No program in sight. -/
/- The reference's Segments, plainly. -/
/- OrthographyReturns, plainly. -/
namespace Go.Proofs.YtfbhdjflkaldgaaDoor.Pr
open Go.Proofs.YtfbhdjflkaldgaaDoor.Ct Go.RowKit Go.Maps Go.Lib Go.Proofs.YtfbhdjflkaldgaaDoorW.PrintWords Go.Proofs.YtfbhdjflkaldgaaDoorW.PrintLast Go.Proofs.YtfbhdjflkaldgaaDoorW.PrintMore
set_option linter.unusedVariables false
set_option linter.unusedSimpArgs false
theorem resF_mem (from0 : Bool) (tr : List Int) : ∀ (w : List Int) (sites : List Int) (i : Nat) (r : Int), r ∈ resF from0 tr sites i w → r ∈ tr ∨ r ∈ w
  | [], sites, i, r, h => by
    unfold resF at h
    split at h
    · exact .inl h
    · cases h
  | c :: w, sites, i, r, h => by
    unfold resF at h
    split at h
    · rcases List.mem_append.1 h with h | h
      · exact .inl h
      · rcases List.mem_append.1 h with h | h
        · split at h
          · exact .inr (by simp at h; simp [h])
          · cases h
        · exact (resF_mem from0 tr w _ _ r h).imp id (List.mem_cons_of_mem _)
    · rcases List.mem_cons.1 h with rfl | h
      · exact .inr (by simp)
      · exact (resF_mem from0 tr w _ _ r h).imp id (List.mem_cons_of_mem _)
theorem isL_ext {l : List S80} {r : Int} (h : isL (ext l) r = true) (h61 : r ≠ 61) : isL l r = true := by
  have e := look_take (ext l) l.length r l.length (Nat.le_refl _)
  have e2 : (ext l).take l.length = l := by unfold ext; simp
  rw [e2] at e
  unfold isL at h ⊢
  rw [ext_len] at h
  unfold look at h
  rw [← e] at h
  cases c : look l l.length r with
  | some j => rfl
  | none =>
    exfalso
    rw [c] at h
    simp only at h
    split at h
    · rename_i hr
      apply h61
      rw [← hr]
      unfold rd_T80 ext
      simp
    · cases h
theorem apply_word {x : List S80} {r : S85} {w : ByteArray} (h : (applyP x r w).2 = 0) : isWordP x (applyP x r w).1 = true := by
  unfold applyP at h ⊢
  by_cases hc : ruleP x r = true ∧ isWordP x w = true
  · rw [if_pos hc] at h ⊢
    by_cases h40 : 40 < (runesS (outP x r w)).length
    · rw [if_pos h40] at h; exact absurd h (by decide)
    · rw [if_neg h40]
      have h1 := hc.1
      have h2 := hc.2
      unfold ruleP consistsP at h1
      unfold isWordP at h2
      simp only [Bool.and_eq_true, List.all_eq_true] at h1 h2
      have hsc : ∀ q ∈ resF (decide (r.f0 = 0)) (runesS r.f1) (sitesP x r w) 0 (runesS w), scalar q := resF_scalar _ _ (scalar_runes _) _ _ _ (scalar_runes _)
      have hall : ∀ q ∈ resF (decide (r.f0 = 0)) (runesS r.f1) (sitesP x r w) 0 (runesS w), isL x q = true := fun q hq => by
        rcases resF_mem _ _ _ _ _ q hq with h | h
        · exact h1.2.1.2.1 q h
        · exact h2.2.1 q h
      show isWordP x (outP x r w) = true
      unfold outP resultP at h40 ⊢
      rw [runesS_encS _ hsc] at h40
      unfold isWordP
      rw [encS_list, valid_encL _ hsc, runesS_encS _ hsc, List.all_eq_true.2 hall, decide_eq_true (by omega)]; rfl
  · rw [if_neg hc] at h; exact absurd h (by decide)
theorem casF_word {x : List S80} : ∀ (rs : List S85) (w : ByteArray), isWordP x w = true → (casF x rs w).2 = 0 → isWordP x (casF x rs w).1 = true
  | [], w, h, _ => h
  | r :: rs, w, h, h2 => by
    unfold casF at h2 ⊢
    by_cases e : (applyP x r w).2 = 0
    · rw [if_pos e] at h2 ⊢
      exact casF_word rs _ (apply_word e) h2
    · rw [if_neg e] at h2; exact absurd h2 e
theorem attach_word {l : List S80} {rules : List S85} {h c : ByteArray} (he : (attachP (ext l) rules h c).2 = 0) : isWordP l (attachP (ext l) rules h c).1 = true := by
  unfold attachP at he ⊢
  by_cases h1 : 40 < (runesS h).length + 1 + (runesS c).length
  · rw [if_pos h1] at he; exact absurd he (by decide)
  · rw [if_neg h1] at he ⊢
    by_cases h2 : (cascadeP (ext l) rules (jointS h c)).2 = 0
    · rw [if_pos h2]
      have hw : isWordP (ext l) (cascadeP (ext l) rules (jointS h c)).1 = true := by
        unfold cascadeP at h2 ⊢
        split at h2
        · rename_i hc
          rw [if_pos hc]
          exact casF_word _ _ hc.2.1 h2
        · exact absurd h2 (by decide)
      generalize (cascadeP (ext l) rules (jointS h c)).1 = s at hw
      unfold isWordP at hw
      simp only [Bool.and_eq_true, List.all_eq_true, decide_eq_true_eq] at hw
      have hsc : ∀ q ∈ (runesS s).filter (fun r => r != 61), scalar q := fun q hq => scalar_runes _ q (List.mem_filter.1 hq).1
      have hall : ∀ q ∈ (runesS s).filter (fun r => r != 61), isL l q = true := fun q hq => by
        obtain ⟨a, b⟩ := List.mem_filter.1 hq
        exact isL_ext (hw.2.1 q a) (by simpa using b)
      have hle := List.length_filter_le (fun r : Int => r != 61) (runesS s)
      show isWordP l (encS _) = true
      unfold isWordP
      rw [encS_list, valid_encL _ hsc, runesS_encS _ hsc, List.all_eq_true.2 hall, decide_eq_true (by omega)]; rfl
    · rw [if_neg h2] at he; exact absurd he h2
theorem allF_word {l : List S80} {rules : List S85} : ∀ (cs : List ByteArray) (w : ByteArray), isWordP l w = true → (allF (ext l) rules cs w).2 = 0 → isWordP l (allF (ext l) rules cs w).1 = true
  | [], w, h, _ => h
  | c :: cs, w, h, h2 => by
    unfold allF at h2 ⊢
    by_cases e : (attachP (ext l) rules w c).2 = 0
    · rw [if_pos e] at h2 ⊢
      exact allF_word cs _ (attach_word e) h2
    · rw [if_neg e] at h2; exact absurd h2 e
theorem attachAll_word {l : List S80} {rules : List S85} {h : ByteArray} {cs : List ByteArray} (he : (attachAllP l rules h cs).2 = 0) : isWordP l (attachAllP l rules h cs).1 = true := by
  unfold attachAllP at he ⊢
  split at he
  · rename_i hc
    rw [if_pos hc]
    exact allF_word cs h hc.2.1 he
  · exact absurd he (by decide)
theorem formsF_eq (l : List S80) (rules : List S85) : ∀ (ss : List S57) (acc : List ByteArray), (formsF l rules ss acc).2 = 0 → (formsF l rules ss acc).1 = acc ++ ss.map (fun s => (attachAllP l rules s.f0 s.f1).1) ∧ ∀ s ∈ ss, (attachAllP l rules s.f0 s.f1).2 = 0
  | [], acc, _ => ⟨by unfold formsF; simp, by simp⟩
  | s :: ss, acc, h => by
    unfold formsF at h ⊢
    by_cases e : (attachAllP l rules s.f0 s.f1).2 = 0
    · rw [if_pos e] at h ⊢
      obtain ⟨a, b⟩ := formsF_eq l rules ss _ h
      refine ⟨by rw [a]; simp, fun x hx => ?_⟩
      rcases List.mem_cons.1 hx with rfl | hx
      · exact e
      · exact b x hx
    · rw [if_neg e] at h; exact absurd h e
theorem segF_ne {l : List S80} : ∀ (ts : List ByteArray) (out : List S57), (segF l ts out).2 = true → ts ≠ [] ∨ out ≠ [] → (segF l ts out).1 ≠ []
  | [], out, _, h => h.resolve_left (fun h => h rfl)
  | t :: ts, out, h2, h => by
    unfold segF at h2 ⊢
    by_cases c1 : (cutE t).2 = false
    · rw [if_pos c1] at h2 ⊢
      by_cases c2 : wordP l t = true
      · rw [if_pos c2] at h2 ⊢
        exact segF_ne ts _ h2 (.inr (by simp))
      · rw [if_neg c2] at h2; cases h2
    · rw [if_neg c1] at h2 ⊢
      by_cases c2 : wordP l (cutE t).1 = true ∧ 0 < out.length ∧ (lastF out).f1.length < 2
      · rw [if_pos c2] at h2 ⊢
        refine segF_ne ts _ h2 (.inr (fun e => ?_))
        have := congrArg List.length e
        rw [List.length_set, List.length_nil] at this
        omega
      · rw [if_neg c2] at h2; cases h2
def wordsOf (l : List S80) (rules : List S85) (ts : List ByteArray) : List ByteArray := (segP l ts).1.map fun s => (attachAllP l rules s.f0 s.f1).1
theorem sentence_ok {l : List S80} {rules : List S85} {stop : ByteArray} {ts : List ByteArray} (h : (sentenceP l rules stop ts).2 = 0) : (segP l ts).2 = true ∧ (∀ s ∈ (segP l ts).1, (attachAllP l rules s.f0 s.f1).2 = 0) ∧ sentenceP l rules stop ts = (sentS stop (wordsOf l rules ts), 0) ∧ wordsOf l rules ts ≠ [] ∧ (wordsOf l rules ts).length ≤ 40 ∧ (wordsOf l rules ts).length = (segP l ts).1.length ∧ ∀ w ∈ wordsOf l rules ts, hostB (isL l) w.data.toList = true := by
  unfold sentenceP at h ⊢
  by_cases c1 : (segP l ts).2 = true ∧ orthP l rules stop = true
  · rw [if_pos c1] at h ⊢
    by_cases c2 : (formsF l rules (segP l ts).1 []).2 = 0
    · rw [if_pos c2] at h ⊢
      by_cases c3 : hasE (formsF l rules (segP l ts).1 []).1 = true
      · rw [if_pos c3] at h; exact absurd h (by decide)
      · rw [if_neg c3]
        obtain ⟨e, he⟩ := formsF_eq l rules (segP l ts).1 [] c2
        rw [List.nil_append] at e
        rw [e] at c3 ⊢
        have hne : (segP l ts).1 ≠ [] := by
          have h9 := c1.1
          unfold segP at h9 ⊢
          split at h9
          · rename_i hn
            rw [if_pos hn]
            exact segF_ne ts [] h9 (.inl (fun e => by rw [e] at hn; simp at hn))
          · cases h9
        obtain ⟨_, hle⟩ := segP_ok (l := l) (fun _ => True) (fun _ _ => trivial) ts (fun _ _ => trivial)
        refine ⟨c1.1, he, rfl, ?_, ?_, ?_, ?_⟩
        · unfold wordsOf; simpa using hne
        · unfold wordsOf; rw [List.length_map]; exact hle
        · unfold wordsOf; rw [List.length_map]
        · intro w hw
          unfold wordsOf at hw
          obtain ⟨s, hs, rfl⟩ := List.mem_map.1 hw
          have h1 := attachAll_word (he s hs)
          have h2 : (attachAllP l rules s.f0 s.f1).1 ≠ (⟨#[]⟩ : ByteArray) := fun e => c3 (hasE_iff.2 (by rw [← e]; exact hw))
          show (decide (0 < _) && isWordP l _) = true
          rw [h1, Bool.and_true, decide_eq_true]
          refine List.length_pos_iff.2 (fun e => h2 (bytes_eq ?_))
          rw [e]
    · rw [if_neg c2] at h; exact absurd h c2
  · rw [if_neg c1] at h; exact absurd h (by decide)
theorem textF_ok {l : List S80} {rules : List S85} {stop : ByteArray} : ∀ (sents : List (List ByteArray)) (acc : List ByteArray), (textF l rules stop sents acc).2 = 0 → (∀ ts ∈ sents, (sentenceP l rules stop ts).2 = 0) ∧ (textF l rules stop sents acc).1 = joinS (acc ++ sents.map fun ts => (sentenceP l rules stop ts).1)
  | [], acc, _ => ⟨by simp, by unfold textF; simp⟩
  | ts :: rest, acc, h => by
    unfold textF at h ⊢
    by_cases e : (sentenceP l rules stop ts).2 = 0
    · rw [if_pos e] at h ⊢
      obtain ⟨a, b⟩ := textF_ok rest _ h
      refine ⟨fun x hx => ?_, by rw [b]; simp⟩
      rcases List.mem_cons.1 hx with rfl | hx
      · exact e
      · exact a x hx
    · rw [if_neg e] at h; exact absurd h e
def stopLast (stop : List UInt8) : List (List UInt8) → List (List UInt8)
  | [] => []
  | [x] => [x ++ stop]
  | x :: y :: t => x :: stopLast stop (y :: t)
theorem stopLast_ne (stop : List UInt8) : ∀ {W : List (List UInt8)}, W ≠ [] → stopLast stop W ≠ []
  | [], h => h
  | [x], _ => by simp [stopLast]
  | x :: y :: t, _ => by simp [stopLast]
theorem join_two (x y : List UInt8) (r : List (List UInt8)) : Lib.join (x :: y :: r) [32] = x ++ 32 :: Lib.join (y :: r) [32] := by
  rw [join_cons, join_cons]
  simp [joinTail]
theorem join_more (x : List UInt8) {r : List (List UInt8)} (h : r ≠ []) : Lib.join (x :: r) [32] = x ++ 32 :: Lib.join r [32] := by
  obtain ⟨y, t, rfl⟩ := List.exists_cons_of_ne_nil h
  exact join_two x y t
theorem join_stopLast (stop : List UInt8) : ∀ {W : List (List UInt8)}, W ≠ [] → Lib.join (stopLast stop W) [32] = Lib.join W [32] ++ stop
  | [], h => absurd rfl h
  | [x], _ => by rw [stopLast, join_one, join_one]
  | x :: y :: t, _ => by rw [stopLast, join_more x (stopLast_ne stop (by simp)), join_stopLast stop (W := y :: t) (by simp), join_two]; simp
theorem join_append : ∀ {P Q : List (List UInt8)}, P ≠ [] → Q ≠ [] → Lib.join (P ++ Q) [32] = Lib.join P [32] ++ 32 :: Lib.join Q [32]
  | [], _, h, _ => absurd rfl h
  | [x], Q, _, hq => by rw [List.singleton_append, join_more x hq, join_one]
  | x :: y :: t, Q, _, hq => by rw [List.cons_append, List.cons_append, join_two, ← List.cons_append, join_append (P := y :: t) (by simp) hq, join_two]; simp
theorem join_flatten : ∀ (Ps : List (List (List UInt8))), (∀ P ∈ Ps, P ≠ []) → Lib.join (Ps.map fun P => Lib.join P [32]) [32] = Lib.join Ps.flatten [32]
  | [], _ => rfl
  | [P], h => by simp [join_one]
  | P :: Q :: r, h => by
    have hq : ((Q :: r).flatten : List (List UInt8)) ≠ [] := by
      have := h Q (by simp)
      simp [this]
    have ih := join_flatten (Q :: r) (fun X hX => h X (by simp [hX]))
    rw [List.map_cons] at ih
    rw [List.map_cons, List.map_cons, join_two, ih, show (P :: Q :: r).flatten = P ++ (Q :: r).flatten from rfl, join_append (h P (by simp)) hq]
theorem split_join : ∀ (Ps : List (List UInt8)), Ps ≠ [] → (∀ p ∈ Ps, ∀ b ∈ p, b ≠ 32) → splitB (Lib.join Ps [32]) = Ps
  | [], h, _ => absurd rfl h
  | [x], _, h => by
    rw [join_one]
    have := splitB_plain x [] (h x (by simp)) [] [] rfl
    simpa using this
  | x :: y :: t, _, h => by
    rw [join_two]
    have ih := split_join (y :: t) (by simp) (fun p hp => h p (by simp [hp]))
    have := splitB_plain x (32 :: Lib.join (y :: t) [32]) (h x (by simp)) [] (y :: t) (by rw [splitB, if_pos rfl, ih])
    simpa using this
theorem stopped_app (stop x : List UInt8) : stoppedB stop (x ++ stop) = (x, true) := by
  unfold stoppedB
  rw [List.length_append, Nat.add_sub_cancel, List.drop_left, if_pos ⟨by omega, rfl⟩, List.take_left]
theorem refG_sent {stop : List UInt8} {host : List UInt8 → Bool} (rest : List (List UInt8)) : ∀ (W words : List (List UInt8)), W ≠ [] → (∀ w ∈ W, host w = true ∧ stoppedB stop w = (w, false)) → refG (stoppedB stop) host (stopLast stop W ++ rest) words = (refG (stoppedB stop) host rest []).map fun o => (words ++ W) :: o
  | [], _, h, _ => absurd rfl h
  | [x], words, _, h => by
    rw [stopLast, List.singleton_append, refG, stopped_app, if_pos (h x (by simp)).1, if_pos rfl]
  | x :: y :: t, words, _, h => by
    obtain ⟨h1, h2⟩ := h x (by simp)
    rw [stopLast, List.cons_append, refG, h2, if_pos h1, if_neg (by simp), refG_sent rest (y :: t) _ (by simp) (fun w hw => h w (by simp [hw]))]
    simp
theorem refG_text {stop : List UInt8} {host : List UInt8 → Bool} : ∀ (Ws : List (List (List UInt8))), (∀ W ∈ Ws, W ≠ [] ∧ ∀ w ∈ W, host w = true ∧ stoppedB stop w = (w, false)) → refG (stoppedB stop) host ((Ws.map (stopLast stop)).flatten) [] = some Ws
  | [], _ => by simp [refG]
  | W :: Ws, h => by
    obtain ⟨h1, h2⟩ := h W (by simp)
    rw [List.map_cons, List.flatten_cons, refG_sent _ W [] h1 h2, refG_text Ws (fun X hX => h X (by simp [hX]))]
    simp
theorem host_runes {l : List S80} {w : List UInt8} (h : hostB (isL l) w = true) : w = encL (runesL w) ∧ ∀ r ∈ runesL w, isL l r = true := by
  unfold hostB at h
  simp only [Bool.and_eq_true, List.all_eq_true] at h
  exact ⟨((valid_iff w).1 h.2.1).symm, h.2.2.1⟩
theorem enc_blank (rs : List Int) (hs : ∀ r ∈ rs, scalar r ∧ r ≠ 32) : ∀ b ∈ encL rs, b ≠ 32 := by
  intro b hb
  unfold encL at hb
  obtain ⟨r, hr, hb⟩ := List.mem_flatMap.1 hb
  exact enc_no_blank r (hs r hr).1 (hs r hr).2 b hb
theorem read_back {l : List S80} {rules : List S85} {stop : ByteArray} (ho : orthP l rules stop = true) (Ws : List (List ByteArray)) (hne : Ws ≠ []) (hW : ∀ W ∈ Ws, W ≠ [] ∧ ∀ w ∈ W, hostB (isL l) w.data.toList = true) : readT l ((decodeGo stop).1 : Int) (joinS (Ws.map (sentS stop))) = some Ws := by
  have hA : validA l = true := by
    have h4 := ho
    unfold orthP cliticP at h4
    simp only [Bool.and_eq_true] at h4
    exact h4.2.1.1
  rw [readT_ref ho]
  have ho2 := ho
  unfold orthP at ho2
  rw [Bool.and_eq_true] at ho2
  obtain ⟨h1, h2, h3⟩ := stop_rune ho2.1
  obtain ⟨S, hS⟩ : ∃ S : Int, ((decodeGo stop).1 : Int) = S := ⟨_, rfl⟩
  rw [hS] at h1 h2 h3
  obtain ⟨hL, h32⟩ := okR_facts h3
  have h32L := isL_32 hA
  have word1 : ∀ w : List UInt8, hostB (isL l) w = true → (∀ b ∈ w, b ≠ 32) ∧ stoppedB stop.data.toList w = (w, false) := by
    intro w hw
    obtain ⟨e, hr⟩ := host_runes hw
    refine ⟨?_, ?_⟩
    · rw [e]
      exact enc_blank _ (fun r hr' => ⟨scalar_runes w r hr', fun e9 => by have := hr r hr'; rw [e9, h32L] at this; cases this⟩)
    · have := stopped_enc S h2 (runesL w) (scalar_runes w)
      rw [← e] at this
      rw [h1, this]
      unfold stoppedR
      rw [if_neg]
      · rw [← e]
      · intro h9
        have := hr S (List.mem_of_getLast? h9)
        rw [hL] at this; cases this
  have hstop : ∀ b ∈ stop.data.toList, b ≠ 32 := by
    rw [h1]; exact enc_no_blank S h2 h32
  obtain ⟨B, hB⟩ : ∃ B : List (List (List UInt8)), Ws.map (fun W => W.map (·.data.toList)) = B := ⟨_, rfl⟩
  have hBW : ∀ W ∈ B, W ≠ [] ∧ ∀ w ∈ W, hostB (isL l) w = true ∧ stoppedB stop.data.toList w = (w, false) := by
    intro W hW'
    rw [← hB] at hW'
    obtain ⟨V, hV, rfl⟩ := List.mem_map.1 hW'
    obtain ⟨a, b⟩ := hW V hV
    refine ⟨by simpa using a, fun w hw => ?_⟩
    obtain ⟨v, hv, rfl⟩ := List.mem_map.1 hw
    exact ⟨b v hv, (word1 _ (b v hv)).2⟩
  have htext : (joinS (Ws.map (sentS stop))).data.toList = Lib.join ((B.map (stopLast stop.data.toList)).flatten) [32] := by
    rw [← join_flatten _ (fun P hP => by
      obtain ⟨W, hW', rfl⟩ := List.mem_map.1 hP
      exact stopLast_ne _ (hBW W hW').1)]
    unfold joinS
    rw [List.map_map, ← hB, List.map_map, List.map_map]
    show Lib.join _ [32] = _
    congr 1
    refine List.map_congr_left (fun W hW' => ?_)
    simp only [Function.comp_apply]
    rw [join_stopLast _ (by simpa using (hW W hW').1)]
    unfold sentS joinS
    rw [ByteArray.data_append, Array.toList_append]
  have hparts : ∀ p ∈ (B.map (stopLast stop.data.toList)).flatten, ∀ b ∈ p, b ≠ 32 := by
    have key : ∀ W : List (List UInt8), (∀ w ∈ W, ∀ b ∈ w, b ≠ 32) → ∀ p ∈ stopLast stop.data.toList W, ∀ b ∈ p, b ≠ 32 := by
      intro W
      induction W with
      | nil => intro _ p hp; cases hp
      | cons x t ih =>
        intro h p hp
        cases t with
        | nil =>
          obtain rfl : p = x ++ stop.data.toList := by simpa [stopLast] using hp
          intro b hb
          rcases List.mem_append.1 hb with hb | hb
          · exact h x (by simp) b hb
          · exact hstop b hb
        | cons y t =>
          rw [stopLast] at hp
          rcases List.mem_cons.1 hp with rfl | hp
          · exact h p (by simp)
          · exact ih (fun w hw => h w (by simp [hw])) p hp
    intro p hp
    obtain ⟨Q, hQ, hp⟩ := List.mem_flatten.1 hp
    obtain ⟨W, hW', rfl⟩ := List.mem_map.1 hQ
    exact key W (fun w hw => (word1 w ((hBW W hW').2 w hw).1).1) p hp
  have hflat : (B.map (stopLast stop.data.toList)).flatten ≠ [] := by
    obtain ⟨V, R, rfl⟩ := List.exists_cons_of_ne_nil hne
    rw [← hB, List.map_cons, List.map_cons, List.flatten_cons]
    have := stopLast_ne stop.data.toList (W := V.map (·.data.toList)) (by simpa using (hW V (by simp)).1)
    simp [this]
  rw [htext, split_join _ hflat hparts, refG_text B hBW, Option.map_some]
  congr 1
  rw [← hB, List.map_map]
  conv => rhs; rw [← List.map_id Ws]
  refine List.map_congr_left (fun W _ => ?_)
  simp only [Function.comp_apply, id, List.map_map]
  conv => rhs; rw [← List.map_id W]
  refine List.map_congr_left (fun w _ => ?_)
  exact toB_of w
theorem host_cut {l : List S80} (h61 : isL l 61 = false) {t : ByteArray} (h : (cutE t).2 = true) : hostS l t = false ∧ 1 ≤ t.size ∧ (cutE t).1 = t.extract 1 t.size := by
  unfold cutE at h ⊢
  split at h
  · rename_i hc
    refine ⟨?_, hc.1, by rw [if_pos hc]⟩
    have h2 : (t.extract 0 1).toList = [61] := by simpa using hc.2
    rw [ByteArray.toList_eq, extract_data, List.drop_zero] at h2
    have e : t.data.toList = encodeRune 61 ++ t.data.toList.drop 1 := by
      rw [show encodeRune 61 = [61] by decide, ← h2]
      exact (List.take_append_drop 1 _).symm
    unfold hostS hostB
    rw [e, runes_enc 61 (by unfold scalar; omega), List.all_cons, h61, Bool.false_and, Bool.false_and, Bool.and_false, Bool.and_false]
  · cases h
theorem host_word {l : List S80} (t : ByteArray) : hostS l t = wordP l t := by
  unfold hostS hostB wordP
  rw [sizeL]; rfl
theorem seg_ev (a_0 : ByteArray) (a_1 : Bool) (l_2 : List (S80)) (l_3 : List (S85)) (l_4 : List (S180)) (l_5 : List (S183)) (l_6 : List (List Int)) (a_7 : Int) (a_8 : Int) (l_9 : List (S85)) (a_a : Int) (l_b : List ByteArray) (l_c : List ByteArray) (a_d : Bool) (a_e : ByteArray) (a_f : Int) (a_g : ByteArray) (a_h : Bool) (a_i : Int) (a_j : Int) (l_k : List (S186)) (l_l : List (S186)) (l_m : List ByteArray) (l_n : List ByteArray) (l_o : List ByteArray) (a_p : Bool) (l_q : List (S188)) (l_r : List (S190)) (l_s : List (S194)) (a_t : ByteArray) (h61 : isL l_2 61 = false) (ts : List ByteArray) (ht : ∀ t ∈ ts, t.size ≤ 1099511627776) (hn : ts.length ≤ 1048576) (hok : (segF l_2 ts []).2 = true) : Ev (fun k => pentaglotref42_Segments.f k a_0 a_1 l_2 l_3 l_4 l_5 l_6 a_7 a_8 l_9 a_a l_b l_c a_d a_e a_f a_g a_h a_i a_j l_k l_l l_m l_n l_o a_p l_q l_r l_s a_t ts) (segF l_2 ts []).1 := by
  have key : ∀ d i (out : List S57), ts.length - i = d → i ≤ ts.length → out.length ≤ i → (segF l_2 (ts.drop i) out).2 = true → Ev (fun k => pentaglotref42_Segments.l0 k ts out (i : Int) a_0 a_1 l_2 l_3 l_4 l_5 l_6 a_7 a_8 l_9 a_a l_b l_c a_d a_e a_f a_g a_h a_i a_j l_k l_l l_m l_n l_o a_p l_q l_r l_s a_t) (segF l_2 (ts.drop i) out).1 := by
    intro d
    induction d with
    | zero =>
      intro i out hd hi ho _
      obtain rfl : i = ts.length := by omega
      rw [List.drop_length]
      refine Ev.step (f := fun _ => some out) (fun k => ?_) (Ev.now _)
      simp only [pentaglotref42_Segments.l0]; rw [if_neg (by omega)]
    | succ d ih =>
      intro i out hd hi ho hk
      have hlt : i < ts.length := by omega
      rw [drop_str ts i hlt] at hk ⊢
      have hm := ht _ (rd_in ts i hlt)
      obtain ⟨t, htt⟩ : ∃ t, rdOf ByteArray.empty ts (i : Int) = t := ⟨_, rfl⟩
      rw [htt] at hk hm ⊢
      have hh := host_f a_0 a_1 l_2 l_3 l_4 l_5 l_6 a_7 a_8 l_9 a_a l_b l_c a_d a_e a_f a_g a_h a_i a_j l_k l_l l_m l_n l_o a_p l_q l_r l_s a_t t h61 hm
      unfold segF at hk ⊢
      by_cases c1 : (cutE t).2 = false
      · rw [if_pos c1] at hk ⊢
        by_cases c2 : wordP l_2 t = true
        · rw [if_pos c2] at hk ⊢
          refine Ev.step (fun k => ?_) (ih (i + 1) _ (by omega) (by omega) Gc18 hk)
          simp only [pentaglotref42_Segments.l0]
          rw [if_pos (by omega), if_pos (by omega), htt, hh, host_word, c2, Option.bind_some, if_pos rfl, if_pos (by omega), idx_next hlt (by omega)]
        · rw [if_neg c2] at hk; cases hk
      · rw [if_neg c1] at hk ⊢
        by_cases c2 : wordP l_2 (cutE t).1 = true ∧ 0 < out.length ∧ (lastF out).f1.length < 2
        · rw [if_pos c2] at hk ⊢
          obtain ⟨q1, q2, q3⟩ := host_cut h61 (t := t) (by simpa using c1)
          have hw : wrap64 ((out.length : Int) - 1) = ((out.length - 1 : Nat) : Int) := by unfold wrap64; omega
          refine Ev.step (fun k => ?_) (ih (i + 1) _ (by omega) (by omega) (by rw [List.length_set]; omega) hk)
          have hl2 := c2.2.2
          unfold lastF at hl2
          simp only [pentaglotref42_Segments.l0]
          rw [if_pos (by omega), if_pos (by omega), htt, hh, q1, Option.bind_some, if_neg (by decide), hw, if_pos (by omega), if_pos (by omega), if_pos (by omega), if_pos (by omega), idx_next hlt (by omega), q3, Int.toNat_natCast]; rfl
        · rw [if_neg c2] at hk; cases hk
  have := key ts.length 0 [] (by omega) (by omega) (by simp) (by rw [List.drop_zero]; exact hok)
  rw [List.drop_zero] at this
  exact this
end Go.Proofs.YtfbhdjflkaldgaaDoor.Pr

namespace Go.Proofs.YtfbhdjflkaldgaaDoor.Pr
open Go.RowKit Go.Proofs.YtfbhdjflkaldgaaDoor.Ct Go.Proofs.YtfbhdjflkaldgaaDoor.Opn Go.Maps Go.Lib Go.Proofs.YtfbhdjflkaldgaaDoorW.PrintWords Go.Proofs.YtfbhdjflkaldgaaDoorW.PrintLast
set_option linter.unusedVariables false
theorem rd_map {α : Type} (l : List α) (f : α → ByteArray) (i : Nat) (h : i < l.length) : rdOf ByteArray.empty (l.map f) (i : Int) = f l[i] := by
  unfold rdOf
  rw [Int.toNat_natCast, List.getD_eq_getElem?_getD, List.getElem?_map, List.getElem?_eq_getElem h]; rfl
theorem rd_seg (l : List S57) (i : Nat) (h : i < l.length) : rd_T57 l (i : Int) = l[i] := by
  unfold rd_T57
  rw [Int.toNat_natCast, List.getD_eq_getElem?_getD, List.getElem?_eq_getElem h]; rfl
theorem rd_tok (l : List (List ByteArray)) (i : Nat) (h : i < l.length) : rd_L10 l (i : Int) = l[i] := by
  unfold rd_L10
  rw [Int.toNat_natCast, List.getD_eq_getElem?_getD, List.getElem?_eq_getElem h]; rfl
end Go.Proofs.YtfbhdjflkaldgaaDoor.Pr
namespace Go.Proofs.YtfbhdjflkaldgaaDoor.PuOrthographyReturns
open Go.RowKit Go.Proofs.YtfbhdjflkaldgaaDoor.Pr Go.Proofs.YtfbhdjflkaldgaaDoor.Ct Go.Proofs.YtfbhdjflkaldgaaDoor.Opn Go.Lib Go.Proofs.YtfbhdjflkaldgaaDoorW.PrintWords Go.Proofs.YtfbhdjflkaldgaaDoorW.PrintLast
set_option linter.unusedVariables false
theorem few_some (a_0 : ByteArray) (a_1 : Bool) (l_2 : List (S80)) (l_3 : List (S85)) (l_4 : List (S180)) (l_5 : List (S183)) (l_6 : List (List Int)) (a_7 : Int) (a_8 : Int) (l_9 : List (S85)) (a_a : Int) (l_b : List ByteArray) (l_c : List ByteArray) (a_d : Bool) (a_e : ByteArray) (a_f : Int) (a_g : ByteArray) (a_h : Bool) (a_i : Int) (a_j : Int) (l_k : List (S186)) (l_l : List (S186)) (l_m : List ByteArray) (l_n : List ByteArray) (l_o : List ByteArray) (a_p : Bool) (l_q : List (S188)) (l_r : List (S190)) (l_s : List (S194)) (a_t : ByteArray) : ∃ b, pentaglotlaw42_few.f a_0 a_1 l_2 l_3 l_4 l_5 l_6 a_7 a_8 l_9 a_a l_b l_c a_d a_e a_f a_g a_h a_i a_j l_k l_l l_m l_n l_o a_p l_q l_r l_s a_t = some b := by
  unfold pentaglotlaw42_few.f
  repeat' split
  all_goals exact ⟨_, rfl⟩
set_option maxHeartbeats 4000000 in
theorem returns (a_0 : ByteArray) (a_1 : Bool) (l_2 : List (S80)) (l_3 : List (S85)) (l_4 : List (S180)) (l_5 : List (S183)) (l_6 : List (List Int)) (a_7 : Int) (a_8 : Int) (l_9 : List (S85)) (a_a : Int) (l_b : List ByteArray) (l_c : List ByteArray) (a_d : Bool) (a_e : ByteArray) (a_f : Int) (a_g : ByteArray) (a_h : Bool) (a_i : Int) (a_j : Int) (l_k : List (S186)) (l_l : List (S186)) (l_m : List ByteArray) (l_n : List ByteArray) (l_o : List ByteArray) (a_p : Bool) (l_q : List (S188)) (l_r : List (S190)) (l_s : List (S194)) (a_t : ByteArray) (sents : List (List ByteArray)) (hL : runesOk l_2 = true) (hs : l_9.all smallR = true) (hll : l_2.length ≤ 1099511627776) (h8 : sents.length ≤ 8) (hto : ∀ ts ∈ sents, ∀ t ∈ ts, t.size ≤ 1048576) (htl : ∀ ts ∈ sents, ts.length ≤ 1048576) : Ev (fun k => pentaglotlaw42_OrthographyReturns.j0 k sents false a_0 a_1 l_2 l_3 l_4 l_5 l_6 a_7 a_8 l_9 a_a l_b l_c a_d a_e a_f a_g a_h a_i a_j l_k l_l l_m l_n l_o a_p l_q l_r l_s a_t) true := by
  have htoks : ∀ ts ∈ sents, Toks ts := fun ts h t ht => Nat.le_trans (hto ts h t ht) (by decide)
  have htext := text_ev a_0 a_1 l_2 l_3 l_4 l_5 l_6 a_7 a_8 l_9 a_a l_b l_c a_d a_e a_f a_g a_h a_i a_j l_k l_l l_m l_n l_o a_p l_q l_r l_s a_t sents hL hs hll htoks
  have q1 : ∀ T, Ev (fun k => pentaglotlaw42_OrthographyReturns.j1 k sents T true a_0 a_1 l_2 l_3 l_4 l_5 l_6 a_7 a_8 l_9 a_a l_b l_c a_d a_e a_f a_g a_h a_i a_j l_k l_l l_m l_n l_o a_p l_q l_r l_s a_t) true := fun T => Ev.step (f := fun _ => some true) (fun k => by simp only [pentaglotlaw42_OrthographyReturns.j1]; rfl) (Ev.now _)
  refine Ev.step (f := fun k => (orthography_Text.f k a_0 a_1 l_2 l_3 l_4 l_5 l_6 a_7 a_8 l_9 a_a l_b l_c a_d a_e a_f a_g a_h a_i a_j l_k l_l l_m l_n l_o a_p l_q l_r l_s a_t sents).bind fun bt462 => (if bt462.2 = 0 then (pentaglotlaw42_OrthographyReturns.j1 k sents bt462.1 (decide ((bt462.1.size : Int) > 4096)) a_0 a_1 l_2 l_3 l_4 l_5 l_6 a_7 a_8 l_9 a_a l_b l_c a_d a_e a_f a_g a_h a_i a_j l_k l_l l_m l_n l_o a_p l_q l_r l_s a_t) else (pentaglotlaw42_OrthographyReturns.j1 k sents bt462.1 true a_0 a_1 l_2 l_3 l_4 l_5 l_6 a_7 a_8 l_9 a_a l_b l_c a_d a_e a_f a_g a_h a_i a_j l_k l_l l_m l_n l_o a_p l_q l_r l_s a_t))) (fun k => by simp only [pentaglotlaw42_OrthographyReturns.j0]; rfl) (Ev.bind htext ?_)
  by_cases e0 : (textP l_2 l_9 a_t sents).2 = 0
  · refine Ev.congr (fun k => if_pos e0) ?_
    by_cases e1 : ((textP l_2 l_9 a_t sents).1.size : Int) > 4096
    · refine Ev.congr (fun k => by rw [decide_eq_true e1]) (q1 _)
    · refine Ev.congr (f := fun k => pentaglotlaw42_OrthographyReturns.j1 k sents (textP l_2 l_9 a_t sents).1 false a_0 a_1 l_2 l_3 l_4 l_5 l_6 a_7 a_8 l_9 a_a l_b l_c a_d a_e a_f a_g a_h a_i a_j l_k l_l l_m l_n l_o a_p l_q l_r l_s a_t) (fun k => by rw [decide_eq_false e1]) ?_
      have hcond : orthP l_2 l_9 a_t = true ∧ 1 ≤ sents.length ∧ sents.length ≤ 8 := by
        unfold textP at e0
        split at e0
        · assumption
        · exact absurd e0 (by decide)
      have hT : textP l_2 l_9 a_t sents = textF l_2 l_9 a_t sents [] := by unfold textP; rw [if_pos hcond]
      rw [hT] at e0 e1 ⊢
      obtain ⟨hall, htx⟩ := textF_ok sents [] e0
      rw [List.nil_append] at htx
      have hmap : sents.map (fun ts => (sentenceP l_2 l_9 a_t ts).1) = (sents.map (wordsOf l_2 l_9)).map (sentS a_t) := by
        rw [List.map_map]
        refine List.map_congr_left (fun ts hts => ?_)
        rw [(sentence_ok (hall ts hts)).2.2.1]; rfl
      rw [hmap] at htx
      generalize (textF l_2 l_9 a_t sents []).1 = T at htx e1
      subst htx
      have hWs : ∀ W ∈ sents.map (wordsOf l_2 l_9), W ≠ [] ∧ ∀ w ∈ W, hostB (isL l_2) w.data.toList = true := by
        intro W hW
        obtain ⟨ts, hts, rfl⟩ := List.mem_map.1 hW
        have := sentence_ok (hall ts hts)
        exact ⟨this.2.2.2.1, this.2.2.2.2.2.2⟩
      have hne : sents.map (wordsOf l_2 l_9) ≠ [] := fun e => by
        have := congrArg List.length e
        rw [List.length_map, List.length_nil] at this; omega
      have hrd := read_back hcond.1 _ hne hWs
      obtain ⟨T, hTe⟩ : ∃ T, joinS ((sents.map (wordsOf l_2 l_9)).map (sentS a_t)) = T := ⟨_, rfl⟩
      rw [hTe] at hrd e1 ⊢
      have hsen : orthography_Sentences.f a_0 a_1 l_2 l_3 l_4 l_5 l_6 a_7 a_8 l_9 a_a l_b l_c a_d a_e a_f a_g a_h a_i a_j l_k l_l l_m l_n l_o a_p l_q l_r l_s a_t T = some ((sents.map (wordsOf l_2 l_9)).map (sentS a_t), 0) := by
        unfold orthography_Sentences.f sentencesP
        rw [if_pos ⟨⟨hL, hs⟩, by omega⟩, if_pos hcond.1, if_neg (by omega), hrd]
        simp only [List.length_map]
        rw [if_neg (by omega)]
      obtain ⟨L, hLe⟩ : ∃ L, (sents.map (wordsOf l_2 l_9)).map (sentS a_t) = L := ⟨_, rfl⟩
      rw [hLe] at hsen
      have hLl : L.length = sents.length := by rw [← hLe]; simp
      have hLi : ∀ i (h : i < sents.length), rdOf ByteArray.empty L (i : Int) = sentS a_t (wordsOf l_2 l_9 sents[i]) := by
        intro i h
        rw [← hLe, List.map_map, rd_map _ _ i h]; rfl
      have h61 : isL l_2 61 = false := by
        have h4 := hcond.1
        unfold orthP cliticP at h4
        simp only [Bool.and_eq_true, Bool.not_eq_true'] at h4
        exact h4.2.1.2
      clear hmap hTe hLe
      have loop : ∀ d i, sents.length - i = d → i ≤ sents.length → Ev (fun k => pentaglotlaw42_OrthographyReturns.l0 k sents L (i : Int) a_0 a_1 l_2 l_3 l_4 l_5 l_6 a_7 a_8 l_9 a_a l_b l_c a_d a_e a_f a_g a_h a_i a_j l_k l_l l_m l_n l_o a_p l_q l_r l_s a_t) true := by
        intro d
        induction d with
        | zero =>
          intro i hd hi
          refine Ev.step (f := fun _ => some true) (fun k => ?_) (Ev.now _)
          simp only [pentaglotlaw42_OrthographyReturns.l0]; rw [if_neg (by omega)]
        | succ d ih =>
          intro i hd hi
          have hlt : i < sents.length := by omega
          have hin : sents[i] ∈ sents := List.getElem_mem _
          obtain ⟨g1, g2, g3, g4, g5, g6, g7⟩ := sentence_ok (hall _ hin)
          have hx := hLi i hlt
          have hrt := rd_tok sents i hlt
          have t1 := hto _ hin
          have t2 := htl _ hin
          have hsn := sentence_ev a_0 a_1 l_2 l_3 l_4 l_5 l_6 a_7 a_8 l_9 a_a l_b l_c a_d a_e a_f a_g a_h a_i a_j l_k l_l l_m l_n l_o a_p l_q l_r l_s a_t sents[i] hL hs hll (htoks _ hin)
          generalize sents[i] = ts at hin g1 g2 g3 g4 g5 g6 g7 hx hrt t1 t2 hsn
          rw [g3] at hsn
          have hrd1 := read_back hcond.1 [wordsOf l_2 l_9 ts] (by simp) (by
            intro W hW
            obtain rfl := List.mem_singleton.1 hW
            exact ⟨g4, g7⟩)
          rw [List.map_singleton, show joinS [sentS a_t (wordsOf l_2 l_9 ts)] = sentS a_t (wordsOf l_2 l_9 ts) from by
            apply bytes_eq; unfold joinS; simp [join_one]] at hrd1
          have hsz : (sentS a_t (wordsOf l_2 l_9 ts)).size ≤ 131244 := by
            have := sentence_size l_2 l_9 a_t ts
            rw [g3] at this; exact this
          have hwd : orthography_Words.f a_0 a_1 l_2 l_3 l_4 l_5 l_6 a_7 a_8 l_9 a_a l_b l_c a_d a_e a_f a_g a_h a_i a_j l_k l_l l_m l_n l_o a_p l_q l_r l_s a_t (sentS a_t (wordsOf l_2 l_9 ts)) = some (wordsOf l_2 l_9 ts, 0) := by
            unfold orthography_Words.f wordsP
            rw [if_pos ⟨⟨hL, hs⟩, by omega⟩, if_pos hcond.1, hrd1]
            simp only
            rw [if_neg (by omega)]
          have hsegF : segP l_2 ts = segF l_2 ts [] := by
            unfold segP at g1 ⊢
            split at g1
            · rename_i hc; rw [if_pos hc]
            · cases g1
          have hsg := seg_ev a_0 a_1 l_2 l_3 l_4 l_5 l_6 a_7 a_8 l_9 a_a l_b l_c a_d a_e a_f a_g a_h a_i a_j l_k l_l l_m l_n l_o a_p l_q l_r l_s a_t h61 ts (fun t h => Nat.le_trans (t1 t h) (by decide)) t2 (by rw [← hsegF]; exact g1)
          rw [← hsegF] at hsg
          obtain ⟨hok, hle40⟩ := segP_ok (l := l_2) (fun t => t.size ≤ 274877906944) cut_small ts (htoks ts hin)
          have hW : wordsOf l_2 l_9 ts = (segP l_2 ts).1.map (fun s => (attachAllP l_2 l_9 s.f0 s.f1).1) := rfl
          generalize wordsOf l_2 l_9 ts = W at hwd hsn hx g4 g5 g6 hW hsz
          generalize (segP l_2 ts).1 = segs at hsg hok hle40 hW g2 g6
          have inner : ∀ e j, W.length - j = e → j ≤ W.length → Ev (fun k => pentaglotlaw42_OrthographyReturns.l1 k sents L (i : Int) W segs (j : Int) a_0 a_1 l_2 l_3 l_4 l_5 l_6 a_7 a_8 l_9 a_a l_b l_c a_d a_e a_f a_g a_h a_i a_j l_k l_l l_m l_n l_o a_p l_q l_r l_s a_t) true := by
            intro e
            induction e with
            | zero =>
              intro j he hj
              refine Ev.step (fun k => ?_) (ih (i + 1) (by omega) (by omega))
              simp only [pentaglotlaw42_OrthographyReturns.l1]
              rw [if_neg (by omega), idx_next hlt (by omega)]
            | succ e ihe =>
              intro j he hj
              have hjl : j < W.length := by omega
              have hjs : j < segs.length := by omega
              have hmem : segs[j] ∈ segs := List.getElem_mem _
              obtain ⟨o1, o2, o3⟩ := hok _ hmem
              have hat := attachAll_ev l_2 l_9 hL hs hll segs[j].f0 segs[j].f1 o1 o3 (by omega)
              have hz := g2 _ hmem
              have hrw : rdOf ByteArray.empty W (j : Int) = (attachAllP l_2 l_9 segs[j].f0 segs[j].f1).1 := by rw [hW, rd_map _ _ j hjs]
              refine Ev.step (f := fun k => (clitic_AttachAll.f k l_2 l_9 segs[j].f0 segs[j].f1).bind fun bt482 => (if bt482.2 = 0 then (if bt482.1.toList = (rdOf ByteArray.empty W (j : Int)).toList then (pentaglotlaw42_OrthographyReturns.l1 k sents L (i : Int) W segs (wrap64 ((j : Int) + 1)) a_0 a_1 l_2 l_3 l_4 l_5 l_6 a_7 a_8 l_9 a_a l_b l_c a_d a_e a_f a_g a_h a_i a_j l_k l_l l_m l_n l_o a_p l_q l_r l_s a_t) else (some false)) else (some false))) (fun k => ?_) (Ev.bind hat ?_)
              · simp only [pentaglotlaw42_OrthographyReturns.l1]
                rw [if_pos (by omega), if_pos (by omega), if_pos (by omega), rd_seg segs j hjs]
              · refine Ev.congr (fun k => ?_) (ihe (j + 1) (by omega) (by omega))
                rw [if_pos hz, if_pos (by rw [hrw]), idx_next hjl (by omega)]
          have j4 : Ev (fun k => pentaglotlaw42_OrthographyReturns.j4 k sents L (i : Int) W segs false a_0 a_1 l_2 l_3 l_4 l_5 l_6 a_7 a_8 l_9 a_a l_b l_c a_d a_e a_f a_g a_h a_i a_j l_k l_l l_m l_n l_o a_p l_q l_r l_s a_t) true := by
            refine Ev.step (fun k => ?_) (inner W.length 0 (by omega) (by omega))
            simp only [pentaglotlaw42_OrthographyReturns.j4]
            rw [if_neg (by decide)]; rfl
          refine Ev.step (f := fun k => (orthography_Sentence.f k a_0 a_1 l_2 l_3 l_4 l_5 l_6 a_7 a_8 l_9 a_a l_b l_c a_d a_e a_f a_g a_h a_i a_j l_k l_l l_m l_n l_o a_p l_q l_r l_s a_t ts).bind fun bt469 => ((orthography_Words.f a_0 a_1 l_2 l_3 l_4 l_5 l_6 a_7 a_8 l_9 a_a l_b l_c a_d a_e a_f a_g a_h a_i a_j l_k l_l l_m l_n l_o a_p l_q l_r l_s a_t (rdOf ByteArray.empty L (i : Int))).bind fun bt472 => ((pentaglotref42_Segments.f k a_0 a_1 l_2 l_3 l_4 l_5 l_6 a_7 a_8 l_9 a_a l_b l_c a_d a_e a_f a_g a_h a_i a_j l_k l_l l_m l_n l_o a_p l_q l_r l_s a_t ts).bind fun t477 => (if bt469.1.toList = (rdOf ByteArray.empty L (i : Int)).toList then (if bt469.2 = 0 then (if bt472.2 = 0 then (pentaglotlaw42_OrthographyReturns.j4 k sents L (i : Int) bt472.1 t477 ((bt472.1.length : Int) != (t477.length : Int)) a_0 a_1 l_2 l_3 l_4 l_5 l_6 a_7 a_8 l_9 a_a l_b l_c a_d a_e a_f a_g a_h a_i a_j l_k l_l l_m l_n l_o a_p l_q l_r l_s a_t) else (pentaglotlaw42_OrthographyReturns.j4 k sents L (i : Int) bt472.1 t477 true a_0 a_1 l_2 l_3 l_4 l_5 l_6 a_7 a_8 l_9 a_a l_b l_c a_d a_e a_f a_g a_h a_i a_j l_k l_l l_m l_n l_o a_p l_q l_r l_s a_t)) else (pentaglotlaw42_OrthographyReturns.j4 k sents L (i : Int) bt472.1 t477 true a_0 a_1 l_2 l_3 l_4 l_5 l_6 a_7 a_8 l_9 a_a l_b l_c a_d a_e a_f a_g a_h a_i a_j l_k l_l l_m l_n l_o a_p l_q l_r l_s a_t)) else (pentaglotlaw42_OrthographyReturns.j4 k sents L (i : Int) bt472.1 t477 true a_0 a_1 l_2 l_3 l_4 l_5 l_6 a_7 a_8 l_9 a_a l_b l_c a_d a_e a_f a_g a_h a_i a_j l_k l_l l_m l_n l_o a_p l_q l_r l_s a_t))))) (fun k => ?_) (Ev.bind hsn ?_)
          · simp only [pentaglotlaw42_OrthographyReturns.l0]
            rw [if_pos (by omega), if_pos (by omega), if_pos (by omega), hrt]
          · rw [hx]
            refine Ev.congr (f := fun k => (pentaglotref42_Segments.f k a_0 a_1 l_2 l_3 l_4 l_5 l_6 a_7 a_8 l_9 a_a l_b l_c a_d a_e a_f a_g a_h a_i a_j l_k l_l l_m l_n l_o a_p l_q l_r l_s a_t ts).bind fun t477 => pentaglotlaw42_OrthographyReturns.j4 k sents L (i : Int) W t477 ((W.length : Int) != (t477.length : Int)) a_0 a_1 l_2 l_3 l_4 l_5 l_6 a_7 a_8 l_9 a_a l_b l_c a_d a_e a_f a_g a_h a_i a_j l_k l_l l_m l_n l_o a_p l_q l_r l_s a_t) (fun k => ?_) (Ev.bind hsg (Ev.congr (fun k => ?_) j4))
            · rw [hwd, Option.bind_some]
              congr 1
              funext t
              rw [if_pos rfl, if_pos rfl, if_pos rfl]
            · rw [bne_eq_false_iff_eq.2 (by omega)]
      refine Ev.step (f := fun k => pentaglotlaw42_OrthographyReturns.j2 k sents L false a_0 a_1 l_2 l_3 l_4 l_5 l_6 a_7 a_8 l_9 a_a l_b l_c a_d a_e a_f a_g a_h a_i a_j l_k l_l l_m l_n l_o a_p l_q l_r l_s a_t) (fun k => ?_) (Ev.step (fun k => ?_) (loop sents.length 0 (by omega) (by omega)))
      · simp only [pentaglotlaw42_OrthographyReturns.j1]
        rw [if_neg (by decide), hsen, Option.bind_some, if_pos rfl]
        simp only
        rw [bne_eq_false_iff_eq.2 (by omega)]
      · simp only [pentaglotlaw42_OrthographyReturns.j2]
        rw [if_neg (by decide)]; rfl
  · exact Ev.congr (fun k => if_neg e0) (q1 _)
set_option maxHeartbeats 2000000 in
theorem ProvedUpto : Upto := by
  intro a_0 a_1 l_2 l_3 l_4 l_5 l_6 a_7 a_8 l_9 a_a l_b l_c a_d a_e a_f a_g a_h a_i a_j l_k l_l l_m l_n l_o a_p l_q l_r l_s a_t l1 g0 g1 hb
  have hL : runesOk l_2 = true := letters_ok _ g0.2.2.1.1
  have hb2 := hb
  simp only [Ms.pair] at hb2
  have h9 : (Ms.slice ms85).bulk l_9 ≤ 1048576 := by omega
  have h2 : (Ms.slice ms80).bulk l_2 ≤ 1048576 := by omega
  have h1 : (Ms.slice (Ms.slice Ms.string)).bulk l1 ≤ 1048576 := by omega
  have hll : l_2.length ≤ 1099511627776 := by
    have h3 : (l_2.map ms80.bulk).sum + 1 ≤ 1048576 := h2
    have := bulk_len ms80 (fun x => by show 1 ≤ 1 + _; omega) l_2
    omega
  have hts : ∀ ts ∈ l1, (Ms.slice Ms.string).bulk ts ≤ 1048576 := fun ts h => by
    have h3 : (l1.map (Ms.slice Ms.string).bulk).sum + 1 ≤ 1048576 := h1
    have := bulk_mem (Ms.slice Ms.string) l1 ts h
    omega
  have hto : ∀ ts ∈ l1, ∀ t ∈ ts, t.size ≤ 1048576 := fun ts h t ht => by
    have h3 : (ts.map Ms.string.bulk).sum + 1 ≤ 1048576 := hts ts h
    have h4 := bulk_mem Ms.string ts t ht
    have h5 : Ms.string.bulk t = t.size + 1 := rfl
    omega
  have htl : ∀ ts ∈ l1, ts.length ≤ 1048576 := fun ts h => by
    have h3 : (ts.map Ms.string.bulk).sum + 1 ≤ 1048576 := hts ts h
    have := bulk_len Ms.string (fun x => by show 1 ≤ x.size + 1; omega) ts
    omega
  obtain ⟨hs, ho⟩ := rules_small _ h9
  clear hb hb2 g0 g1 h9 h1 h2 hts
  have jt : Ev (fun k => pentaglotlaw42_OrthographyReturns.j0 k l1 true a_0 a_1 l_2 l_3 l_4 l_5 l_6 a_7 a_8 l_9 a_a l_b l_c a_d a_e a_f a_g a_h a_i a_j l_k l_l l_m l_n l_o a_p l_q l_r l_s a_t) true := Ev.step (f := fun _ => some true) (fun k => by simp only [pentaglotlaw42_OrthographyReturns.j0]; rfl) (Ev.now _)
  obtain ⟨b, hf⟩ := few_some a_0 a_1 l_2 l_3 l_4 l_5 l_6 a_7 a_8 l_9 a_a l_b l_c a_d a_e a_f a_g a_h a_i a_j l_k l_l l_m l_n l_o a_p l_q l_r l_s a_t
  have hall : Ev (fun k => pentaglotlaw42_OrthographyReturns.f k a_0 a_1 l_2 l_3 l_4 l_5 l_6 a_7 a_8 l_9 a_a l_b l_c a_d a_e a_f a_g a_h a_i a_j l_k l_l l_m l_n l_o a_p l_q l_r l_s a_t l1) true := by
    have e : ∀ k, pentaglotlaw42_OrthographyReturns.f k a_0 a_1 l_2 l_3 l_4 l_5 l_6 a_7 a_8 l_9 a_a l_b l_c a_d a_e a_f a_g a_h a_i a_j l_k l_l l_m l_n l_o a_p l_q l_r l_s a_t l1 = if b = true then pentaglotlaw42_OrthographyReturns.j0 k l1 (decide ((l1.length : Int) > 8)) a_0 a_1 l_2 l_3 l_4 l_5 l_6 a_7 a_8 l_9 a_a l_b l_c a_d a_e a_f a_g a_h a_i a_j l_k l_l l_m l_n l_o a_p l_q l_r l_s a_t else pentaglotlaw42_OrthographyReturns.j0 k l1 true a_0 a_1 l_2 l_3 l_4 l_5 l_6 a_7 a_8 l_9 a_a l_b l_c a_d a_e a_f a_g a_h a_i a_j l_k l_l l_m l_n l_o a_p l_q l_r l_s a_t := by
      intro k
      unfold pentaglotlaw42_OrthographyReturns.f
      rw [hf]; rfl
    refine Ev.congr e ?_
    cases b with
    | true =>
      refine Ev.congr (fun k => if_pos rfl) ?_
      by_cases c : (l1.length : Int) > 8
      · rw [decide_eq_true c]; exact jt
      · rw [decide_eq_false c]; exact returns a_0 a_1 l_2 l_3 l_4 l_5 l_6 a_7 a_8 l_9 a_a l_b l_c a_d a_e a_f a_g a_h a_i a_j l_k l_l l_m l_n l_o a_p l_q l_r l_s a_t l1 hL hs hll (by omega) hto htl
    | false => exact Ev.congr (fun k => if_neg (by decide)) jt
  exact hall.rounds
end Go.Proofs.YtfbhdjflkaldgaaDoor.PuOrthographyReturns
