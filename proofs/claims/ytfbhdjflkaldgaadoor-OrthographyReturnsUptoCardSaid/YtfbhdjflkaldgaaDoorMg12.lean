/- Several texts in one: Rdb, Rdw, Rdx. -/
import Derived.Test.YtfbhdjflkaldgaaDoorMg11
/- Splitting at blanks and stops, on bytes and on runes: no program in sight. -/
/- The reader's state in a world. -/
/- The reader's read. -/
namespace Go.Proofs.YtfbhdjflkaldgaaDoor.Pr
open Go.Lib
set_option linter.unusedVariables false
set_option linter.unusedSimpArgs false
def splitB : List UInt8 → List (List UInt8)
  | [] => [[]]
  | r :: t => if r = 32 then [] :: splitB t else match splitB t with
    | [] => [[r]]
    | p :: rest => (r :: p) :: rest
def stoppedB (stop p : List UInt8) : List UInt8 × Bool := if stop.length ≤ p.length ∧ p.drop (p.length - stop.length) = stop then (p.take (p.length - stop.length), true) else (p, false)
theorem splitB_ne : ∀ R, splitB R ≠ []
  | [] => by simp [splitB]
  | r :: t => by
    unfold splitB
    split
    · simp
    · split <;> simp
theorem splitB_plain : ∀ (a t : List UInt8), (∀ b ∈ a, b ≠ 32) → ∀ p rest, splitB t = p :: rest → splitB (a ++ t) = (a ++ p) :: rest
  | [], t, _, p, rest, h => h
  | b :: a, t, hb, p, rest, h => by
    rw [List.cons_append, splitB, if_neg (hb b (by simp)), splitB_plain a t (fun x hx => hb x (by simp [hx])) p rest h]; rfl
theorem enc_bytes (r : Int) (h : scalar r) : ∃ b t, encodeRune r = b :: t ∧ (∀ c ∈ t, 128 ≤ c.toNat ∧ c.toNat < 192) ∧ ¬ (128 ≤ b.toNat ∧ b.toNat < 192) ∧ (b = 32 → r = 32) ∧ t.length ≤ 3 := by
  obtain ⟨h0, h1⟩ := h
  obtain ⟨n, rfl⟩ : ∃ n : Nat, r = (n : Int) := ⟨r.toNat, by omega⟩
  have b8 : ∀ (z : Int) (m : Nat), z.toNat = m → m < 256 → (z.toNat.toUInt8).toNat = m := by
    intro z m h1 h2
    rw [h1]; simp; omega
  have b32 : ∀ (z : Int) (m : Nat), z.toNat = m → m < 256 → z.toNat.toUInt8 = 32 → m = 32 := by
    intro z m h1 h2 h3
    have := b8 z m h1 h2
    rw [h3] at this
    exact this.symm
  unfold encodeRune
  by_cases c1 : (n : Int) ≤ 127
  · rw [encodeRuneZ_one h0 c1]
    refine ⟨_, [], rfl, by simp, ?_, ?_, by simp⟩
    · rw [b8 _ n (by omega) (by omega)]; omega
    · intro e; have := b32 _ n (by omega) (by omega) e; omega
  · by_cases c2 : (n : Int) ≤ 2047
    · rw [encodeRuneZ_two (by omega) c2]
      refine ⟨_, _, rfl, ?_, ?_, ?_, by simp⟩
      · intro c hc
        simp only [List.map_cons, List.map_nil, List.mem_singleton] at hc
        subst hc
        rw [b8 _ (128 + n % 64) (by omega) (by omega)]; omega
      · rw [b8 _ (192 + n / 64) (by omega) (by omega)]; omega
      · intro e; have := b32 _ (192 + n / 64) (by omega) (by omega) e; omega
    · by_cases c3 : (n : Int) ≤ 65535
      · rw [encodeRuneZ_three (by omega)]
        refine ⟨_, _, rfl, ?_, ?_, ?_, by simp⟩
        · intro c hc
          simp only [List.map_cons, List.map_nil, List.mem_cons, List.not_mem_nil, or_false] at hc
          rcases hc with rfl | rfl
          · rw [b8 _ (128 + n / 64 % 64) (by omega) (by omega)]; omega
          · rw [b8 _ (128 + n % 64) (by omega) (by omega)]; omega
        · rw [b8 _ (224 + n / 4096) (by omega) (by omega)]; omega
        · intro e; have := b32 _ (224 + n / 4096) (by omega) (by omega) e; omega
      · rw [encodeRuneZ_four (by omega) (by omega)]
        refine ⟨_, _, rfl, ?_, ?_, ?_, by simp⟩
        · intro c hc
          simp only [List.map_cons, List.map_nil, List.mem_cons, List.not_mem_nil, or_false] at hc
          rcases hc with rfl | rfl | rfl
          · rw [b8 _ (128 + n / 4096 % 64) (by omega) (by omega)]; omega
          · rw [b8 _ (128 + n / 64 % 64) (by omega) (by omega)]; omega
          · rw [b8 _ (128 + n % 64) (by omega) (by omega)]; omega
        · rw [b8 _ (240 + n / 262144) (by omega) (by omega)]; omega
        · intro e; have := b32 _ (240 + n / 262144) (by omega) (by omega) e; omega
theorem enc_no_blank (r : Int) (h : scalar r) (hr : r ≠ 32) : ∀ b ∈ encodeRune r, b ≠ 32 := by
  obtain ⟨b, t, e, ht, hb, h32, _⟩ := enc_bytes r h
  intro x hx hx32
  rw [e] at hx
  rcases List.mem_cons.1 hx with rfl | hx
  · exact hr (h32 hx32)
  · have := ht x hx; rw [hx32] at this; simp at this
theorem split_enc : ∀ (R : List Int), (∀ r ∈ R, scalar r) → splitB (encL R) = (splitR R).map encL
  | [], _ => rfl
  | r :: t, h => by
    have ih := split_enc t (fun x hx => h x (by simp [hx]))
    unfold encL
    rw [List.flatMap_cons]
    by_cases hr : r = 32
    · subst hr
      rw [show encodeRune 32 = [32] by decide, splitR, if_pos rfl]
      show splitB (32 :: encL t) = _
      rw [splitB, if_pos rfl, ih]; rfl
    · obtain ⟨p, rest, hp⟩ := List.exists_cons_of_ne_nil (splitR_ne t)
      rw [hp] at ih
      rw [splitR, if_neg hr, hp]
      show splitB (encodeRune r ++ encL t) = _
      rw [splitB_plain _ _ (enc_no_blank r (h r (by simp)) hr) _ _ ih]
      simp [encL]
theorem splitR_mem : ∀ (R : List Int) (p : List Int), p ∈ splitR R → ∀ r ∈ p, r ∈ R
  | [], p, h, r, hr => by
    obtain rfl : p = [] := by simpa [splitR] using h
    cases hr
  | c :: t, p, h, r, hr => by
    have ih := splitR_mem t
    rw [splitR] at h
    split at h
    · rcases List.mem_cons.1 h with rfl | h
      · cases hr
      · exact List.mem_cons_of_mem _ (ih p h r hr)
    · obtain ⟨q, rest, hq⟩ := List.exists_cons_of_ne_nil (splitR_ne t)
      rw [hq] at h ih
      simp only at h
      rcases List.mem_cons.1 h with rfl | h
      · rcases List.mem_cons.1 hr with rfl | hr
        · simp
        · exact List.mem_cons_of_mem _ (ih q (by simp) r hr)
      · exact List.mem_cons_of_mem _ (ih p (by simp [h]) r hr)
theorem suffix_rune (c stop : Int) (hc : scalar c) (hs : scalar stop) (q : List UInt8) (h1 : (encodeRune stop).length ≤ (q ++ encodeRune c).length) (h : (q ++ encodeRune c).drop ((q ++ encodeRune c).length - (encodeRune stop).length) = encodeRune stop) : c = stop := by
  obtain ⟨b, t, e, ht, hb, _, _⟩ := enc_bytes c hc
  obtain ⟨b', t', e', ht', hb', _, _⟩ := enc_bytes stop hs
  have key : (encodeRune c).length = (encodeRune stop).length := by
    rw [List.length_append] at h1 h
    by_cases hl : (encodeRune stop).length ≤ (encodeRune c).length
    · by_cases hl2 : (encodeRune stop).length = (encodeRune c).length
      · exact hl2.symm
      · exfalso
        rw [List.drop_append, List.drop_of_length_le (by omega), List.nil_append, show q.length + (encodeRune c).length - (encodeRune stop).length - q.length = (encodeRune c).length - (encodeRune stop).length by omega] at h
        rw [e] at h hl hl2
        rw [e'] at h hl hl2
        obtain ⟨m, hm⟩ : ∃ m, (b :: t).length - (b' :: t').length = m + 1 := ⟨(b :: t).length - (b' :: t').length - 1, by omega⟩
        rw [hm, List.drop_succ_cons] at h
        have : b' ∈ t := List.mem_of_mem_drop (by rw [h]; simp)
        exact hb' (ht b' this)
    · exfalso
      have hd := congrArg (List.drop ((encodeRune stop).length - (encodeRune c).length)) h
      rw [List.drop_drop, show q.length + (encodeRune c).length - (encodeRune stop).length + ((encodeRune stop).length - (encodeRune c).length) = q.length by omega, List.drop_left] at hd
      rw [e, e'] at hd
      rw [e, e'] at hl
      obtain ⟨m, hm⟩ : ∃ m, (b' :: t').length - (b :: t).length = m + 1 := ⟨(b' :: t').length - (b :: t).length - 1, by omega⟩
      rw [hm, List.drop_succ_cons] at hd
      have : b ∈ t' := List.mem_of_mem_drop (by rw [← hd]; simp)
      exact hb (ht' b this)
  rw [List.length_append, key, show q.length + (encodeRune stop).length - (encodeRune stop).length = q.length by omega, List.drop_left] at h
  have := runes_enc c hc []
  rw [h, runes_enc stop hs []] at this
  exact (List.cons.inj this).1.symm
theorem stopped_enc (stop : Int) (hs : scalar stop) (q : List Int) (hq : ∀ r ∈ q, scalar r) : stoppedB (encodeRune stop) (encL q) = (encL (stoppedR stop q).1, (stoppedR stop q).2) := by
  rcases List.eq_nil_or_concat q with rfl | ⟨q', c, rfl⟩
  · have hne : (encodeRune stop).length ≠ 0 := fun e => enc_ne stop [] (by simpa using List.eq_nil_of_length_eq_zero e)
    unfold stoppedB stoppedR
    rw [if_neg (by rw [show encL [] = [] from rfl, List.length_nil]; omega), if_neg (by simp)]
  · rw [List.concat_eq_append] at hq ⊢
    have he : encL (q' ++ [c]) = encL q' ++ encodeRune c := by simp [encL]
    unfold stoppedR stoppedB
    rw [he]
    by_cases hcs : c = stop
    · subst hcs
      rw [if_pos (by simp), if_pos]
      · simp
      · simp
    · rw [if_neg, if_neg (by simp [hcs])]
      · rw [← he]
      · rintro ⟨h1, h2⟩
        exact hcs (suffix_rune c stop (hq c (by simp)) hs _ h1 h2)
theorem valid_split : ∀ (t : List UInt8) (p : List UInt8) (rest : List (List UInt8)), splitB t = p :: rest → ∀ a, validD (a ++ p) = true → (∀ q ∈ rest, validD q = true) → validD (a ++ t) = true
  | [], p, rest, h, a, hp, hr => by
    simp only [splitB, List.cons.injEq] at h
    obtain ⟨rfl, rfl⟩ := h
    exact hp
  | b :: t, p, rest, h, a, hp, hr => by
    obtain ⟨p', rest', h'⟩ := List.exists_cons_of_ne_nil (splitB_ne t)
    rw [splitB] at h
    split at h
    · rename_i hb
      subst hb
      obtain ⟨rfl, rfl⟩ := List.cons.inj h
      rw [List.append_nil] at hp
      have h1 := valid_split t p' rest' h' [32] (by
        rw [h'] at hr
        exact valid_append _ _ (by decide) (hr p' (by simp))) (fun q hq => hr q (by rw [h']; simp [hq]))
      exact valid_append _ _ hp h1
    · rw [h'] at h
      simp only at h
      obtain ⟨rfl, rfl⟩ := List.cons.inj h
      have := valid_split t p' rest' h' (a ++ [b]) (by simpa using hp) hr
      simpa using this
def hostB (L : Int → Bool) (w : List UInt8) : Bool := decide (0 < w.length) && (validD w && ((runesL w).all L && decide ((runesL w).length ≤ 40)))
theorem host_enc (L : Int → Bool) (q : List Int) (hq : ∀ r ∈ q, scalar r) : hostB L (encL q) = hostR L q := by
  have e : runesL (encL q) = q := by have := runes_encL q hq []; rw [List.append_nil] at this; rw [this, runesL_nil, List.append_nil]
  unfold hostB hostR
  rw [valid_encL q hq, e, Bool.true_and]
  congr 1
  cases q with
  | nil => rfl
  | cons r q =>
    rw [decide_eq_true, decide_eq_true (by simp)]
    exact List.length_pos_iff.2 (by unfold encL; rw [List.flatMap_cons]; exact enc_ne r _)
theorem refB_eq (L : Int → Bool) (stop : Int) (hs : scalar stop) (t : List UInt8) : refG (stoppedB (encodeRune stop)) (hostB L) (splitB t) [] = if validD t = true then (refG (stoppedR stop) (hostR L) (splitR (runesL t)) []).map (fun o => o.map (fun ws => ws.map encL)) else none := by
  by_cases hv : validD t = true
  · rw [if_pos hv]
    have hsc := scalar_runes t
    have h1 := split_enc (runesL t) hsc
    rw [(valid_iff t).1 hv] at h1
    rw [h1]
    refine refG_map encL (splitR (runesL t)) [] (fun q hq => stopped_enc stop hs q (fun r hr => hsc r (splitR_mem _ q hq r hr))) (fun q hq => host_enc L _ ?_)
    intro r hr
    refine hsc r (splitR_mem _ q hq r ?_)
    unfold stoppedR at hr
    split at hr
    · exact List.dropLast_subset _ hr
    · exact hr
  · rw [if_neg hv]
    have key : ∀ (parts words : List (List UInt8)) o, refG (stoppedB (encodeRune stop)) (hostB L) parts words = some o → ∀ q ∈ parts, validD q = true := by
      intro parts
      induction parts with
      | nil => intro words o _ q hq; cases hq
      | cons a parts ih =>
        intro words o h q hq
        rw [refG] at h
        split at h
        · rename_i hh
          have hva : validD a = true := by
            unfold hostB at hh
            rw [Bool.and_eq_true, Bool.and_eq_true] at hh
            have h2 := hh.2.1
            unfold stoppedB at h2
            split at h2
            · rename_i hc
              have : a = a.take (a.length - (encodeRune stop).length) ++ encodeRune stop := by
                exact (List.take_append_drop (a.length - (encodeRune stop).length) a).symm.trans (by rw [hc.2])
              rw [this]
              exact valid_append _ _ h2 (by have := valid_encL [stop] (by simpa using hs); simpa [encL] using this)
            · exact h2
          rcases List.mem_cons.1 hq with rfl | hq
          · exact hva
          · split at h
            · obtain ⟨o', ho', _⟩ := Option.map_eq_some_iff.1 h
              exact ih _ _ ho' q hq
            · exact ih _ _ h q hq
        · cases h
    cases e : refG (stoppedB (encodeRune stop)) (hostB L) (splitB t) [] with
    | none => rfl
    | some o =>
      exfalso
      obtain ⟨p, rest, hp⟩ := List.exists_cons_of_ne_nil (splitB_ne t)
      have k := key _ _ _ e
      rw [hp] at k
      have := valid_split t p rest hp [] (by simpa using k p (by simp)) (fun q hq => k q (by simp [hq]))
      exact hv (by simpa using this)
end Go.Proofs.YtfbhdjflkaldgaaDoor.Pr

namespace Go.Proofs.YtfbhdjflkaldgaaDoor.Pr
open Go.Proofs.YtfbhdjflkaldgaaDoor.Ct Go.RowKit Go.Maps Go.Lib Go.Proofs.YtfbhdjflkaldgaaDoorW.PrintWords Go.Proofs.YtfbhdjflkaldgaaDoorW.PrintLast Go.Proofs.YtfbhdjflkaldgaaDoorW.PrintMore
set_option linter.unusedVariables false
set_option linter.unusedSimpArgs false
theorem R_ne_iter {α : Type} {d : Kd α} {e base it pos : Nat} {ok : Nat → Prop} {w : World} {v : Value} {xs : List α} {s : ByteArray} (h : d.R e w base ok v xs) (hi : w.heap[it]? = some (.stringIter s pos)) : some it ≠ v.ownBlock := by
  intro e1
  obtain ⟨cells, hc⟩ := Kd.R_typed h it e1.symm
  rw [hi] at hc
  cases hc
theorem R_iter {α : Type} {d : Kd α} {e base it pos : Nat} {ok : Nat → Prop} {w : World} {v : Value} {xs : List α} {s : ByteArray} (h : d.R e w base ok v xs) (hi : w.heap[it]? = some (.stringIter s pos)) (pos' : Nat) : d.R e (w.iterAt it s pos') base ok v xs := by
  refine Kd.R_mono (Kd.R_step (Kd.R_bound h) (fun k hk _ => iterAt_other w it k s pos' (fun e1 => ?_))) (fun k hk => hk.1)
  obtain ⟨_, _, _, q, _, cells, hc⟩ := hk
  rw [e1, hi] at hc
  cases hc
theorem conv_R {W : World} {O : Nat} {ok : Nat → Prop} {A : Option Addr} {c : Nat} {cur : List Int} (h : Kd.R (Kd.int .i32) 21 W O ok (.slice A cur.length c) cur) (hs : ∀ r ∈ cur, scalar r) (hp : 0 < cur.length) : (convert 95 9 (.slice A cur.length c)).run Tryd.prog W = .ok (.string (encS cur)) W := by
  have hC := (Kd.R_reads' h).2.2
  obtain ⟨ad, hA, _⟩ := Kd.at_int hC 0 (Int.le_refl _) (by omega)
  subst hA
  rw [run_convert_runes W 95 9 21 ad cur.length c cur (Nat.le_refl _) Tryd.underlying95 Tryd.underlying21 Tryd.underlying9 (fun j hj => by
    obtain ⟨ad2, h2, hx⟩ := Kd.at_int hC (j : Int) (by omega) (by omega)
    obtain rfl := Option.some.inj h2
    rw [Int.toNat_natCast] at hx
    rw [hx]; unfold rd; rw [Int.toNat_natCast]), List.take_of_length_le (Nat.le_refl _), runesBytes_enc cur hs]
theorem leaves_tmps {P : Program} {fn : Func} {t1 t2 : Array Value} {R : Ending → World → Prop} (h : results fn t1 = results fn t2) : ∀ (ds : List Deferred) (u : FrameMode) (w : World), Leaves P fn t1 R ds u w → Leaves P fn t2 R ds u w
  | [], .returning, w, hl => by
    obtain ⟨v, hr, hR⟩ := hl
    exact ⟨v, by rw [← h]; exact hr, hR⟩
  | [], .panicking chain, w, hl => hl
  | [], .run, _, hl => hl.elim
  | d :: ds, u, w, hl => by
    obtain ⟨hrun, fv, cap, f, args, htar, hinv, hcall⟩ := hl
    refine ⟨hrun, fv, cap, f, args, htar, hinv, hcall.mono ?_⟩
    intro e u' w' hr
    cases e with
    | returned v => exact leaves_tmps h ds _ _ hr
    | panicked chain => exact leaves_tmps h ds _ _ hr
    | outgrown => exact hr
theorem put_panic {R : Ending → World → Prop} {d : Nat} {v : Value} (h4 : d ≠ 4) (h5 : d ≠ 5) (c : List PanicEntry) (a : Act) (w : World) (h : bodyPostD Tryd.prog Tryd.f20 R (.panic c) (a.put (some d) v) w) : bodyPostD Tryd.prog Tryd.f20 R (.panic c) a w := by
  refine leaves_tmps ?_ _ _ _ h
  simp [results, Tryd.results20, Act.put, h4, h5]
structure RdW (text : ByteArray) (w2 w : World) (O it pos : Nat) (ws : List (List Int)) (cur : List Int) (outs : List (List (List Int))) (N : Nat) (v6 v7 vo : Value) : Prop where
  hit : w.heap[it]? = some (.stringIter text pos)
  row6 : Kd.R Kd.string 9 w N (fun _ => True) v6 (ws.map encS)
  row7 : Kd.R (Kd.int .i32) 21 w O (fun _ => True) v7 cur
  rowO : Kd.R (Kd.slice 9 Kd.string) 31 w O (fun k => k < N) vo (outs.map (fun ws => ws.map encS))
  hO : w.heap[O]? = some (.cells #[vo] 49 (0, 0))
  hK : w.heap[O + 1]? = some (.cells #[.bool false] 4 (0, 0))
  hN : N ≤ w.heap.size
  hit2 : it < N
  hO2 : O + 1 < it
  hB : Below O w2 w
section
variable {text : ByteArray} {w2 w w1 w3 : World} {O it pos : Nat} {ws : List (List Int)} {cur : List Int} {outs : List (List (List Int))} {N : Nat} {v6 v7 vo : Value}
theorem RdW.iter (h : RdW text w2 w O it pos ws cur outs N v6 v7 vo) (pos2 : Nat) : RdW text w2 (w.iterAt it text pos2) O it pos2 ws cur outs N v6 v7 vo where
  hit := iterAt_heap _ _ _ _ _ h.hit
  row6 := R_iter h.row6 h.hit _
  row7 := R_iter h.row7 h.hit _
  rowO := R_iter h.rowO h.hit _
  hO := (iterAt_other _ _ _ _ _ (by have := h.hO2; omega)).trans h.hO
  hK := (iterAt_other _ _ _ _ _ (by have := h.hO2; omega)).trans h.hK
  hN := by rw [iterAt_size]; exact h.hN
  hit2 := h.hit2
  hO2 := h.hO2
  hB := below_iterAt h.hB (by have := h.hO2; omega) _ _
theorem RdW.drew (h : RdW text w2 w O it pos ws cur outs N v6 v7 vo) : RdW text w2 w.drew O it pos ws cur outs N v6 v7 vo where
  hit := h.hit
  row6 := Kd.R_drew h.row6
  row7 := Kd.R_drew h.row7
  rowO := Kd.R_drew h.rowO
  hO := h.hO
  hK := h.hK
  hN := h.hN
  hit2 := h.hit2
  hO2 := h.hO2
  hB := h.hB.drew
theorem RdW.letter (h : RdW text w2 w O it pos ws cur outs N v6 v7 vo) {R : Int} {v7' : Value} (hr : Kd.R (Kd.int .i32) 21 w1 O (fun _ => True) v7' (cur ++ [R])) (hb : Below O w2 w1) (hg : w.grownBy w1 v7.ownBlock) : RdW text w2 w1 O it pos ws (cur ++ [R]) outs N v6 v7' vo where
  hit := (hg.block it (Array.getElem?_eq_some_iff.1 h.hit).1 (R_ne_iter h.row7 h.hit)).trans h.hit
  row6 := Kd.R_over' h.row6 (Kd.R_typed h.row7) (by decide) hg
  row7 := hr
  rowO := Kd.R_over' h.rowO (Kd.R_typed h.row7) (by decide) hg
  hO := blk_grown h.hO hg (Kd.R_ne h.row7 h.hO (by decide))
  hK := blk_grown h.hK hg (Kd.R_ne h.row7 h.hK (by decide))
  hN := Nat.le_trans h.hN hg.size
  hit2 := h.hit2
  hO2 := h.hO2
  hB := hb
theorem RdW.clear (h : RdW text w2 w O it pos ws cur outs N v6 v7 vo) : RdW text w2 w O it pos ws [] outs N v6 (.slice none 0 0) vo where
  hit := h.hit
  row6 := h.row6
  row7 := Kd.R_nil _ _ _ _ _
  rowO := h.rowO
  hO := h.hO
  hK := h.hK
  hN := h.hN
  hit2 := h.hit2
  hO2 := h.hO2
  hB := h.hB
theorem RdW.far (h : RdW text w2 w O it pos ws cur outs N v6 v7 vo) (k : Nat) (hk : k < N) : some k ≠ v6.ownBlock := fun e => by
  have := Kd.R_base h.row6 k e.symm; omega
theorem RdW.word (h : RdW text w2 w O it pos ws cur outs N v6 v7 vo) {v6' : Value} (hr : Kd.R Kd.string 9 w1 N (fun _ => True) v6' (ws.map encS ++ [encS cur])) (hb : Below N w w1) (hg : w.grownBy w1 v6.ownBlock) : RdW text w2 w1 O it pos (ws ++ [cur]) [] outs N v6' (.slice none 0 0) vo where
  hit := (hg.block it (Array.getElem?_eq_some_iff.1 h.hit).1 (h.far it h.hit2)).trans h.hit
  row6 := by rw [List.map_append]; exact hr
  row7 := Kd.R_nil _ _ _ _ _
  rowO := Kd.R_grown h.rowO hg (fun k hk => h.far k hk)
  hO := blk_grown h.hO hg (h.far O Gc23)
  hK := blk_grown h.hK hg (h.far (O + 1) Gc23)
  hN := Nat.le_trans h.hN hg.size
  hit2 := h.hit2
  hO2 := h.hO2
  hB := h.hB.trans (hb.mono Gc23)
theorem RdW.mid (h : RdW text w2 w O it pos ws cur outs N v6 v7 vo) (hb : Below N w w1) (hg : w.grownBy w1 v6.ownBlock) : Kd.R (Kd.slice 9 Kd.string) 31 w1 O (fun _ => True) vo (outs.map (fun ws => ws.map encS)) ∧ Below O w2 w1 :=
  ⟨Kd.R_mono (Kd.R_grown h.rowO hg (fun k hk => h.far k hk)) (fun _ _ => trivial), h.hB.trans (hb.mono Gc23)⟩
theorem RdW.sentence (h : RdW text w2 w O it pos ws cur outs N v6 v7 vo) {vo' : Value} (hb : Below N w w1) (hg : w.grownBy w1 v6.ownBlock) (hr : Kd.R (Kd.slice 9 Kd.string) 31 w3 O (fun _ => True) vo' (outs.map (fun ws => ws.map encS) ++ [ws.map encS ++ [encS cur]])) (hb3 : Below O w2 w3) (hg3 : w1.grownBy w3 vo.ownBlock) : RdW text w2 (w3.setCell ⟨O, 0, none⟩ vo') O it pos [] [] (outs ++ [ws ++ [cur]]) (w3.setCell ⟨O, 0, none⟩ vo').heap.size (.slice none 0 0) (.slice none 0 0) vo' := by
  obtain ⟨hrO, hbO⟩ := h.mid hb hg
  have i1 : w1.heap[it]? = some (.stringIter text pos) := (hg.block it (Array.getElem?_eq_some_iff.1 h.hit).1 (h.far it h.hit2)).trans h.hit
  have o1 := blk_grown h.hO hg (h.far O Gc23)
  have k1 := blk_grown h.hK hg (h.far (O + 1) Gc23)
  have i3 : w3.heap[it]? = some (.stringIter text pos) := (hg3.block it (Array.getElem?_eq_some_iff.1 i1).1 (R_ne_iter hrO i1)).trans i1
  have o3 := blk_grown o1 hg3 (Kd.R_ne hrO o1 (by decide))
  have k3 := blk_grown k1 hg3 (Kd.R_ne hrO k1 (by decide))
  have hs : (w3.setCell ⟨O, 0, none⟩ vo').heap.size = w3.heap.size := by simp [World.setCell]
  exact {
    hit := (Below.heap_setCell _ _ _ _ (by show it ≠ O; have := h.hO2; omega)).trans i3
    row6 := Kd.R_nil _ _ _ _ _
    row7 := Kd.R_nil _ _ _ _ _
    rowO := by
      rw [List.map_append, List.map_cons, List.map_nil, List.map_append, List.map_cons, List.map_nil]
      exact Kd.R_mono (Kd.R_bound (Kd.R_set hr o3 (by decide) 0 vo')) (fun k hk => hk.2.2.1)
    hO := blk_put o3 0 vo' rfl
    hK := (Below.heap_setCell _ _ _ _ (by show O + 1 ≠ O; omega)).trans k3
    hN := Nat.le_refl _
    hit2 := by rw [hs]; exact (Array.getElem?_eq_some_iff.1 i3).1
    hO2 := h.hO2
    hB := hb3.setCell (Nat.le_refl _) _ }
end
def readT (l : List S80) (stop : Int) (text : ByteArray) : Option (List (List ByteArray)) := if validD text.data.toList = true then (readOk (isL l) stop (runesS text) [] [] false true).map (fun o => o.map (fun ws => ws.map encS)) else none
theorem leave_panic {R : Ending → World → Prop} {tmps : Array Value} (w : World) (O : Nat) (x : Value) (u : TypeId) (pv : Value) (hx : w.heap[O]? = some (.cells #[x] 49 (0, 0))) (hk : w.heap[O + 1]? = some (.cells #[.bool false] 4 (0, 0))) (h4 : tmps[4]? = some (.pointer (some ⟨O, 0, none⟩))) (h5 : tmps[5]? = some (.pointer (some ⟨O + 1, 0, none⟩)))
    (h : R (.returned (.tuple #[.slice none 0 0, .bool false])) ((w.setCell ⟨O, 0, none⟩ (.slice none 0 0)).setCell ⟨O + 1, 0, none⟩ (.bool false))) :
    Leaves Tryd.prog Tryd.f20 tmps R [{ target := .fn (.func 35) #[.pointer (some ⟨O, 0, none⟩), .pointer (some ⟨O + 1, 0, none⟩)], args := #[] }] (.panicking [{ v := .iface u pv, recovered := false }]) w := by
  refine leaves_cons (f := 35) (args := #[.pointer (some ⟨O, 0, none⟩), .pointer (some ⟨O + 1, 0, none⟩)]) (by simp) (by simp [go_sem]) ?_
  have c1 : w.cell? ⟨O, 0, none⟩ = some x := by rw [Lib.cell_of_heap hx]; rfl
  have c2 : w.cell? ⟨O + 1, 0, none⟩ = some (.bool false) := by rw [Lib.cell_of_heap hk]; rfl
  refine (catch_panicking ⟨O, 0, none⟩ ⟨O + 1, 0, none⟩ x (.bool false) u pv [] w (by simp) c1 (Lib.frozen_of_heap hx 0) c2 (Lib.frozen_of_heap hk 0)).mono ?_
  rintro e u' w'' ⟨rfl, rfl, rfl⟩
  simp [Leaves, settle, results, Tryd.results20, go_sem, h4, h5, c1, c2]
  exact h
theorem leave_return {R : Ending → World → Prop} {tmps : Array Value} (w : World) (O : Nat) (x y : Value) (hx : w.cell? ⟨O, 0, none⟩ = some x) (hk : w.cell? ⟨O + 1, 0, none⟩ = some y) (h4 : tmps[4]? = some (.pointer (some ⟨O, 0, none⟩))) (h5 : tmps[5]? = some (.pointer (some ⟨O + 1, 0, none⟩)))
    (h : R (.returned (.tuple #[x, y])) w) :
    Leaves Tryd.prog Tryd.f20 tmps R [{ target := .fn (.func 35) #[.pointer (some ⟨O, 0, none⟩), .pointer (some ⟨O + 1, 0, none⟩)], args := #[] }] .returning w := by
  refine leaves_cons (f := 35) (args := #[.pointer (some ⟨O, 0, none⟩), .pointer (some ⟨O + 1, 0, none⟩)]) (by simp) (by simp [go_sem]) ?_
  refine (catch_idle ⟨O, 0, none⟩ ⟨O + 1, 0, none⟩ w).mono ?_
  rintro e u' w'' ⟨rfl, rfl, rfl⟩
  simp [Leaves, settle, results, Tryd.results20, go_sem, h4, h5, hx, hk]
  exact h
set_option maxRecDepth 1000000 in
theorem LRdxx1 {p : Prop} (h : p := by
  rw [if_neg (fun h => h32 h.1)] at hrem2
  by_cases hsb : R = stop
  · have hsbb : (R == stop) = true := beq_iff_eq.2 hsb
    rw [if_pos ⟨hsb, e1⟩] at hrem2
    have z1_ := Aside0.mk hrem2
    clear hrem2 h32 hsb
    have hD := hW'.out.drew
    obtain ⟨Wd, hWd⟩ : ∃ Wd, Wn.drew = Wd := ⟨_, rfl⟩
    rw [hWd] at hD
    have hD' := Aside0.mk hD
    have hcv := conv_R (W := Wd) hD'.out.row7 hcur.out e1
    have z2_ : Wd.cell? ⟨O, 0, none⟩ = some (.slice AO XO.length cO) := by rw [blk_cell hD'.out.hO]; rfl
    have z3_ : Wn.cell? ⟨O, 0, none⟩ = some (.slice AO XO.length cO) := by rw [blk_cell hW'.out.hO]; rfl
    clear hD
    have z4_ := Aside0.mk (show Kd.R Kd.string 9 Wd N (fun _ => True) (.slice A6 X6.length c6) X6 from by have z5_ := hD'.out.row6; rw [hX6'.out] at z5_; exact z5_)
    go_wp2
    refine start_ (n := 9) (S := fun w' => w'.cell? ⟨O, 0, none⟩ = some (.slice AO XO.length cO)) (ds := [8]) #[false, false, false, false, false, false, false, false, false] (by kernel_rfl) rfl rfl (z3_) (fun hHeld => ?_)
    rw [hWd] at hHeld ⊢
    refine pKP 1 81 ?_
    refine pKP 2 82 ?_
    refine take_ (i := 0) (N := some 80) (v := ?_) (a' := ?_) #[true, true, true, false, false, false, false, false, false] rfl rfl (by kernel_rfl) (fun c_ a_ w_ h_ => put_panic (by decide) (by decide) c_ a_ w_ h_) (Or.inl ⟨by rfl, ?_⟩) hHeld ?_ ?_
    rotate_left
    · intro w' z6_
      go_simp
      with_reducible rfl
    rotate_left
    · exact GpR
    refine one_ (i := 3) (N := some 83) #[true, true, true, true, false, false, false, false, false] rfl rfl (by kernel_rfl) (by decide) (fun K hK => ?_)
    refine value_ (w1 := ?_) (v := ?_) (by rfl) rfl ?_ ?_
    rotate_left 2
    · go_simp
      constructor
      · rfl
      · rfl
    refine hK.out _ _ (z2_) (fun hHeld => ?_)
    clear hK K
    refine nR 83 ?_
    refine one_ (i := 4) (N := some 84) #[true, true, true, true, true, false, false, false, false] rfl rfl (by kernel_rfl) (by decide) (fun K hK => ?_)
    refine value_ (w1 := ?_) (v := ?_) (by rfl) rfl ?_ ?_
    rotate_left 2
    · go_simp
      constructor
      · rfl
      · rfl
    refine hK.out _ _ (cell_keep _ z2_) (fun hHeld => ?_)
    clear hK K
    refine nR 84 ?_
    refine one_ (i := 5) (N := some 85) #[true, true, true, true, true, true, false, false, false] rfl rfl (by kernel_rfl) (by decide) (fun K hK => ?_)
    refine Kd.R_append_step Kd.string (w0 := Wd) N (by rfl) (.tmp 81) (.tmp 84) 31 9 (.string ⟨#[]⟩) 16 rfl Tryd.underlying31 info9 rfl (by decide) (by omega) (.slice A6 X6.length c6) X6 (encS cur) [.string (encS cur)] (fun _ => True) (fun _ => False) rfl rfl ?aP (fun _ hk => hk.elim) (fun _ _ => trivial) ?aO ?aB ?aS ?aL ?_
    (case aP => exact rfl)
    (case aO => exact z4_.out)
    (case aB => exact Below.refl _ _)
    (case aS => exact hD'.out.hN)
    (case aL => have := hcnt3.out; have := hsz'.out; have := hX6l.out; omega)
    intro z7_ z8_ z9_ z10_ z11_ z12_
    obtain ⟨z13_, z14_⟩ : ∃ X, X6 ++ [encS cur] = X := ⟨_, rfl⟩
    rw [z14_] at z9_
    obtain ⟨z15_, z16_, z17_⟩ := Kd.R_slice z9_
    subst z17_
    have z18_ := Aside0.mk z14_
    clear z14_
    have z19_ : z8_.cell? ⟨O, 0, none⟩ = some (.slice AO XO.length cO) := by rw [blk_cell (blk_grown (hD'.out.hO) z11_ (hD'.out.far O Gc28))]; rfl
    have hmid := Aside0.mk (hD'.out.mid z10_ z11_)
    have z20_ := Aside0.mk z9_
    have z21_ := Aside0.mk z10_
    have z22_ := Aside0.mk z11_
    clear z9_ z10_ z11_ z12_
    refine hK.out _ _ (z19_) (fun hHeld => ?_)
    clear hK K
    refine nR 85 ?_
    refine one_ (i := 6) (N := some 86) #[true, true, true, true, true, true, true, false, false] rfl rfl (by kernel_rfl) (by decide) (fun K hK => ?_)
    refine value_ (w1 := ?_) (v := ?_) (by rfl) rfl ?_ ?_
    rotate_left 2
    · go_simp
      constructor
      · rfl
      · rfl
    refine hK.out _ _ (cell_keep _ z19_) (fun hHeld => ?_)
    clear hK K
    refine nR 86 ?_
    refine one_ (i := 7) (N := some 87) #[true, true, true, true, true, true, true, true, false] rfl rfl (by kernel_rfl) (by decide) (fun K hK => ?_)
    refine Kd.R_append_step (Kd.slice 9 Kd.string) (w0 := w2) O (by rfl) (.tmp 80) (.tmp 86) 49 31 (.slice none 0 0) 24 rfl Tryd.underlying49 info31 rfl (by decide) (by omega) (.slice AO XO.length cO) XO z13_ [.slice z15_ z13_.length z16_] (fun _ => True) (fun k => ∃ cells, z8_.heap[k]? = some (.cells cells 9 (0, 0))) rfl rfl ?aP ?aQ (fun _ _ => trivial) ?aO ?aB ?aS ?aL ?_
    (case aP => exact Kd.M_row (Kd.R_mono (Kd.R_lower (Kd.R_bound z20_.out) Gc28) (fun k hk => by obtain ⟨q, hq, cells, hc⟩ := hk.2.2.2; rcases List.mem_cons.1 hq with z5_ | z5_; (subst z5_; exact ⟨cells, hc⟩); (have z23_ : q ∈ ([] : List TypeId) := z5_; cases z23_))))
    (case aQ => rintro k ⟨cells, hc⟩; refine ⟨trivial, fun z24_ => ?_⟩; obtain ⟨z25_, z26_⟩ := Kd.R_typed hmid.out.1 k z24_.symm; rw [hc] at z26_; simp at z26_)
    (case aO => rw [← hXO'.out]; have z5_ := hmid.out.1; rw [← hXO'.out] at z5_; exact z5_)
    (case aB => exact hmid.out.2)
    (case aS => have := hmid.out.2.size; have := hit'.out; have := hD'.out.hO2; omega)
    (case aL => have := hcnt3.out; have := hsz'.out; have := hXOl.out; omega)
    intro vn z27_ z28_ z29_ z30_ z31_
    obtain ⟨Y, hY⟩ : ∃ Y, XO ++ [z13_] = Y := ⟨_, rfl⟩
    rw [hY] at z28_
    obtain ⟨An, cn, en⟩ := Kd.R_slice z28_
    subst en
    have hY' := Aside0.mk hY
    clear hY
    have z32_ := blk_grown (blk_grown (hD'.out.hO) z22_.out (hD'.out.far O Gc28)) z30_ (Kd.R_ne hmid.out.1 (blk_grown (hD'.out.hO) z22_.out (hD'.out.far O Gc28)) (by decide))
    have z33_ : z27_.cell? ⟨O, 0, none⟩ = some (.slice AO XO.length cO) := by rw [blk_cell z32_]; rfl
    have z34_ : z27_.frozen? ⟨O, 0, none⟩ = false := blk_frozen z32_ 0
    have z35_ := Aside0.mk z28_
    have z36_ := Aside0.mk z29_
    have z37_ := Aside0.mk z30_
    clear z28_ z29_ z30_ z31_ z32_
    refine hK.out _ _ (z33_) (fun hHeld => ?_)
    clear hK K
    refine nR 87 ?_
    refine last_ (i := 8) (N := none) #[true, true, true, true, true, true, true, true, true] rfl rfl (by kernel_rfl) (by decide) (fun K hK => ?_)
    refine skip_ (w1 := ?_) (by rfl) rfl ?_ ?_
    rotate_left
    · go_simp
      rfl
    refine hK.out _ _ ?_
    clear hK K
    refine done_ (by kernel_rfl) ?_
    have z38_ := Aside0.mk (hD'.out.sentence z21_.out z22_.out (show Kd.R (Kd.slice 9 Kd.string) 31 z27_ O (fun _ => True) (.slice An Y.length cn) (outs.map (fun ws => ws.map encS) ++ [ws.map encS ++ [encS cur]]) from by rw [hXO'.out, hX6'.out, z18_.out, hY'.out]; exact z35_.out) z36_.out z37_.out)
    go_wp2
    go_roundg g1
    case measure => omega
    case rel => exact ⟨pos2, [], [], true, false, outs ++ [ws ++ [cur]], _, _, rfl, rfl, hw', ⟨by rw [hRST'.out, z1_.out]; cases readOk (isL l) stop RST [] [] true false <;> simp⟩, ⟨by rw [hRST'.out]; have := hcnt3.out; simp at this ⊢; omega⟩, ⟨by simp⟩, ⟨.inr (.inr ⟨rfl, rfl, rfl⟩)⟩, z38_⟩
  · have hsbb : (R == stop) = false := beq_eq_false_iff_ne.2 hsb
    rw [if_neg (fun h => hsb h.1)] at hrem2
    have z1_ := Aside0.mk hrem2
    clear hrem2 h32 hsb
    obtain rfl : ans = none := z1_.out
    clear z1_
    go_wp2
    refine leave_panic Wn O _ _ _ hW'.out.hO hW'.out.hK rfl rfl ?_
    have hBz := (hBn'.out.setCell (p := ⟨O, 0, none⟩) Gc30 (.slice none 0 0)).setCell (p := ⟨O + 1, 0, none⟩) Gc29 (.bool false)
    first | exact ⟨_, _, rfl, rfl, hBz⟩ | exact ⟨⟨_, rfl⟩, hBz⟩) : p := h
theorem LRdxx2 {p : Prop} (h : p := by
  obtain rfl : ans = none := hrem3.out
  clear hrem3
  go_wp2
  refine leave_panic Wn O _ _ _ hW'.out.hO hW'.out.hK rfl rfl ?_
  have hBz := (hBn'.out.setCell (p := ⟨O, 0, none⟩) Gc30 (.slice none 0 0)).setCell (p := ⟨O + 1, 0, none⟩) Gc29 (.bool false)
  first | exact ⟨_, _, rfl, rfl, hBz⟩ | exact ⟨⟨_, rfl⟩, hBz⟩) : p := h
theorem LRdxx3 {p : Prop} (h : p := by
  rw [if_pos ⟨h32, .inl e1⟩, if_pos e1] at hrem2
  have z1_ := Aside0.mk hrem2
  clear hrem2 h32
  have hcv := conv_R (W := Wn) hW'.out.row7 hcur.out e1
  go_wp2_with ((with_reducible refine gate_builtin (b := .append) (xs := #[.tmp 63, .tmp 66]) rfl ?_); at_builtin; refine Kd.R_append Kd.string (w0 := Wn) N rfl (.tmp 63) (.tmp 66) 31 9 (.string ⟨#[]⟩) 16 rfl Tryd.underlying31 info9 rfl (by decide) (by omega) (.slice A6 X6.length c6) X6 (encS cur) [.string (encS cur)] (fun _ => True) (fun _ => False) rfl rfl ?aP (fun _ hk => hk.elim) (fun _ _ => trivial) ?aO ?aB ?aS ?aL ?_; (case aP => exact rfl); (case aO => rw [← hX6'.out]; rw [← hX6'.out] at hW'; exact hW'.out.row6); (case aB => exact Below.refl _ _); (case aS => exact hW'.out.hN); (case aL => have := hcnt3.out; have := hsz'.out; have := hX6l.out; omega); intro z2_ z3_ hr hb hg hat)
  have z4_ := Aside0.mk (hW'.out.word (by rw [hX6'.out]; exact hr) hb hg)
  clear hr hb hg hat
  go_roundg g1
  case measure => omega
  case rel => exact ⟨pos2, ws ++ [cur], [], false, true, outs, N, _, rfl, rfl, hw', ⟨by rw [hRST'.out]; exact z1_.out⟩, ⟨by rw [hRST'.out]; have := hcnt3.out; simp at this ⊢; omega⟩, ⟨by simp⟩, ⟨.inl ⟨rfl, rfl, rfl⟩⟩, z4_⟩) : p := h
theorem LRdxx4 {p : Prop} (h : p := by
  rw [if_neg (by simp)] at hrem2
  by_cases z1_ : R = 32
  · have z2_ : (R == 32) = true := beq_iff_eq.2 z1_
    rw [if_pos ⟨z1_, .inr rfl⟩, if_neg (by simp)] at hrem2
    have hrem3 := Aside0.mk hrem2
    clear hrem2 z1_
    have z3_ := Aside0.mk hW'.out.clear
    go_wp2
    go_roundg g1
    case measure => omega
    case rel => exact ⟨pos2, ws, [], false, true, outs, N, _, rfl, rfl, hw', ⟨by rw [hRST'.out]; exact hrem3.out⟩, ⟨by rw [hRST'.out]; have := hcnt3.out; simp at this ⊢; omega⟩, ⟨by simp⟩, ⟨.inl ⟨rfl, rfl, rfl⟩⟩, z3_⟩
  · have z2_ : (R == 32) = false := beq_eq_false_iff_ne.2 z1_
    rw [if_neg (fun h => z1_ h.1), if_neg (fun h => by simp at h)] at hrem2
    have hrem3 := Aside0.mk hrem2
    clear hrem2 z1_
    cases hsb : (R == stop) with
    | true =>
      exact LRdxx2
    | false =>
      exact LRdxx2) : p := h
theorem LRdxx5 {p : Prop} (h : p := by
  rw [if_neg (by simp)] at hrem2
  rw [if_neg (by simp)] at hrem2
  have hrem3 := Aside0.mk hrem2
  clear hrem2 h32
  cases hsb : (R == stop) with
  | true =>
    exact LRdxx2
  | false =>
    exact LRdxx2) : p := h
set_option maxRecDepth 100000 in
set_option maxHeartbeats 4000000 in
theorem read_calls (B mb : Nat) (l : List S80) (stop : Int) (text : ByteArray) (w : World) (hT : Tabs w) (hrd : ReaderAt w B mb l stop) (hsz : text.size ≤ 1099511627776) :
    Calls Tryd.prog 20 #[.pointer (some ⟨B, 0, none⟩), .string text] w fun e w' => ∃ v b, e = .returned (.tuple #[v, .bool b]) ∧ (match readT l stop text with | some o => b = true ∧ Kd.R (Kd.slice 9 Kd.string) 31 w' w.heap.size (fun _ => True) v o | none => b = false) ∧ Below w.heap.size w w' := by
  have hmf : ∀ (fn : Fn) (first cap : Array Value) (w : World), (Instr.makeFunc fn first cap).run Tryd.prog w = .ok (.func fn first cap) w := fun _ _ _ _ => rfl
  obtain ⟨W1, hW1⟩ : ∃ W1, (w.alloc (.cells #[.slice none 0 0] 49)).alloc (.cells #[.bool false] 4) = W1 := ⟨_, rfl⟩
  have hB1 : Below w.heap.size w W1 := by rw [← hW1]; exact ((Below.refl _ w).alloc (Nat.le_refl _) _).alloc (by simp) _
  have hs1 : w.heap.size + 2 = W1.heap.size := by rw [← hW1]; simp
  have hO1 : W1.heap[w.heap.size]? = some (.cells #[.slice none 0 0] 49 (0, 0)) := by
    rw [← hW1]
    exact (Below.heap_alloc _ _ _ (by simp)).trans (World.alloc_heap_new w _)
  have hK1 : W1.heap[w.heap.size + 1]? = some (.cells #[.bool false] 4 (0, 0)) := by
    rw [← hW1]
    have := World.alloc_heap_new (w.alloc (.cells #[.slice none 0 0] 49)) (.cells #[.bool false] 4)
    simpa using this
  have hv := utf8_ValidString.calls text (validD text.data.toList) W1 (tabs_below hT hB1) Gc21
  have hrd' := Aside0.mk hrd
  have hsz' := Aside0.mk hsz
  have hB1' := Aside0.mk hB1
  have hs1' := Aside0.mk hs1
  have hO1' := Aside0.mk hO1
  have hK1' := Aside0.mk hK1
  obtain ⟨ans, hans⟩ : ∃ ans, readT l stop text = ans := ⟨_, rfl⟩
  rw [hans]
  have hans' := Aside0.mk hans
  clear hT hrd hsz hB1 hs1 hO1 hK1 hans
  cases hvd : validD text.data.toList with
  | false =>
    rw [hvd] at hv
    obtain rfl : ans = none := by rw [← hans'.out]; unfold readT; rw [hvd]; rfl
    clear hvd
    go_enter_defers Tryd.func20, Tryd.ntmps20
    go_wp2_with (go_at_call 36; refine hv.mono ?_; clear hv; rintro e w2 ⟨rfl, hB2⟩)
    refine leave_panic w2 w.heap.size _ _ _ ((hB2.block _ (by have := hs1'.out; omega)).trans hO1'.out) ((hB2.block _ (by have := hs1'.out; omega)).trans hK1'.out) rfl rfl ?_
    exact ⟨_, _, rfl, rfl, ((hB1'.out.trans (hB2.mono hB1'.out.size)).setCell (Nat.le_refl _) _).setCell (Nat.le_succ _) _⟩
  | true =>
    rw [hvd] at hv
    go_enter_defers Tryd.func20, Tryd.ntmps20
    go_wp2_with (go_at_call 36; refine hv.mono ?_; clear hv; rintro e w2 ⟨rfl, hB2⟩)
    have hrun0 : ans = (readOk (isL l) stop (runesS text) [] [] false true).map (fun o => o.map (fun ws => ws.map encS)) := by rw [← hans'.out]; unfold readT; rw [if_pos hvd]
    have hrun := Aside0.mk hrun0
    obtain ⟨it, hit⟩ : ∃ it, w2.heap.size = it := ⟨_, rfl⟩
    have hit' := Aside0.mk hit
    have hB2' := Aside0.mk hB2
    obtain ⟨O, hO⟩ : ∃ O, w.heap.size = O := ⟨_, rfl⟩
    have hO' := Aside0.mk hO
    have hst0 : RdW text w2 (w2.iter text 0) O it 0 [] [] [] (it + 1) (.slice none 0 0) (.slice none 0 0) (.slice none 0 0) := by
      rw [← hit, ← hO]
      have h2 := hs1'.out
      have h3 := hB2.size
      exact { hit := World.iter_heap w2 text 0, row6 := Kd.R_nil _ _ _ _ _, row7 := Kd.R_nil _ _ _ _ _, rowO := Kd.R_nil _ _ _ _ _, hO := blk_alloc ((hB2.block _ (by omega)).trans hO1'.out) _, hK := blk_alloc ((hB2.block _ (by omega)).trans hK1'.out) _, hN := by simp [World.iter], hit2 := Nat.lt_succ_self _, hO2 := by omega, hB := (Below.refl _ w2).alloc (by omega) _ }
    have hst0' := Aside0.mk hst0
    rw [hit, hO]
    clear hvd hrun0 hit hO hst0 hB2
    go_loopg [6, 7, 8, 9, 11] text.size (fun kq v6 v7 v8 v9 v11 w' => ∃ (pos : Nat) (ws : List (List Int)) (cur : List Int) (ended blank : Bool) (outs : List (List (List Int))) (N : Nat) (vo : Value), v8 = .bool ended ∧ v9 = .bool blank ∧ Aside0 (text.size - pos ≤ kq) ∧ Aside0 (ans = ((readOk (isL l) stop (runesAt text pos) ws cur ended blank).map (fun o => outs ++ o)).map (fun o => o.map (fun ws => ws.map encS))) ∧ Aside0 (cur.length + ws.length + outs.length + (runesAt text pos).length ≤ text.size) ∧ Aside0 (∀ r ∈ cur, scalar r) ∧ Aside0 ((cur = [] ∧ ended = false ∧ blank = true) ∨ (0 < cur.length ∧ ended = false ∧ blank = false) ∨ (cur = [] ∧ ended = true ∧ blank = false)) ∧ Aside0 (RdW text w2 w' O it pos ws cur outs N v6 v7 vo))
    case atStart => exact ⟨0, [], [], false, true, [], it + 1, _, rfl, rfl, ⟨by omega⟩, ⟨by rw [hrun.out, runesAt_zero]; simp⟩, ⟨by rw [runesAt_zero]; have := runesS_length text; simp; omega⟩, ⟨by simp⟩, ⟨.inl ⟨rfl, rfl, rfl⟩⟩, hst0'⟩
    case round =>
      obtain ⟨pos, ws, cur, ended, blank, outs, N, vo, rfl, rfl, hq, hrem, hcnt, hcur, hstt, HS⟩ := hrel
      obtain ⟨A6, c6, e6⟩ := Kd.R_slice HS.out.row6
      subst e6
      obtain ⟨A7, c7, e7⟩ := Kd.R_slice HS.out.row7
      subst e7
      obtain ⟨AO, cO, eO⟩ := Kd.R_slice HS.out.rowO
      subst eO
      have hBw : Below w.heap.size w wr := by have h2 := hB1'.out.trans (hB2'.out.mono hB1'.out.size); rw [hO'.out] at h2 ⊢; exact h2.trans HS.out.hB
      by_cases hp : pos < text.size
      · obtain ⟨g1, rfl⟩ : ∃ g1, gk = g1 + 1 := ⟨gk - 1, by have := hq.out; omega⟩
        have hnx : ∀ ty, (Instr.next (.pointer (some ⟨it, 0, none⟩)) true ty).run Tryd.prog wr = _ := fun ty => run_next_any_at wr it text pos ty HS.out.hit hp
        have hsc := scalar_at text pos
        have hst := runesAt_step hp
        have hwd := width_at hp
        obtain ⟨R, hRR⟩ : ∃ R : Int, ((Utf8.decode text pos).1 : Int) = R := ⟨_, rfl⟩
        rw [hRR] at hsc hst
        simp only [hRR] at hnx
        obtain ⟨pos2, hp2⟩ : ∃ p2, pos + (Utf8.decode text pos).2 = p2 := ⟨_, rfl⟩
        rw [hp2] at hst hnx
        have hW := HS.out.iter pos2
        obtain ⟨Wn, hWn⟩ : ∃ Wn, wr.iterAt it text pos2 = Wn := ⟨_, rfl⟩
        rw [hWn] at hW
        simp only [hWn] at hnx
        have hBn : Below w.heap.size w Wn := by have h2 := hB1'.out.trans (hB2'.out.mono hB1'.out.size); rw [hO'.out] at h2 ⊢; exact h2.trans hW.hB
        have hlook := SetAt.look (w := Wn) (ownsMap_block hrd'.out.2.2 hBn) R (scalar_wf hsc)
        have q30 : Wn.cell? ⟨B, 30, none⟩ = some (.map (some mb)) := (hBn.cell (World.block_lt_of_cell? _ _ hrd'.out.1)).trans hrd'.out.1
        have q31 : Wn.cell? ⟨B, 31, none⟩ = some (.int .i32 stop) := (hBn.cell (World.block_lt_of_cell? _ _ hrd'.out.2.1)).trans hrd'.out.2.1
        have hrem2 := hrem.out
        have hcnt2 := hcnt.out
        rw [hst] at hrem2 hcnt2
        rw [List.length_cons] at hcnt2
        skip
        have hw' : Aside0 (text.size - pos2 ≤ g1) := ⟨by have := hq.out; omega⟩
        obtain ⟨RST, hRST⟩ : ∃ RST, runesAt text pos2 = RST := ⟨_, rfl⟩
        have hRST' := Aside0.mk hRST
        rw [hRST] at hrem2 hcnt2
        have hcnt3 := Aside0.mk hcnt2
        obtain ⟨X6, hX6⟩ : ∃ X, ws.map encS = X := ⟨_, rfl⟩
        obtain ⟨XO, hXO⟩ : ∃ X, outs.map (fun ws => ws.map encS) = X := ⟨_, rfl⟩
        have hX6' := Aside0.mk hX6
        have hXO' := Aside0.mk hXO
        have hX6l := Aside0.mk (show X6.length = ws.length by rw [← hX6, List.length_map])
        have hXOl := Aside0.mk (show XO.length = outs.length by rw [← hXO, List.length_map])
        rw [hX6, hXO] at hW
        rw [hX6]
        have hW' := Aside0.mk hW
        have hBn' := Aside0.mk hBn
        have hsc' := Aside0.mk hsc
        clear hst hsc hwd hp hW hBn hp2 hRR hWn hcnt2 hRST hX6 hXO hBw hcnt hrem
        obtain ⟨b1, hb1⟩ : ∃ b1, isL l R = b1 := ⟨_, rfl⟩
        rw [hb1] at hlook
        rw [readOk, hb1] at hrem2
        rcases hstt.out with ⟨e1, e2, e3⟩ | ⟨e1, e2, e3⟩ | ⟨e1, e2, e3⟩
        · subst e1 e2 e3
          skip
          cases b1 with
          | true =>
            rw [if_pos ⟨rfl, .inl rfl, by simp⟩] at hrem2
            have hrem3 := Aside0.mk hrem2
            clear hrem2
            go_wp2_with ((with_reducible refine gate_builtin (b := .append) (xs := #[.tmp 45, .tmp 47]) rfl ?_); at_builtin; refine Kd.R_append (Kd.int .i32) (w0 := w2) O rfl (.tmp 45) (.tmp 47) 95 21 (.int .i32 0) 4 rfl Tryd.underlying95 info21 rfl (by decide) (by omega) (.slice A7 0 c7) ([] : List Int) R [.int .i32 R] (fun _ => True) (fun _ => False) rfl rfl ?aP (fun _ hk => hk.elim) (fun _ _ => trivial) ?aO ?aB ?aS ?aL ?_; (case aP => exact rfl); (case aO => exact hW'.out.row7); (case aB => exact hW'.out.hB); (case aS => have := hW'.out.hN; have := hW'.out.hit2; have := hW'.out.hO2; omega); (case aL => have := hcnt3.out; have := hsz'.out; simp <;> omega); intro v7 w5 hr hb hg hat)
            have hW5 := Aside0.mk (hW'.out.letter hr hb hg)
            clear hr hb hg hat
            go_roundg g1
            case measure => omega
            case rel => exact ⟨pos2, ws, ([] : List Int) ++ [R], false, false, outs, N, _, rfl, rfl, hw', ⟨by rw [hRST'.out]; exact hrem3.out⟩, ⟨by rw [hRST'.out]; have := hcnt3.out; simp at this ⊢; omega⟩, ⟨by intro r hr; rcases List.mem_append.1 hr with h | h; exact hcur.out r h; rw [List.mem_singleton.1 h]; exact hsc'.out⟩, ⟨.inr (.inl ⟨by simp, rfl, rfl⟩)⟩, hW5⟩
          | false =>
            rw [if_neg (by simp)] at hrem2
            by_cases h32 : R = 32
            · have h32b : (R == 32) = true := beq_iff_eq.2 h32
              exact LRdxx5
            · have h32b : (R == 32) = false := beq_eq_false_iff_ne.2 h32
              exact LRdxx5
        · subst e2 e3
          have e1' : (0 : Int) < (cur.length : Int) := by omega
          cases b1 with
          | true =>
            by_cases h40 : cur.length < 40
            · have h40' : (cur.length : Int) < 40 := by omega
              rw [if_pos ⟨rfl, .inr e1, h40⟩] at hrem2
              have hrem3 := Aside0.mk hrem2
              clear hrem2 h40 e1
              go_wp2_with ((with_reducible refine gate_builtin (b := .append) (xs := #[.tmp 45, .tmp 47]) rfl ?_); at_builtin; refine Kd.R_append (Kd.int .i32) (w0 := w2) O rfl (.tmp 45) (.tmp 47) 95 21 (.int .i32 0) 4 rfl Tryd.underlying95 info21 rfl (by decide) (by omega) (.slice A7 cur.length c7) cur R [.int .i32 R] (fun _ => True) (fun _ => False) rfl rfl ?aP (fun _ hk => hk.elim) (fun _ _ => trivial) ?aO ?aB ?aS ?aL ?_; (case aP => exact rfl); (case aO => exact hW'.out.row7); (case aB => exact hW'.out.hB); (case aS => have := hW'.out.hN; have := hW'.out.hit2; have := hW'.out.hO2; omega); (case aL => have := hcnt3.out; have := hsz'.out; simp <;> omega); intro v7 w5 hr hb hg hat)
              have hW5 := Aside0.mk (hW'.out.letter hr hb hg)
              clear hr hb hg hat
              go_roundg g1
              case measure => omega
              case rel => exact ⟨pos2, ws, cur ++ [R], false, false, outs, N, _, rfl, rfl, hw', ⟨by rw [hRST'.out]; exact hrem3.out⟩, ⟨by rw [hRST'.out]; have := hcnt3.out; simp at this ⊢; omega⟩, ⟨by intro r hr; rcases List.mem_append.1 hr with h | h; exact hcur.out r h; rw [List.mem_singleton.1 h]; exact hsc'.out⟩, ⟨.inr (.inl ⟨by simp, rfl, rfl⟩)⟩, hW5⟩
            · have h40' : ¬ (cur.length : Int) < 40 := by omega
              rw [if_neg (fun h => h40 h.2.2)] at hrem2
              clear h40
              by_cases h32 : R = 32
              · have h32b : (R == 32) = true := beq_iff_eq.2 h32
                exact LRdxx3
              · have h32b : (R == 32) = false := beq_eq_false_iff_ne.2 h32
                exact LRdxx1
          | false =>
            rw [if_neg (fun h => by cases h.1)] at hrem2
            by_cases h32 : R = 32
            · have h32b : (R == 32) = true := beq_iff_eq.2 h32
              exact LRdxx3
            · have h32b : (R == 32) = false := beq_eq_false_iff_ne.2 h32
              exact LRdxx1
        · subst e1 e2 e3
          cases b1 with
          | true =>
            exact LRdxx4
          | false =>
            exact LRdxx4
      · have hnx : ∀ ty, (Instr.next (.pointer (some ⟨it, 0, none⟩)) true ty).run Tryd.prog wr = _ := fun ty => run_next_end_at wr it text pos ty HS.out.hit hp
        have hre := runesAt_end hp
        have hrem2 := hrem.out
        rw [hre, readOk] at hrem2
        have q0 : wr.cell? ⟨O, 0, none⟩ = some (.slice AO (outs.map (fun ws => ws.map encS)).length cO) := by rw [blk_cell HS.out.hO]; rfl
        have q1 : wr.cell? ⟨O + 1, 0, none⟩ = some (.bool false) := by rw [blk_cell HS.out.hK]; rfl
        have z0 : wr.frozen? ⟨O, 0, none⟩ = false := blk_frozen HS.out.hO 0
        have z1 : wr.frozen? ⟨O + 1, 0, none⟩ = false := blk_frozen HS.out.hK 0
        obtain ⟨XO, hXO⟩ : ∃ X, outs.map (fun ws => ws.map encS) = X := ⟨_, rfl⟩
        have hXO' := Aside0.mk hXO
        rw [hXO] at q0
        have hrem3 := Aside0.mk hrem2
        have hBw' := Aside0.mk hBw
        clear hre hrem2 hp hXO hBw hrem
        cases ended with
        | true =>
          obtain rfl : ans = some XO := by rw [hrem3.out, ← hXO'.out]; simp
          go_wp2
          refine leave_return _ O (.slice AO XO.length cO) (.bool true) (by simp [go_sem, q0, q1]) (by simp [go_sem, q0, q1]) rfl rfl ?_
          have hBz := (hBw'.out.setCell (p := ⟨O, 0, none⟩) Gc30 (.slice AO XO.length cO)).setCell (p := ⟨O + 1, 0, none⟩) Gc29 (.bool true)
          have hRz : Kd.R (Kd.slice 9 Kd.string) 31 ((wr.setCell ⟨O, 0, none⟩ (.slice AO XO.length cO)).setCell ⟨O + 1, 0, none⟩ (.bool true)) w.heap.size (fun _ => True) (.slice AO XO.length cO) XO := by
            have h1 := Kd.R_mono HS.out.rowO (fun _ _ => trivial)
            rw [hXO'.out] at h1
            have h2 := Kd.R_set h1 HS.out.hO (by decide) 0 (.slice AO XO.length cO)
            have h3 := Kd.R_set h2 ((Below.heap_setCell _ _ _ _ (by show O + 1 ≠ O; omega)).trans HS.out.hK) (by decide) 0 (.bool true)
            rw [hO'.out]; exact h3
          first | exact ⟨_, _, rfl, ⟨rfl, hRz⟩, hBz⟩ | exact ⟨_, rfl, hRz, hBz⟩
        | false =>
          obtain rfl : ans = none := by rw [hrem3.out]; simp
          go_wp2
          refine leave_return _ O (.slice AO XO.length cO) (.bool false) (by simp [go_sem, q0, q1]) (by simp [go_sem, q0, q1]) rfl rfl ?_
          have hBz := (hBw'.out.setCell (p := ⟨O, 0, none⟩) Gc30 (.slice AO XO.length cO)).setCell (p := ⟨O + 1, 0, none⟩) Gc29 (.bool false)
          first | exact ⟨_, _, rfl, rfl, hBz⟩ | exact ⟨⟨_, rfl⟩, hBz⟩
end Go.Proofs.YtfbhdjflkaldgaaDoor.Pr
