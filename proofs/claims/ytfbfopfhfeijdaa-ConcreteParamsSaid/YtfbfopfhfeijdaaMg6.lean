/- Several texts in one: ParJ, ParS. -/
import Derived.Test.YtfbfopfhfeijdaaMg5
import Derived.Test.YtfbfopfhfeijdaaWRepsOne
import Derived.Test.YtfbfopfhfeijdaaMg3
/- feature.All collected: what Params hands back, as the printed texts tell it. -/
/- Records in the order of their names: there is one such order. -/
namespace Go.Proofs.Ytfbfopfhfeijdaa.Pr
open Go.Shelf Go.RowKit Go.Lib
open Go.Proofs.YtfbfopfhfeijdaaW.PrintWords Go.Proofs.YtfbfopfhfeijdaaW.PrintLast Go.Proofs.YtfbfopfhfeijdaaW.PrintMore
set_option linter.unusedVariables false
set_option linter.unusedSimpArgs false
theorem reps_flatF (W : World) (base : Nat) (ok : Nat → Prop) : ∀ r : List S37, Reps (k37.M W base ok) 2 r (flatF r)
  | [] => Reps.none _ _
  | x :: r => Reps.c2 (k37_mkM W base ok x) (reps_flatF W base ok r)
/-- Records, each in the order of its names. -/
inductive SortsAll : List (List S37) → List (List S37) → Prop
  | nil : SortsAll [] []
  | cons {p r : List S37} {ps rs : List (List S37)} (h : Sorts p r) (t : SortsAll ps rs) : SortsAll (p :: ps) (r :: rs)
/-- A yielded value, its record in order. -/
inductive Got (b : Nat) (W : World) : List Value → List (List S37) → Prop
  | nil : Got b W [] []
  | cons {u : Value} {r : List S37} {us : List Value} {rs : List (List S37)} (ho : W.ownsRow b 37 2 u r.length (flatF r)) (t : Got b W us rs) : Got b W (u :: us) (r :: rs)
theorem Yielded.got {b : Nat} {W : World} {us : List Value} {ps : List (List S37)} (h : Yielded b W us ps) : ∃ rs, SortsAll ps rs ∧ Got b W us rs := by
  induction h with
  | nil => exact ⟨[], .nil, .nil⟩
  | cons hs ho _ ih =>
    obtain ⟨rs, h1, h2⟩ := ih
    exact ⟨_ :: rs, .cons hs h1, .cons ho h2⟩
theorem Got.length {b : Nat} {W : World} {us : List Value} {rs : List (List S37)} (h : Got b W us rs) : us.length = rs.length := by
  induction h with
  | nil => rfl
  | cons _ _ ih => simp [ih]
theorem Got.reps {b b' : Nat} {W : World} {us : List Value} {rs : List (List S37)} (h : Got b W us rs) (hb : b' ≤ b) (v : Value) (hv : ∀ k, v.ownBlock = some k → ∃ cs, W.heap[k]? = some (.cells cs 30 (0, 0))) :
    Reps ((Kd.slice 37 k37).M W b' (fun k => b' ≤ k ∧ some k ≠ v.ownBlock)) 1 rs us := by
  induction h with
  | nil => exact Reps.none _ _
  | @cons u r us rs ho t ih =>
    refine Reps.one ⟨u, rfl, ?_, flatF r, ownsRow_base ho hb, reps_flatF _ _ _ r⟩ ih
    intro k hk
    rcases ho.2 with ⟨rfl, _⟩ | ⟨g, cap, cur, rfl, hg, hc, _⟩
    · simp [Value.ownBlock] at hk
    · obtain rfl : g = k := by simpa [Value.ownBlock] using hk
      refine ⟨Nat.le_trans hb hg, fun e => ?_⟩
      obtain ⟨cs, hcs⟩ := hv g e.symm
      rw [hc] at hcs
      simp at hcs
theorem got_N {b b' : Nat} {W : World} {v : Value} {us : List Value} {rs : List (List S37)} (h : Got b W us rs) (hb : b' ≤ b) (hv : W.ownsRow b 30 1 v us.length us) :
    Kd.N (Kd.slice 37 k37) 30 W b' (fun k => b' ≤ k) v rs := by
  refine Kd.R_N ⟨?_, us, ?_, h.reps hb v ?_⟩
  · intro k hk
    rcases hv.2 with ⟨rfl, _⟩ | ⟨g, cap, cur, rfl, hg, hc, _⟩
    · simp [Value.ownBlock] at hk
    · obtain rfl : g = k := by simpa [Value.ownBlock] using hk
      exact Nat.le_trans hb hg
  · rw [← h.length]; exact ownsRow_base hv hb
  · intro k hk
    rcases hv.2 with ⟨rfl, _⟩ | ⟨g, cap, cur, rfl, hg, hc, _⟩
    · simp [Value.ownBlock] at hk
    · obtain rfl : g = k := by simpa [Value.ownBlock] using hk
      exact ⟨_, hc⟩
set_option maxRecDepth 100000 in
theorem all_calls (A : Option Addr) (n c : Nat) (w : World) :
    Calls Try.prog 46 #[.slice A n c] w fun e w' => e = .returned (.func (.func 61) #[] #[.pointer (some ⟨w.heap.size, 0, none⟩)]) ∧ w' = w.alloc (.cells #[.slice A n c] 66) := by
  go_enter Try.func46, Try.ntmps46
  go_wp2
  go_ret
  exact ⟨rfl, rfl⟩
set_option maxRecDepth 100000 in
theorem collect_calls {gf : Nat} {lb : Array Value} {n₀ N : Nat} {w0 : World} {R : World → List Value → Prop} (hseq : SeqF Try.prog gf lb n₀ N w0 R) (eg : ∀ args w, (callFunc gf args).run Try.prog w = .ok (.enter gf args) w)
    (hRk : ∀ us A B, R A us → KpF n₀ A B → R B us) (hN : N ≤ 1000000) (w : World) (hb0 : Below n₀ w0 w) (hn : n₀ ≤ w.heap.size) :
    Calls Try.prog 45 #[.func (.func gf) #[] lb] w fun e w' =>
      ∃ v us, e = .returned v ∧ w'.ownsRow w.heap.size 30 1 v us.length us ∧ R w' us ∧ Below w.heap.size w w' := by
  have h := append_seq_calls hseq eg hRk hN w hb0 hn
  go_enter Try.func45, Try.ntmps45
  go_wp2_with (go_at_call 60; refine h.mono ?_; clear h; rintro e W1 ⟨v, us, rfl, h1, h2, h3⟩)
  go_ret
  exact ⟨v, us, rfl, h1, h2, h3⟩
/-- feature.All of a list of dimensions, collected. -/
theorem collected (k N : Nat) (A : Option Addr) (cD : Nat) (l : List S90) (b : Bool) (w : World) (hC : Kd.C k90 w A l.length l) (hcap : l.length ≤ cD) (hb : feature_dimensions.f k l = some b)
    (hsm : b = true → l.length ≤ 1000 ∧ (∀ d ∈ l, d.f1.length ≤ 1000) ∧ (tup l []).length ≤ 1000000) (base : Nat) (hbase : base ≤ w.heap.size) :
    Calls Try.prog 45 #[.func (.func 61) #[] #[.pointer (some ⟨w.heap.size, 0, none⟩)]] (w.alloc (.cells #[.slice A l.length cD] 66)) fun e w' =>
      ∃ v rs, e = .returned v ∧ Kd.N (Kd.slice 37 k37) 30 w' base (fun k => base ≤ k) v rs ∧ Below w.heap.size w w' ∧ ((b = true ∧ SortsAll (tup l []) rs) ∨ (b = false ∧ rs = [])) := by
  have hB : Below w.heap.size w (w.alloc (.cells #[.slice A l.length cD] 66)) := (Below.refl _ w).alloc (Nat.le_refl _) _
  have hseq := all_seq k (w.alloc (.cells #[.slice A l.length cD] 66)).heap.size w.heap.size cD 1000000 A l (w.alloc (.cells #[.slice A l.length cD] 66)) b rfl (Boxed.new w _ _).cell (Kd.C_below hC hB) hcap hb hsm
  refine (collect_calls hseq (enters_of Try.func61 (by kernel_rfl) rfl) ?_ (Nat.le_refl _) _ (Below.refl _ _) (Nat.le_refl _)).mono ?_
  · rintro us X Y (⟨h1, h2⟩ | ⟨h1, h2⟩) hk
    · exact .inl ⟨h1, h2.kept hk⟩
    · exact .inr ⟨h1, h2⟩
  · rintro e w' ⟨v, us, rfl, h1, h2, h3⟩
    have hbel : Below w.heap.size w w' := hB.trans (h3.mono hB.size)
    have hs : base ≤ (w.alloc (.cells #[.slice A l.length cD] 66)).heap.size := by have := hB.size; omega
    rcases h2 with ⟨h4, h5⟩ | ⟨h4, rfl⟩
    · obtain ⟨rs, h6, h7⟩ := h5.got
      refine ⟨v, rs, rfl, got_N h7 hs h1, hbel, .inl ⟨?_, h6⟩⟩
      rw [hb] at h4; exact Option.some.inj h4
    · refine ⟨v, [], rfl, got_N .nil hs h1, hbel, .inr ⟨?_, rfl⟩⟩
      rw [hb] at h4; exact Option.some.inj h4
#print axioms collected
end Go.Proofs.Ytfbfopfhfeijdaa.Pr

namespace Go.Proofs.Ytfbfopfhfeijdaa.Pr
open Go.RowKit
set_option linter.unusedVariables false
set_option linter.unusedSimpArgs false
/-- A feature put into a record. -/
def putF : List S37 → S37 → List S37
  | [], f => [f]
  | x :: r, f => if ltN x f = true then x :: putF r f else f :: x :: r
/-- The features of a record, put one by one. -/
def sortRec (p : List S37) : List S37 := p.foldl putF []
theorem putF_perm : ∀ (r : List S37) (f : S37), (putF r f).Perm (f :: r)
  | [], f => .refl _
  | x :: r, f => by
    unfold putF
    split
    · exact ((putF_perm r f).cons x).trans (.swap f x r)
    · exact .refl _
theorem foldPut_perm : ∀ (p r : List S37), (p.foldl putF r).Perm (r ++ p)
  | [], r => by simp
  | f :: p, r => by
    rw [List.foldl_cons]
    refine (foldPut_perm p (putF r f)).trans ?_
    refine ((putF_perm r f).append_right p).trans ?_
    exact (List.perm_middle (l₁ := r) (a := f) (l₂ := p)).symm
/-- Not after. -/
def LeN (x y : S37) : Prop := ltN y x = false
theorem ltN_iff (x y : S37) : ltN x y = true ↔ x.f0.toList < y.f0.toList := by
  unfold ltN; rw [bytesLess_eq]; exact decide_eq_true_iff
theorem leN_iff (x y : S37) : LeN x y ↔ x.f0.toList ≤ y.f0.toList := by
  unfold LeN
  rw [← List.not_lt, ← ltN_iff, Bool.not_eq_true]
theorem putF_sorted : ∀ (r : List S37) (f : S37), r.Pairwise LeN → (putF r f).Pairwise LeN
  | [], f, _ => by simp [putF]
  | x :: r, f, h => by
    unfold putF
    have h' := List.pairwise_cons.1 h
    split
    · next hc =>
      refine List.pairwise_cons.2 ⟨fun y hy => ?_, putF_sorted r f h'.2⟩
      rcases List.mem_cons.1 ((putF_perm r f).mem_iff.1 hy) with rfl | hy
      · rw [leN_iff]; exact List.le_of_lt ((ltN_iff x y).1 hc)
      · exact h'.1 y hy
    · next hc =>
      have hfx : LeN f x := Bool.eq_false_iff.2 hc
      refine List.pairwise_cons.2 ⟨fun y hy => ?_, h⟩
      rcases List.mem_cons.1 hy with rfl | hy
      · exact hfx
      · rw [leN_iff] at hfx ⊢; exact List.le_trans hfx ((leN_iff x y).1 (h'.1 y hy))
theorem foldPut_sorted : ∀ (p r : List S37), r.Pairwise LeN → (p.foldl putF r).Pairwise LeN
  | [], r, h => h
  | f :: p, r, h => by rw [List.foldl_cons]; exact foldPut_sorted p _ (putF_sorted r f h)
theorem sortRec_perm (p : List S37) : (sortRec p).Perm p := by simpa [sortRec] using foldPut_perm p []
theorem sortRec_sorted (p : List S37) : (sortRec p).Pairwise LeN := foldPut_sorted p [] List.Pairwise.nil
theorem inj_of_nodup : ∀ {p : List S37}, (p.map (fun f => f.f0.toList)).Nodup → ∀ a ∈ p, ∀ b ∈ p, a.f0.toList = b.f0.toList → a = b
  | [], _, a, h, _, _, _ => by simp at h
  | x :: p, hn, a, ha, b, hb, e => by
    rw [List.map_cons, List.nodup_cons] at hn
    rcases List.mem_cons.1 ha with rfl | ha' <;> rcases List.mem_cons.1 hb with rfl | hb'
    · rfl
    · exact absurd (show a.f0.toList ∈ _ by rw [e]; exact List.mem_map_of_mem (f := fun f : S37 => f.f0.toList) hb') hn.1
    · exact absurd (show b.f0.toList ∈ _ by rw [← e]; exact List.mem_map_of_mem (f := fun f : S37 => f.f0.toList) ha') hn.1
    · exact inj_of_nodup hn.2 a ha' b hb' e
/-- A record's features in the order of their names are what one gets by putting them one by one. -/
theorem sorts_eq {p r : List S37} (h : Sorts p r) (hn : (p.map (fun f => f.f0.toList)).Nodup) : r = sortRec p := by
  refine List.Perm.eq_of_pairwise (le := LeN) (fun a b ha hb h1 h2 => ?_) ?_ (sortRec_sorted p) (h.1.trans (sortRec_perm p).symm)
  · refine inj_of_nodup hn a (h.1.mem_iff.1 ha) b ((sortRec_perm p).mem_iff.1 hb) ?_
    rw [leN_iff] at h1 h2
    exact List.le_antisymm h1 h2
  · rw [List.pairwise_iff_getElem]
    intro i j hi hj hij
    have := h.2 i j hij hj
    rw [getElem!_pos r i hi, getElem!_pos r j hj] at this
    exact this
theorem tup_names : ∀ (ds : List S90) (pre p : List S37), p ∈ tup ds pre → p.map (fun f => f.f0.toList) = pre.map (fun f => f.f0.toList) ++ ds.map (fun d => d.f0.toList)
  | [], pre, p, h => by simp [tup] at h; subst h; simp
  | d :: ds, pre, p, h => by
    simp only [tup, List.mem_flatMap] at h
    obtain ⟨v, _, h⟩ := h
    rw [tup_names ds _ p h]
    simp
/-- The dimensions for which Params is told. -/
def goodD (l : List S90) : Prop := l.length ≤ 1000 ∧ (∀ d ∈ l, d.f1.length ≤ 1000) ∧ (tup l []).length ≤ 1000000 ∧ (l.map (fun d => d.f0.toList)).Nodup
end Go.Proofs.Ytfbfopfhfeijdaa.Pr
