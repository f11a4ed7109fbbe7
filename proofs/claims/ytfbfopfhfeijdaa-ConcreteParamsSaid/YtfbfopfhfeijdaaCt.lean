/- Short names for rows that the printed walks repeat: each theorem bears its proof's steps as a default. -/
import Derived.Test.YtfbfopfhfeijdaaPr0
namespace Go.Proofs.Ytfbfopfhfeijdaa.Ct
open Go.RowKit Go.Proofs.YtfbfopfhfeijdaaW.PrintWords Go.Proofs.YtfbfopfhfeijdaaW.PrintLast Go.Proofs.YtfbfopfhfeijdaaW.PrintMore
set_option linter.unusedVariables false
theorem ownBlock_nil : (Value.slice none 0 0).ownBlock = none := rfl
/-- What is below the world that stands. -/
theorem tB {P Q : Prop} (q : Aside0 Q) (h : Q → P := by intro h_; repeat (first | (with_reducible first | exact h_ | apply below_alloc | apply pw_below_drewN | apply below_drew1 | refine below_set ?_ (Aside0.out (by assumption))) | exact h_)) : P := h q.out
/-- The heap has not become smaller. -/
theorem tS {w w0 W : World} (q : Aside0 (Below w.heap.size w w0)) (h : Below w.heap.size w w0 → Below w.heap.size w W := by intro h_; repeat (first | (with_reducible first | exact h_ | apply below_alloc | apply pw_below_drewN | apply below_drew1 | refine below_set ?_ (Aside0.out (by assumption))) | exact h_)) : w.heap.size ≤ W.heap.size := below_size (h q.out)
theorem blk_farA {w : World} {g : Nat} {o : Obj} {p : Addr} {u : Value} (hp : Aside0 (g ≠ p.block)) (h : w.heap[g]? = some o) : (w.setCell p u).heap[g]? = some o := (Below.heap_setCell w p u g hp.out).trans h
/-- A block stands as it stood, or as the stores leave it. -/
theorem tK {w0 w1 : World} {g : Nat} {o : Obj} (q : Aside0 (w0.heap[g]? = some o)) (h : w0.heap[g]? = some o → w1.heap[g]? = some o := by intro h_; (repeat (with_reducible first | refine blk_drewN ?_ _ | refine blk_drew ?_ | refine blk_alloc ?_ _ | (refine blk_farA ?_ ?_; focus assumption) | apply blk_put)); (exact h_); all_goals rfl) : w1.heap[g]? = some o := h q.out
theorem tKp {w0 w1 : World} {g : Nat} {o o' : Obj} (q : Aside0 (w0.heap[g]? = some o)) (h : w0.heap[g]? = some o → w1.heap[g]? = some o' := by intro h_; (repeat (with_reducible first | refine blk_drewN ?_ _ | refine blk_drew ?_ | refine blk_alloc ?_ _ | (refine blk_farA ?_ ?_; focus assumption) | apply blk_put)); (exact h_); all_goals rfl) : w1.heap[g]? = some o' := h q.out
theorem R_farA {α : Type} {d : Kd α} {e base : Nat} {ok : Nat → Prop} {w : World} {v : Value} {xs : List α} {p : Addr} {u : Value} (hok : ∀ k, ok k → k ≠ p.block) (h : Kd.R d e w base ok v xs) : Kd.R d e (w.setCell p u) base ok v xs := Kd.R_far h hok u
theorem R_viaA {α : Type} {d : Kd α} {e base : Nat} {ok ok' : Nat → Prop} {w w' : World} {v : Value} {xs : List α} (h : Kd.R d e w base ok v xs) (hs : Kd.R d e w base ok v xs → Kd.R d e w' base ok v xs) (hok : ∀ k, ok k → ok' k) : Kd.R d e w' base ok' v xs := Kd.R_mono (hs h) hok
theorem dR {P Q : Prop} (q : Aside0 Q) (h : Q → P := by
  intro h_
  first
  | ((repeat (with_reducible first | apply Kd.R_alloc | apply Kd.R_drewN | apply Kd.R_drew)); (with_reducible exact h_))
  | (refine R_viaA h_ ?_ (by with_reducible exact (fun _ h_ => h_)); intro h_; (repeat (first | (with_reducible first | apply Kd.R_alloc | apply Kd.R_drewN | apply Kd.R_drew) | ((with_reducible refine R_farA ?_ ?_); (intro k_ hk_; (try dsimp only at hk_); (try simp only [and_assoc] at hk_); repeat (first | exact hk_ | exact hk_.1 | replace hk_ := hk_.2))))); (with_reducible exact h_))
  | (refine R_viaA h_ ?_ ?_; (focus (intro h_; (repeat (first | (with_reducible first | apply Kd.R_alloc | apply Kd.R_drewN | apply Kd.R_drew) | ((with_reducible refine R_farA ?_ ?_); (intro k_ hk_; (try dsimp only at hk_); (try simp only [and_assoc] at hk_); repeat (first | exact hk_ | exact hk_.1 | replace hk_ := hk_.2))))); (with_reducible exact h_))); (focus (intro k_ hk_; first | exact trivial | ((try dsimp only at hk_ ⊢); simp only [hk_, ne_eq, not_false_eq_true, and_self, ownBlock_nil, reduceCtorEq]))))) : P := h q.out
theorem V_farA {α : Type} {d : Kd α} {e base : Nat} {ok : Nat → Prop} {w : World} {v : Value} {xs : List α} {p : Addr} {u : Value} (hok : ∀ k, ok k → k ≠ p.block) (h : Kd.V d e w base ok v xs) : Kd.V d e (w.setCell p u) base ok v xs := Kd.V_far h hok u
theorem V_viaA {α : Type} {d : Kd α} {e base : Nat} {ok ok' : Nat → Prop} {w w' : World} {v : Value} {xs : List α} (h : Kd.V d e w base ok v xs) (hs : Kd.V d e w base ok v xs → Kd.V d e w' base ok v xs) (hok : ∀ k, ok k → ok' k) : Kd.V d e w' base ok' v xs := Kd.V_mono (hs h) hok
theorem dV {P Q : Prop} (q : Aside0 Q) (h : Q → P := by
  intro h_
  first
  | ((repeat (with_reducible first | apply Kd.V_alloc | apply Kd.V_drewN | apply Kd.V_drew)); (with_reducible exact h_))
  | (refine V_viaA h_ ?_ (by with_reducible exact (fun _ h_ => h_)); intro h_; (repeat (first | (with_reducible first | apply Kd.V_alloc | apply Kd.V_drewN | apply Kd.V_drew) | ((with_reducible refine V_farA ?_ ?_); (intro k_ hk_; (try dsimp only at hk_); (try simp only [and_assoc] at hk_); repeat (first | exact hk_ | exact hk_.1 | replace hk_ := hk_.2))))); (with_reducible exact h_))
  | (refine V_viaA h_ ?_ ?_; (focus (intro h_; (repeat (first | (with_reducible first | apply Kd.V_alloc | apply Kd.V_drewN | apply Kd.V_drew) | ((with_reducible refine V_farA ?_ ?_); (intro k_ hk_; (try dsimp only at hk_); (try simp only [and_assoc] at hk_); repeat (first | exact hk_ | exact hk_.1 | replace hk_ := hk_.2))))); (with_reducible exact h_))); (focus (intro k_ hk_; first | exact trivial | ((try dsimp only at hk_ ⊢); simp only [hk_, ne_eq, not_false_eq_true, and_self, ownBlock_nil, reduceCtorEq]))))) : P := h q.out
theorem N_farA {α : Type} {d : Kd α} {e base : Nat} {ok : Nat → Prop} {w : World} {v : Value} {xs : List α} {p : Addr} {u : Value} (hok : ∀ k, ok k → k ≠ p.block) (h : Kd.N d e w base ok v xs) : Kd.N d e (w.setCell p u) base ok v xs := Kd.N_far h hok u
theorem N_viaA {α : Type} {d : Kd α} {e base : Nat} {ok ok' : Nat → Prop} {w w' : World} {v : Value} {xs : List α} (h : Kd.N d e w base ok v xs) (hs : Kd.N d e w base ok v xs → Kd.N d e w' base ok v xs) (hok : ∀ k, ok k → ok' k) : Kd.N d e w' base ok' v xs := Kd.N_mono (hs h) hok
theorem dN {P Q : Prop} (q : Aside0 Q) (h : Q → P := by
  intro h_
  first
  | ((repeat (with_reducible first | apply Kd.N_alloc | apply Kd.N_drewN | apply Kd.N_drew)); (with_reducible exact h_))
  | (refine N_viaA h_ ?_ (by with_reducible exact (fun _ h_ => h_)); intro h_; (repeat (first | (with_reducible first | apply Kd.N_alloc | apply Kd.N_drewN | apply Kd.N_drew) | ((with_reducible refine N_farA ?_ ?_); (intro k_ hk_; (try dsimp only at hk_); (try simp only [and_assoc] at hk_); repeat (first | exact hk_ | exact hk_.1 | replace hk_ := hk_.2))))); (with_reducible exact h_))
  | (refine N_viaA h_ ?_ ?_; (focus (intro h_; (repeat (first | (with_reducible first | apply Kd.N_alloc | apply Kd.N_drewN | apply Kd.N_drew) | ((with_reducible refine N_farA ?_ ?_); (intro k_ hk_; (try dsimp only at hk_); (try simp only [and_assoc] at hk_); repeat (first | exact hk_ | exact hk_.1 | replace hk_ := hk_.2))))); (with_reducible exact h_))); (focus (intro k_ hk_; first | exact trivial | ((try dsimp only at hk_ ⊢); simp only [hk_, ne_eq, not_false_eq_true, and_self, ownBlock_nil, reduceCtorEq]))))) : P := h q.out
theorem tC {P Q R : Prop} (q : Aside0 Q) (b : Aside0 R) (h : Q → R → P := by intro q_ b_; repeat (first | exact (Kd.C_below q_ b_) | (with_reducible refine Kd.C_alloc ?_ _) | (with_reducible refine Kd.C_drewN ?_ _) | (with_reducible refine Kd.C_drew ?_))) : P := h q.out b.out
theorem tL {g g' : Nat} {W : World} {o : Obj} (hg : g' = W.heap.size) (h : W.heap[g]? = some o) : Aside0 (g ≠ g') := ⟨by rw [hg]; exact Nat.ne_of_lt (blk_lt h)⟩
theorem tG {g g' : Nat} {W : World} {o : Obj} (hg : g' = W.heap.size) (h : W.heap[g]? = some o) : Aside0 (g' ≠ g) := ⟨by rw [hg]; exact Nat.ne_of_gt (blk_lt h)⟩
theorem tZ {a g : Nat} {W : World} (hg : g = W.heap.size) (h : a ≤ W.heap.size) : Aside0 (a ≤ g) := ⟨by rw [hg]; exact h⟩
theorem tV1 {P : Prop} (h : P := by first | rfl | (simp; done) | (simp [*]; done)) : P := h
theorem tU {P : Prop} (h : P := by first | omega | exact Nat.le_refl _) : P := h
theorem eP2 {a b : Nat} (h : (a : Int) = (b : Int)) : ((a : Int) == (b : Int)) = true ∧ ((a : Int) != (b : Int)) = false ∧ (a == b) = true := ⟨beq_iff_eq.mpr h, bne_eq_false_iff_eq.mpr h, beq_iff_eq.mpr (Int.ofNat.inj h)⟩
theorem eN2 {a b : Nat} (h : ¬ (a : Int) = (b : Int)) : ((a : Int) == (b : Int)) = false ∧ ((a : Int) != (b : Int)) = true ∧ (a == b) = false := ⟨beq_eq_false_iff_ne.mpr h, bne_iff_ne.mpr h, beq_eq_false_iff_ne.mpr (fun e => h (congrArg _ e))⟩
theorem cel1 {w : World} {g : Nat} {t : TypeId} {cs : Array Value} (h : Aside0 (w.heap[g]? = some (.cells cs t (0, 0)))) (i : Nat) {v : Value} (e : cs[i]? = some v) : w.cell? ⟨g, i, none⟩ = some v := (blk_cell h.out i).trans e
theorem cel2 {w : World} {g : Nat} {t : TypeId} {cs : List Value} (h : Aside0 (w.heap[g]? = some (.cells ⟨cs⟩ t (0, 0)))) (i : Nat) {v : Value} (e : cs[i]? = some v) : w.cell? ⟨g, i, none⟩ = some v := (blk_cell h.out i).trans (by simpa using e)
theorem celB {w w1 : World} {a : Addr} {v : Value} (h : Aside0 (Below w.heap.size w w1)) (hc : w.cell? a = some v) : w1.cell? a = some v := (h.out.cell (World.block_lt_of_cell? w _ hc)).trans hc
theorem gate_load {P : Program} {ops : Array Oper} {rest : List Oper} {o : Oper} {a : Act} {W : World} {Q : Exit → Act → World → Prop} {t : TypeId} {p : Tmp} (_ho : o.op = .load t (.tmp p)) (h : wpList P ops Q (o :: rest) a W) : wpList P ops Q (o :: rest) a W := h
theorem oD {p : Prop} [Decidable p] (h : decide p = true := by first | (with_reducible assumption) | assumption) : p := of_decide_eq_true h
theorem tE {P : Prop} (h : P := by first | rfl | (simp [errW_none, errW_some] <;> rfl) | (simp [*, errW_none, errW_some] <;> rfl)) : P := h
theorem zel1 {w : World} {g : Nat} {t : TypeId} {cs : Array Value} (h : Aside0 (w.heap[g]? = some (.cells cs t (0, 0)))) (i : Nat) : w.frozen? ⟨g, i, none⟩ = false := blk_frozen h.out i
theorem bx2 {w : World} {g : Nat} {t : TypeId} {v0 v1 : Value} (h : Aside0 (w.heap[g]? = some (.cells #[v0, v1] t (0, 0)))) : w.cell? ⟨g, 0, none⟩ = some v0 ∧ w.cell? ⟨g, 1, none⟩ = some v1 ∧ w.frozen? ⟨g, 0, none⟩ = false ∧ w.frozen? ⟨g, 1, none⟩ = false := ⟨cel1 h 0 rfl, cel1 h 1 rfl, zel1 h 0, zel1 h 1⟩
theorem bx3 {w : World} {g : Nat} {t : TypeId} {v0 v1 v2 : Value} (h : Aside0 (w.heap[g]? = some (.cells #[v0, v1, v2] t (0, 0)))) : w.cell? ⟨g, 0, none⟩ = some v0 ∧ w.cell? ⟨g, 1, none⟩ = some v1 ∧ w.cell? ⟨g, 2, none⟩ = some v2 ∧ w.frozen? ⟨g, 0, none⟩ = false ∧ w.frozen? ⟨g, 1, none⟩ = false ∧ w.frozen? ⟨g, 2, none⟩ = false := ⟨cel1 h 0 rfl, cel1 h 1 rfl, cel1 h 2 rfl, zel1 h 0, zel1 h 1, zel1 h 2⟩
theorem bx4 {w : World} {g : Nat} {t : TypeId} {v0 v1 v2 v3 : Value} (h : Aside0 (w.heap[g]? = some (.cells #[v0, v1, v2, v3] t (0, 0)))) : w.cell? ⟨g, 0, none⟩ = some v0 ∧ w.cell? ⟨g, 1, none⟩ = some v1 ∧ w.cell? ⟨g, 2, none⟩ = some v2 ∧ w.cell? ⟨g, 3, none⟩ = some v3 ∧ w.frozen? ⟨g, 0, none⟩ = false ∧ w.frozen? ⟨g, 1, none⟩ = false ∧ w.frozen? ⟨g, 2, none⟩ = false ∧ w.frozen? ⟨g, 3, none⟩ = false := ⟨cel1 h 0 rfl, cel1 h 1 rfl, cel1 h 2 rfl, cel1 h 3 rfl, zel1 h 0, zel1 h 1, zel1 h 2, zel1 h 3⟩
end Go.Proofs.Ytfbfopfhfeijdaa.Ct
