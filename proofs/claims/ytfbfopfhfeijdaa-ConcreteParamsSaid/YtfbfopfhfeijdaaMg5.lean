/- Several texts in one: ParH, ParI. -/
import Derived.Test.YtfbfopfhfeijdaaParF
import Derived.Test.YtfbfopfhfeijdaaParG
import Derived.Test.YtfbfopfhfeijdaaPrF62
import Derived.OwnWalkIn
import Derived.TacticsInMore
import Derived.RangeFuncBox
/- feature.All's visit and feature.All's iterator: all records, in order. -/
/- slices.Collect of feature.All: the records that are yielded, in a slice. -/
namespace Go.Proofs.Ytfbfopfhfeijdaa.Pr
open Go.Shelf Go.RowKit Go.Lib
open Go.Proofs.Ytfbfopfhfeijdaa.Ct Go.Proofs.YtfbfopfhfeijdaaW.PrintWords Go.Proofs.YtfbfopfhfeijdaaW.PrintLast Go.Proofs.YtfbfopfhfeijdaaW.PrintMore
set_option linter.unusedVariables false
set_option linter.unusedSimpArgs false
theorem run_store_func (P : Program) (w : World) (a : Addr) (m : Mode) (fn : Fn) (x y : Array Value) : (store a (.func fn x y) m).run P w = stored P w a (.func fn x y) m := run_store P w a _ m rfl
attribute [local go_sem] run_store_func
theorem visit_all (lp n₀ bD bY bV cD N : Nat) (A : Option Addr) (l : List S90) (w₀ : World) (J : List Value → World → Prop)
    (hJ : ∀ xs W W', J xs W → Below W.heap.size W W' → J xs W') (hsm : l.length ≤ 1000) (hv8 : ∀ d ∈ l, d.f1.length ≤ 1000)
    (hY : ∀ xs v W, J xs W → xs.length < N → (∃ A n c, v = .slice A n c) → YieldAt Fence.wide 2 Try.prog lp #[v] W fun e W' => e = .returned (.bool true) ∧ J (xs ++ [v]) W' ∧ KpF n₀ W W') :
    ∀ (ds done : List S90), l = done ++ ds → ∀ (pre : List S37) (v : Value) (W : World) (xs : List Value), Held lp n₀ bD bY bV cD A l w₀ W → W.ownsRow 0 37 2 v pre.length (flatF pre) → pre.length = done.length → J xs W →
      xs.length + (tup ds pre).length ≤ N →
      Calls Try.prog 63 #[.int .i64 (pre.length : Int), v, .pointer (some ⟨bD, 0, none⟩), .pointer (some ⟨bY, 0, none⟩), .pointer (some ⟨bV, 0, none⟩)] W fun e W' =>
        e = .returned (.bool true) ∧ ∃ us, Yielded n₀ W' us (tup ds pre) ∧ J (xs ++ us) W' ∧ KpF n₀ W W'
  | [], done, hl, pre, v, W, xs, hh, hv, hlen, hx, hN => by
    have hL : pre.length = l.length := by rw [hl, hlen]; simp
    have h := visit_leaf lp n₀ bD bY cD N A l.length (.pointer (some ⟨bV, 0, none⟩)) J hJ hY pre v W xs hh.size hh.atD hh.atY hv hL (by omega) hx (by simp [tup] at hN; omega)
    rw [hL]
    refine h.mono ?_
    rintro e W' ⟨rfl, u, r, hs, ho, hj, hk⟩
    exact ⟨rfl, [u], Yielded.one hs (ownsRow_base ho hh.size), hj, hk⟩
  | d :: ds, done, hl, pre, v, W, xs, hh, hv, hlen, hx, hN => by
    have ih := visit_all lp n₀ bD bY bV cD N A l w₀ J hJ hsm hv8 hY ds (done ++ [d]) (by rw [hl]; simp)
    exact visit_node lp n₀ bD bY bV cD N A l w₀ J hJ done d ds hl hsm (hv8 d (by rw [hl]; simp)) (fun pre v W xs hh hv hlen hx hN => ih pre v W xs hh hv (by simp [hlen]) hx hN) pre v W xs hh hv hlen hx hN
/-- What feature.All's iterator yields. -/
def allR (k : Nat) (n₀ : Nat) (l : List S90) (W : World) (us : List Value) : Prop :=
  (feature_dimensions.f k l = some true ∧ Yielded n₀ W us (tup l [])) ∨ (feature_dimensions.f k l = some false ∧ us = [])
set_option maxRecDepth 100000 in
set_option maxHeartbeats 400000 in
theorem all_seq (k n₀ bD cD N : Nat) (A : Option Addr) (l : List S90) (w₀ : World) (b : Bool) (hn : w₀.heap.size = n₀) (hD : w₀.cell? ⟨bD, 0, none⟩ = some (.slice A l.length cD)) (hC : Kd.C k90 w₀ A l.length l) (hcap : l.length ≤ cD)
    (hb : feature_dimensions.f k l = some b) (hsm : b = true → l.length ≤ 1000 ∧ (∀ d ∈ l, d.f1.length ≤ 1000) ∧ (tup l []).length ≤ N) :
    SeqF Try.prog 61 #[.pointer (some ⟨bD, 0, none⟩)] n₀ N w₀ (allR k n₀ l) := by
  intro lp J W hW hnW hJ hY h0
  have hDW : W.cell? ⟨bD, 0, none⟩ = some (.slice A l.length cD) := (hW.cell (p := ⟨bD, 0, none⟩) (by have := lt_of_cell hD; simp at *; omega)).trans hD
  have hCW : Kd.C k90 W A l.length l := by
    have := Kd.C_below hC (hn ▸ hW)
    exact this
  have hdc := fun w' (hw : Kd.C k90 w' A l.length l) => feature_dimensions.calls k A cD l b w' hw hcap hb
  show Calls Try.prog 61 #[.func (.yield lp) #[] #[], .pointer (some ⟨bD, 0, none⟩)] W _
  have hCW' := Aside0.mk hCW
  have hcap' := Aside0.mk hcap
  have hsm' := Aside0.mk hsm
  have hb' := Aside0.mk hb
  have hn' := Aside0.mk hn
  have hD' := Aside0.mk hD
  have hC' := Aside0.mk hC
  clear hsm hcap hCW hb hn hD hC
  go_enter Try.func61, Try.ntmps61
  have HB0 := Aside0.mk ((Below.refl W.heap.size W).alloc (Nat.le_refl _) (.cells #[.func (.yield lp) #[] #[]] 118))
  have hD1 := (HB0.out.cell (p := ⟨bD, 0, none⟩) (lt_of_cell hDW)).trans hDW
  cases b with
  | false =>
    go_wp2_with (go_at_call 62; refine (hdc _ (Kd.C_below hCW'.out HB0.out)).mono ?_; clear hdc; rintro e W1 ⟨rfl, hB1⟩)
    have hB1' := HB0.out.trans (hB1.mono HB0.out.size)
    refine bodyPost_ret (results_none rfl _ _ _) rfl ?_
    exact ⟨⟨_, rfl⟩, [], .inr ⟨hb'.out, rfl⟩, hJ _ _ _ h0 hB1', KpF.of_below hB1' hnW⟩
  | true =>
  obtain ⟨hs1, hs2, hs3⟩ := hsm'.out rfl
  have hvF : ∀ W1, Below (W.alloc (.cells #[.func (.yield lp) #[] #[]] 118)).heap.size (W.alloc (.cells #[.func (.yield lp) #[] #[]] 118)) W1 →
      Calls Try.prog 63 #[.int .i64 0, .slice none 0 0, .pointer (some ⟨bD, 0, none⟩), .pointer (some ⟨W.heap.size, 0, none⟩), .pointer (some ⟨W1.heap.size, 0, none⟩)]
        (W1.alloc (.cells #[.func (.func 63) #[] #[.pointer (some ⟨bD, 0, none⟩), .pointer (some ⟨W.heap.size, 0, none⟩), .pointer (some ⟨W1.heap.size, 0, none⟩)]] 119)) fun e W' =>
        e = .returned (.bool true) ∧ ∃ us, Yielded n₀ W' us (tup l []) ∧ J us W' ∧ KpF n₀ W W' := by
    intro W1 hB1
    have hB1' := HB0.out.trans (hB1.mono HB0.out.size)
    obtain ⟨FV, hFV⟩ : ∃ FV : Value, FV = .func (.func 63) #[] #[.pointer (some ⟨bD, 0, none⟩), .pointer (some ⟨W.heap.size, 0, none⟩), .pointer (some ⟨W1.heap.size, 0, none⟩)] := ⟨_, rfl⟩
    rw [← hFV]
    have hbx := Boxed.new W1 119 FV
    have hB2 : Below W.heap.size W (W1.alloc (.cells #[FV] 119)) := hB1'.alloc hB1'.size _
    have hby : ((W1.alloc (.cells #[FV] 119))).heap[W.heap.size]? = some (.cells #[.func (.yield lp) #[] #[]] 118 (0, 0)) := by
      have e1 := World.alloc_heap_new W (.cells #[.func (.yield lp) #[] #[]] 118)
      have e2 := (hB1.block W.heap.size (by simp)).trans e1
      have hlt : W.heap.size < W1.heap.size := by have := hB1.size; simp at this; omega
      have e3 := (Below.heap_alloc W1 (.cells #[FV] 119) W.heap.size hlt).trans e2
      exact e3
    have hheld : Held lp n₀ bD W.heap.size W1.heap.size cD A l w₀ (W1.alloc (.cells #[FV] 119)) :=
      ⟨hn'.out, hD'.out, hC'.out, hcap'.out, hW.trans (hB2.mono hnW), hby, by rw [hFV] at hbx ⊢; exact hbx⟩
    refine (visit_all lp n₀ bD W.heap.size W1.heap.size cD N A l w₀ J hJ hs1 hs2 hY l [] rfl [] (.slice none 0 0) _ [] hheld (World.ownsRow_nil _ _ _ _) rfl (hJ _ _ _ h0 hB2) (by simpa using hs3)).mono ?_
    rintro e W' ⟨he, us, h1, h2, h3⟩
    exact ⟨he, us, h1, h2, (KpF.of_below hB2 hnW).trans h3⟩
  have hsm3 := Aside0.mk hs3
  clear hs1 hs2 hs3
  go_wp2_with (first | (go_at_call 62; refine (hdc _ (Kd.C_below hCW'.out HB0.out)).mono ?_; clear hdc; rintro e W1 ⟨rfl, hB1⟩; have hv := hvF W1 hB1; clear hvF; have hbc := (Boxed.new W1 119 .nilFunc).cell; have hbf := (Boxed.new W1 119 .nilFunc).frozen; have hbs := (Boxed.new W1 119 (.func (.func 63) #[] #[.pointer (some ⟨bD, 0, none⟩), .pointer (some ⟨W.heap.size, 0, none⟩), .pointer (some ⟨W1.heap.size, 0, none⟩)])).cell) | (go_at_call 63; refine hv.mono ?_; clear hv; rintro e W3 ⟨rfl, us, hYd, hJ3, hK3⟩))
  refine bodyPost_end (results_none rfl _ _ _) rfl ?_
  exact ⟨⟨_, rfl⟩, us, .inl ⟨hb'.out, hYd⟩, hJ3, hK3⟩
#print axioms all_seq
end Go.Proofs.Ytfbfopfhfeijdaa.Pr

namespace Go.Proofs.Ytfbfopfhfeijdaa.Pr
open Go.Shelf Go.RowKit Go.Lib
open Go.Proofs.YtfbfopfhfeijdaaW.PrintWords Go.Proofs.YtfbfopfhfeijdaaW.PrintLast Go.Proofs.YtfbfopfhfeijdaaW.PrintMore
attribute [local go_sem] Oper.semAt_some
set_option linter.unusedVariables false
set_option linter.unusedSimpArgs false
theorem ownsRow_below {W W' : World} {b : Nat} {e : TypeId} {size n : Nat} {v : Value} {xs : List Value} (h : W.ownsRow b e size v n xs) (hb : Below W.heap.size W W') : W'.ownsRow b e size v n xs := by
  obtain ⟨hl, hnil | ⟨g, cap, cur, hv, hg, hc, rest⟩⟩ := h
  · exact ⟨hl, .inl hnil⟩
  · exact ⟨hl, .inr ⟨g, cap, cur, hv, hg, (hb.block g (Array.getElem?_eq_some_iff.1 hc).1).trans hc, rest⟩⟩
theorem cells_one (W : World) (x : Value) (t : TypeId) : ∀ (j : Nat) (u : Value), [x][j]? = some u → (W.alloc (.cells #[x] t)).cell? ((⟨W.heap.size, 0, none⟩ : Addr).add j) = some u := by
  intro j u hu
  rw [Addr.add_lit, Nat.zero_add]
  unfold World.cell?
  rw [World.alloc_heap_new W _]
  simpa using hu
/-- What the round keeps of the iterator's own blocks. -/
theorem keeps_append {W w1 : World} {n₀ B : Nat} {v v' : Value} {tmp : Obj} {k : Nat} {xs : List Value} (hb : Below n₀ W (w1.setCell ⟨B, 0, none⟩ v')) {u : Value} (hbx : Boxed W B 22 u) {base : Nat} (hrow : W.ownsRow base 30 1 v k xs)
    (hg : (W.alloc tmp).grownBy w1 v.ownBlock) : KpF n₀ W (w1.setCell ⟨B, 0, none⟩ v') := by
  refine ⟨hb, fun k vs t hk ht => ?_⟩
  have hlt := (Array.getElem?_eq_some_iff.1 hk).1
  have hnB : k ≠ B := by
    rintro rfl
    have := (show W.heap[k]? = _ from hbx).symm.trans hk
    simp at this
    rcases ht with rfl | rfl | rfl <;> simp at this
  have hnv : some k ≠ v.ownBlock := by
    rcases hrow.2 with ⟨rfl, _⟩ | ⟨g, cap, cur, rfl, _, hc, _⟩
    · simp [Value.ownBlock]
    · intro e
      obtain rfl : k = g := by simpa [Value.ownBlock] using e
      have := hc.symm.trans hk
      simp at this
      rcases ht with rfl | rfl | rfl <;> simp at this
  refine (Below.heap_setCell _ _ _ k (by simpa using hnB)).trans ?_
  exact (hg.block k (by simp; omega) hnv).trans ((Below.heap_alloc _ _ k hlt).trans hk)
/-- What AppendSeq's box holds between two rounds. -/
def ASI (w : World) (xs : List Value) (W : World) : Prop := (∃ v, Boxed W w.heap.size 22 v ∧ W.ownsRow w.heap.size 30 1 v xs.length xs ∧ True) ∧ Below w.heap.size w W
set_option maxRecDepth 100000 in
set_option maxHeartbeats 400000 in
theorem append_seq_calls {gf : Nat} {lb : Array Value} {n₀ N : Nat} {w0 : World} {R : World → List Value → Prop} (hseq : SeqF Try.prog gf lb n₀ N w0 R) (eg : ∀ args w, (callFunc gf args).run Try.prog w = .ok (.enter gf args) w)
    (hRk : ∀ us A B, R A us → KpF n₀ A B → R B us) (hN : N ≤ 1000000) (w : World) (hb0 : Below n₀ w0 w) (hn : n₀ ≤ w.heap.size) :
    Calls Try.prog 60 #[.slice none 0 0, .func (.func gf) #[] lb] w fun e w' =>
      ∃ v us, e = .returned v ∧ w'.ownsRow w.heap.size 30 1 v us.length us ∧ R w' us ∧ Below w.heap.size w w' := by
  obtain ⟨i0, hi0, hz0, hz1, hz2⟩ := info_parts info30
  refine (callsIn_wide (n := 4)).1 ?_
  refine callsIn_of_wp_marks Try.func60 rfl trivial ?_ rfl
  simp only [Try.ntmps60, List.size_toArray, List.length_cons, List.length_nil, Nat.reduceAdd, Nat.reduceSub, Array.replicate_succ, Array.replicate_zero, List.push_toArray, List.append_toArray, List.nil_append, List.cons_append]
  gi_wp2
  have hw1 : (w.alloc (.cells #[.slice none 0 0] 22)).heap.size = w.heap.size + 1 := by simp
  refine wpIn_rangeFunc_F (gf := gf) (lb := lb) rfl eg hseq (hb0.trans (((Below.refl _ w).alloc (Nat.le_refl _) _).mono hn)) (by omega) rfl (ASI w)
    (OwnFrom.and (Own.from (holdsRow_own w.heap.size w.heap.size 22 30 1 List.length id (fun _ _ => True)) _) (ownFrom_below (Nat.le_refl _) (by omega)))
    (fun xs A B h hb => by
      obtain ⟨⟨v, h1, h2, h3⟩, h4⟩ := h
      exact ⟨⟨v, (hb.block _ h1.lt).trans h1, ownsRow_below h2 hb, h3⟩, h4.trans (hb.mono h4.size)⟩)
    ⟨⟨.slice none 0 0, Boxed.new w 22 _, World.ownsRow_nil _ _ _ _, trivial⟩, (Below.refl _ w).alloc (Nat.le_refl _) _⟩
    (fun x => { tmps := #[.slice none 0 0, .func (.func gf) #[] lb, .pointer (some ⟨w.heap.size, 0, none⟩), undef, .slice none 0 0, x, .func (.func gf) #[] lb, x, undef, undef, undef, undef, undef], defers := [] }) hRk ?assign ?body ?done
  case assign =>
    intro l x W K hK
    gi_wp2
    exact hK
  case body =>
    rintro l pre x W ⟨⟨v, hbx, hrow, _⟩, hB⟩ hlt ⟨A, n, c, rfl⟩
    have hbc := hbx.cell
    gi_wp2_with (gi_at_builtin; refine wpListIn_append_own _ rfl _ _ 22 rfl w.heap.size 30 i0 (.slice none 0 0) 1 24 Try.underlying22 hi0 hz0 hz1 hz2 rfl (by decide) _ _ _ rfl (hrow.alloc _) ⟨W.heap.size, 0, none⟩ 1 1 [.slice A n c] rfl rfl ?aC (by simp [Value.oneCell']) (by simp only [maxLen]; omega) (by omega) (by have := hB.size; simp; omega) ?_; (case aC => exact cells_one W _ _); intro v' w1 hown' hgrow _; obtain ⟨g', cap', rfl⟩ := ownsRow_succ hown'; obtain ⟨hv1, hv2, hr2, hk2, hb2⟩ := hbx.appended (by decide) hrow hB.size (Nat.le_refl _) hown' hgrow; have hc1 := hv1.cell; have hf1 := hv1.frozen)
    exact ⟨keeps_append (hb2.mono hn) hbx hrow hgrow, ⟨_, hv2, by simpa using hr2, trivial⟩, hB.trans hb2⟩
  case done =>
    rintro D ys W hD hR ⟨⟨v, hbx, hrow, _⟩, hB⟩ hkp hK
    have hbc := hbx.cell
    gi_wp2
    refine ⟨by simp, .inl ⟨_, _, rfl, run_takeDeferred hK, ?_⟩⟩
    refine ⟨_, results_tmp rfl _ _ _, v, ys, rfl, ownsRow_putObj hrow _ hK rfl, hRk _ _ _ hR (KpF.putObj _ (by omega) hK rfl), ?_⟩
    exact hB.grown (grownBy_putObj' W D _) hB.size (fun k e => by cases e; omega)
#print axioms append_seq_calls
end Go.Proofs.Ytfbfopfhfeijdaa.Pr
