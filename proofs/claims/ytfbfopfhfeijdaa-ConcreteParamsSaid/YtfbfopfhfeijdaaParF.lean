/- feature.All's visit at a dimension: the walk. -/
import Derived.Test.YtfbfopfhfeijdaaMg3
namespace Go.Proofs.Ytfbfopfhfeijdaa.Pr
open Go.Shelf Go.RowKit Go.Lib
open Go.Proofs.Ytfbfopfhfeijdaa.Ct Go.Proofs.YtfbfopfhfeijdaaW.PrintWords Go.Proofs.YtfbfopfhfeijdaaW.PrintLast Go.Proofs.YtfbfopfhfeijdaaW.PrintMore
set_option linter.unusedVariables false
set_option linter.unusedSimpArgs false
theorem cells_fresh (W : World) (cs : Array Value) (t : TypeId) : ∀ (jj : Nat) (u : Value), cs.toList[jj]? = some u → (W.alloc (.cells cs t)).drew.cell? ((⟨W.heap.size, 0, none⟩ : Addr).add jj) = some u := by
  intro jj u hu
  rw [Addr.add_lit, Nat.zero_add]
  show (W.alloc (.cells cs t)).cell? ⟨W.heap.size, jj, none⟩ = some u
  unfold World.cell?
  rw [show (W.alloc (.cells cs t)).heap[(⟨W.heap.size, jj, none⟩ : Addr).block]? = some (.cells cs t) from World.alloc_heap_new W _]
  simpa using hu
/-- An append that must grow, in a region that draws its order. -/
theorem append_grows_step {P : Program} {ops : Array Oper} {o : Oper} {a : Act} {Kc : Act → World → Prop} {Q : Exit → Act → World → Prop} (W : World) (hw : Region.wanted o (yielded ops a.tmps) = true) (s x : Operand) (t : TypeId)
    (ho : o.op = .call { callee := .builtin .append, args := #[s, x], argTypes := #[t, t] })
    (e : TypeId) (i : TypeInfo) (z : Value) (size bytes : Nat) (h1 : P.underlying t = some (.slice e)) (h2 : P.info? e = some i) (h3 : i.zero = some z) (h4 : i.size = size) (h5 : i.bytes = bytes) (h6 : z.cells.size = size) (h7 : 0 < size)
    (ao : Option Addr) (n cap : Nat) (olds : List Value) (hs : a.eval s = .slice ao n cap) (hnone : ao = none → n = 0 ∧ cap = 0) (hlo : olds.length = n * size) (holds : ∀ b, ao = some b → ∀ j u, olds[j]? = some u → W.cell? (b.add j) = some u)
    (ad : Addr) (m c : Nat) (news : List Value) (hx : a.eval x = .slice (some ad) m c) (hn : news.length = m * size) (hc : ∀ j u, news[j]? = some u → W.cell? (ad.add j) = some u) (h1c : ∀ u ∈ news, u.oneCell' = true)
    (hfull : cap < n + m) (b1 : n + m ≤ maxLen) (b2 : (n + m) * bytes ≤ 140737488355328)
    (hK : ∀ v' w', w'.ownsRow W.heap.size e size v' (n + m) (olds ++ news) → W.grownBy w' none → Kc (a.put o.dst v') w') :
    if Region.wanted o (yielded ops a.tmps) = true then Oper.wp P o a W Kc Q else Kc (a.put o.dst undef) W := by
  rw [if_pos hw]
  have hrun : ∃ v' w', (Builtin.append_ #[t, t] o.type #[.slice ao n cap, .slice (some ad) m c]).run P W = .ok v' w' ∧ w'.ownsRow W.heap.size e size v' (n + m) (olds ++ news) ∧ W.grownBy w' none := by
    cases ao with
    | some b => exact run_append_arg_grows W t o.type e i z size bytes h1 h2 h3 h4 h5 h6 h7 b n cap olds hlo (holds b rfl) ad m c news hn hc hfull b1 b2
    | none =>
      obtain ⟨rfl, rfl⟩ := hnone rfl
      obtain rfl : olds = [] := List.eq_nil_of_length_eq_zero (by simpa using hlo)
      obtain ⟨v', w', hrun, r1, r2, _⟩ := run_append_own W W.heap.size t o.type e i z size bytes h1 h2 h3 h4 h5 h6 h7 (.slice none 0 0) 0 [] (World.ownsRow_nil W _ e size) ad m c news hn hc h1c b1 b2 (Nat.le_refl _)
      exact ⟨v', w', hrun, r1, r2⟩
  obtain ⟨v', w', hr, r1, r2⟩ := hrun
  unfold Oper.wp
  simp [execOp, ho, resolve, invoke, builtin, hs, hx, hr, Result.andThen]
  exact hK v' w' r1 r2
theorem at_rdOf {α : Type} (d : α) (xs : List α) (j : Nat) (h : j < xs.length) : xs[j]? = some (rdOf d xs (j : Int)) := by
  unfold rdOf
  rw [Int.toNat_natCast, List.getD_eq_getElem?_getD, List.getElem?_eq_getElem h]
  rfl
theorem Yielded.length {b : Nat} {W : World} {us : List Value} {ps : List (List S37)} (h : Yielded b W us ps) : us.length = ps.length := by
  induction h with
  | nil => rfl
  | cons _ _ _ ih => simp [ih]
theorem flat_take {α β : Type} (f : α → List β) : ∀ (l : List α) (j : Nat) (x : α), l[j]? = some x → (l.take (j + 1)).flatMap f = (l.take j).flatMap f ++ f x
  | [], j, x, h => by simp at h
  | a :: l, 0, x, h => by simp at h; subst h; simp
  | a :: l, j + 1, x, h => by simp only [List.take_succ_cons, List.flatMap_cons, flat_take f l j x (by simpa using h), List.append_assoc]
theorem flat_le {α β : Type} (f : α → List β) : ∀ (l : List α) (j : Nat) (x : α), l[j]? = some x → ((l.take j).flatMap f).length + (f x).length ≤ (l.flatMap f).length
  | [], j, x, h => by simp at h
  | a :: l, 0, x, h => by simp at h; subst h; simp
  | a :: l, j + 1, x, h => by
    have := flat_le f l j x (by simpa using h)
    simp only [List.take_succ_cons, List.flatMap_cons, List.length_append]
    omega
set_option maxRecDepth 100000 in
set_option maxHeartbeats 400000 in
theorem visit_node (lp n₀ bD bY bV cD N : Nat) (A : Option Addr) (l : List S90) (w₀ : World) (J : List Value → World → Prop)
    (hJ : ∀ xs W W', J xs W → Below W.heap.size W W' → J xs W') (done : List S90) (d : S90) (ds : List S90) (hl : l = done ++ d :: ds) (hsm : l.length ≤ 1000) (hv8 : d.f1.length ≤ 1000)
    (ih : ∀ pre v W xs, Held lp n₀ bD bY bV cD A l w₀ W → W.ownsRow 0 37 2 v pre.length (flatF pre) → pre.length = done.length + 1 → J xs W → xs.length + (tup ds pre).length ≤ N →
      Calls Try.prog 63 #[.int .i64 (pre.length : Int), v, .pointer (some ⟨bD, 0, none⟩), .pointer (some ⟨bY, 0, none⟩), .pointer (some ⟨bV, 0, none⟩)] W fun e W' =>
        e = .returned (.bool true) ∧ ∃ us, Yielded n₀ W' us (tup ds pre) ∧ J (xs ++ us) W' ∧ KpF n₀ W W')
    (pre : List S37) (v : Value) (W : World) (xs : List Value) (hh : Held lp n₀ bD bY bV cD A l w₀ W) (hv : W.ownsRow 0 37 2 v pre.length (flatF pre)) (hlen : pre.length = done.length) (hx : J xs W) (hN : xs.length + (tup (d :: ds) pre).length ≤ N) :
    Calls Try.prog 63 #[.int .i64 (pre.length : Int), v, .pointer (some ⟨bD, 0, none⟩), .pointer (some ⟨bY, 0, none⟩), .pointer (some ⟨bV, 0, none⟩)] W fun e W' =>
      e = .returned (.bool true) ∧ ∃ us, Yielded n₀ W' us (tup (d :: ds) pre) ∧ J (xs ++ us) W' ∧ KpF n₀ W W' := by
  have hL : l.length = done.length + ds.length + 1 := by rw [hl]; simp; omega
  obtain ⟨ad, A1, c1, rfl, hname0, hvals0, hc1, hrow⟩ := at_T90 hh.row (pre.length : Int) (by omega) (by omega)
  have hd : rd_T90 l (pre.length : Int) = d := by unfold rd_T90; rw [hl, hlen]; simp
  rw [hd] at hname0 hvals0 hc1 hrow
  have hDc := hh.atD
  have h1 : (pre.length : Int) < (l.length : Int) := by omega
  have h2 : ¬ ((pre.length : Int) = (l.length : Int)) := by omega
  have hlen' := Aside0.mk hlen
  have hL' := Aside0.mk hL
  have hN' := Aside0.mk hN
  have hv8' := Aside0.mk hv8
  have hsm' := Aside0.mk hsm
  have hl' := Aside0.mk hl
  have hd' := Aside0.mk hd
  clear hlen hL hsm hl hd hN hv8
  rw [Int.toNat_natCast] at hname0 hvals0
  have hnm : ∀ {V : World}, Held lp n₀ bD bY bV cD (some ad) l w₀ V → V.cell? (ad.add (pre.length * 2)) = some (.string d.f0) := fun {V} h => (h.below.cell (by have := lt_of_cell hname0; have := h.n0; omega)).trans hname0
  have hvals := (hh.below.cell (p := ⟨(ad.add (pre.length * 2)).block, (ad.add (pre.length * 2)).off + 1, none⟩) (by have := lt_of_cell hvals0; have := hh.n0; simp at *; omega)).trans hvals0
  have hh' := Aside0.mk hh
  have hname0' := Aside0.mk hname0
  have hvals0' := Aside0.mk hvals0
  clear hname0 hvals0
  go_enter Try.func63, Try.ntmps63
  go_wp2
  go_loopg [29] d.f1.length (fun kq v29 w' => ∃ (j : Nat) (us : List Value), v29 = .int .i64 (j : Int) ∧ Aside0 (j + kq = d.f1.length) ∧ Aside0 (Yielded n₀ w' us ((d.f1.take j).flatMap fun x => tup ds (pre ++ [⟨d.f0, x⟩]))) ∧ Aside0 (J (xs ++ us) w') ∧ Aside0 (KpF n₀ W w'))
  case atStart => exact ⟨0, [], rfl, ⟨by omega⟩, ⟨by simpa using Yielded.nil⟩, ⟨by simpa using hx⟩, ⟨KpF.of_below (Below.refl _ _) hh.size⟩⟩
  case round =>
    obtain ⟨j, us, rfl, hjk, hYd, hJ1, hK1⟩ := hrel
    have hhr := hh'.out.kept hK1.out
    have hDr := hhr.atD
    have hYr := hhr.atY
    have hVr := hhr.atV
    have hNr := hnm hhr
    cases gk with
    | zero =>
      have h3 : ¬ ((j : Int) < (d.f1.length : Int)) := by have := hjk.out; omega
      go_wp2
      go_ret
      refine ⟨rfl, us, ?_, hJ1.out, hK1.out⟩
      have := hYd.out
      rw [show d.f1.take j = d.f1 from List.take_of_length_le (by have := hjk.out; omega)] at this
      exact this
    | succ g1 =>
      have h3 : (j : Int) < (d.f1.length : Int) := by have := hjk.out; omega
      obtain ⟨a1, hA1, hval0⟩ := Kd.at_string hrow (j : Int) (by omega) h3
      subst hA1
      rw [Int.toNat_natCast] at hval0
      have hval := (hhr.below.cell (by have := lt_of_cell hval0; have := hhr.n0; omega)).trans hval0
      have hat : Aside0 (d.f1[j]? = some (rdOf ByteArray.empty d.f1 (j : Int))) := ⟨at_rdOf _ _ _ (by have := hjk.out; omega)⟩
      go_upto_region 8 with fail
      obtain ⟨i0, hi0, hz0, hz1, hz2⟩ := info_parts info37
      have hvr := hK1.out.row hv
      have hvr0 := Aside0.mk hvr
      have hw : wrap64 ((pre.length : Int) + 1) = ((pre.length + 1 : Nat) : Int) := by have := hsm'.out; unfold wrap64; omega
      obtain ⟨ao, cap, rfl, hgn, hao⟩ : ∃ ao cap, v = .slice ao pre.length cap ∧ pre.length ≤ cap ∧ Aside0 ((ao = none → pre.length = 0) ∧ ∀ b, ao = some b → ∃ g, b = ⟨g, 0, none⟩) := by
        obtain ⟨hvl, ⟨rfl, hp0⟩ | ⟨g, cap, cur, rfl, hgb, hgc, hgn, hgm, hgs, hgt⟩⟩ := hvr
        · exact ⟨none, 0, by rw [hp0], by omega, ⟨⟨fun _ => hp0, fun b h => (by cases h)⟩⟩⟩
        · exact ⟨some ⟨g, 0, none⟩, cap, rfl, hgn, ⟨⟨fun h => (by cases h), fun b h => ⟨g, (by cases h; rfl)⟩⟩⟩⟩
      clear hvr
      have hca := eq_true (show pre.length ≤ cap from hgn)
      refine start_ (n := 18) (S := fun w' => w'.cell? ⟨bV, 0, none⟩ = some (.func (.func 63) #[] #[.pointer (some ⟨bD, 0, none⟩), .pointer (some ⟨bY, 0, none⟩), .pointer (some ⟨bV, 0, none⟩)]) ∧ w'.cell? ⟨bD, 0, none⟩ = some (.slice (some ad) l.length cD) ∧ w'.cell? (ad.add (pre.length * 2)) = some (.string d.f0)) (ds := []) #[false, false, false, false, false, false, false, false, false, false, false, false, false, false, false, false, false, false] (by kernel_rfl) rfl rfl ⟨hVr, hDr, hNr⟩ (fun hHeld => ?_)
      refine pure_ (i := 1) (N := some 34) (v := ?_) (a' := ?_) #[false, true, false, false, false, false, false, false, false, false, false, false, false, false, false, false, false, false] rfl rfl (by kernel_rfl) (fun _ _ _ h => h) (Or.inl ⟨by rfl, ?_⟩) ?_ ?_
      rotate_left
      · intro w'
        go_simp
        with_reducible rfl
      rotate_left
      · simp only [Act.put, List.setIfInBounds_toArray, List.set_cons_zero, List.set_cons_succ, i64_w, i32_w]
        rfl
      refine pure_ (i := 2) (N := some 35) (v := ?_) (a' := ?_) #[false, true, true, false, false, false, false, false, false, false, false, false, false, false, false, false, false, false] rfl rfl (by kernel_rfl) (fun _ _ _ h => h) (Or.inl ⟨by rfl, ?_⟩) ?_ ?_
      rotate_left
      · intro w'
        go_simp
        with_reducible rfl
      rotate_left
      · simp only [Act.put, List.setIfInBounds_toArray, List.set_cons_zero, List.set_cons_succ, i64_w, i32_w]
        rfl
      refine pure_ (i := 3) (N := some 36) (v := ?_) (a' := ?_) #[false, true, true, true, false, false, false, false, false, false, false, false, false, false, false, false, false, false] rfl rfl (by kernel_rfl) (fun _ _ _ h => h) (Or.inl ⟨by rfl, ?_⟩) ?_ ?_
      rotate_left
      · intro w'
        go_simp
        with_reducible rfl
      rotate_left
      · simp only [Act.put, List.setIfInBounds_toArray, List.set_cons_zero, List.set_cons_succ, i64_w, i32_w]
        rfl
      refine pure_ (i := 4) (N := some 37) (v := ?_) (a' := ?_) #[false, true, true, true, true, false, false, false, false, false, false, false, false, false, false, false, false, false] rfl rfl (by kernel_rfl) (fun _ _ _ h => h) (Or.inl ⟨by rfl, ?_⟩) ?_ ?_
      rotate_left
      · intro w'
        go_simp
        with_reducible rfl
      rotate_left
      · simp only [Act.put, List.setIfInBounds_toArray, List.set_cons_zero, List.set_cons_succ, i64_w, i32_w]
        rfl
      refine pure_ (i := 5) (N := some 38) (v := ?_) (a' := ?_) #[false, true, true, true, true, true, false, false, false, false, false, false, false, false, false, false, false, false] rfl rfl (by kernel_rfl) (fun _ _ _ h => h) (Or.inl ⟨by rfl, ?_⟩) ?_ ?_
      rotate_left
      · intro w'
        go_simp
        with_reducible rfl
      rotate_left
      · simp only [Act.put, List.setIfInBounds_toArray, List.set_cons_zero, List.set_cons_succ, i64_w, i32_w]
        rfl
      refine pure_ (i := 6) (N := some 39) (v := ?_) (a' := ?_) #[false, true, true, true, true, true, true, false, false, false, false, false, false, false, false, false, false, false] rfl rfl (by kernel_rfl) (fun _ _ _ h => h) (Or.inl ⟨by rfl, ?_⟩) ?_ ?_
      rotate_left
      · intro w'
        go_simp
        with_reducible rfl
      rotate_left
      · simp only [Act.put, List.setIfInBounds_toArray, List.set_cons_zero, List.set_cons_succ, i64_w, i32_w]
        rfl
      refine pure_ (i := 8) (N := some 41) (v := ?_) (a' := ?_) #[false, true, true, true, true, true, true, false, true, false, false, false, false, false, false, false, false, false] rfl rfl (by kernel_rfl) (fun _ _ _ h => h) (Or.inl ⟨by rfl, ?_⟩) ?_ ?_
      rotate_left
      · intro w'
        go_simp
        with_reducible rfl
      rotate_left
      · simp only [Act.put, List.setIfInBounds_toArray, List.set_cons_zero, List.set_cons_succ, i64_w, i32_w]
        rfl
      refine pure_ (i := 12) (N := some 45) (v := ?_) (a' := ?_) #[false, true, true, true, true, true, true, false, true, false, false, false, true, false, false, false, false, false] rfl rfl (by kernel_rfl) (fun _ _ _ h => h) (Or.inl ⟨by rfl, ?_⟩) ?_ ?_
      rotate_left
      · intro w'
        go_simp
        with_reducible rfl
      rotate_left
      · simp only [Act.put, List.setIfInBounds_toArray, List.set_cons_zero, List.set_cons_succ, i64_w, i32_w]
        rfl
      refine take_ (i := 0) (N := some 33) (v := ?_) (a' := ?_) #[true, true, true, true, true, true, true, false, true, false, false, false, true, false, false, false, false, false] rfl rfl (by kernel_rfl) (fun _ _ _ h => h) (Or.inl ⟨by rfl, ?_⟩) hHeld ?_ ?_
      rotate_left
      · rintro w' ⟨s0, s1, s2⟩
        go_simp
        with_reducible rfl
      rotate_left
      · simp only [Act.put, List.setIfInBounds_toArray, List.set_cons_zero, List.set_cons_succ, i64_w, i32_w]
        rfl
      refine take_ (i := 7) (N := some 40) (v := ?_) (a' := ?_) #[true, true, true, true, true, true, true, true, true, false, false, false, true, false, false, false, false, false] rfl rfl (by kernel_rfl) (fun _ _ _ h => h) (Or.inl ⟨by rfl, ?_⟩) hHeld ?_ ?_
      rotate_left
      · rintro w' ⟨s0, s1, s2⟩
        go_simp
        with_reducible rfl
      rotate_left
      · simp only [Act.put, List.setIfInBounds_toArray, List.set_cons_zero, List.set_cons_succ, i64_w, i32_w]
        rfl
      refine pure_ (i := 9) (N := some 42) (v := ?_) (a' := ?_) #[true, true, true, true, true, true, true, true, true, true, false, false, true, false, false, false, false, false] rfl rfl (by kernel_rfl) (fun _ _ _ h => h) (Or.inl ⟨by rfl, ?_⟩) ?_ ?_
      rotate_left
      · intro w'
        go_simp
        with_reducible rfl
      rotate_left
      · simp only [Act.put, List.setIfInBounds_toArray, List.set_cons_zero, List.set_cons_succ, i64_w, i32_w]
        rfl
      refine pure_ (i := 10) (N := some 43) (v := ?_) (a' := ?_) #[true, true, true, true, true, true, true, true, true, true, true, false, true, false, false, false, false, false] rfl rfl (by kernel_rfl) (fun _ _ _ h => h) (Or.inl ⟨by rfl, ?_⟩) ?_ ?_
      rotate_left
      · intro w'
        go_simp
        with_reducible rfl
      rotate_left
      · simp only [Act.put, List.setIfInBounds_toArray, List.set_cons_zero, List.set_cons_succ, i64_w, i32_w]
        rfl
      refine take_ (i := 11) (N := some 44) (v := ?_) (a' := ?_) #[true, true, true, true, true, true, true, true, true, true, true, true, true, false, false, false, false, false] rfl rfl (by kernel_rfl) (fun _ _ _ h => h) (Or.inl ⟨by rfl, ?_⟩) hHeld ?_ ?_
      rotate_left
      · rintro w' ⟨s0, s1, s2⟩
        go_simp
        with_reducible rfl
      rotate_left
      · simp only [Act.put, List.setIfInBounds_toArray, List.set_cons_zero, List.set_cons_succ, i64_w, i32_w]
        rfl
      refine pure_ (i := 13) (N := some 46) (v := ?_) (a' := ?_) #[true, true, true, true, true, true, true, true, true, true, true, true, true, true, false, false, false, false] rfl rfl (by kernel_rfl) (fun _ _ _ h => h) (Or.inl ⟨by rfl, ?_⟩) ?_ ?_
      rotate_left
      · intro w'
        go_simp
        with_reducible rfl
      rotate_left
      · simp only [Act.put, List.setIfInBounds_toArray, List.set_cons_zero, List.set_cons_succ, i64_w, i32_w]
        rfl
      refine one_ (i := 14) (N := some 47) #[true, true, true, true, true, true, true, true, true, true, true, true, true, true, true, false, false, false] rfl rfl (by kernel_rfl) (by decide) (fun K hK => ?_)
      refine value_ (w1 := ?_) (v := ?_) (by rfl) rfl ?_ ?_
      rotate_left 2
      · go_simp
        constructor
        · rfl
        · rfl
      have HB1 := Aside0.mk ((Below.refl wr.heap.size wr).alloc (Nat.le_refl _) (.cells #[.string d.f0, .string (rdOf ByteArray.empty d.f1 (j : Int))] 37))
      refine hK.out _ _ ⟨(HB1.out.cell (lt_of_cell hVr)).trans hVr, (HB1.out.cell (lt_of_cell hDr)).trans hDr, (HB1.out.cell (lt_of_cell hNr)).trans hNr⟩ (fun hHeld => ?_)
      clear hK K
      refine norm_ (a' := ?_) ?_ ?_
      rotate_left
      · show Act.put _ (some 47) _ = _
        simp only [Act.put, List.setIfInBounds_toArray, List.set_cons_zero, List.set_cons_succ, i64_w, i32_w]
        rfl
      refine one_ (i := 15) (N := some 48) #[true, true, true, true, true, true, true, true, true, true, true, true, true, true, true, true, false, false] rfl rfl (by kernel_rfl) (by decide) (fun K hK => ?_)
      refine append_grows_step _ (by rfl) (.tmp 39) (.tmp 47) 30 rfl 37 i0 (.agg #[(.string ⟨#[]⟩), (.string ⟨#[]⟩)]) 2 32 Try.underlying30 hi0 hz0 hz1 hz2 rfl (by decide) ao pre.length pre.length (flatF pre) rfl (fun h => ⟨hao.out.1 h, hao.out.1 h⟩) (flatF_length pre) ?aH ⟨wr.heap.size, 0, none⟩ 1 1 [.string d.f0, .string (rdOf ByteArray.empty d.f1 (j : Int))] rfl rfl ?aN (by simp [Value.oneCell']) (by omega) ?aM ?aB ?_
      (case aH => intro b hb jj u hu; obtain ⟨g, rfl⟩ := hao.out.2 b hb; subst hb; have h := hvr0.out.cells rfl jj u hu; exact (HB1.out.cell (lt_of_cell h)).trans h)
      (case aN => exact cells_fresh wr _ _)
      (case aM => have := hsm'.out; simp only [maxLen]; omega)
      (case aB => have := hsm'.out; omega)
      intro v1 W1 ho1 hg1
      have HB2 := Aside0.mk (HB1.out.drew.grown hg1 HB1.out.drew.size (fun k e => nomatch e))
      have ho1' := ownsRow_base ho1 (Nat.zero_le _)
      have hfl : flatF pre ++ [.string d.f0, .string (rdOf ByteArray.empty d.f1 (j : Int))] = flatF (pre ++ [⟨d.f0, rdOf ByteArray.empty d.f1 (j : Int)⟩]) := by rw [flatF_append]; rfl
      rw [hfl] at ho1'
      have hHW1 := hhr.kept (KpF.of_below HB2.out hhr.size)
      have hI := ih (pre ++ [⟨d.f0, rdOf ByteArray.empty d.f1 (j : Int)⟩]) v1 W1 (xs ++ us) hHW1
      rw [show (pre ++ [(⟨d.f0, rdOf ByteArray.empty d.f1 (j : Int)⟩ : S37)]).length = pre.length + 1 from by simp] at hI
      have hI := hI ho1' (by have := hlen'.out; omega) (hJ _ _ _ hJ1.out HB2.out) (by have h1 := hYd.out.length; have h2 := flat_le (fun x => tup ds (pre ++ [⟨d.f0, x⟩])) d.f1 j _ hat.out; have h3 := hN'.out; simp only [tup] at h3; rw [List.length_append]; omega)
      rw [← hw] at hI
      refine hK.out _ _ ⟨(HB2.out.cell (lt_of_cell hVr)).trans hVr, (HB2.out.cell (lt_of_cell hDr)).trans hDr, (HB2.out.cell (lt_of_cell hNr)).trans hNr⟩ (fun hHeld => ?_)
      clear hK K
      refine norm_ (a' := ?_) ?_ ?_
      rotate_left
      · show Act.put _ (some 48) _ = _
        simp only [Act.put, List.setIfInBounds_toArray, List.set_cons_zero, List.set_cons_succ, i64_w, i32_w]
        rfl
      refine one_ (i := 16) (N := some 49) #[true, true, true, true, true, true, true, true, true, true, true, true, true, true, true, true, true, false] rfl rfl (by kernel_rfl) (by decide) (fun K hK => ?_)
      refine goesV_ Try.func63 (by kernel_rfl) rfl #[.int .i64 (wrap64 ((pre.length : Int) + 1)), v1, .pointer (some ⟨bD, 0, none⟩), .pointer (some ⟨bY, 0, none⟩), .pointer (some ⟨bV, 0, none⟩)] (by rfl) rfl rfl (by rfl) (by simp only [List.map_toArray, List.map_cons, List.map_nil, Act.eval]; rfl) ?_
      with_reducible refine (hI).mono ?_
      rintro e W2 ⟨rfl, us2, hY2, hJ2, hK2⟩
      refine ⟨_, rfl, ?_⟩
      have hHW2 := hHW1.kept hK2
      refine hK.out _ _ ⟨hHW2.atV, hHW2.atD, hnm hHW2⟩ (fun hHeld => ?_)
      clear hK K
      refine norm_ (a' := ?_) ?_ ?_
      rotate_left
      · show Act.put _ (some 49) _ = _
        simp only [Act.put, List.setIfInBounds_toArray, List.set_cons_zero, List.set_cons_succ, i64_w, i32_w]
        rfl
      refine pure_ (i := 17) (N := some 50) (v := ?_) (a' := ?_) #[true, true, true, true, true, true, true, true, true, true, true, true, true, true, true, true, true, true] rfl rfl (by kernel_rfl) (fun _ _ _ h => h) (Or.inl ⟨by rfl, ?_⟩) ?_ ?_
      rotate_left
      · intro w'
        go_simp
        with_reducible rfl
      rotate_left
      · simp only [Act.put, List.setIfInBounds_toArray, List.set_cons_zero, List.set_cons_succ, i64_w, i32_w]
        rfl
      refine done_ (by kernel_rfl) ?_
      have hk1 : KpF n₀ W W2 := (hK1.out.trans (KpF.of_below HB2.out hhr.size)).trans hK2
      have hY3 : Aside0 (Yielded n₀ W2 (us ++ us2) ((d.f1.take (j + 1)).flatMap fun x => tup ds (pre ++ [⟨d.f0, x⟩]))) := ⟨by
        rw [flat_take (fun x => tup ds (pre ++ [(⟨d.f0, x⟩ : S37)])) d.f1 j _ hat.out]
        exact ((hYd.out.kept (KpF.of_below HB2.out hhr.size)).kept hK2).append hY2⟩
      clear hw
      have hw2 : Aside0 (wrap64 ((j : Int) + 1) = ((j + 1 : Nat) : Int)) := ⟨by have := hv8'.out; have := hjk.out; unfold wrap64; omega⟩
      clear hY2 hYd
      go_wp2
      go_roundg g1
      case measure => omega
      case rel => exact ⟨j + 1, us ++ us2, by rw [hw2.out], ⟨by have := hjk.out; omega⟩, hY3, ⟨by rw [← List.append_assoc]; exact hJ2⟩, ⟨hk1⟩⟩
end Go.Proofs.Ytfbfopfhfeijdaa.Pr
