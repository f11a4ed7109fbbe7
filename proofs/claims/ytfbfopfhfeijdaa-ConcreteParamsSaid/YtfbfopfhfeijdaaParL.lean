/- The law of Params: what it computes, by the contracts of what it calls. Written by genParL.py. -/
import Derived.Test.YtfbfopfhfeijdaaParK
import Derived.Test.YtfbfopfhfeijdaaPrF21
import Derived.Test.YtfbfopfhfeijdaaPrF29
import Derived.Test.YtfbfopfhfeijdaaPrF31
import Derived.Test.YtfbfopfhfeijdaaMg3
import Derived.Test.YtfbfopfhfeijdaaAwake
namespace Go.Proofs.Ytfbfopfhfeijdaa.Pr
open Go.Proofs.Ytfbfopfhfeijdaa.Ct Go.RowKit Go.Proofs.YtfbfopfhfeijdaaW.PrintWords Go.Proofs.YtfbfopfhfeijdaaW.PrintLast Go.Proofs.YtfbfopfhfeijdaaW.PrintMore
set_option linter.unusedVariables false
set_option linter.unusedSimpArgs false
def fewCat (k : Nat) (a0_0 : ByteArray) (l0_1 : List S90) (l0_2 : List ByteArray) : Option Bool := pentaglotlaw33_few.f k [] ⟨#[]⟩ false [] [] [] [] [] 0 0 [] 0 [] [] false ⟨#[]⟩ 0 ⟨#[]⟩ false 0 0 [] [] [] [] [] false [] [⟨a0_0, l0_1, l0_2⟩] [] ⟨#[]⟩
def pentaglotlaw33_ConcreteParams.f (k : Nat) (a0_0 : ByteArray) (l0_1 : List S90) (l0_2 : List ByteArray) : Option Bool :=
  (fewCat k a0_0 l0_1 l0_2).bind fun b => if b = true then (concrete_Params.f k a0_0 l0_1 l0_2).bind fun x => (pentaglotref33_Params.f k a0_0 l0_1 l0_2).bind fun y => pentaglotref02_SameAll.f k x y else some true
theorem row_cat (W : World) (cs : Array Value) (x : S68) (h : k68.K (W.alloc (.cells cs 68)) x cs.toList) : Kd.C k68 (W.alloc (.cells cs 68)) (some ⟨W.heap.size, 0, none⟩) [x].length [x] := by
  refine ⟨rfl, by simp, fun _ => ⟨⟨W.heap.size, 0, none⟩, rfl, fun j p hj => ?_⟩⟩
  cases j with
  | succ j => simp at hj
  | zero =>
    obtain rfl : x = p := by simpa using hj
    refine ⟨cs.toList, Kd.K_len _ h, h, fun i u hu => ?_⟩
    rw [Nat.zero_mul, Nat.zero_add, Addr.add_lit, Nat.zero_add]
    unfold World.cell?
    rw [World.alloc_heap_new W _]
    simpa using hu
set_option maxHeartbeats 8000000 in
set_option maxRecDepth 100000 in
theorem pentaglotlaw33_ConcreteParams.calls (k : Nat) (a0_0 : ByteArray) (A0_1 : Option Addr) (c0_1 : Nat) (l0_1 : List (S90)) (A0_2 : Option Addr) (c0_2 : Nat) (l0_2 : List ByteArray) (r : Bool) (w : World) (hr0_1 : Kd.C k90 w A0_1 l0_1.length l0_1) (hc0_1 : l0_1.length ≤ c0_1) (hr0_2 : Kd.C Kd.string w A0_2 l0_2.length l0_2) (hc0_2 : l0_2.length ≤ c0_2) (h : pentaglotlaw33_ConcreteParams.f k a0_0 l0_1 l0_2 = some r) :
 Calls Try.prog 11 #[.agg #[.string a0_0, .slice A0_1 l0_1.length c0_1, .slice A0_2 l0_2.length c0_2]] w fun e w' => e = .returned (.bool r) ∧ Below w.heap.size w w' := by
  have HR1 := Aside0.mk hr0_1
  have HC1 := Aside0.mk hc0_1
  have HR2 := Aside0.mk hr0_2
  have HC2 := Aside0.mk hc0_2
  clear hr0_1 hc0_1 hr0_2 hc0_2
  unfold pentaglotlaw33_ConcreteParams.f at h
  obtain ⟨b, hb, h⟩ := Option.bind_eq_some_iff.mp h
  have Hb := Aside0.mk hb
  clear hb
  obtain ⟨CS, hCS⟩ : ∃ CS : Array Value, CS = #[.string a0_0, .slice A0_1 l0_1.length c0_1, .slice A0_2 l0_2.length c0_2] := ⟨_, rfl⟩
  have HB0 := Aside0.mk ((Below.refl w.heap.size w).alloc (Nat.le_refl _) (.cells CS 68))
  have hq0 : (w.alloc (.cells CS 68)).cell? ⟨w.heap.size, 0, none⟩ = some (.string a0_0) := by unfold World.cell?; rw [World.alloc_heap_new w _, hCS]; rfl
  have hq1 : (w.alloc (.cells CS 68)).cell? ⟨w.heap.size, 1, none⟩ = some (.slice A0_1 l0_1.length c0_1) := by unfold World.cell?; rw [World.alloc_heap_new w _, hCS]; rfl
  have hq2 : (w.alloc (.cells CS 68)).cell? ⟨w.heap.size, 2, none⟩ = some (.slice A0_2 l0_2.length c0_2) := by unfold World.cell?; rw [World.alloc_heap_new w _, hCS]; rfl
  have hfew : ∀ W, Below (w.alloc (.cells CS 68)).heap.size (w.alloc (.cells CS 68)) W → Calls Try.prog 21 #[.slice none 0 0, .agg #[.string ⟨#[]⟩, .bool false, .slice none 0 0, .slice none 0 0, .slice none 0 0, .slice none 0 0, .slice none 0 0, .int .i64 0, .int .i64 0, .slice none 0 0, .int .i64 0, .slice none 0 0, .slice none 0 0, .bool false, .string ⟨#[]⟩, .int .i64 0, .string ⟨#[]⟩, .bool false, .int .i64 0, .int .i64 0, .slice none 0 0, .slice none 0 0, .slice none 0 0, .slice none 0 0, .slice none 0 0, .bool false, .slice none 0 0, .slice (some ⟨W.heap.size, 0, none⟩) 1 1, .slice none 0 0, .string ⟨#[]⟩]] (W.alloc (.cells #[.string a0_0, .slice A0_1 l0_1.length c0_1, .slice A0_2 l0_2.length c0_2] 68)) fun e w' => e = .returned (.bool b) ∧ Below w.heap.size w w' ∧ Below W.heap.size W w' := by
    intro W hW
    have HBz := Aside0.mk ((HB0.out.trans (hW.mono HB0.out.size)).alloc (by have := hW.size; have := HB0.out.size; omega) (.cells #[.string a0_0, .slice A0_1 l0_1.length c0_1, .slice A0_2 l0_2.length c0_2] 68))
    refine (pentaglotlaw33_few.calls k _ _ [] ⟨#[]⟩ false _ _ [] _ _ [] _ _ [] _ _ [] _ _ [] 0 0 _ _ [] 0 _ _ [] _ _ [] false ⟨#[]⟩ 0 ⟨#[]⟩ false 0 0 _ _ [] _ _ [] _ _ [] _ _ [] _ _ [] false _ _ [] _ _ [⟨a0_0, l0_1, l0_2⟩] _ _ [] ⟨#[]⟩ b _ ?s1 ?s2 ?s3 ?s4 ?s5 ?s6 ?s7 ?s8 ?s9 ?s10 ?s11 ?s12 ?s13 ?s14 ?s15 ?s16 ?s17 ?s18 ?s19 ?s20 ?s21 ?s22 ?s23 ?s24 ?s25 ?s26 ?s27 ?s28 ?s29 ?s30 ?s31 ?s32 ?s33 ?s34 Hb.out).mono ?_; (case s1 => exact Kd.C_nil _ _); (case s2 => exact Nat.le_refl _); (case s3 => exact Kd.C_nil _ _); (case s4 => exact Nat.le_refl _); (case s5 => exact Kd.C_nil _ _); (case s6 => exact Nat.le_refl _); (case s7 => exact Kd.C_nil _ _); (case s8 => exact Nat.le_refl _); (case s9 => exact Kd.C_nil _ _); (case s10 => exact Nat.le_refl _); (case s11 => exact Kd.C_nil _ _); (case s12 => exact Nat.le_refl _); (case s13 => exact Kd.C_nil _ _); (case s14 => exact Nat.le_refl _); (case s15 => exact Kd.C_nil _ _); (case s16 => exact Nat.le_refl _); (case s17 => exact Kd.C_nil _ _); (case s18 => exact Nat.le_refl _); (case s19 => exact Kd.C_nil _ _); (case s20 => exact Nat.le_refl _); (case s21 => exact Kd.C_nil _ _); (case s22 => exact Nat.le_refl _); (case s23 => exact Kd.C_nil _ _); (case s24 => exact Nat.le_refl _); (case s25 => exact Kd.C_nil _ _); (case s26 => exact Nat.le_refl _); (case s27 => exact Kd.C_nil _ _); (case s28 => exact Nat.le_refl _); (case s29 => exact Kd.C_nil _ _); (case s30 => exact Nat.le_refl _); (case s31 => exact row_cat _ _ _ (k68_mk _ ⟨a0_0, l0_1, l0_2⟩ HC1.out (Kd.C_below HR1.out HBz.out) HC2.out (Kd.C_below HR2.out HBz.out))); (case s32 => exact Nat.le_refl _); (case s33 => exact Kd.C_nil _ _); (case s34 => exact Nat.le_refl _)
    rintro e w' ⟨he, hB⟩
    have hBa := (Below.refl W.heap.size W).alloc (Nat.le_refl _) (.cells #[.string a0_0, .slice A0_1 l0_1.length c0_1, .slice A0_2 l0_2.length c0_2] 68)
    exact ⟨he, HBz.out.trans (hB.mono HBz.out.size), hBa.trans (hB.mono hBa.size)⟩
  go_enter Try.func11, Try.ntmps11
  cases b with
  | false =>
    rw [if_neg (by decide)] at h
    obtain rfl := Option.some.inj h
    clear h
    rw [hCS] at *
    go_wp2_with (first | (go_at_call 21; refine (hfew _ hB1).mono ?_; clear hfew; rintro e W3 ⟨rfl, hF, hF2⟩) | (go_at_call 12; refine (awake_calls _).mono ?_; rintro e W1 ⟨rfl, hB1⟩; (try (have hr0 := cap_ hq0 hB1; have hr1 := cap_ hq1 hB1; have hr2 := cap_ hq2 hB1; clear hq0 hq1 hq2))))
    go_ret
    exact ⟨rfl, hF.trans (hB1.mono hF.size)⟩
  | true =>
    rw [if_pos rfl] at h
    obtain ⟨x, hx, h⟩ := Option.bind_eq_some_iff.mp h
    obtain ⟨y, hy, h⟩ := Option.bind_eq_some_iff.mp h
    have Hx := Aside0.mk hx
    have Hy := Aside0.mk hy
    have Hs := Aside0.mk h
    clear hx hy h
    rw [hCS] at *
    go_upto_region 3 with (first | (go_at_call 21; refine (hfew _ hB1).mono ?_; clear hfew; rintro e W3 ⟨rfl, hF, hF2⟩) | (go_at_call 12; refine (awake_calls _).mono ?_; rintro e W1 ⟨rfl, hB1⟩; have hr0 := cap_ hq0 hB1; have hr1 := cap_ hq1 hB1; have hr2 := cap_ hq2 hB1; clear hq0 hq1 hq2))
    have HBX := Aside0.mk hF
    have hs0 := cap_ hr0 hF2
    have hs1 := cap_ hr1 hF2
    have hs2 := cap_ hr2 hF2
    clear hF hF2 hr0 hr1 hr2 hB1 HB0
    generalize W3 = Ws at *
    refine start_ (n := 6) (S := fun w' => w'.cell? ⟨w.heap.size, 0, none⟩ = some (.string a0_0) ∧ w'.cell? ⟨w.heap.size, 1, none⟩ = some (.slice A0_1 l0_1.length c0_1) ∧ w'.cell? ⟨w.heap.size, 2, none⟩ = some (.slice A0_2 l0_2.length c0_2)) (ds := []) #[false, false, false, false, false, false] (by kernel_rfl) rfl rfl ⟨hs0, hs1, hs2⟩ (fun hHeld => ?_)
    refine take_ (i := 0) (N := some 13) (v := ?_) (a' := ?_) #[true, false, false, false, false, false] rfl rfl (by kernel_rfl) (fun _ _ _ h => h) (Or.inl ⟨by rfl, ?_⟩) hHeld ?_ ?_
    rotate_left
    · rintro w' ⟨s0, s1, s2⟩
      go_simp
      with_reducible rfl
    rotate_left
    · simp only [Act.put, List.setIfInBounds_toArray, List.set_cons_zero, List.set_cons_succ, i64_w, i32_w]
      rfl
    refine take_ (i := 2) (N := some 15) (v := ?_) (a' := ?_) #[true, false, true, false, false, false] rfl rfl (by kernel_rfl) (fun _ _ _ h => h) (Or.inl ⟨by rfl, ?_⟩) hHeld ?_ ?_
    rotate_left
    · rintro w' ⟨s0, s1, s2⟩
      go_simp
      with_reducible rfl
    rotate_left
    · simp only [Act.put, List.setIfInBounds_toArray, List.set_cons_zero, List.set_cons_succ, i64_w, i32_w]
      rfl
    refine one_ (i := 1) (N := some 14) #[true, true, true, false, false, false] rfl rfl (by kernel_rfl) (by decide) (fun K hK => ?_)
    refine goes_ Try.func30 (by kernel_rfl) rfl #[.agg #[.string a0_0, .slice A0_1 l0_1.length c0_1, .slice A0_2 l0_2.length c0_2]] (by rfl) rfl rfl (by simp only [List.map_toArray, List.map_cons, List.map_nil]; rfl) ?_
    with_reducible refine (concrete_Params.calls k _ _ _ l0_1 _ _ l0_2 x _ (Kd.C_below HR1.out (by repeat (first | exact HBX.out | apply pw_below_drewN | apply below_drew1))) HC1.out (Kd.C_below HR2.out (by repeat (first | exact HBX.out | apply pw_below_drewN | apply below_drew1))) HC2.out Hx.out).mono ?_
    rintro e W5 ⟨v5, rfl, hN5, hB5⟩
    refine ⟨_, rfl, ?_⟩
    obtain ⟨A5, c5, e5⟩ := Kd.N_slice hN5
    subst e5
    have HBY := Aside0.mk (below_then (by repeat (first | exact HBX.out | apply pw_below_drewN | apply below_drew1)) (by simpa using HBX.out.size) hB5)
    have HN5 := Aside0.mk hN5
    clear hN5
    refine hK.out _ _ ⟨cap_ (w := Ws.drew) hs0 hB5, cap_ (w := Ws.drew) hs1 hB5, cap_ (w := Ws.drew) hs2 hB5⟩ (fun hHeld => ?_)
    clear hK K
    refine norm_ (a' := ?_) ?_ ?_
    rotate_left
    · show Act.put _ (some 14) _ = _
      simp only [Act.put, List.setIfInBounds_toArray, List.set_cons_zero, List.set_cons_succ, i64_w, i32_w]
      rfl
    refine one_ (i := 3) (N := some 16) #[true, true, true, true, false, false] rfl rfl (by kernel_rfl) (by decide) (fun K hK => ?_)
    refine goes_ Try.func31 (by kernel_rfl) rfl #[.agg #[.string a0_0, .slice A0_1 l0_1.length c0_1, .slice A0_2 l0_2.length c0_2]] (by rfl) rfl rfl (by simp only [List.map_toArray, List.map_cons, List.map_nil]; rfl) ?_
    with_reducible refine (pentaglotref33_Params.calls k _ _ _ l0_1 _ _ l0_2 y _ (Kd.C_below HR1.out (by repeat (first | exact HBY.out | apply pw_below_drewN | apply below_drew1))) HC1.out (Kd.C_below HR2.out (by repeat (first | exact HBY.out | apply pw_below_drewN | apply below_drew1))) HC2.out Hy.out).mono ?_
    rintro e W6 ⟨v6, rfl, hN6, hB6⟩
    refine ⟨_, rfl, ?_⟩
    obtain ⟨A6, c6, e6⟩ := Kd.N_slice hN6
    subst e6
    have HBZ := Aside0.mk (below_then (by repeat (first | exact HBY.out | apply pw_below_drewN | apply below_drew1)) (by simpa using HBY.out.size) hB6)
    have HN6 := Aside0.mk hN6
    clear hN6
    have HN5' := Aside0.mk (Kd.N_below HN5.out hB6)
    refine hK.out _ _ ⟨cap_ (cap_ (w := Ws.drew) hs0 hB5) hB6, cap_ (cap_ (w := Ws.drew) hs1 hB5) hB6, cap_ (cap_ (w := Ws.drew) hs2 hB5) hB6⟩ (fun hHeld => ?_)
    clear hK K
    refine norm_ (a' := ?_) ?_ ?_
    rotate_left
    · show Act.put _ (some 16) _ = _
      simp only [Act.put, List.setIfInBounds_toArray, List.set_cons_zero, List.set_cons_succ, i64_w, i32_w]
      rfl
    refine one_ (i := 4) (N := some 17) #[true, true, true, true, true, false] rfl rfl (by kernel_rfl) (by decide) (fun K hK => ?_)
    refine goes_ Try.func29 (by kernel_rfl) rfl #[.slice A5 x.length c5, .slice A6 y.length c6] (by rfl) rfl rfl (by simp only [List.map_toArray, List.map_cons, List.map_nil]; rfl) ?_
    with_reducible refine (pentaglotref02_SameAll.calls k _ _ x _ _ y r _ (Kd.N_reads' HN5'.out).2.2 (Kd.N_reads' HN5'.out).2.1 (Kd.N_reads' HN6.out).2.2 (Kd.N_reads' HN6.out).2.1 Hs.out).mono ?_
    rintro e W7 ⟨rfl, ⟨nd7, rfl⟩⟩
    refine ⟨_, rfl, ?_⟩
    have HBW := Aside0.mk (pw_below_drewN HBZ.out nd7)
    refine hK.out _ _ ⟨cap_ (cap_ (w := Ws.drew) hs0 hB5) (pw_below_drewN hB6 nd7), cap_ (cap_ (w := Ws.drew) hs1 hB5) (pw_below_drewN hB6 nd7), cap_ (cap_ (w := Ws.drew) hs2 hB5) (pw_below_drewN hB6 nd7)⟩ (fun hHeld => ?_)
    clear hK K
    refine norm_ (a' := ?_) ?_ ?_
    rotate_left
    · show Act.put _ (some 17) _ = _
      simp only [Act.put, List.setIfInBounds_toArray, List.set_cons_zero, List.set_cons_succ, i64_w, i32_w]
      rfl
    refine pure_ (i := 5) (N := some 2) (v := ?_) (a' := ?_) #[true, true, true, true, true, true] rfl rfl (by kernel_rfl) (fun _ _ _ h => h) (Or.inl ⟨by rfl, ?_⟩) ?_ ?_
    rotate_left
    · intro w'
      go_simp
      with_reducible rfl
    rotate_left
    · simp only [Act.put, List.setIfInBounds_toArray, List.set_cons_zero, List.set_cons_succ, i64_w, i32_w]
      rfl
    refine done_ (by kernel_rfl) ?_
    go_wp2
    go_ret
    exact ⟨rfl, HBW.out⟩
#print axioms pentaglotlaw33_ConcreteParams.calls
end Go.Proofs.Ytfbfopfhfeijdaa.Pr
