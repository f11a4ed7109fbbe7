/- concrete.expand at Template's closure, and concrete.Template: what a template stands for. -/
import Derived.Test.YtfbfopfhfeijdaaMg9
import Derived.Test.YtfbfopfhfeijdaaMg10
import Derived.Test.YtfbfopfhfeijdaaMg3
import Derived.Deep.RegionWith
namespace Go.Proofs.Ytfbfopfhfeijdaa.Pr
open Go.RowKit Go.Proofs.YtfbfopfhfeijdaaW.PrintWords Go.Proofs.YtfbfopfhfeijdaaW.PrintLast Go.Proofs.YtfbfopfhfeijdaaW.PrintMore
set_option linter.unusedVariables false
set_option linter.unusedSimpArgs false

def sm (c : Int) : Bool := decide ((97 ≤ c ∧ c ≤ 122) ∨ (48 ≤ c ∧ c ≤ 57))
theorem small_f (c : Int) : concrete_small.f c = some (sm c) := by
  unfold concrete_small.f sm
  by_cases h1 : 97 ≤ c <;> by_cases h2 : c ≤ 122 <;> by_cases h3 : 48 ≤ c <;> by_cases h4 : c ≤ 57 <;> simp [h1, h2, h3, h4] <;> omega
theorem small_calls (c : Int) (b : Bool) (hb : sm c = b) (w : World) : Calls Try.prog 52 #[.int .u8 c] w fun e w' => e = .returned (.bool b) ∧ Drawn0 w w' := by
  subst hb
  exact concrete_small.calls c (sm c) w (small_f c)

/-- Where the name ends that begins before i. -/
def nameEnd (s : ByteArray) : Nat → Nat
  | i => if i < s.size then (if sm (bt s i) = true then nameEnd s (i + 1) else i) else i
termination_by i => s.size - i
theorem nameEnd_end {s : ByteArray} {i : Nat} (h : ¬ i < s.size) : nameEnd s i = i := by unfold nameEnd; rw [if_neg h]
theorem nameEnd_stop {s : ByteArray} {i : Nat} (h : i < s.size) (e : sm (bt s i) = false) : nameEnd s i = i := by unfold nameEnd; rw [if_pos h, e]; simp
theorem nameEnd_go {s : ByteArray} {i : Nat} (h : i < s.size) (e : sm (bt s i) = true) : nameEnd s i = nameEnd s (i + 1) := by rw [nameEnd, if_pos h, if_pos e]
/-- Is what follows a $ no reference? -/
def badRef (s : ByteArray) : Bool := decide (s.size < 3) || decide (bt s 0 < 48) || decide (57 < bt s 0) || !(bt s 1 == 46) || !(sm (bt s 2))

/-- What the rest of a template stands for, behind what has been written. -/
def tpl (l : List (List S37)) : Nat → ByteArray → List UInt8 → Option (ByteArray × Int)
  | 0, _, _ => none
  | n + 1, s, out =>
    let c := Cut1.cut1 s.data.toList 36
    if 140737488355328 < (out ++ c.1).length then none
    else if c.2.2 = false then some (⟨(out ++ c.1).toArray⟩, 0)
    else
      let r : ByteArray := ⟨c.2.1.toArray⟩
      if badRef r = true then some (⟨#[]⟩, 3)
      else
        let e := nameEnd r 2
        match resolve l (bt r 0 - 48) (r.extract 2 e) with
        | none => some (⟨#[]⟩, 4)
        | some v => if 140737488355328 < (out ++ c.1 ++ v.data.toList).length then none else tpl l n (r.extract e r.size) (out ++ c.1 ++ v.data.toList)

set_option maxHeartbeats 4000000 in
set_option maxRecDepth 100000 in
theorem expand_calls (B : Nat) (A : Option Addr) (c : Nat) (l : List (List S37)) (k : Nat) (s : ByteArray) (r1 : ByteArray) (r2 : Int) (w : World) (hs : s.size ≤ 140737488355328)
    (hB : w.cell? ⟨B, 0, none⟩ = some (.slice A l.length c)) (hr : Kd.C (Kd.slice 37 k37) w A l.length l) (h : tpl l k s [] = some (r1, r2)) :
    Calls Try.prog 32 #[.string s, .func (.func 33) #[] #[.pointer (some ⟨B, 0, none⟩)]] w fun e w' => e = .returned (.tuple #[.string r1, .int .i64 r2]) ∧ Below w.heap.size w w' := by
  have HBX := Aside0.mk hB
  have HR := Aside0.mk hr
  have H := Aside0.mk h
  have HS := Aside0.mk hs
  have H0 := Aside0.mk (Lib.IsBuilderF.of (Lib.fresh_isBuilder 105 5 w))
  have HB0 := Aside0.mk ((Below.refl w.heap.size w).alloc (Nat.le_refl _) (.cells #[.pointer none, .slice none 0 0] 105))
  clear hB hr h hs
  go_enter Try.func32, Try.ntmps32
  go_wp2
  go_loopg [0] k (fun n v w' => ∃ (s' : ByteArray) (out : List UInt8), v = .string s' ∧ Aside0 (tpl l n s' out = some (r1, r2)) ∧ Aside0 (s'.size ≤ 140737488355328) ∧ Aside0 (Lib.IsBuilderF 105 5 w.heap.size w.heap.size (Lib.byteCells out) w') ∧ Aside0 (Below w.heap.size w w'))
  case atStart => exact ⟨s, [], rfl, H, HS, H0, HB0⟩
  case round =>
    clear H HS H0 HB0
    obtain ⟨s', out, rfl, H, HS, HI, HB⟩ := hrel
    cases gk with
    | zero => exact absurd H.out (by simp [tpl])
    | succ n =>
      obtain ⟨X, hX⟩ : ∃ X, X = Cut1.cut1 s'.data.toList 36 := ⟨_, rfl⟩
      obtain ⟨x1, x2, x3⟩ := X
      have HX := Aside0.mk hX
      clear hX
      have H2 := H.out
      simp only [tpl, ← HX.out] at H2
      by_cases c1 : 140737488355328 < (out ++ x1).length
      · rw [if_pos c1] at H2; cases H2
      · rw [if_neg c1] at H2
        have C1 := Aside0.mk (Nat.not_lt.1 c1)
        clear c1 H
        go_wp2_with fail
        refine (Cut1.cut s' 36 _ (by have := HS.out; omega)).mono ?_
        rw [← HX.out]
        rintro e w1 ⟨rfl, q1, rfl⟩
        generalize hR : (⟨x2.toArray⟩ : ByteArray) = R at H2 ⊢
        have hRs : R.size ≤ 140737488351232 + 4096 := by
          have h1 : x2.length ≤ s'.data.toList.length := by
            have e : x2 = (Cut1.cut1 s'.data.toList 36).2.1 := by rw [← HX.out]
            rw [e]; unfold Cut1.cut1; split <;> simp
          have h2 : s'.data.toList.length = s'.size := by rw [Array.length_toList]; rfl
          have h3 : R.size = x2.length := by rw [← hR]; simp [ByteArray.size]
          have := HS.out; omega
        have HR1 := Aside0.mk hR
        clear hR
        go_wp2_with fail
        refine (Bld.writeString w.heap.size w.heap.size (Lib.byteCells out) ⟨x1.toArray⟩ (wr.drewN q1) (show Lib.IsBuilderF 105 5 w.heap.size w.heap.size (Lib.byteCells out) (wr.drewN q1) from HI.out) (by
          have h1 : (⟨x1.toArray⟩ : ByteArray).size = x1.length := by simp [ByteArray.size]
          rw [Lib.byteCells_length, h1]; have := C1.out; rw [List.length_append] at this; exact this) (by have := HB.out.size; simpa using this)).mono ?_
        rintro e w2 ⟨rfl, hb2, hB2⟩
        have HI2 := Aside0.mk (show Lib.IsBuilderF 105 5 w.heap.size w.heap.size (Lib.byteCells (out ++ x1)) w2 from by
          rw [Lib.byteCells_append]; exact .inr (by simpa [Lib.strCells_eq] using hb2))
        have HB2 := Aside0.mk ((pw_below_drewN HB.out q1).trans hB2)
        clear hb2 hB2 HI HB
        cases x3 with
        | false =>
          simp only [if_true] at H2
          obtain ⟨rfl, rfl⟩ := Prod.mk.inj (Option.some.inj H2)
          clear H2
          go_wp2_with fail
          refine (Try.Builder_String_any_f w.heap.size w.heap.size (out ++ x1) _ HI2.out HB2.out.size).mono ?_
          rintro e w3 ⟨rfl, _, hB3⟩
          have HB3 := Aside0.mk (HB2.out.trans hB3)
          clear hB3
          go_wp2
          go_ret2
          exact ⟨rfl, HB3.out⟩
        | true =>
          have H3 : (if badRef R = true then some ((⟨#[]⟩ : ByteArray), (3 : Int)) else match resolve l (bt R 0 - 48) (R.extract 2 (nameEnd R 2)) with
            | none => some (⟨#[]⟩, 4)
            | some v => if 140737488355328 < (out ++ x1 ++ v.data.toList).length then none else tpl l n (R.extract (nameEnd R 2) R.size) (out ++ x1 ++ v.data.toList)) = some (r1, r2) := H2
          have HH := Aside0.mk H3
          clear H2 H3
          have hx0 : ∀ h : 0 < R.size, ((R[0]'h).toNat : Int) = bt R 0 := bt_at R 0
          have hx1 : ∀ h : 1 < R.size, ((R[1]'h).toNat : Int) = bt R 1 := bt_at R 1
          have hx2 : ∀ h : 2 < R.size, ((R[2]'h).toNat : Int) = bt R 2 := bt_at R 2
          have bad : badRef R = true → r1 = (⟨#[]⟩ : ByteArray) ∧ r2 = 3 := fun hb => by
            have h1 := HH.out
            rw [if_pos hb] at h1
            have h2 := Prod.mk.inj (Option.some.inj h1)
            exact ⟨h2.1.symm, h2.2.symm⟩
          by_cases b1 : R.size < 3
          · obtain ⟨rfl, rfl⟩ := bad (by simp [badRef, b1])
            clear bad HH
            have t1 : decide (R.size < 3) = true := decide_eq_true b1
            have t1' : decide ((R.size : Int) < 3) = true := decide_eq_true (by omega)
            clear b1
            go_wp2_with fail
            go_ret2
            exact ⟨rfl, HB2.out⟩
          · have t1 : decide (R.size < 3) = false := decide_eq_false b1
            have t1' : decide ((R.size : Int) < 3) = false := decide_eq_false (by omega)
            have l0 : 0 < R.size := by omega
            have l1 : 1 < R.size := by omega
            have l2 : 2 < R.size := by omega
            replace hx0 := hx0 l0
            replace hx1 := hx1 l1
            replace hx2 := hx2 l2
            by_cases b2 : bt R 0 < 48
            · obtain ⟨rfl, rfl⟩ := bad (by simp [badRef, b2])
              clear bad HH b1
              have t2 : decide (bt R 0 < 48) = true := decide_eq_true b2
              clear b2
              go_wp2_with fail
              go_ret2
              exact ⟨rfl, HB2.out⟩
            · have t2 : decide (bt R 0 < 48) = false := decide_eq_false b2
              by_cases b3 : 57 < bt R 0
              · obtain ⟨rfl, rfl⟩ := bad (by simp [badRef, b3])
                clear bad HH b1 b2
                have t3 : decide (57 < bt R 0) = true := decide_eq_true b3
                clear b3
                go_wp2_with fail
                go_ret2
                exact ⟨rfl, HB2.out⟩
              · have t3 : decide (57 < bt R 0) = false := decide_eq_false b3
                by_cases b4 : bt R 1 = 46
                · have t4 : (bt R 1 != 46) = false := by simpa using b4
                  cases b5 : sm (bt R 2) with
                  | false =>
                    obtain ⟨rfl, rfl⟩ := bad (by simp [badRef, b5])
                    have B5 := Aside0.mk b5
                    clear bad HH b1 b2 b3 b4 b5
                    go_wp2_with (go_at_call 52; refine (small_calls _ false B5.out _).mono ?_; rintro e w3 ⟨rfl, ⟨q3, rfl⟩⟩)
                    go_ret2
                    exact ⟨rfl, pw_below_drewN HB2.out _⟩
                  | true =>
                    have hgood : badRef R = false := by simp [badRef, b1, b2, b3, b4, b5]
                    have B5 := Aside0.mk b5
                    have H4 := HH.out
                    rw [hgood] at H4
                    simp only [Bool.false_eq_true, if_false] at H4
                    have HN := Aside0.mk H4
                    have HD := Aside0.mk (show 48 ≤ bt R 0 ∧ bt R 0 ≤ 57 from ⟨by omega, by omega⟩)
                    clear bad HH b1 b2 b3 b4 b5 hgood H4
                    go_wp2_with (go_at_call 52; refine (small_calls _ true B5.out _).mono ?_; rintro e w3 ⟨rfl, ⟨q3, rfl⟩⟩)
                    clear t1 t1' t2 t3 t4 hx1 hx2
                    go_loopg [10] (R.size - 2) (fun m v w' => ∃ i : Nat, v = .int .i64 i ∧ Aside0 (2 ≤ i ∧ i ≤ R.size ∧ m = R.size - i ∧ nameEnd R 2 = nameEnd R i) ∧ Aside0 (Lib.IsBuilderF 105 5 w.heap.size w.heap.size (Lib.byteCells (out ++ x1)) w') ∧ Aside0 (Below w.heap.size w w'))
                    case atStart => exact ⟨2, rfl, ⟨⟨by omega, by omega, by omega, rfl⟩⟩, HI2, ⟨pw_below_drewN HB2.out _⟩⟩
                    case round =>
                      clear HI2 HB2
                      obtain ⟨i, rfl, HL, HI2, HB2⟩ := hrel
                      have hR63 : R.size ≤ 9223372036854775806 := by omega
                      by_cases hi : i < R.size
                      · have u1 : decide (i < R.size) = true := decide_eq_true hi
                        have u1' : decide ((i : Int) < (R.size : Int)) = true := decide_eq_true (by omega)
                        have hxi : ((R[i]'hi).toNat : Int) = bt R i := bt_at R i hi
                        cases b6 : sm (bt R i) with
                        | true =>
                          have B6 := Aside0.mk b6
                          have HE := Aside0.mk (HL.out.2.2.2.trans (nameEnd_go hi b6))
                          clear b6
                          go_wp2_with (go_at_call 52; refine (small_calls _ true B6.out _).mono ?_; rintro e w3 ⟨rfl, ⟨q4, rfl⟩⟩)
                          go_roundg (R.size - (i + 1))
                          case measure => have := HL.out; omega
                          case rel => exact ⟨i + 1, by go_num, ⟨⟨by have := HL.out; omega, by omega, rfl, HE.out⟩⟩, HI2, ⟨pw_below_drewN HB2.out _⟩⟩
                        | false =>
                          have B6 := Aside0.mk b6
                          have HE := Aside0.mk (HL.out.2.2.2.trans (nameEnd_stop hi b6))
                          clear b6
                          go_wp2_with (go_at_call 52; refine (small_calls _ false B6.out _).mono ?_; rintro e w3 ⟨rfl, ⟨q4, rfl⟩⟩)
                          have hiL := HL.out
                          have hi2 : 2 ≤ i := hiL.1
                          have hiR : i ≤ R.size := hiL.2.1
                          have HLE := Aside0.mk (show nameEnd R 2 = i from HE.out)
                          (try clear hxi)
                          clear hiL HE HL hi u1 u1'
                          have hd0 : 48 ≤ bt R 0 := HD.out.1
                          have hd1 : bt R 0 ≤ 57 := HD.out.2
                          have s1 : (2 : Int) ≤ (i : Int) := by omega
                          have s2 : (i : Int) ≤ (R.size : Int) := by omega
                          have s3 : decide ((2 : Int) ≤ (i : Int)) = true := decide_eq_true s1
                          have s4 : decide ((i : Int) ≤ (R.size : Int)) = true := decide_eq_true s2
                          have k2 : (bt R 0 - 48) % 256 = bt R 0 - 48 := by omega
                          have k1 : IntKind.u8.wrap (bt R 0 - 48) = bt R 0 - 48 := by simp [IntKind.wrap, IntKind.bits, IntKind.signed]; omega
                          have k3 : IntKind.i64.wrap (bt R 0 - 48) = bt R 0 - 48 := by rw [IntKind.wrap_i64]; omega
                          refine start_ (n := 14) (S := fun w' => True) (ds := []) #[false, false, false, false, false, false, false, false, false, false, false, false, false, false] (by kernel_rfl) rfl rfl trivial (fun hHeld => ?_)
                          refine pure_ (i := 0) (N := some 61) (v := ?_) (a' := ?_) #[true, false, false, false, false, false, false, false, false, false, false, false, false, false] rfl rfl (by kernel_rfl) (fun _ _ _ h => h) (Or.inl ⟨by rfl, ?_⟩) ?_ ?_
                          rotate_left
                          · intro w'
                            go_simp
                            with_reducible rfl
                          rotate_left
                          · simp only [Act.put, List.setIfInBounds_toArray, List.set_cons_zero, List.set_cons_succ, i64_w, i32_w]
                            rfl
                          refine pure_ (i := 1) (N := some 62) (v := ?_) (a' := ?_) #[true, true, false, false, false, false, false, false, false, false, false, false, false, false] rfl rfl (by kernel_rfl) (fun _ _ _ h => h) (Or.inl ⟨by rfl, ?_⟩) ?_ ?_
                          rotate_left
                          · intro w'
                            go_simp
                            with_reducible rfl
                          rotate_left
                          · simp only [Act.put, List.setIfInBounds_toArray, List.set_cons_zero, List.set_cons_succ, i64_w, i32_w]
                            rfl
                          refine pure_ (i := 5) (N := some 66) (v := ?_) (a' := ?_) #[true, true, false, false, false, true, false, false, false, false, false, false, false, false] rfl rfl (by kernel_rfl) (fun _ _ _ h => h) (Or.inl ⟨by rfl, ?_⟩) ?_ ?_
                          rotate_left
                          · intro w'
                            go_simp
                            with_reducible rfl
                          rotate_left
                          · simp only [Act.put, List.setIfInBounds_toArray, List.set_cons_zero, List.set_cons_succ, i64_w, i32_w]
                            rfl
                          refine pure_ (i := 6) (N := some 67) (v := ?_) (a' := ?_) #[true, true, false, false, false, true, true, false, false, false, false, false, false, false] rfl rfl (by kernel_rfl) (fun _ _ _ h => h) (Or.inl ⟨by rfl, ?_⟩) ?_ ?_
                          rotate_left
                          · intro w'
                            go_simp
                            with_reducible rfl
                          rotate_left
                          · simp only [Act.put, List.setIfInBounds_toArray, List.set_cons_zero, List.set_cons_succ, i64_w, i32_w]
                            rfl
                          refine pure_ (i := 7) (N := some 68) (v := ?_) (a' := ?_) #[true, true, false, false, false, true, true, true, false, false, false, false, false, false] rfl rfl (by kernel_rfl) (fun _ _ _ h => h) (Or.inl ⟨by rfl, ?_⟩) ?_ ?_
                          rotate_left
                          · intro w'
                            go_simp
                            with_reducible rfl
                          rotate_left
                          · simp only [Act.put, List.setIfInBounds_toArray, List.set_cons_zero, List.set_cons_succ, i64_w, i32_w]
                            rfl
                          refine take_ (i := 2) (N := some 63) (v := ?_) (a' := ?_) #[true, true, true, false, false, true, true, true, false, false, false, false, false, false] rfl rfl (by kernel_rfl) (fun _ _ _ h => h) (Or.inl ⟨by rfl, ?_⟩) hHeld ?_ ?_
                          rotate_left
                          · intro w' _
                            go_simp
                            with_reducible rfl
                          rotate_left
                          · simp only [Act.put, List.setIfInBounds_toArray, List.set_cons_zero, List.set_cons_succ, i64_w, i32_w]
                            rfl
                          refine pure_ (i := 3) (N := some 64) (v := ?_) (a' := ?_) #[true, true, true, true, false, true, true, true, false, false, false, false, false, false] rfl rfl (by kernel_rfl) (fun _ _ _ h => h) (Or.inl ⟨by rfl, ?_⟩) ?_ ?_
                          rotate_left
                          · intro w'
                            go_simp
                            with_reducible rfl
                          rotate_left
                          · simp only [Act.put, List.setIfInBounds_toArray, List.set_cons_zero, List.set_cons_succ, i64_w, i32_w]
                            rfl
                          refine pure_ (i := 4) (N := some 65) (v := ?_) (a' := ?_) #[true, true, true, true, true, true, true, true, false, false, false, false, false, false] rfl rfl (by kernel_rfl) (fun _ _ _ h => h) (Or.inl ⟨by rfl, ?_⟩) ?_ ?_
                          rotate_left
                          · intro w'
                            go_simp
                            with_reducible rfl
                          rotate_left
                          · simp only [Act.put, List.setIfInBounds_toArray, List.set_cons_zero, List.set_cons_succ, i64_w, i32_w]
                            rfl
                          refine one_ (i := 8) (N := some 69) #[true, true, true, true, true, true, true, true, true, false, false, false, false, false] rfl rfl (by kernel_rfl) (by decide) (fun K hK => ?_)
                          refine goesV_ Try.func33 (by kernel_rfl) rfl #[.int .i64 (bt R 0 - 48), .string (R.extract 2 i), .pointer (some ⟨B, 0, none⟩)] (by rfl) rfl rfl (by rfl) (by simp only [List.map_toArray, List.map_cons, List.map_nil, Act.eval]; rfl) ?_
                          with_reducible refine (resolve_calls B A c l (bt R 0 - 48) (R.extract 2 i) _ (by omega) (cap_ HBX.out (by repeat (first | exact HB2.out | apply pw_below_drewN | apply below_drew1))) (Kd.C_below HR.out (by repeat (first | exact HB2.out | apply pw_below_drewN | apply below_drew1)))).mono ?_
                          rintro e w4 ⟨rfl, hB4⟩
                          refine ⟨_, rfl, ?_⟩
                          refine hK.out _ _ trivial (fun hHeld => ?_)
                          clear hK K
                          refine norm_ (a' := ?_) ?_ ?_
                          rotate_left
                          · show Act.put _ (some 69) _ = _
                            simp only [Act.put, List.setIfInBounds_toArray, List.set_cons_zero, List.set_cons_succ, i64_w, i32_w]
                            rfl
                          refine pure_ (i := 9) (N := some 60) (v := ?_) (a' := ?_) #[true, true, true, true, true, true, true, true, true, true, false, false, false, false] rfl rfl (by kernel_rfl) (fun _ _ _ h => h) (Or.inl ⟨by rfl, ?_⟩) ?_ ?_
                          rotate_left
                          · intro w'
                            go_simp
                            with_reducible rfl
                          rotate_left
                          · simp only [Act.put, List.setIfInBounds_toArray, List.set_cons_zero, List.set_cons_succ, i64_w, i32_w]
                            rfl
                          refine pure_ (i := 10) (N := some 70) (v := ?_) (a' := ?_) #[true, true, true, true, true, true, true, true, true, true, true, false, false, false] rfl rfl (by kernel_rfl) (fun _ _ _ h => h) (Or.inl ⟨by rfl, ?_⟩) ?_ ?_
                          rotate_left
                          · intro w'
                            go_simp
                            with_reducible rfl
                          rotate_left
                          · simp only [Act.put, List.setIfInBounds_toArray, List.set_cons_zero, List.set_cons_succ, i64_w, i32_w]
                            rfl
                          refine pure_ (i := 11) (N := some 71) (v := ?_) (a' := ?_) #[true, true, true, true, true, true, true, true, true, true, true, true, false, false] rfl rfl (by kernel_rfl) (fun _ _ _ h => h) (Or.inl ⟨by rfl, ?_⟩) ?_ ?_
                          rotate_left
                          · intro w'
                            go_simp
                            with_reducible rfl
                          rotate_left
                          · simp only [Act.put, List.setIfInBounds_toArray, List.set_cons_zero, List.set_cons_succ, i64_w, i32_w]
                            rfl
                          refine pure_ (i := 12) (N := some 11) (v := ?_) (a' := ?_) #[true, true, true, true, true, true, true, true, true, true, true, true, true, false] rfl rfl (by kernel_rfl) (fun _ _ _ h => h) (Or.inl ⟨by rfl, ?_⟩) ?_ ?_
                          rotate_left
                          · intro w'
                            go_simp
                            with_reducible rfl
                          rotate_left
                          · simp only [Act.put, List.setIfInBounds_toArray, List.set_cons_zero, List.set_cons_succ, i64_w, i32_w]
                            rfl
                          refine pure_ (i := 13) (N := some 12) (v := ?_) (a' := ?_) #[true, true, true, true, true, true, true, true, true, true, true, true, true, true] rfl rfl (by kernel_rfl) (fun _ _ _ h => h) (Or.inl ⟨by rfl, ?_⟩) ?_ ?_
                          rotate_left
                          · intro w'
                            go_simp
                            with_reducible rfl
                          rotate_left
                          · simp only [Act.put, List.setIfInBounds_toArray, List.set_cons_zero, List.set_cons_succ, i64_w, i32_w]
                            rfl
                          refine done_ (by kernel_rfl) ?_
                          have HI4 := Aside0.mk HI2.out
                          have HB4w := Aside0.mk (below_then (by repeat (first | exact HB2.out | apply pw_below_drewN | apply below_drew1)) (by simpa using HB2.out.size) hB4)
                          have HI5 : Aside0 (Lib.IsBuilderF 105 5 w.heap.size w.heap.size (Lib.byteCells (out ++ x1)) w4) := ⟨isB_below (by exact HI2.out) hB4⟩
                          have HN2 := HN.out
                          rw [HLE.out] at HN2
                          clear HI4 k1 k2 k3 s3 s4 hd0 hd1 HN
                          generalize resolve l (bt R 0 - 48) (R.extract 2 i) = X at HN2 ⊢
                          cases X with
                          | none =>
                            simp only at HN2
                            obtain ⟨rfl, rfl⟩ := Prod.mk.inj (Option.some.inj HN2)
                            clear HN2
                            simp only [resV, Option.isSome]
                            go_wp2_with fail
                            go_ret2
                            exact ⟨rfl, HB4w.out⟩
                          | some v =>
                            simp only at HN2
                            by_cases cv : 140737488355328 < (out ++ x1 ++ v.data.toList).length
                            · rw [if_pos cv] at HN2; cases HN2
                            · rw [if_neg cv] at HN2
                              have CV := Aside0.mk (Nat.not_lt.1 cv)
                              have HN3 := Aside0.mk HN2
                              clear cv HN2
                              simp only [resV, Option.isSome]
                              go_wp2_with fail
                              refine (Bld.writeString w.heap.size w.heap.size (Lib.byteCells (out ++ x1)) v _ HI5.out (by
                                have h1 : v.size = v.data.toList.length := by rw [Array.length_toList]; rfl
                                rw [Lib.byteCells_length, h1]; have := CV.out; rw [List.length_append] at this; exact this) HB4w.out.size).mono ?_
                              rintro e w5 ⟨rfl, hb5, hB5⟩
                              have HI6 := Aside0.mk (show Lib.IsBuilderF 105 5 w.heap.size w.heap.size (Lib.byteCells (out ++ x1 ++ v.data.toList)) w5 from by
                                rw [Lib.byteCells_append]; exact .inr (by simpa [Lib.strCells_eq] using hb5))
                              have HB6 := Aside0.mk (HB4w.out.trans hB5)
                              clear hb5 hB5
                              go_wp2_with fail
                              go_roundg n
                              case measure => omega
                              case rel => exact ⟨R.extract i R.size, out ++ x1 ++ v.data.toList, rfl, HN3, ⟨by rw [ByteArray.size_extract]; omega⟩, HI6, HB6⟩
                      · have u1 : decide (i < R.size) = false := decide_eq_false hi
                        have u1' : decide ((i : Int) < (R.size : Int)) = false := decide_eq_false (by omega)
                        have HE := Aside0.mk (HL.out.2.2.2.trans (nameEnd_end hi))
                        go_wp2_with fail
                        have hiL := HL.out
                        have hi2 : 2 ≤ i := hiL.1
                        have hiR : i ≤ R.size := hiL.2.1
                        have HLE := Aside0.mk (show nameEnd R 2 = i from HE.out)
                        (try clear hxi)
                        clear hiL HE HL hi u1 u1'
                        have hd0 : 48 ≤ bt R 0 := HD.out.1
                        have hd1 : bt R 0 ≤ 57 := HD.out.2
                        have s1 : (2 : Int) ≤ (i : Int) := by omega
                        have s2 : (i : Int) ≤ (R.size : Int) := by omega
                        have s3 : decide ((2 : Int) ≤ (i : Int)) = true := decide_eq_true s1
                        have s4 : decide ((i : Int) ≤ (R.size : Int)) = true := decide_eq_true s2
                        have k2 : (bt R 0 - 48) % 256 = bt R 0 - 48 := by omega
                        have k1 : IntKind.u8.wrap (bt R 0 - 48) = bt R 0 - 48 := by simp [IntKind.wrap, IntKind.bits, IntKind.signed]; omega
                        have k3 : IntKind.i64.wrap (bt R 0 - 48) = bt R 0 - 48 := by rw [IntKind.wrap_i64]; omega
                        refine start_ (n := 14) (S := fun w' => True) (ds := []) #[false, false, false, false, false, false, false, false, false, false, false, false, false, false] (by kernel_rfl) rfl rfl trivial (fun hHeld => ?_)
                        refine pure_ (i := 0) (N := some 61) (v := ?_) (a' := ?_) #[true, false, false, false, false, false, false, false, false, false, false, false, false, false] rfl rfl (by kernel_rfl) (fun _ _ _ h => h) (Or.inl ⟨by rfl, ?_⟩) ?_ ?_
                        rotate_left
                        · intro w'
                          go_simp
                          with_reducible rfl
                        rotate_left
                        · simp only [Act.put, List.setIfInBounds_toArray, List.set_cons_zero, List.set_cons_succ, i64_w, i32_w]
                          rfl
                        refine pure_ (i := 1) (N := some 62) (v := ?_) (a' := ?_) #[true, true, false, false, false, false, false, false, false, false, false, false, false, false] rfl rfl (by kernel_rfl) (fun _ _ _ h => h) (Or.inl ⟨by rfl, ?_⟩) ?_ ?_
                        rotate_left
                        · intro w'
                          go_simp
                          with_reducible rfl
                        rotate_left
                        · simp only [Act.put, List.setIfInBounds_toArray, List.set_cons_zero, List.set_cons_succ, i64_w, i32_w]
                          rfl
                        refine pure_ (i := 5) (N := some 66) (v := ?_) (a' := ?_) #[true, true, false, false, false, true, false, false, false, false, false, false, false, false] rfl rfl (by kernel_rfl) (fun _ _ _ h => h) (Or.inl ⟨by rfl, ?_⟩) ?_ ?_
                        rotate_left
                        · intro w'
                          go_simp
                          with_reducible rfl
                        rotate_left
                        · simp only [Act.put, List.setIfInBounds_toArray, List.set_cons_zero, List.set_cons_succ, i64_w, i32_w]
                          rfl
                        refine pure_ (i := 6) (N := some 67) (v := ?_) (a' := ?_) #[true, true, false, false, false, true, true, false, false, false, false, false, false, false] rfl rfl (by kernel_rfl) (fun _ _ _ h => h) (Or.inl ⟨by rfl, ?_⟩) ?_ ?_
                        rotate_left
                        · intro w'
                          go_simp
                          with_reducible rfl
                        rotate_left
                        · simp only [Act.put, List.setIfInBounds_toArray, List.set_cons_zero, List.set_cons_succ, i64_w, i32_w]
                          rfl
                        refine pure_ (i := 7) (N := some 68) (v := ?_) (a' := ?_) #[true, true, false, false, false, true, true, true, false, false, false, false, false, false] rfl rfl (by kernel_rfl) (fun _ _ _ h => h) (Or.inl ⟨by rfl, ?_⟩) ?_ ?_
                        rotate_left
                        · intro w'
                          go_simp
                          with_reducible rfl
                        rotate_left
                        · simp only [Act.put, List.setIfInBounds_toArray, List.set_cons_zero, List.set_cons_succ, i64_w, i32_w]
                          rfl
                        refine take_ (i := 2) (N := some 63) (v := ?_) (a' := ?_) #[true, true, true, false, false, true, true, true, false, false, false, false, false, false] rfl rfl (by kernel_rfl) (fun _ _ _ h => h) (Or.inl ⟨by rfl, ?_⟩) hHeld ?_ ?_
                        rotate_left
                        · intro w' _
                          go_simp
                          with_reducible rfl
                        rotate_left
                        · simp only [Act.put, List.setIfInBounds_toArray, List.set_cons_zero, List.set_cons_succ, i64_w, i32_w]
                          rfl
                        refine pure_ (i := 3) (N := some 64) (v := ?_) (a' := ?_) #[true, true, true, true, false, true, true, true, false, false, false, false, false, false] rfl rfl (by kernel_rfl) (fun _ _ _ h => h) (Or.inl ⟨by rfl, ?_⟩) ?_ ?_
                        rotate_left
                        · intro w'
                          go_simp
                          with_reducible rfl
                        rotate_left
                        · simp only [Act.put, List.setIfInBounds_toArray, List.set_cons_zero, List.set_cons_succ, i64_w, i32_w]
                          rfl
                        refine pure_ (i := 4) (N := some 65) (v := ?_) (a' := ?_) #[true, true, true, true, true, true, true, true, false, false, false, false, false, false] rfl rfl (by kernel_rfl) (fun _ _ _ h => h) (Or.inl ⟨by rfl, ?_⟩) ?_ ?_
                        rotate_left
                        · intro w'
                          go_simp
                          with_reducible rfl
                        rotate_left
                        · simp only [Act.put, List.setIfInBounds_toArray, List.set_cons_zero, List.set_cons_succ, i64_w, i32_w]
                          rfl
                        refine one_ (i := 8) (N := some 69) #[true, true, true, true, true, true, true, true, true, false, false, false, false, false] rfl rfl (by kernel_rfl) (by decide) (fun K hK => ?_)
                        refine goesV_ Try.func33 (by kernel_rfl) rfl #[.int .i64 (bt R 0 - 48), .string (R.extract 2 i), .pointer (some ⟨B, 0, none⟩)] (by rfl) rfl rfl (by rfl) (by simp only [List.map_toArray, List.map_cons, List.map_nil, Act.eval]; rfl) ?_
                        with_reducible refine (resolve_calls B A c l (bt R 0 - 48) (R.extract 2 i) _ (by omega) (cap_ HBX.out (by repeat (first | exact HB2.out | apply pw_below_drewN | apply below_drew1))) (Kd.C_below HR.out (by repeat (first | exact HB2.out | apply pw_below_drewN | apply below_drew1)))).mono ?_
                        rintro e w4 ⟨rfl, hB4⟩
                        refine ⟨_, rfl, ?_⟩
                        refine hK.out _ _ trivial (fun hHeld => ?_)
                        clear hK K
                        refine norm_ (a' := ?_) ?_ ?_
                        rotate_left
                        · show Act.put _ (some 69) _ = _
                          simp only [Act.put, List.setIfInBounds_toArray, List.set_cons_zero, List.set_cons_succ, i64_w, i32_w]
                          rfl
                        refine pure_ (i := 9) (N := some 60) (v := ?_) (a' := ?_) #[true, true, true, true, true, true, true, true, true, true, false, false, false, false] rfl rfl (by kernel_rfl) (fun _ _ _ h => h) (Or.inl ⟨by rfl, ?_⟩) ?_ ?_
                        rotate_left
                        · intro w'
                          go_simp
                          with_reducible rfl
                        rotate_left
                        · simp only [Act.put, List.setIfInBounds_toArray, List.set_cons_zero, List.set_cons_succ, i64_w, i32_w]
                          rfl
                        refine pure_ (i := 10) (N := some 70) (v := ?_) (a' := ?_) #[true, true, true, true, true, true, true, true, true, true, true, false, false, false] rfl rfl (by kernel_rfl) (fun _ _ _ h => h) (Or.inl ⟨by rfl, ?_⟩) ?_ ?_
                        rotate_left
                        · intro w'
                          go_simp
                          with_reducible rfl
                        rotate_left
                        · simp only [Act.put, List.setIfInBounds_toArray, List.set_cons_zero, List.set_cons_succ, i64_w, i32_w]
                          rfl
                        refine pure_ (i := 11) (N := some 71) (v := ?_) (a' := ?_) #[true, true, true, true, true, true, true, true, true, true, true, true, false, false] rfl rfl (by kernel_rfl) (fun _ _ _ h => h) (Or.inl ⟨by rfl, ?_⟩) ?_ ?_
                        rotate_left
                        · intro w'
                          go_simp
                          with_reducible rfl
                        rotate_left
                        · simp only [Act.put, List.setIfInBounds_toArray, List.set_cons_zero, List.set_cons_succ, i64_w, i32_w]
                          rfl
                        refine pure_ (i := 12) (N := some 11) (v := ?_) (a' := ?_) #[true, true, true, true, true, true, true, true, true, true, true, true, true, false] rfl rfl (by kernel_rfl) (fun _ _ _ h => h) (Or.inl ⟨by rfl, ?_⟩) ?_ ?_
                        rotate_left
                        · intro w'
                          go_simp
                          with_reducible rfl
                        rotate_left
                        · simp only [Act.put, List.setIfInBounds_toArray, List.set_cons_zero, List.set_cons_succ, i64_w, i32_w]
                          rfl
                        refine pure_ (i := 13) (N := some 12) (v := ?_) (a' := ?_) #[true, true, true, true, true, true, true, true, true, true, true, true, true, true] rfl rfl (by kernel_rfl) (fun _ _ _ h => h) (Or.inl ⟨by rfl, ?_⟩) ?_ ?_
                        rotate_left
                        · intro w'
                          go_simp
                          with_reducible rfl
                        rotate_left
                        · simp only [Act.put, List.setIfInBounds_toArray, List.set_cons_zero, List.set_cons_succ, i64_w, i32_w]
                          rfl
                        refine done_ (by kernel_rfl) ?_
                        have HI4 := Aside0.mk HI2.out
                        have HB4w := Aside0.mk (below_then (by repeat (first | exact HB2.out | apply pw_below_drewN | apply below_drew1)) (by simpa using HB2.out.size) hB4)
                        have HI5 : Aside0 (Lib.IsBuilderF 105 5 w.heap.size w.heap.size (Lib.byteCells (out ++ x1)) w4) := ⟨isB_below (by exact HI2.out) hB4⟩
                        have HN2 := HN.out
                        rw [HLE.out] at HN2
                        clear HI4 k1 k2 k3 s3 s4 hd0 hd1 HN
                        generalize resolve l (bt R 0 - 48) (R.extract 2 i) = X at HN2 ⊢
                        cases X with
                        | none =>
                          simp only at HN2
                          obtain ⟨rfl, rfl⟩ := Prod.mk.inj (Option.some.inj HN2)
                          clear HN2
                          simp only [resV, Option.isSome]
                          go_wp2_with fail
                          go_ret2
                          exact ⟨rfl, HB4w.out⟩
                        | some v =>
                          simp only at HN2
                          by_cases cv : 140737488355328 < (out ++ x1 ++ v.data.toList).length
                          · rw [if_pos cv] at HN2; cases HN2
                          · rw [if_neg cv] at HN2
                            have CV := Aside0.mk (Nat.not_lt.1 cv)
                            have HN3 := Aside0.mk HN2
                            clear cv HN2
                            simp only [resV, Option.isSome]
                            go_wp2_with fail
                            refine (Bld.writeString w.heap.size w.heap.size (Lib.byteCells (out ++ x1)) v _ HI5.out (by
                              have h1 : v.size = v.data.toList.length := by rw [Array.length_toList]; rfl
                              rw [Lib.byteCells_length, h1]; have := CV.out; rw [List.length_append] at this; exact this) HB4w.out.size).mono ?_
                            rintro e w5 ⟨rfl, hb5, hB5⟩
                            have HI6 := Aside0.mk (show Lib.IsBuilderF 105 5 w.heap.size w.heap.size (Lib.byteCells (out ++ x1 ++ v.data.toList)) w5 from by
                              rw [Lib.byteCells_append]; exact .inr (by simpa [Lib.strCells_eq] using hb5))
                            have HB6 := Aside0.mk (HB4w.out.trans hB5)
                            clear hb5 hB5
                            go_wp2_with fail
                            go_roundg n
                            case measure => omega
                            case rel => exact ⟨R.extract i R.size, out ++ x1 ++ v.data.toList, rfl, HN3, ⟨by rw [ByteArray.size_extract]; omega⟩, HI6, HB6⟩
                · obtain ⟨rfl, rfl⟩ := bad (by simp [badRef, b4])
                  clear bad HH b1 b2 b3
                  have t4 : (bt R 1 != 46) = true := by simpa using b4
                  clear b4
                  go_wp2_with fail
                  go_ret2
                  exact ⟨rfl, HB2.out⟩

/-- concrete.Template, as its callers see it: k bounds the number of references. -/
def concrete_Template.f (k : Nat) (a0 : ByteArray) (l1 : List (List S37)) : Option (ByteArray × Int) := if a0.size ≤ 140737488355328 then tpl l1 k a0 [] else none
set_option maxHeartbeats 1000000 in
set_option maxRecDepth 100000 in
theorem concrete_Template.calls (k : Nat) (a0 : ByteArray) (A1 : Option Addr) (c1 : Nat) (l1 : List (List S37)) (r1 : ByteArray) (r2 : Int) (w : World) (hr1 : Kd.C (Kd.slice 37 k37) w A1 l1.length l1) (hc1 : l1.length ≤ c1) (h : concrete_Template.f k a0 l1 = some (r1, r2)) :
    Calls Try.prog 14 #[.string a0, .slice A1 l1.length c1] w fun e w' => e = .returned (.tuple #[.string r1, .int .i64 r2]) ∧ Below w.heap.size w w' := by
  unfold concrete_Template.f at h
  by_cases hs : a0.size ≤ 140737488355328
  · rw [if_pos hs] at h
    have HR := Aside0.mk hr1
    have H := Aside0.mk h
    have HS := Aside0.mk hs
    have HC := Aside0.mk (show (w.alloc (.cells #[.slice A1 l1.length c1] 22)).cell? ⟨w.heap.size, 0, none⟩ = some (.slice A1 l1.length c1) from by rw [cell_of_row _ _ _ _ _ _ (heap_alloc_new w _)]; rfl)
    have HB := Aside0.mk ((Below.refl w.heap.size w).alloc (Nat.le_refl _) (.cells #[.slice A1 l1.length c1] 22))
    clear hr1 hc1 h hs
    go_enter Try.func14, Try.ntmps14
    go_wp2_with fail
    refine (expand_calls w.heap.size A1 c1 l1 k a0 r1 r2 _ HS.out HC.out (Kd.C_below HR.out HB.out) H.out).mono ?_
    rintro e w1 ⟨rfl, hb⟩
    have HB2 := Aside0.mk (below_then HB.out HB.out.size hb)
    clear hb
    go_wp2_with fail
    go_ret2
    exact ⟨rfl, HB2.out⟩
  · rw [if_neg hs] at h; cases h
end Go.Proofs.Ytfbfopfhfeijdaa.Pr
