/- orthography.segments. -/
import Derived.Test.YtfbhdjflkaldgaaDoorMg3
import Derived.Test.YtfbhdjflkaldgaaDoorRewS
namespace Go.Proofs.YtfbhdjflkaldgaaDoor.Pr
open Go.Proofs.YtfbhdjflkaldgaaDoor.Ct Go.RowKit Go.Maps Go.Lib Go.Proofs.YtfbhdjflkaldgaaDoorW.PrintWords Go.Proofs.YtfbhdjflkaldgaaDoorW.PrintLast Go.Proofs.YtfbhdjflkaldgaaDoorW.PrintMore
set_option linter.unusedVariables false
set_option linter.unusedSimpArgs false
def cutE (t : ByteArray) : ByteArray × Bool := if 1 ≤ t.size ∧ ((t.extract 0 1).toList == [61]) = true then (t.extract 1 t.size, true) else (t, false)
theorem cut_eq (t : ByteArray) : strings_CutPrefix.f t ⟨#[61]⟩ = some (cutE t) := by
  unfold strings_CutPrefix.f stringslite_CutPrefix.f stringslite_HasPrefix.f cutE
  have h1 : ((⟨#[61]⟩ : ByteArray).size : Int) = 1 := rfl
  have h2 : (⟨#[61]⟩ : ByteArray).toList = [61] := by rw [ByteArray.toList_eq]
  rw [h1, h2]
  by_cases c : 1 ≤ t.size
  · rw [if_pos (show (t.size : Int) ≥ 1 by omega), if_pos (show (0 : Int) ≤ 1 by decide), if_pos (show (1 : Int) ≤ (t.size : Int) by omega)]
    rw [show (1 : Int).toNat = 1 from rfl]
    cases e : ((t.extract 0 1).toList == [61]) with
    | false => rw [if_neg (show ¬ (1 ≤ t.size ∧ false = true) by simp)]; rfl
    | true => rw [if_pos (show 1 ≤ t.size ∧ true = true from ⟨c, rfl⟩), Option.bind_some, if_pos rfl, if_pos (show (0 : Int) ≤ 1 by decide), if_pos (show (1 : Int) ≤ (t.size : Int) by omega)]; rfl
  · rw [if_neg (show ¬ (t.size : Int) ≥ 1 by omega), if_neg (show ¬ (1 ≤ t.size ∧ _) from fun h => c h.1)]; rfl
theorem cutE_size (t : ByteArray) : (cutE t).1.size ≤ t.size := by
  unfold cutE
  split
  · rw [ByteArray.size_extract]; omega
  · exact Nat.le_refl _
def wordP (l : List S80) (s : ByteArray) : Bool := decide (0 < s.size) && isWordP l s
def lastF (out : List S57) : S57 := rd_T57 out ((out.length - 1 : Nat) : Int)
def segF (l : List S80) : List ByteArray → List S57 → List S57 × Bool
  | [], out => (out, true)
  | t :: ts, out => if (cutE t).2 = false then (if wordP l t = true then segF l ts (out ++ [(⟨t, []⟩ : S57)]) else ([], false)) else if wordP l (cutE t).1 = true ∧ 0 < out.length ∧ (lastF out).f1.length < 2 then segF l ts (out.set (out.length - 1) ⟨(lastF out).f0, (lastF out).f1 ++ [(cutE t).1]⟩) else ([], false)
def segP (l : List S80) (ts : List ByteArray) : List S57 × Bool := if 1 ≤ ts.length ∧ ts.length ≤ 40 then segF l ts [] else ([], false)
def orthography_segments.f (a_0 : ByteArray) (a_1 : Bool) (l_2 : List (S80)) (l_3 : List (S85)) (l_4 : List (S180)) (l_5 : List (S183)) (l_6 : List (List Int)) (a_7 : Int) (a_8 : Int) (l_9 : List (S85)) (a_a : Int) (l_b : List ByteArray) (l_c : List ByteArray) (a_d : Bool) (a_e : ByteArray) (a_f : Int) (a_g : ByteArray) (a_h : Bool) (a_i : Int) (a_j : Int) (l_k : List (S186)) (l_l : List (S186)) (l_m : List ByteArray) (l_n : List ByteArray) (l_o : List ByteArray) (a_p : Bool) (l_q : List (S188)) (l_r : List (S190)) (l_s : List (S194)) (a_t : ByteArray) (l1 : List ByteArray) : Option (List S57 × Bool) := if runesOk l_2 = true ∧ l1.all (fun t => decide (t.size ≤ 1099511627776)) = true then some (segP l_2 l1) else none
theorem word_calls (a_0 : ByteArray) (a_1 : Bool) (A_2 : Option Addr) (c_2 : Nat) (l_2 : List (S80)) (A_3 : Option Addr) (c_3 : Nat) (l_3 : List (S85)) (A_4 : Option Addr) (c_4 : Nat) (l_4 : List (S180)) (A_5 : Option Addr) (c_5 : Nat) (l_5 : List (S183)) (A_6 : Option Addr) (c_6 : Nat) (l_6 : List (List Int)) (a_7 : Int) (a_8 : Int) (A_9 : Option Addr) (c_9 : Nat) (l_9 : List (S85)) (a_a : Int) (A_b : Option Addr) (c_b : Nat) (l_b : List ByteArray) (A_c : Option Addr) (c_c : Nat) (l_c : List ByteArray) (a_d : Bool) (a_e : ByteArray) (a_f : Int) (a_g : ByteArray) (a_h : Bool) (a_i : Int) (a_j : Int) (A_k : Option Addr) (c_k : Nat) (l_k : List (S186)) (A_l : Option Addr) (c_l : Nat) (l_l : List (S186)) (A_m : Option Addr) (c_m : Nat) (l_m : List ByteArray) (A_n : Option Addr) (c_n : Nat) (l_n : List ByteArray) (A_o : Option Addr) (c_o : Nat) (l_o : List ByteArray) (a_p : Bool) (A_q : Option Addr) (c_q : Nat) (l_q : List (S188)) (A_r : Option Addr) (c_r : Nat) (l_r : List (S190)) (A_s : Option Addr) (c_s : Nat) (l_s : List (S194)) (a_t : ByteArray) (s : ByteArray) (w : World) (hT : Tabs w) (hr_2 : Kd.C k80 w A_2 l_2.length l_2) (hc_2 : l_2.length ≤ c_2) (hr_3 : Kd.C k85 w A_3 l_3.length l_3) (hc_3 : l_3.length ≤ c_3) (hr_4 : Kd.C k180 w A_4 l_4.length l_4) (hc_4 : l_4.length ≤ c_4) (hr_5 : Kd.C k183 w A_5 l_5.length l_5) (hc_5 : l_5.length ≤ c_5) (hr_6 : Kd.C (Kd.slice 78 (Kd.int .u32)) w A_6 l_6.length l_6) (hc_6 : l_6.length ≤ c_6) (hr_9 : Kd.C k85 w A_9 l_9.length l_9) (hc_9 : l_9.length ≤ c_9) (hr_b : Kd.C Kd.string w A_b l_b.length l_b) (hc_b : l_b.length ≤ c_b) (hr_c : Kd.C Kd.string w A_c l_c.length l_c) (hc_c : l_c.length ≤ c_c) (hr_k : Kd.C k186 w A_k l_k.length l_k) (hc_k : l_k.length ≤ c_k) (hr_l : Kd.C k186 w A_l l_l.length l_l) (hc_l : l_l.length ≤ c_l) (hr_m : Kd.C Kd.string w A_m l_m.length l_m) (hc_m : l_m.length ≤ c_m) (hr_n : Kd.C Kd.string w A_n l_n.length l_n) (hc_n : l_n.length ≤ c_n) (hr_o : Kd.C Kd.string w A_o l_o.length l_o) (hc_o : l_o.length ≤ c_o) (hr_q : Kd.C k188 w A_q l_q.length l_q) (hc_q : l_q.length ≤ c_q) (hr_r : Kd.C k190 w A_r l_r.length l_r) (hc_r : l_r.length ≤ c_r) (hr_s : Kd.C k194 w A_s l_s.length l_s) (hc_s : l_s.length ≤ c_s) (h1 : runesOk l_2 = true) (h2 : s.size ≤ 1099511627776) :
    Calls Tryd.prog 44 #[.agg #[.string a_0, .bool a_1, .slice A_2 l_2.length c_2, .slice A_3 l_3.length c_3, .slice A_4 l_4.length c_4, .slice A_5 l_5.length c_5, .slice A_6 l_6.length c_6, .int .i64 a_7, .int .i64 a_8, .slice A_9 l_9.length c_9, .int .i64 a_a, .slice A_b l_b.length c_b, .slice A_c l_c.length c_c, .bool a_d, .string a_e, .int .i64 a_f, .string a_g, .bool a_h, .int .i64 a_i, .int .i64 a_j, .slice A_k l_k.length c_k, .slice A_l l_l.length c_l, .slice A_m l_m.length c_m, .slice A_n l_n.length c_n, .slice A_o l_o.length c_o, .bool a_p, .slice A_q l_q.length c_q, .slice A_r l_r.length c_r, .slice A_s l_s.length c_s, .string a_t], .string s] w fun e w' => e = .returned (.bool (wordP l_2 s)) ∧ Below w.heap.size w w' := by
  refine orthography_word.calls a_0 a_1 A_2 c_2 l_2 A_3 c_3 l_3 A_4 c_4 l_4 A_5 c_5 l_5 A_6 c_6 l_6 a_7 a_8 A_9 c_9 l_9 a_a A_b c_b l_b A_c c_c l_c a_d a_e a_f a_g a_h a_i a_j A_k c_k l_k A_l c_l l_l A_m c_m l_m A_n c_n l_n A_o c_o l_o a_p A_q c_q l_q A_r c_r l_r A_s c_s l_s a_t s _ w hT hr_2 hc_2 hr_3 hc_3 hr_4 hc_4 hr_5 hc_5 hr_6 hc_6 hr_9 hc_9 hr_b hc_b hr_c hc_c hr_k hc_k hr_l hc_l hr_m hc_m hr_n hc_n hr_o hc_o hr_q hc_q hr_r hc_r hr_s hc_s ?_
  unfold orthography_word.f wordP
  by_cases c : 0 < s.size
  · rw [if_neg, decide_eq_true c, Bool.true_and]
    · unfold alphabet_IsWord.f; rw [if_pos ⟨h1, by omega⟩]; rfl
    · intro e
      have := congrArg List.length e
      rw [ByteArray.toList_eq, sizeL, List.length_nil] at this
      omega
  · rw [if_pos, decide_eq_false c, Bool.false_and]
    rw [ByteArray.toList_eq]
    exact List.eq_nil_of_length_eq_zero (by rw [sizeL]; omega)
theorem drop_str (l : List ByteArray) (i : Nat) (h : i < l.length) : l.drop i = rdOf ByteArray.empty l (i : Int) :: l.drop (i + 1) := by
  unfold rdOf
  rw [List.drop_eq_getElem_cons h, Int.toNat_natCast, List.getD_eq_getElem?_getD, List.getElem?_eq_getElem h]; rfl
theorem LSegx1 {p : Prop} (h : p := by
  go_wp2_with (first | (go_at_call 43; refine (hcc _).mono ?_; rintro e z1_ ⟨rfl, nd, rfl⟩; have z2_ := Aside0.mk (pw_below_drewN HB.out nd); have z3_ := Aside0.mk (Kd.S_drewN HO.out nd); have z4_ := hblk'.out _ z2_.out) | ((with_reducible refine gate_load (t := 41) (p := 2) rfl ?_); (try (refine gate_guard (by rfl) ?_; dsimp only)); refine wpList_load_row rfl 41 (.tmp 2) rfl w.heap.size rfl 41 _ (0, 0) _ z4_ Tryd.underlying41 rfl (by kernel_rfl) ?_) | (go_at_call 44; with_reducible refine (hwo'.out C Gc26 _ z2_.out).mono ?_; rw [hwe]; rintro e z5_ ⟨rfl, z6_⟩; have z7_ := Aside0.mk (z2_.out.trans (z6_.mono z2_.out.size)); have z8_ := Aside0.mk (Kd.S_below z3_.out z6_)))
  go_ret2
  exact ⟨_, rfl, Kd.S_nil _ _ _ _ _, hB0'.out.trans (z7_.out.mono hB0'.out.size)⟩) : p := h
set_option maxRecDepth 100000 in
set_option maxHeartbeats 4000000 in
theorem orthography_segments.calls (a_0 : ByteArray) (a_1 : Bool) (A_2 : Option Addr) (c_2 : Nat) (l_2 : List (S80)) (A_3 : Option Addr) (c_3 : Nat) (l_3 : List (S85)) (A_4 : Option Addr) (c_4 : Nat) (l_4 : List (S180)) (A_5 : Option Addr) (c_5 : Nat) (l_5 : List (S183)) (A_6 : Option Addr) (c_6 : Nat) (l_6 : List (List Int)) (a_7 : Int) (a_8 : Int) (A_9 : Option Addr) (c_9 : Nat) (l_9 : List (S85)) (a_a : Int) (A_b : Option Addr) (c_b : Nat) (l_b : List ByteArray) (A_c : Option Addr) (c_c : Nat) (l_c : List ByteArray) (a_d : Bool) (a_e : ByteArray) (a_f : Int) (a_g : ByteArray) (a_h : Bool) (a_i : Int) (a_j : Int) (A_k : Option Addr) (c_k : Nat) (l_k : List (S186)) (A_l : Option Addr) (c_l : Nat) (l_l : List (S186)) (A_m : Option Addr) (c_m : Nat) (l_m : List ByteArray) (A_n : Option Addr) (c_n : Nat) (l_n : List ByteArray) (A_o : Option Addr) (c_o : Nat) (l_o : List ByteArray) (a_p : Bool) (A_q : Option Addr) (c_q : Nat) (l_q : List (S188)) (A_r : Option Addr) (c_r : Nat) (l_r : List (S190)) (A_s : Option Addr) (c_s : Nat) (l_s : List (S194)) (a_t : ByteArray) (A1 : Option Addr) (c1 : Nat) (l1 : List ByteArray) (r1 : List S57) (r2 : Bool) (w : World) (hT : Tabs w) (hr_2 : Kd.C k80 w A_2 l_2.length l_2) (hc_2 : l_2.length ≤ c_2) (hr_3 : Kd.C k85 w A_3 l_3.length l_3) (hc_3 : l_3.length ≤ c_3) (hr_4 : Kd.C k180 w A_4 l_4.length l_4) (hc_4 : l_4.length ≤ c_4) (hr_5 : Kd.C k183 w A_5 l_5.length l_5) (hc_5 : l_5.length ≤ c_5) (hr_6 : Kd.C (Kd.slice 78 (Kd.int .u32)) w A_6 l_6.length l_6) (hc_6 : l_6.length ≤ c_6) (hr_9 : Kd.C k85 w A_9 l_9.length l_9) (hc_9 : l_9.length ≤ c_9) (hr_b : Kd.C Kd.string w A_b l_b.length l_b) (hc_b : l_b.length ≤ c_b) (hr_c : Kd.C Kd.string w A_c l_c.length l_c) (hc_c : l_c.length ≤ c_c) (hr_k : Kd.C k186 w A_k l_k.length l_k) (hc_k : l_k.length ≤ c_k) (hr_l : Kd.C k186 w A_l l_l.length l_l) (hc_l : l_l.length ≤ c_l) (hr_m : Kd.C Kd.string w A_m l_m.length l_m) (hc_m : l_m.length ≤ c_m) (hr_n : Kd.C Kd.string w A_n l_n.length l_n) (hc_n : l_n.length ≤ c_n) (hr_o : Kd.C Kd.string w A_o l_o.length l_o) (hc_o : l_o.length ≤ c_o) (hr_q : Kd.C k188 w A_q l_q.length l_q) (hc_q : l_q.length ≤ c_q) (hr_r : Kd.C k190 w A_r l_r.length l_r) (hc_r : l_r.length ≤ c_r) (hr_s : Kd.C k194 w A_s l_s.length l_s) (hc_s : l_s.length ≤ c_s) (hr1 : Kd.C Kd.string w A1 l1.length l1) (hc1 : l1.length ≤ c1) (h : orthography_segments.f a_0 a_1 l_2 l_3 l_4 l_5 l_6 a_7 a_8 l_9 a_a l_b l_c a_d a_e a_f a_g a_h a_i a_j l_k l_l l_m l_n l_o a_p l_q l_r l_s a_t l1 = some (r1, r2)) :
    Calls Tryd.prog 27 #[.agg #[.string a_0, .bool a_1, .slice A_2 l_2.length c_2, .slice A_3 l_3.length c_3, .slice A_4 l_4.length c_4, .slice A_5 l_5.length c_5, .slice A_6 l_6.length c_6, .int .i64 a_7, .int .i64 a_8, .slice A_9 l_9.length c_9, .int .i64 a_a, .slice A_b l_b.length c_b, .slice A_c l_c.length c_c, .bool a_d, .string a_e, .int .i64 a_f, .string a_g, .bool a_h, .int .i64 a_i, .int .i64 a_j, .slice A_k l_k.length c_k, .slice A_l l_l.length c_l, .slice A_m l_m.length c_m, .slice A_n l_n.length c_n, .slice A_o l_o.length c_o, .bool a_p, .slice A_q l_q.length c_q, .slice A_r l_r.length c_r, .slice A_s l_s.length c_s, .string a_t], .slice A1 l1.length c1] w fun e w' => ∃ v0_ : Value, e = .returned (.tuple #[v0_, .bool r2]) ∧ Kd.S k57 57 w' w.heap.size (fun _ => True) v0_ r1 ∧ Below w.heap.size w w' := by
  unfold orthography_segments.f at h
  by_cases hg : runesOk l_2 = true ∧ l1.all (fun t => decide (t.size ≤ 1099511627776)) = true
  · rw [if_pos hg] at h
    have hr := Option.some.inj h
    clear h
    have hu41 := Tryd.underlying41
    have hu57 := Tryd.underlying57
    obtain ⟨W0, hW0⟩ : ∃ W0, w.alloc (.cells #[.string a_0, .bool a_1, .slice A_2 l_2.length c_2, .slice A_3 l_3.length c_3, .slice A_4 l_4.length c_4, .slice A_5 l_5.length c_5, .slice A_6 l_6.length c_6, .int .i64 a_7, .int .i64 a_8, .slice A_9 l_9.length c_9, .int .i64 a_a, .slice A_b l_b.length c_b, .slice A_c l_c.length c_c, .bool a_d, .string a_e, .int .i64 a_f, .string a_g, .bool a_h, .int .i64 a_i, .int .i64 a_j, .slice A_k l_k.length c_k, .slice A_l l_l.length c_l, .slice A_m l_m.length c_m, .slice A_n l_n.length c_n, .slice A_o l_o.length c_o, .bool a_p, .slice A_q l_q.length c_q, .slice A_r l_r.length c_r, .slice A_s l_s.length c_s, .string a_t] 41) = W0 := ⟨_, rfl⟩
    have hB0 : Below w.heap.size w W0 := by rw [← hW0]; exact (Below.refl _ w).alloc (Nat.le_refl _) _
    have hsz0 : w.heap.size < W0.heap.size := by rw [← hW0]; simp
    have hblk : ∀ w1, Below W0.heap.size W0 w1 → w1.heap[w.heap.size]? = some (.cells #[.string a_0, .bool a_1, .slice A_2 l_2.length c_2, .slice A_3 l_3.length c_3, .slice A_4 l_4.length c_4, .slice A_5 l_5.length c_5, .slice A_6 l_6.length c_6, .int .i64 a_7, .int .i64 a_8, .slice A_9 l_9.length c_9, .int .i64 a_a, .slice A_b l_b.length c_b, .slice A_c l_c.length c_c, .bool a_d, .string a_e, .int .i64 a_f, .string a_g, .bool a_h, .int .i64 a_i, .int .i64 a_j, .slice A_k l_k.length c_k, .slice A_l l_l.length c_l, .slice A_m l_m.length c_m, .slice A_n l_n.length c_n, .slice A_o l_o.length c_o, .bool a_p, .slice A_q l_q.length c_q, .slice A_r l_r.length c_r, .slice A_s l_s.length c_s, .string a_t] 41 (0, 0)) := by
      intro w1 hB
      refine (hB.block _ hsz0).trans ?_
      rw [← hW0]; exact World.alloc_heap_new w _
    have hwo := fun (s : ByteArray) (hs : s.size ≤ 1099511627776) (w1 : World) (hB : Below W0.heap.size W0 w1) => word_calls a_0 a_1 A_2 c_2 l_2 A_3 c_3 l_3 A_4 c_4 l_4 A_5 c_5 l_5 A_6 c_6 l_6 a_7 a_8 A_9 c_9 l_9 a_a A_b c_b l_b A_c c_c l_c a_d a_e a_f a_g a_h a_i a_j A_k c_k l_k A_l c_l l_l A_m c_m l_m A_n c_n l_n A_o c_o l_o a_p A_q c_q l_q A_r c_r l_r A_s c_s l_s a_t s w1 (tabs_below hT (hB0.trans (hB.mono hB0.size))) (Kd.C_below hr_2 (hB0.trans (hB.mono hB0.size))) hc_2 (Kd.C_below hr_3 (hB0.trans (hB.mono hB0.size))) hc_3 (Kd.C_below hr_4 (hB0.trans (hB.mono hB0.size))) hc_4 (Kd.C_below hr_5 (hB0.trans (hB.mono hB0.size))) hc_5 (Kd.C_below hr_6 (hB0.trans (hB.mono hB0.size))) hc_6 (Kd.C_below hr_9 (hB0.trans (hB.mono hB0.size))) hc_9 (Kd.C_below hr_b (hB0.trans (hB.mono hB0.size))) hc_b (Kd.C_below hr_c (hB0.trans (hB.mono hB0.size))) hc_c (Kd.C_below hr_k (hB0.trans (hB.mono hB0.size))) hc_k (Kd.C_below hr_l (hB0.trans (hB.mono hB0.size))) hc_l (Kd.C_below hr_m (hB0.trans (hB.mono hB0.size))) hc_m (Kd.C_below hr_n (hB0.trans (hB.mono hB0.size))) hc_n (Kd.C_below hr_o (hB0.trans (hB.mono hB0.size))) hc_o (Kd.C_below hr_q (hB0.trans (hB.mono hB0.size))) hc_q (Kd.C_below hr_r (hB0.trans (hB.mono hB0.size))) hc_r (Kd.C_below hr_s (hB0.trans (hB.mono hB0.size))) hc_s hg.1 hs
    have hts : ∀ i : Nat, i < l1.length → (rdOf ByteArray.empty l1 (i : Int)).size ≤ 1099511627776 := by
      intro i hi
      have hm : rdOf ByteArray.empty l1 (i : Int) ∈ l1 := List.mem_of_mem_drop (i := i) (by rw [drop_str l1 i hi]; simp)
      simpa using List.all_eq_true.1 hg.2 _ hm
    have hwo' := Aside0.mk hwo
    have hblk' := Aside0.mk hblk
    have hB0' := Aside0.mk hB0
    have hts' := Aside0.mk hts
    have HR1 := Aside0.mk hr1
    have HC1 := Aside0.mk hc1
    have hsz0' := Aside0.mk hsz0
    have hcutc := fun (t : ByteArray) (w1 : World) => strings_CutPrefix.calls t ⟨#[61]⟩ (cutE t).1 (cutE t).2 w1 (cut_eq t)
    have hcutc' := Aside0.mk hcutc
    have HBc : Below W0.heap.size W0 W0 := Below.refl _ _
    clear hT hr_2 hr_3 hr_4 hr_5 hr_6 hr_9 hr_b hr_c hr_k hr_l hr_m hr_n hr_o hr_q hr_r hr_s hr1 hc1 hB0 hblk hwo hg hts hsz0 hcutc
    by_cases hn : 1 ≤ l1.length ∧ l1.length ≤ 40
    · have hrr : segF l_2 l1 [] = (r1, r2) := by rw [← hr]; unfold segP; rw [if_pos hn]
      have hrr' := Aside0.mk hrr
      obtain ⟨n, hne⟩ : ∃ n, l1.length = n := ⟨_, rfl⟩
      rw [hne] at hn ⊢
      have hn1 : ¬ ((n : Int) < 1) := by omega
      have hn2 : ¬ ((40 : Int) < (n : Int)) := by omega
      have hn' := Aside0.mk hn
      have hne' := Aside0.mk hne
      clear hrr hr hn hne
      go_enter Tryd.func27, Tryd.ntmps27
      go_wp2
      go_loopg [6, 8, 9, 10, 11, 22] n (fun kq v6 v8 v9 v10 v11 v22 w' => ∃ (i : Nat) (out : List S57), v22 = .int .i64 (i : Int) ∧ Aside0 (i + kq = n) ∧ Aside0 (segF l_2 (l1.drop i) out = (r1, r2)) ∧ Aside0 (out.length ≤ i) ∧ Aside0 (Kd.S k57 57 w' W0.heap.size (fun _ => True) v6 out) ∧ Aside0 (Below W0.heap.size W0 w'))
      case atStart => exact ⟨0, [], rfl, ⟨by omega⟩, ⟨by rw [List.drop_zero]; exact hrr'.out⟩, ⟨by simp⟩, ⟨Kd.S_nil _ _ _ _ _⟩, ⟨Below.refl _ _⟩⟩
      case round =>
        obtain ⟨i, out, rfl, hik, hF, hol, HO, HB⟩ := hrel
        obtain ⟨Ao, co, hv6⟩ := Kd.S_slice HO.out
        subst hv6
        cases gk with
        | zero =>
          have hcd : ¬ ((i : Int) < (n : Int)) := by have := hik.out; omega
          have hF2 := hF.out
          rw [List.drop_of_length_le (by have := hik.out; have := hne'.out; omega)] at hF2
          obtain ⟨e1, e2⟩ := Prod.mk.inj hF2
          subst e1 e2
          clear hF2
          go_wp2
          go_ret2
          exact ⟨_, rfl, Kd.S_lower HO.out (Nat.le_of_lt hsz0'.out), hB0'.out.trans (HB.out.mono hB0'.out.size)⟩
        | succ g1 =>
          have hcd : (i : Int) < (n : Int) := by have := hik.out; omega
          have hlt : i < l1.length := by have := hik.out; have := hne'.out; omega
          have hF2 := hF.out
          rw [drop_str l1 i hlt] at hF2
          have hsz := hts'.out i hlt
          obtain ⟨ad, hA, hx0⟩ := Kd.at_string HR1.out (i : Int) (by omega) (by omega)
          subst hA
          rw [Int.toNat_natCast] at hx0
          have hx := ((HB.out.cell (Nat.lt_of_lt_of_le (World.block_lt_of_cell? _ _ hx0) hB0'.out.size)).trans ((hB0'.out.cell (World.block_lt_of_cell? _ _ hx0)).trans hx0))
          clear hx0
          obtain ⟨T, hT⟩ : ∃ T, rdOf ByteArray.empty l1 (i : Int) = T := ⟨_, rfl⟩
          rw [hT] at hx hF2 hsz
          have hcc := hcutc'.out T
          obtain ⟨⟨C, is⟩, hC⟩ : ∃ c, cutE T = c := ⟨_, rfl⟩
          have hCs := cutE_size T
          rw [segF, hC] at hF2
          simp only [hC] at hcc hCs
          simp only at hF2
          have hfin := Aside0.mk (idx_next (i := i) (n := n) (by have := hne'.out; omega) (by have := hn'.out.2; omega))
          have HBc2 := HB.out
          have hbk := hblk'.out _ HBc2
          have hcs' := Aside0.mk hCs
          have hcs' := Aside0.mk hCs
          have hszT := Aside0.mk hsz
          clear hT hC hCs hsz hlt hF
          cases is with
          | false =>
            rw [if_pos rfl] at hF2
            cases hwe : wordP l_2 T with
            | false =>
              rw [hwe, if_neg (by decide)] at hF2
              obtain ⟨e1, e2⟩ := Prod.mk.inj hF2
              subst e1 e2
              clear hF2
              go_wp2_with (first | (go_at_call 43; refine (hcc _).mono ?_; rintro e w2 ⟨rfl, nd, rfl⟩; have HB2 := Aside0.mk (pw_below_drewN HB.out nd); have HO2 := Aside0.mk (Kd.S_drewN HO.out nd); have hbk2 := hblk'.out _ HB2.out) | ((with_reducible refine gate_load (t := 41) (p := 2) rfl ?_); (try (refine gate_guard (by rfl) ?_; dsimp only)); refine wpList_load_row rfl 41 (.tmp 2) rfl w.heap.size rfl 41 _ (0, 0) _ hbk2 Tryd.underlying41 rfl (by kernel_rfl) ?_) | (go_at_call 44; with_reducible refine (hwo'.out T Gc26 _ HB2.out).mono ?_; rw [hwe]; rintro e w3 ⟨rfl, hB3⟩; have HB3 := Aside0.mk (HB2.out.trans (hB3.mono HB2.out.size)); have HO3 := Aside0.mk (Kd.S_below HO2.out hB3)))
              go_ret2
              exact ⟨_, rfl, Kd.S_nil _ _ _ _ _, hB0'.out.trans (HB3.out.mono hB0'.out.size)⟩
            | true =>
              rw [hwe, if_pos rfl] at hF2
              have hF3 := Aside0.mk hF2
              clear hF2
              go_wp2_with (first | (go_at_call 43; refine (hcc _).mono ?_; rintro e w2 ⟨rfl, nd, rfl⟩; have HB2 := Aside0.mk (pw_below_drewN HB.out nd); have HO2 := Aside0.mk (Kd.S_drewN HO.out nd); have hbk2 := hblk'.out _ HB2.out) | ((with_reducible refine gate_load (t := 41) (p := 2) rfl ?_); (try (refine gate_guard (by rfl) ?_; dsimp only)); refine wpList_load_row rfl 41 (.tmp 2) rfl w.heap.size rfl 41 _ (0, 0) _ hbk2 Tryd.underlying41 rfl (by kernel_rfl) ?_) | (go_at_call 44; with_reducible refine (hwo'.out T Gc26 _ HB2.out).mono ?_; rw [hwe]; rintro e w3 ⟨rfl, hB3⟩; have HB3 := Aside0.mk (HB2.out.trans (hB3.mono HB2.out.size)); have HO3 := Aside0.mk (Kd.S_below HO2.out hB3)) | ((with_reducible refine gate_builtin (b := .append) (xs := #[.tmp 39, .tmp 42]) rfl ?_); at_builtin; refine Kd.S_append k57 (w0 := W0) W0.heap.size rfl (.tmp 39) (.tmp 42) 53 57 (.agg #[(.string ⟨#[]⟩), (.slice none 0 0)]) 40 rfl Tryd.underlying53 info57 rfl (by decide) (by omega) (.slice Ao out.length co) out (⟨T, ([] : List ByteArray)⟩ : S57) [.string T, .slice none 0 0] (fun _ => True) (fun _ => False) rfl rfl ?aP (fun k_ hk_ => hk_.elim) ?aF ?aO ?aB ?aS ?aL ?_; (case aP => exact k57_mkM _ _ _ (⟨T, ([] : List ByteArray)⟩ : S57) (Kd.R_nil _ _ _ _ _)); (case aB => exact HB3.out); (case aF => exact Gc22); (case aO => exact Kd.S_mono HO3.out (fun _ _ => ⟨trivial, fun h => h⟩)); (case aS => exact HB3.out.size); (case aL => have := hol.out; have := hn'.out.2; have := hik.out; omega); intro v5 w5 ho hb hg hat; have HO5 := Aside0.mk ho; have HB5 := Aside0.mk hb; clear ho hb hg hat))
              go_roundg g1
              case measure => omega
              case rel => exact ⟨i + 1, out ++ [⟨T, []⟩], by first | rw [hfin.out] | rfl, ⟨by have := hik.out; omega⟩, hF3, ⟨by have := hol.out; rw [List.length_append, List.length_singleton]; omega⟩, HO5, HB5⟩
          | true =>
            rw [if_neg (by decide)] at hF2
            cases hwe : wordP l_2 C with
            | false =>
              rw [hwe, if_neg (by simp)] at hF2
              obtain ⟨e1, e2⟩ := Prod.mk.inj hF2
              subst e1 e2
              clear hF2
              exact LSegx1
            | true =>
              by_cases hz : 0 < out.length
              · obtain ⟨g, cap, eo, hbg, hgl, cells9, hcells9⟩ := Kd.S_form HO.out hz
                obtain ⟨rfl, rfl⟩ : Ao = some ⟨g, 0, none⟩ ∧ co = cap := by injection eo with a1 a2 a3; exact ⟨a1, a3⟩
                obtain ⟨J, hJ⟩ : ∃ J, out.length - 1 = J := ⟨_, rfl⟩
                have hJl : J < out.length := by omega
                have hji := Aside0.mk (show wrap64 ((out.length : Int) - 1) = (J : Int) by rw [wrapIn _ ⟨by omega, by have := hol.out; have := hn'.out.2; have := hik.out; omega⟩]; omega)
                obtain ⟨ad5, A5, c5, e5, hx50, hx51, hl5, hi5⟩ := at_T57 (Kd.S_reads' HO.out).2.2 (J : Int) (by omega) (by omega)
                obtain rfl := Option.some.inj e5
                rw [Int.toNat_natCast] at hx51
                obtain ⟨LS, hLS⟩ : ∃ LS, rd_T57 out (J : Int) = LS := ⟨_, rfl⟩
                have hlast : lastF out = LS := by unfold lastF; rw [hJ]; exact hLS
                rw [hLS] at hx51
                replace hx51 : wr.cell? ⟨g, J * 2 + 1, none⟩ = some (.slice A5 LS.f1.length c5) := by rw [Addr.add_lit, Nat.zero_add] at hx51; exact hx51
                rw [hlast] at hF2
                have hz' : (0 : Int) < (out.length : Int) := by omega
                have hj0 : (0 : Int) ≤ (J : Int) := by omega
                have hj1 : (J : Int) < (out.length : Int) := by omega
                have hji2 := hji.out
                have hJ' := Aside0.mk hJ
                have hLS' := Aside0.mk hLS
                have hrd' := Aside0.mk (show out.getD (J : Int).toNat z57 = LS by rw [← hLS]; rfl)
                have hgl' := Aside0.mk hgl
                have hbg' := Aside0.mk hbg
                clear hx50 hl5 hi5 hlast hLS hcells9 hgl hbg hJ
                by_cases h2 : LS.f1.length < 2
                · have h2' : (LS.f1.length : Int) < 2 := by omega
                  rw [if_pos ⟨hwe, hz, h2⟩] at hF2
                  have hF3 := Aside0.mk hF2
                  have h2a := Aside0.mk h2
                  clear hF2 hz h2 hJl eo e5
                  go_wp2_with (first | (go_at_call 43; refine (hcc _).mono ?_; rintro e w2 ⟨rfl, nd, rfl⟩; have HB2 := Aside0.mk (pw_below_drewN HB.out nd); have HO2 := Aside0.mk (Kd.S_drewN HO.out nd); have hbk2 := hblk'.out _ HB2.out) | ((with_reducible refine gate_load (t := 41) (p := 2) rfl ?_); (try (refine gate_guard (by rfl) ?_; dsimp only)); refine wpList_load_row rfl 41 (.tmp 2) rfl w.heap.size rfl 41 _ (0, 0) _ hbk2 Tryd.underlying41 rfl (by kernel_rfl) ?_) | (go_at_call 44; with_reducible refine (hwo'.out C Gc26 _ HB2.out).mono ?_; rw [hwe]; rintro e w3 ⟨rfl, hB3⟩; have HB3 := Aside0.mk (HB2.out.trans (hB3.mono HB2.out.size)); have HO3 := Aside0.mk (Kd.S_below HO2.out hB3); have HW0 := pw_below_drewN (Below.refl wr.heap.size wr) nd; have HW3 : Below wr.heap.size wr w3 := HW0.trans (hB3.mono HW0.size); have hx53 := (HW3.cell (show (⟨g, J * 2 + 1, none⟩ : Addr).block < _ from hgl'.out)).trans hx51; obtain ⟨oki, ce, hcl, hM, hcc9, hfr9, hoki, hH⟩ := Kd.S_elem HO3.out z57 (J : Int) (Int.natCast_nonneg _) hj1; rw [hrd'.out] at hM; obtain ⟨ve, rfl, hge⟩ := k57_openM hM; have hv1 := hcc9 1 _ rfl; rw [Int.toNat_natCast, show k57.sz = 2 from rfl] at hv1; obtain rfl := Option.some.inj (hv1.symm.trans hx53); have UU := Aside0.mk (show Kd.R Kd.string 9 w3 W0.heap.size oki (.slice A5 LS.f1.length c5) LS.f1 from hge); have HH3 := Aside0.mk hH; clear hcl hM hcc9 hfr9 hoki hH hge hv1) | ((with_reducible refine gate_builtin (b := .append) (xs := #[.tmp 76, .tmp 78]) rfl ?_); at_builtin; refine Kd.R_append Kd.string (w0 := W0) W0.heap.size rfl (.tmp 76) (.tmp 78) 31 9 (.string ⟨#[]⟩) 16 rfl Tryd.underlying31 info9 rfl (by decide) (by omega) (.slice A5 LS.f1.length c5) LS.f1 C [.string C] (fun k_ => oki k_ ∨ True ∧ w3.heap.size ≤ k_) (fun _ => False) rfl rfl ?aP (fun _ hk => hk.elim) ?aF ?aO ?aB ?aS ?aL ?_; (case aP => exact rfl); (case aB => exact HB3.out); (case aF => exact (fun k_ hk => .inr ⟨trivial, hk⟩)); (case aO => exact Kd.R_mono UU.out (fun _ hk => .inl hk)); (case aS => exact HB3.out.size); (case aL => have := h2a.out; omega); intro v5 w5 ho hb hg hat; have HH5 := Kd.H_grown (Kd.H_widen HH3.out) hg (fun k_ e_ => .inl (UU.out.1 k_ e_)); obtain ⟨_, hfr6⟩ := Kd.H_at HH5 (Int.natCast_nonneg _) hj1; obtain ⟨_, _, hraw, _, _, hcc6, _⟩ := Kd.H_raw HH5 (Int.natCast_nonneg _) hj1; have hx6 := hcc6 1 _ rfl; have hf6 := hfr6 1; rw [Int.toNat_natCast, show k57.sz = 2 from rfl] at hx6 hf6; obtain ⟨A6, c6, e6⟩ := Kd.R_slice ho; subst e6; have HP := (Kd.S_seg0 HH5 (Int.natCast_nonneg _) hj1 (seg := [.slice A6 (LS.f1 ++ [C]).length c6]) (j := 1) (show 2 ≤ 2 from by decide) (x' := (⟨LS.f0, LS.f1 ++ [C]⟩ : S57)) (k57_mkM _ _ _ (⟨LS.f0, LS.f1 ++ [C]⟩ : S57) ho) (fun _ hk => hk)).1; rw [Int.toNat_natCast, show k57.sz = 2 from rfl] at HP; have HP' := Aside0.mk HP; have hb' := Aside0.mk hb; clear HP HH5 hraw hfr6 hcc6 ho hb hg hat))
                  go_roundg g1
                  case measure => omega
                  case rel => exact ⟨i + 1, out.set (out.length - 1) ⟨LS.f0, LS.f1 ++ [C]⟩, by first | rw [hfin.out] | rfl, ⟨by have := hik.out; omega⟩, hF3, ⟨by have := hol.out; rw [List.length_set]; omega⟩, ⟨by rw [hJ'.out]; have h9 := HP'.out; rw [List.length_append, List.length_singleton] at h9; exact h9⟩, ⟨hb'.out.setCell hbg'.out _⟩⟩
                · have h2' : ¬ (LS.f1.length : Int) < 2 := by omega
                  rw [if_neg (fun h => h2 h.2.2)] at hF2
                  obtain ⟨e1, e2⟩ := Prod.mk.inj hF2
                  subst e1 e2
                  clear hF2 hz h2 hJl eo e5
                  go_wp2_with (first | (go_at_call 43; refine (hcc _).mono ?_; rintro e w2 ⟨rfl, nd, rfl⟩; have HB2 := Aside0.mk (pw_below_drewN HB.out nd); have HO2 := Aside0.mk (Kd.S_drewN HO.out nd); have hbk2 := hblk'.out _ HB2.out) | ((with_reducible refine gate_load (t := 41) (p := 2) rfl ?_); (try (refine gate_guard (by rfl) ?_; dsimp only)); refine wpList_load_row rfl 41 (.tmp 2) rfl w.heap.size rfl 41 _ (0, 0) _ hbk2 Tryd.underlying41 rfl (by kernel_rfl) ?_) | (go_at_call 44; with_reducible refine (hwo'.out C Gc26 _ HB2.out).mono ?_; rw [hwe]; rintro e w3 ⟨rfl, hB3⟩; have HB3 := Aside0.mk (HB2.out.trans (hB3.mono HB2.out.size)); have HO3 := Aside0.mk (Kd.S_below HO2.out hB3); have HW0 := pw_below_drewN (Below.refl wr.heap.size wr) nd; have HW3 : Below wr.heap.size wr w3 := HW0.trans (hB3.mono HW0.size); have hx53 := (HW3.cell (show (⟨g, J * 2 + 1, none⟩ : Addr).block < _ from hgl'.out)).trans hx51))
                  go_ret2
                  exact ⟨_, rfl, Kd.S_nil _ _ _ _ _, hB0'.out.trans (HB3.out.mono hB0'.out.size)⟩
              · have hz' : ¬ (0 : Int) < (out.length : Int) := by omega
                rw [if_neg (fun h => hz h.2.1)] at hF2
                obtain ⟨e1, e2⟩ := Prod.mk.inj hF2
                subst e1 e2
                clear hF2 hz
                exact LSegx1
    · obtain ⟨e1, e2⟩ : r1 = [] ∧ r2 = false := by
        unfold segP at hr
        rw [if_neg hn] at hr
        exact ⟨(Prod.mk.inj hr).1.symm, (Prod.mk.inj hr).2.symm⟩
      subst e1 e2
      obtain ⟨n, hne⟩ : ∃ n, l1.length = n := ⟨_, rfl⟩
      rw [hne] at hn ⊢
      by_cases hn1 : n < 1
      · have hn1' : (n : Int) < 1 := by omega
        clear hn1 hn hne hr
        go_enter Tryd.func27, Tryd.ntmps27
        go_wp2
        go_ret2
        exact ⟨_, rfl, Kd.S_nil _ _ _ _ _, hB0'.out⟩
      · have hn1' : ¬ (n : Int) < 1 := by omega
        have hn2' : (40 : Int) < (n : Int) := by omega
        clear hn1 hn hne hr
        go_enter Tryd.func27, Tryd.ntmps27
        go_wp2
        go_ret2
        exact ⟨_, rfl, Kd.S_nil _ _ _ _ _, hB0'.out⟩
  · rw [if_neg hg] at h; cases h
end Go.Proofs.YtfbhdjflkaldgaaDoor.Pr
