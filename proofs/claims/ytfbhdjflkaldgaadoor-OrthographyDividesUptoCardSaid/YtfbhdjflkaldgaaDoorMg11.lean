/- Several texts in one: Seg, Rdf, NewR, Rdr. -/
import Derived.Test.YtfbhdjflkaldgaaDoorMg3
import Derived.Test.YtfbhdjflkaldgaaDoorRewS
import Derived.Recover
import Derived.WalkLawsBesides
import Derived.Test.YtfbhdjflkaldgaaDoorMg2
/- orthography.segments. -/
/- The reader's deferred closure. -/
/- orthography.newReader. -/
/- A reader of runes against splitting at blanks: no program in sight. -/
namespace Go.Proofs.YtfbhdjflkaldgaaDoor.Pr
open Go.Proofs.YtfbhdjflkaldgaaDoor.Ct Go.RowKit Go.Maps Go.Lib Go.Proofs.YtfbhdjflkaldgaaDoorW.PrintWords Go.Proofs.YtfbhdjflkaldgaaDoorW.PrintLast Go.Proofs.YtfbhdjflkaldgaaDoorW.PrintMore
set_option linter.unusedVariables false
set_option linter.unusedSimpArgs false
def cutE (t : ByteArray) : ByteArray × Bool := if 1 ≤ t.size ∧ ((t.extract 0 1).toList == [61]) = true then (t.extract 1 t.size, true) else (t, false)
theorem cut_eq (t : ByteArray) : strings_CutPrefix.f t ⟨#[61]⟩ = some (cutE t) := by
  unfold strings_CutPrefix.f stringslite_CutPrefix.f stringslite_HasPrefix.f cutE
  have h1 : ((⟨#[61]⟩ : ByteArray).size : Int) = 1 := rfl
  have h2 : (⟨#[61]⟩ : ByteArray).toList = [61] := by rw [ByteArray.toList_eq]
  rw [h1, h2]
  by_cases c : 1 ≤ t.size
  · rw [if_pos (show (t.size : Int) ≥ 1 by omega), if_pos (show (0 : Int) ≤ 1 by decide), if_pos (show (1 : Int) ≤ (t.size : Int) by omega)]
    rw [show (1 : Int).toNat = 1 from rfl]
    cases e : ((t.extract 0 1).toList == [61]) with
    | false => rw [if_neg (show ¬ (1 ≤ t.size ∧ false = true) by simp)]; rfl
    | true => rw [if_pos (show 1 ≤ t.size ∧ true = true from ⟨c, rfl⟩), Option.bind_some, if_pos rfl, if_pos (show (0 : Int) ≤ 1 by decide), if_pos (show (1 : Int) ≤ (t.size : Int) by omega)]; rfl
  · rw [if_neg (show ¬ (t.size : Int) ≥ 1 by omega), if_neg (show ¬ (1 ≤ t.size ∧ _) from fun h => c h.1)]; rfl
theorem cutE_size (t : ByteArray) : (cutE t).1.size ≤ t.size := by
  unfold cutE
  split
  · rw [ByteArray.size_extract]; omega
  · exact Nat.le_refl _
def wordP (l : List S80) (s : ByteArray) : Bool := decide (0 < s.size) && isWordP l s
def lastF (out : List S57) : S57 := rd_T57 out ((out.length - 1 : Nat) : Int)
def segF (l : List S80) : List ByteArray → List S57 → List S57 × Bool
  | [], out => (out, true)
  | t :: ts, out => if (cutE t).2 = false then (if wordP l t = true then segF l ts (out ++ [(⟨t, []⟩ : S57)]) else ([], false)) else if wordP l (cutE t).1 = true ∧ 0 < out.length ∧ (lastF out).f1.length < 2 then segF l ts (out.set (out.length - 1) ⟨(lastF out).f0, (lastF out).f1 ++ [(cutE t).1]⟩) else ([], false)
def segP (l : List S80) (ts : List ByteArray) : List S57 × Bool := if 1 ≤ ts.length ∧ ts.length ≤ 40 then segF l ts [] else ([], false)
def orthography_segments.f (a_0 : ByteArray) (a_1 : Bool) (l_2 : List (S80)) (l_3 : List (S85)) (l_4 : List (S180)) (l_5 : List (S183)) (l_6 : List (List Int)) (a_7 : Int) (a_8 : Int) (l_9 : List (S85)) (a_a : Int) (l_b : List ByteArray) (l_c : List ByteArray) (a_d : Bool) (a_e : ByteArray) (a_f : Int) (a_g : ByteArray) (a_h : Bool) (a_i : Int) (a_j : Int) (l_k : List (S186)) (l_l : List (S186)) (l_m : List ByteArray) (l_n : List ByteArray) (l_o : List ByteArray) (a_p : Bool) (l_q : List (S188)) (l_r : List (S190)) (l_s : List (S194)) (a_t : ByteArray) (l1 : List ByteArray) : Option (List S57 × Bool) := if runesOk l_2 = true ∧ l1.all (fun t => decide (t.size ≤ 1099511627776)) = true then some (segP l_2 l1) else none
theorem word_calls (a_0 : ByteArray) (a_1 : Bool) (A_2 : Option Addr) (c_2 : Nat) (l_2 : List (S80)) (A_3 : Option Addr) (c_3 : Nat) (l_3 : List (S85)) (A_4 : Option Addr) (c_4 : Nat) (l_4 : List (S180)) (A_5 : Option Addr) (c_5 : Nat) (l_5 : List (S183)) (A_6 : Option Addr) (c_6 : Nat) (l_6 : List (List Int)) (a_7 : Int) (a_8 : Int) (A_9 : Option Addr) (c_9 : Nat) (l_9 : List (S85)) (a_a : Int) (A_b : Option Addr) (c_b : Nat) (l_b : List ByteArray) (A_c : Option Addr) (c_c : Nat) (l_c : List ByteArray) (a_d : Bool) (a_e : ByteArray) (a_f : Int) (a_g : ByteArray) (a_h : Bool) (a_i : Int) (a_j : Int) (A_k : Option Addr) (c_k : Nat) (l_k : List (S186)) (A_l : Option Addr) (c_l : Nat) (l_l : List (S186)) (A_m : Option Addr) (c_m : Nat) (l_m : List ByteArray) (A_n : Option Addr) (c_n : Nat) (l_n : List ByteArray) (A_o : Option Addr) (c_o : Nat) (l_o : List ByteArray) (a_p : Bool) (A_q : Option Addr) (c_q : Nat) (l_q : List (S188)) (A_r : Option Addr) (c_r : Nat) (l_r : List (S190)) (A_s : Option Addr) (c_s : Nat) (l_s : List (S194)) (a_t : ByteArray) (s : ByteArray) (w : World) (hT : Tabs w) (hr_2 : Kd.C k80 w A_2 l_2.length l_2) (hc_2 : l_2.length ≤ c_2) (hr_3 : Kd.C k85 w A_3 l_3.length l_3) (hc_3 : l_3.length ≤ c_3) (hr_4 : Kd.C k180 w A_4 l_4.length l_4) (hc_4 : l_4.length ≤ c_4) (hr_5 : Kd.C k183 w A_5 l_5.length l_5) (hc_5 : l_5.length ≤ c_5) (hr_6 : Kd.C (Kd.slice 78 (Kd.int .u32)) w A_6 l_6.length l_6) (hc_6 : l_6.length ≤ c_6) (hr_9 : Kd.C k85 w A_9 l_9.length l_9) (hc_9 : l_9.length ≤ c_9) (hr_b : Kd.C Kd.string w A_b l_b.length l_b) (hc_b : l_b.length ≤ c_b) (hr_c : Kd.C Kd.string w A_c l_c.length l_c) (hc_c : l_c.length ≤ c_c) (hr_k : Kd.C k186 w A_k l_k.length l_k) (hc_k : l_k.length ≤ c_k) (hr_l : Kd.C k186 w A_l l_l.length l_l) (hc_l : l_l.length ≤ c_l) (hr_m : Kd.C Kd.string w A_m l_m.length l_m) (hc_m : l_m.length ≤ c_m) (hr_n : Kd.C Kd.string w A_n l_n.length l_n) (hc_n : l_n.length ≤ c_n) (hr_o : Kd.C Kd.string w A_o l_o.length l_o) (hc_o : l_o.length ≤ c_o) (hr_q : Kd.C k188 w A_q l_q.length l_q) (hc_q : l_q.length ≤ c_q) (hr_r : Kd.C k190 w A_r l_r.length l_r) (hc_r : l_r.length ≤ c_r) (hr_s : Kd.C k194 w A_s l_s.length l_s) (hc_s : l_s.length ≤ c_s) (h1 : runesOk l_2 = true) (h2 : s.size ≤ 1099511627776) :
    Calls Tryd.prog 44 #[.agg #[.string a_0, .bool a_1, .slice A_2 l_2.length c_2, .slice A_3 l_3.length c_3, .slice A_4 l_4.length c_4, .slice A_5 l_5.length c_5, .slice A_6 l_6.length c_6, .int .i64 a_7, .int .i64 a_8, .slice A_9 l_9.length c_9, .int .i64 a_a, .slice A_b l_b.length c_b, .slice A_c l_c.length c_c, .bool a_d, .string a_e, .int .i64 a_f, .string a_g, .bool a_h, .int .i64 a_i, .int .i64 a_j, .slice A_k l_k.length c_k, .slice A_l l_l.length c_l, .slice A_m l_m.length c_m, .slice A_n l_n.length c_n, .slice A_o l_o.length c_o, .bool a_p, .slice A_q l_q.length c_q, .slice A_r l_r.length c_r, .slice A_s l_s.length c_s, .string a_t], .string s] w fun e w' => e = .returned (.bool (wordP l_2 s)) ∧ Below w.heap.size w w' := by
  refine orthography_word.calls a_0 a_1 A_2 c_2 l_2 A_3 c_3 l_3 A_4 c_4 l_4 A_5 c_5 l_5 A_6 c_6 l_6 a_7 a_8 A_9 c_9 l_9 a_a A_b c_b l_b A_c c_c l_c a_d a_e a_f a_g a_h a_i a_j A_k c_k l_k A_l c_l l_l A_m c_m l_m A_n c_n l_n A_o c_o l_o a_p A_q c_q l_q A_r c_r l_r A_s c_s l_s a_t s _ w hT hr_2 hc_2 hr_3 hc_3 hr_4 hc_4 hr_5 hc_5 hr_6 hc_6 hr_9 hc_9 hr_b hc_b hr_c hc_c hr_k hc_k hr_l hc_l hr_m hc_m hr_n hc_n hr_o hc_o hr_q hc_q hr_r hc_r hr_s hc_s ?_
  unfold orthography_word.f wordP
  by_cases c : 0 < s.size
  · rw [if_neg, decide_eq_true c, Bool.true_and]
    · unfold alphabet_IsWord.f; rw [if_pos ⟨h1, by omega⟩]; rfl
    · intro e
      have := congrArg List.length e
      rw [ByteArray.toList_eq, sizeL, List.length_nil] at this
      omega
  · rw [if_pos, decide_eq_false c, Bool.false_and]
    rw [ByteArray.toList_eq]
    exact List.eq_nil_of_length_eq_zero (by rw [sizeL]; omega)
theorem drop_str (l : List ByteArray) (i : Nat) (h : i < l.length) : l.drop i = rdOf ByteArray.empty l (i : Int) :: l.drop (i + 1) := by
  unfold rdOf
  rw [List.drop_eq_getElem_cons h, Int.toNat_natCast, List.getD_eq_getElem?_getD, List.getElem?_eq_getElem h]; rfl
theorem LSegx1 {p : Prop} (h : p := by
  go_wp2_with (first | (go_at_call 43; refine (hcc _).mono ?_; rintro e z1_ ⟨rfl, nd, rfl⟩; have z2_ := Aside0.mk (pw_below_drewN HB.out nd); have z3_ := Aside0.mk (Kd.S_drewN HO.out nd); have z4_ := hblk'.out _ z2_.out) | ((with_reducible refine gate_load (t := 41) (p := 2) rfl ?_); (try (refine gate_guard (by rfl) ?_; dsimp only)); refine wpList_load_row rfl 41 (.tmp 2) rfl w.heap.size rfl 41 _ (0, 0) _ z4_ Tryd.underlying41 rfl (by kernel_rfl) ?_) | (go_at_call 44; with_reducible refine (hwo'.out C Gc23 _ z2_.out).mono ?_; rw [hwe]; rintro e z5_ ⟨rfl, z6_⟩; have z7_ := Aside0.mk (z2_.out.trans (z6_.mono z2_.out.size)); have z8_ := Aside0.mk (Kd.S_below z3_.out z6_)))
  go_ret2
  exact ⟨_, rfl, Kd.S_nil _ _ _ _ _, hB0'.out.trans (z7_.out.mono hB0'.out.size)⟩) : p := h
set_option maxRecDepth 100000 in
set_option maxHeartbeats 4000000 in
theorem orthography_segments.calls (a_0 : ByteArray) (a_1 : Bool) (A_2 : Option Addr) (c_2 : Nat) (l_2 : List (S80)) (A_3 : Option Addr) (c_3 : Nat) (l_3 : List (S85)) (A_4 : Option Addr) (c_4 : Nat) (l_4 : List (S180)) (A_5 : Option Addr) (c_5 : Nat) (l_5 : List (S183)) (A_6 : Option Addr) (c_6 : Nat) (l_6 : List (List Int)) (a_7 : Int) (a_8 : Int) (A_9 : Option Addr) (c_9 : Nat) (l_9 : List (S85)) (a_a : Int) (A_b : Option Addr) (c_b : Nat) (l_b : List ByteArray) (A_c : Option Addr) (c_c : Nat) (l_c : List ByteArray) (a_d : Bool) (a_e : ByteArray) (a_f : Int) (a_g : ByteArray) (a_h : Bool) (a_i : Int) (a_j : Int) (A_k : Option Addr) (c_k : Nat) (l_k : List (S186)) (A_l : Option Addr) (c_l : Nat) (l_l : List (S186)) (A_m : Option Addr) (c_m : Nat) (l_m : List ByteArray) (A_n : Option Addr) (c_n : Nat) (l_n : List ByteArray) (A_o : Option Addr) (c_o : Nat) (l_o : List ByteArray) (a_p : Bool) (A_q : Option Addr) (c_q : Nat) (l_q : List (S188)) (A_r : Option Addr) (c_r : Nat) (l_r : List (S190)) (A_s : Option Addr) (c_s : Nat) (l_s : List (S194)) (a_t : ByteArray) (A1 : Option Addr) (c1 : Nat) (l1 : List ByteArray) (r1 : List S57) (r2 : Bool) (w : World) (hT : Tabs w) (hr_2 : Kd.C k80 w A_2 l_2.length l_2) (hc_2 : l_2.length ≤ c_2) (hr_3 : Kd.C k85 w A_3 l_3.length l_3) (hc_3 : l_3.length ≤ c_3) (hr_4 : Kd.C k180 w A_4 l_4.length l_4) (hc_4 : l_4.length ≤ c_4) (hr_5 : Kd.C k183 w A_5 l_5.length l_5) (hc_5 : l_5.length ≤ c_5) (hr_6 : Kd.C (Kd.slice 78 (Kd.int .u32)) w A_6 l_6.length l_6) (hc_6 : l_6.length ≤ c_6) (hr_9 : Kd.C k85 w A_9 l_9.length l_9) (hc_9 : l_9.length ≤ c_9) (hr_b : Kd.C Kd.string w A_b l_b.length l_b) (hc_b : l_b.length ≤ c_b) (hr_c : Kd.C Kd.string w A_c l_c.length l_c) (hc_c : l_c.length ≤ c_c) (hr_k : Kd.C k186 w A_k l_k.length l_k) (hc_k : l_k.length ≤ c_k) (hr_l : Kd.C k186 w A_l l_l.length l_l) (hc_l : l_l.length ≤ c_l) (hr_m : Kd.C Kd.string w A_m l_m.length l_m) (hc_m : l_m.length ≤ c_m) (hr_n : Kd.C Kd.string w A_n l_n.length l_n) (hc_n : l_n.length ≤ c_n) (hr_o : Kd.C Kd.string w A_o l_o.length l_o) (hc_o : l_o.length ≤ c_o) (hr_q : Kd.C k188 w A_q l_q.length l_q) (hc_q : l_q.length ≤ c_q) (hr_r : Kd.C k190 w A_r l_r.length l_r) (hc_r : l_r.length ≤ c_r) (hr_s : Kd.C k194 w A_s l_s.length l_s) (hc_s : l_s.length ≤ c_s) (hr1 : Kd.C Kd.string w A1 l1.length l1) (hc1 : l1.length ≤ c1) (h : orthography_segments.f a_0 a_1 l_2 l_3 l_4 l_5 l_6 a_7 a_8 l_9 a_a l_b l_c a_d a_e a_f a_g a_h a_i a_j l_k l_l l_m l_n l_o a_p l_q l_r l_s a_t l1 = some (r1, r2)) :
    Calls Tryd.prog 27 #[.agg #[.string a_0, .bool a_1, .slice A_2 l_2.length c_2, .slice A_3 l_3.length c_3, .slice A_4 l_4.length c_4, .slice A_5 l_5.length c_5, .slice A_6 l_6.length c_6, .int .i64 a_7, .int .i64 a_8, .slice A_9 l_9.length c_9, .int .i64 a_a, .slice A_b l_b.length c_b, .slice A_c l_c.length c_c, .bool a_d, .string a_e, .int .i64 a_f, .string a_g, .bool a_h, .int .i64 a_i, .int .i64 a_j, .slice A_k l_k.length c_k, .slice A_l l_l.length c_l, .slice A_m l_m.length c_m, .slice A_n l_n.length c_n, .slice A_o l_o.length c_o, .bool a_p, .slice A_q l_q.length c_q, .slice A_r l_r.length c_r, .slice A_s l_s.length c_s, .string a_t], .slice A1 l1.length c1] w fun e w' => ∃ v0_ : Value, e = .returned (.tuple #[v0_, .bool r2]) ∧ Kd.S k57 57 w' w.heap.size (fun _ => True) v0_ r1 ∧ Below w.heap.size w w' := by
  unfold orthography_segments.f at h
  by_cases hg : runesOk l_2 = true ∧ l1.all (fun t => decide (t.size ≤ 1099511627776)) = true
  · rw [if_pos hg] at h
    have hr := Option.some.inj h
    clear h
    have hu41 := Tryd.underlying41
    have hu57 := Tryd.underlying57
    obtain ⟨W0, hW0⟩ : ∃ W0, w.alloc (.cells #[.string a_0, .bool a_1, .slice A_2 l_2.length c_2, .slice A_3 l_3.length c_3, .slice A_4 l_4.length c_4, .slice A_5 l_5.length c_5, .slice A_6 l_6.length c_6, .int .i64 a_7, .int .i64 a_8, .slice A_9 l_9.length c_9, .int .i64 a_a, .slice A_b l_b.length c_b, .slice A_c l_c.length c_c, .bool a_d, .string a_e, .int .i64 a_f, .string a_g, .bool a_h, .int .i64 a_i, .int .i64 a_j, .slice A_k l_k.length c_k, .slice A_l l_l.length c_l, .slice A_m l_m.length c_m, .slice A_n l_n.length c_n, .slice A_o l_o.length c_o, .bool a_p, .slice A_q l_q.length c_q, .slice A_r l_r.length c_r, .slice A_s l_s.length c_s, .string a_t] 41) = W0 := ⟨_, rfl⟩
    have hB0 : Below w.heap.size w W0 := by rw [← hW0]; exact (Below.refl _ w).alloc (Nat.le_refl _) _
    have hsz0 : w.heap.size < W0.heap.size := by rw [← hW0]; simp
    have hblk : ∀ w1, Below W0.heap.size W0 w1 → w1.heap[w.heap.size]? = some (.cells #[.string a_0, .bool a_1, .slice A_2 l_2.length c_2, .slice A_3 l_3.length c_3, .slice A_4 l_4.length c_4, .slice A_5 l_5.length c_5, .slice A_6 l_6.length c_6, .int .i64 a_7, .int .i64 a_8, .slice A_9 l_9.length c_9, .int .i64 a_a, .slice A_b l_b.length c_b, .slice A_c l_c.length c_c, .bool a_d, .string a_e, .int .i64 a_f, .string a_g, .bool a_h, .int .i64 a_i, .int .i64 a_j, .slice A_k l_k.length c_k, .slice A_l l_l.length c_l, .slice A_m l_m.length c_m, .slice A_n l_n.length c_n, .slice A_o l_o.length c_o, .bool a_p, .slice A_q l_q.length c_q, .slice A_r l_r.length c_r, .slice A_s l_s.length c_s, .string a_t] 41 (0, 0)) := by
      intro w1 hB
      refine (hB.block _ hsz0).trans ?_
      rw [← hW0]; exact World.alloc_heap_new w _
    have hwo := fun (s : ByteArray) (hs : s.size ≤ 1099511627776) (w1 : World) (hB : Below W0.heap.size W0 w1) => word_calls a_0 a_1 A_2 c_2 l_2 A_3 c_3 l_3 A_4 c_4 l_4 A_5 c_5 l_5 A_6 c_6 l_6 a_7 a_8 A_9 c_9 l_9 a_a A_b c_b l_b A_c c_c l_c a_d a_e a_f a_g a_h a_i a_j A_k c_k l_k A_l c_l l_l A_m c_m l_m A_n c_n l_n A_o c_o l_o a_p A_q c_q l_q A_r c_r l_r A_s c_s l_s a_t s w1 (tabs_below hT (hB0.trans (hB.mono hB0.size))) (Kd.C_below hr_2 (hB0.trans (hB.mono hB0.size))) hc_2 (Kd.C_below hr_3 (hB0.trans (hB.mono hB0.size))) hc_3 (Kd.C_below hr_4 (hB0.trans (hB.mono hB0.size))) hc_4 (Kd.C_below hr_5 (hB0.trans (hB.mono hB0.size))) hc_5 (Kd.C_below hr_6 (hB0.trans (hB.mono hB0.size))) hc_6 (Kd.C_below hr_9 (hB0.trans (hB.mono hB0.size))) hc_9 (Kd.C_below hr_b (hB0.trans (hB.mono hB0.size))) hc_b (Kd.C_below hr_c (hB0.trans (hB.mono hB0.size))) hc_c (Kd.C_below hr_k (hB0.trans (hB.mono hB0.size))) hc_k (Kd.C_below hr_l (hB0.trans (hB.mono hB0.size))) hc_l (Kd.C_below hr_m (hB0.trans (hB.mono hB0.size))) hc_m (Kd.C_below hr_n (hB0.trans (hB.mono hB0.size))) hc_n (Kd.C_below hr_o (hB0.trans (hB.mono hB0.size))) hc_o (Kd.C_below hr_q (hB0.trans (hB.mono hB0.size))) hc_q (Kd.C_below hr_r (hB0.trans (hB.mono hB0.size))) hc_r (Kd.C_below hr_s (hB0.trans (hB.mono hB0.size))) hc_s hg.1 hs
    have hts : ∀ i : Nat, i < l1.length → (rdOf ByteArray.empty l1 (i : Int)).size ≤ 1099511627776 := by
      intro i hi
      have hm : rdOf ByteArray.empty l1 (i : Int) ∈ l1 := List.mem_of_mem_drop (i := i) (by rw [drop_str l1 i hi]; simp)
      simpa using List.all_eq_true.1 hg.2 _ hm
    have hwo' := Aside0.mk hwo
    have hblk' := Aside0.mk hblk
    have hB0' := Aside0.mk hB0
    have hts' := Aside0.mk hts
    have HR1 := Aside0.mk hr1
    have HC1 := Aside0.mk hc1
    have hsz0' := Aside0.mk hsz0
    have hcutc := fun (t : ByteArray) (w1 : World) => strings_CutPrefix.calls t ⟨#[61]⟩ (cutE t).1 (cutE t).2 w1 (cut_eq t)
    have hcutc' := Aside0.mk hcutc
    have HBc : Below W0.heap.size W0 W0 := Below.refl _ _
    clear hT hr_2 hr_3 hr_4 hr_5 hr_6 hr_9 hr_b hr_c hr_k hr_l hr_m hr_n hr_o hr_q hr_r hr_s hr1 hc1 hB0 hblk hwo hg hts hsz0 hcutc
    by_cases hn : 1 ≤ l1.length ∧ l1.length ≤ 40
    · have hrr : segF l_2 l1 [] = (r1, r2) := by rw [← hr]; unfold segP; rw [if_pos hn]
      have hrr' := Aside0.mk hrr
      obtain ⟨n, hne⟩ : ∃ n, l1.length = n := ⟨_, rfl⟩
      rw [hne] at hn ⊢
      have hn1 : ¬ ((n : Int) < 1) := by omega
      have hn2 : ¬ ((40 : Int) < (n : Int)) := by omega
      have hn' := Aside0.mk hn
      have hne' := Aside0.mk hne
      clear hrr hr hn hne
      go_enter Tryd.func27, Tryd.ntmps27
      go_wp2
      go_loopg [6, 8, 9, 10, 11, 22] n (fun kq v6 v8 v9 v10 v11 v22 w' => ∃ (i : Nat) (out : List S57), v22 = .int .i64 (i : Int) ∧ Aside0 (i + kq = n) ∧ Aside0 (segF l_2 (l1.drop i) out = (r1, r2)) ∧ Aside0 (out.length ≤ i) ∧ Aside0 (Kd.S k57 57 w' W0.heap.size (fun _ => True) v6 out) ∧ Aside0 (Below W0.heap.size W0 w'))
      case atStart => exact ⟨0, [], rfl, ⟨by omega⟩, ⟨by rw [List.drop_zero]; exact hrr'.out⟩, ⟨by simp⟩, ⟨Kd.S_nil _ _ _ _ _⟩, ⟨Below.refl _ _⟩⟩
      case round =>
        obtain ⟨i, out, rfl, hik, hF, hol, HO, HB⟩ := hrel
        obtain ⟨Ao, co, hv6⟩ := Kd.S_slice HO.out
        subst hv6
        cases gk with
        | zero =>
          have hcd : ¬ ((i : Int) < (n : Int)) := by have := hik.out; omega
          have hF2 := hF.out
          rw [List.drop_of_length_le (by have := hik.out; have := hne'.out; omega)] at hF2
          obtain ⟨e1, e2⟩ := Prod.mk.inj hF2
          subst e1 e2
          clear hF2
          go_wp2
          go_ret2
          exact ⟨_, rfl, Kd.S_lower HO.out (Nat.le_of_lt hsz0'.out), hB0'.out.trans (HB.out.mono hB0'.out.size)⟩
        | succ g1 =>
          have hcd : (i : Int) < (n : Int) := by have := hik.out; omega
          have hlt : i < l1.length := by have := hik.out; have := hne'.out; omega
          have hF2 := hF.out
          rw [drop_str l1 i hlt] at hF2
          have hsz := hts'.out i hlt
          obtain ⟨ad, hA, hx0⟩ := Kd.at_string HR1.out (i : Int) (by omega) (by omega)
          subst hA
          rw [Int.toNat_natCast] at hx0
          have hx := ((HB.out.cell (Nat.lt_of_lt_of_le (World.block_lt_of_cell? _ _ hx0) hB0'.out.size)).trans ((hB0'.out.cell (World.block_lt_of_cell? _ _ hx0)).trans hx0))
          clear hx0
          obtain ⟨T, hT⟩ : ∃ T, rdOf ByteArray.empty l1 (i : Int) = T := ⟨_, rfl⟩
          rw [hT] at hx hF2 hsz
          have hcc := hcutc'.out T
          obtain ⟨⟨C, is⟩, hC⟩ : ∃ c, cutE T = c := ⟨_, rfl⟩
          have hCs := cutE_size T
          rw [segF, hC] at hF2
          simp only [hC] at hcc hCs
          simp only at hF2
          have hfin := Aside0.mk (idx_next (i := i) (n := n) (by have := hne'.out; omega) (by have := hn'.out.2; omega))
          have HBc2 := HB.out
          have hbk := hblk'.out _ HBc2
          have hcs' := Aside0.mk hCs
          have hcs' := Aside0.mk hCs
          have hszT := Aside0.mk hsz
          clear hT hC hCs hsz hlt hF
          cases is with
          | false =>
            rw [if_pos rfl] at hF2
            cases hwe : wordP l_2 T with
            | false =>
              rw [hwe, if_neg (by decide)] at hF2
              obtain ⟨e1, e2⟩ := Prod.mk.inj hF2
              subst e1 e2
              clear hF2
              go_wp2_with (first | (go_at_call 43; refine (hcc _).mono ?_; rintro e w2 ⟨rfl, nd, rfl⟩; have HB2 := Aside0.mk (pw_below_drewN HB.out nd); have HO2 := Aside0.mk (Kd.S_drewN HO.out nd); have hbk2 := hblk'.out _ HB2.out) | ((with_reducible refine gate_load (t := 41) (p := 2) rfl ?_); (try (refine gate_guard (by rfl) ?_; dsimp only)); refine wpList_load_row rfl 41 (.tmp 2) rfl w.heap.size rfl 41 _ (0, 0) _ hbk2 Tryd.underlying41 rfl (by kernel_rfl) ?_) | (go_at_call 44; with_reducible refine (hwo'.out T Gc23 _ HB2.out).mono ?_; rw [hwe]; rintro e w3 ⟨rfl, hB3⟩; have HB3 := Aside0.mk (HB2.out.trans (hB3.mono HB2.out.size)); have HO3 := Aside0.mk (Kd.S_below HO2.out hB3)))
              go_ret2
              exact ⟨_, rfl, Kd.S_nil _ _ _ _ _, hB0'.out.trans (HB3.out.mono hB0'.out.size)⟩
            | true =>
              rw [hwe, if_pos rfl] at hF2
              have hF3 := Aside0.mk hF2
              clear hF2
              go_wp2_with (first | (go_at_call 43; refine (hcc _).mono ?_; rintro e w2 ⟨rfl, nd, rfl⟩; have HB2 := Aside0.mk (pw_below_drewN HB.out nd); have HO2 := Aside0.mk (Kd.S_drewN HO.out nd); have hbk2 := hblk'.out _ HB2.out) | ((with_reducible refine gate_load (t := 41) (p := 2) rfl ?_); (try (refine gate_guard (by rfl) ?_; dsimp only)); refine wpList_load_row rfl 41 (.tmp 2) rfl w.heap.size rfl 41 _ (0, 0) _ hbk2 Tryd.underlying41 rfl (by kernel_rfl) ?_) | (go_at_call 44; with_reducible refine (hwo'.out T Gc23 _ HB2.out).mono ?_; rw [hwe]; rintro e w3 ⟨rfl, hB3⟩; have HB3 := Aside0.mk (HB2.out.trans (hB3.mono HB2.out.size)); have HO3 := Aside0.mk (Kd.S_below HO2.out hB3)) | ((with_reducible refine gate_builtin (b := .append) (xs := #[.tmp 39, .tmp 42]) rfl ?_); at_builtin; refine Kd.S_append k57 (w0 := W0) W0.heap.size rfl (.tmp 39) (.tmp 42) 53 57 (.agg #[(.string ⟨#[]⟩), (.slice none 0 0)]) 40 rfl Tryd.underlying53 info57 rfl (by decide) (by omega) (.slice Ao out.length co) out (⟨T, ([] : List ByteArray)⟩ : S57) [.string T, .slice none 0 0] (fun _ => True) (fun _ => False) rfl rfl ?aP (fun k_ hk_ => hk_.elim) ?aF ?aO ?aB ?aS ?aL ?_; (case aP => exact k57_mkM _ _ _ (⟨T, ([] : List ByteArray)⟩ : S57) (Kd.R_nil _ _ _ _ _)); (case aB => exact HB3.out); (case aF => exact Gc22); (case aO => exact Kd.S_mono HO3.out (fun _ _ => ⟨trivial, fun h => h⟩)); (case aS => exact HB3.out.size); (case aL => have := hol.out; have := hn'.out.2; have := hik.out; omega); intro v5 w5 ho hb hg hat; have HO5 := Aside0.mk ho; have HB5 := Aside0.mk hb; clear ho hb hg hat))
              go_roundg g1
              case measure => omega
              case rel => exact ⟨i + 1, out ++ [⟨T, []⟩], by first | rw [hfin.out] | rfl, ⟨by have := hik.out; omega⟩, hF3, ⟨by have := hol.out; rw [List.length_append, List.length_singleton]; omega⟩, HO5, HB5⟩
          | true =>
            rw [if_neg (by decide)] at hF2
            cases hwe : wordP l_2 C with
            | false =>
              rw [hwe, if_neg (by simp)] at hF2
              obtain ⟨e1, e2⟩ := Prod.mk.inj hF2
              subst e1 e2
              clear hF2
              exact LSegx1
            | true =>
              by_cases hz : 0 < out.length
              · obtain ⟨g, cap, eo, hbg, hgl, cells9, hcells9⟩ := Kd.S_form HO.out hz
                obtain ⟨rfl, rfl⟩ : Ao = some ⟨g, 0, none⟩ ∧ co = cap := by injection eo with a1 a2 a3; exact ⟨a1, a3⟩
                obtain ⟨J, hJ⟩ : ∃ J, out.length - 1 = J := ⟨_, rfl⟩
                have hJl : J < out.length := by omega
                have hji := Aside0.mk (show wrap64 ((out.length : Int) - 1) = (J : Int) by rw [wrapIn _ ⟨by omega, by have := hol.out; have := hn'.out.2; have := hik.out; omega⟩]; omega)
                obtain ⟨ad5, A5, c5, e5, hx50, hx51, hl5, hi5⟩ := at_T57 (Kd.S_reads' HO.out).2.2 (J : Int) (by omega) (by omega)
                obtain rfl := Option.some.inj e5
                rw [Int.toNat_natCast] at hx51
                obtain ⟨LS, hLS⟩ : ∃ LS, rd_T57 out (J : Int) = LS := ⟨_, rfl⟩
                have hlast : lastF out = LS := by unfold lastF; rw [hJ]; exact hLS
                rw [hLS] at hx51
                replace hx51 : wr.cell? ⟨g, J * 2 + 1, none⟩ = some (.slice A5 LS.f1.length c5) := by rw [Addr.add_lit, Nat.zero_add] at hx51; exact hx51
                rw [hlast] at hF2
                have hz' : (0 : Int) < (out.length : Int) := by omega
                have hj0 : (0 : Int) ≤ (J : Int) := by omega
                have hj1 : (J : Int) < (out.length : Int) := by omega
                have hji2 := hji.out
                have hJ' := Aside0.mk hJ
                have hLS' := Aside0.mk hLS
                have hrd' := Aside0.mk (show out.getD (J : Int).toNat z57 = LS by rw [← hLS]; rfl)
                have hgl' := Aside0.mk hgl
                have hbg' := Aside0.mk hbg
                clear hx50 hl5 hi5 hlast hLS hcells9 hgl hbg hJ
                by_cases h2 : LS.f1.length < 2
                · have h2' : (LS.f1.length : Int) < 2 := by omega
                  rw [if_pos ⟨hwe, hz, h2⟩] at hF2
                  have hF3 := Aside0.mk hF2
                  have h2a := Aside0.mk h2
                  clear hF2 hz h2 hJl eo e5
                  go_wp2_with (first | (go_at_call 43; refine (hcc _).mono ?_; rintro e w2 ⟨rfl, nd, rfl⟩; have HB2 := Aside0.mk (pw_below_drewN HB.out nd); have HO2 := Aside0.mk (Kd.S_drewN HO.out nd); have hbk2 := hblk'.out _ HB2.out) | ((with_reducible refine gate_load (t := 41) (p := 2) rfl ?_); (try (refine gate_guard (by rfl) ?_; dsimp only)); refine wpList_load_row rfl 41 (.tmp 2) rfl w.heap.size rfl 41 _ (0, 0) _ hbk2 Tryd.underlying41 rfl (by kernel_rfl) ?_) | (go_at_call 44; with_reducible refine (hwo'.out C Gc23 _ HB2.out).mono ?_; rw [hwe]; rintro e w3 ⟨rfl, hB3⟩; have HB3 := Aside0.mk (HB2.out.trans (hB3.mono HB2.out.size)); have HO3 := Aside0.mk (Kd.S_below HO2.out hB3); have HW0 := pw_below_drewN (Below.refl wr.heap.size wr) nd; have HW3 : Below wr.heap.size wr w3 := HW0.trans (hB3.mono HW0.size); have hx53 := (HW3.cell (show (⟨g, J * 2 + 1, none⟩ : Addr).block < _ from hgl'.out)).trans hx51; obtain ⟨oki, ce, hcl, hM, hcc9, hfr9, hoki, hH⟩ := Kd.S_elem HO3.out z57 (J : Int) (Int.natCast_nonneg _) hj1; rw [hrd'.out] at hM; obtain ⟨ve, rfl, hge⟩ := k57_openM hM; have hv1 := hcc9 1 _ rfl; rw [Int.toNat_natCast, show k57.sz = 2 from rfl] at hv1; obtain rfl := Option.some.inj (hv1.symm.trans hx53); have UU := Aside0.mk (show Kd.R Kd.string 9 w3 W0.heap.size oki (.slice A5 LS.f1.length c5) LS.f1 from hge); have HH3 := Aside0.mk hH; clear hcl hM hcc9 hfr9 hoki hH hge hv1) | ((with_reducible refine gate_builtin (b := .append) (xs := #[.tmp 76, .tmp 78]) rfl ?_); at_builtin; refine Kd.R_append Kd.string (w0 := W0) W0.heap.size rfl (.tmp 76) (.tmp 78) 31 9 (.string ⟨#[]⟩) 16 rfl Tryd.underlying31 info9 rfl (by decide) (by omega) (.slice A5 LS.f1.length c5) LS.f1 C [.string C] (fun k_ => oki k_ ∨ True ∧ w3.heap.size ≤ k_) (fun _ => False) rfl rfl ?aP (fun _ hk => hk.elim) ?aF ?aO ?aB ?aS ?aL ?_; (case aP => exact rfl); (case aB => exact HB3.out); (case aF => exact (fun k_ hk => .inr ⟨trivial, hk⟩)); (case aO => exact Kd.R_mono UU.out (fun _ hk => .inl hk)); (case aS => exact HB3.out.size); (case aL => have := h2a.out; omega); intro v5 w5 ho hb hg hat; have HH5 := Kd.H_grown (Kd.H_widen HH3.out) hg (fun k_ e_ => .inl (UU.out.1 k_ e_)); obtain ⟨_, hfr6⟩ := Kd.H_at HH5 (Int.natCast_nonneg _) hj1; obtain ⟨_, _, hraw, _, _, hcc6, _⟩ := Kd.H_raw HH5 (Int.natCast_nonneg _) hj1; have hx6 := hcc6 1 _ rfl; have hf6 := hfr6 1; rw [Int.toNat_natCast, show k57.sz = 2 from rfl] at hx6 hf6; obtain ⟨A6, c6, e6⟩ := Kd.R_slice ho; subst e6; have HP := (Kd.S_seg0 HH5 (Int.natCast_nonneg _) hj1 (seg := [.slice A6 (LS.f1 ++ [C]).length c6]) (j := 1) (show 2 ≤ 2 from by decide) (x' := (⟨LS.f0, LS.f1 ++ [C]⟩ : S57)) (k57_mkM _ _ _ (⟨LS.f0, LS.f1 ++ [C]⟩ : S57) ho) (fun _ hk => hk)).1; rw [Int.toNat_natCast, show k57.sz = 2 from rfl] at HP; have HP' := Aside0.mk HP; have hb' := Aside0.mk hb; clear HP HH5 hraw hfr6 hcc6 ho hb hg hat))
                  go_roundg g1
                  case measure => omega
                  case rel => exact ⟨i + 1, out.set (out.length - 1) ⟨LS.f0, LS.f1 ++ [C]⟩, by first | rw [hfin.out] | rfl, ⟨by have := hik.out; omega⟩, hF3, ⟨by have := hol.out; rw [List.length_set]; omega⟩, ⟨by rw [hJ'.out]; have h9 := HP'.out; rw [List.length_append, List.length_singleton] at h9; exact h9⟩, ⟨hb'.out.setCell hbg'.out _⟩⟩
                · have h2' : ¬ (LS.f1.length : Int) < 2 := by omega
                  rw [if_neg (fun h => h2 h.2.2)] at hF2
                  obtain ⟨e1, e2⟩ := Prod.mk.inj hF2
                  subst e1 e2
                  clear hF2 hz h2 hJl eo e5
                  go_wp2_with (first | (go_at_call 43; refine (hcc _).mono ?_; rintro e w2 ⟨rfl, nd, rfl⟩; have HB2 := Aside0.mk (pw_below_drewN HB.out nd); have HO2 := Aside0.mk (Kd.S_drewN HO.out nd); have hbk2 := hblk'.out _ HB2.out) | ((with_reducible refine gate_load (t := 41) (p := 2) rfl ?_); (try (refine gate_guard (by rfl) ?_; dsimp only)); refine wpList_load_row rfl 41 (.tmp 2) rfl w.heap.size rfl 41 _ (0, 0) _ hbk2 Tryd.underlying41 rfl (by kernel_rfl) ?_) | (go_at_call 44; with_reducible refine (hwo'.out C Gc23 _ HB2.out).mono ?_; rw [hwe]; rintro e w3 ⟨rfl, hB3⟩; have HB3 := Aside0.mk (HB2.out.trans (hB3.mono HB2.out.size)); have HO3 := Aside0.mk (Kd.S_below HO2.out hB3); have HW0 := pw_below_drewN (Below.refl wr.heap.size wr) nd; have HW3 : Below wr.heap.size wr w3 := HW0.trans (hB3.mono HW0.size); have hx53 := (HW3.cell (show (⟨g, J * 2 + 1, none⟩ : Addr).block < _ from hgl'.out)).trans hx51))
                  go_ret2
                  exact ⟨_, rfl, Kd.S_nil _ _ _ _ _, hB0'.out.trans (HB3.out.mono hB0'.out.size)⟩
              · have hz' : ¬ (0 : Int) < (out.length : Int) := by omega
                rw [if_neg (fun h => hz h.2.1)] at hF2
                obtain ⟨e1, e2⟩ := Prod.mk.inj hF2
                subst e1 e2
                clear hF2 hz
                exact LSegx1
    · obtain ⟨e1, e2⟩ : r1 = [] ∧ r2 = false := by
        unfold segP at hr
        rw [if_neg hn] at hr
        exact ⟨(Prod.mk.inj hr).1.symm, (Prod.mk.inj hr).2.symm⟩
      subst e1 e2
      obtain ⟨n, hne⟩ : ∃ n, l1.length = n := ⟨_, rfl⟩
      rw [hne] at hn ⊢
      by_cases hn1 : n < 1
      · have hn1' : (n : Int) < 1 := by omega
        clear hn1 hn hne hr
        go_enter Tryd.func27, Tryd.ntmps27
        go_wp2
        go_ret2
        exact ⟨_, rfl, Kd.S_nil _ _ _ _ _, hB0'.out⟩
      · have hn1' : ¬ (n : Int) < 1 := by omega
        have hn2' : (40 : Int) < (n : Int) := by omega
        clear hn1 hn hne hr
        go_enter Tryd.func27, Tryd.ntmps27
        go_wp2
        go_ret2
        exact ⟨_, rfl, Kd.S_nil _ _ _ _ _, hB0'.out⟩
  · rw [if_neg hg] at h; cases h
theorem catch_panicking (p q : Addr) (x y : Value) (u : TypeId) (pv : Value) (older : List PanicEntry) (w : World) (hpq : p ≠ q) (hc : w.cell? p = some x) (hz : w.frozen? p = false) (hc2 : w.cell? q = some y) (hz2 : w.frozen? q = false) :
    CallsD Tryd.prog 35 #[.pointer (some p), .pointer (some q)] (.panicking ({ v := .iface u pv, recovered := false } :: older)) w fun e u' w' =>
      e = .returned (.tuple #[]) ∧ u' = .panicking ({ v := .iface u pv, recovered := true } :: older) ∧ w' = (w.setCell p (.slice none 0 0)).setCell q (.bool false) := by
  refine callsD_of_wpS Tryd.func35 rfl fun c₀ cs hu => ?_
  apply wpS_seq
  apply wpS_region
  simp [wpOpsS, go_sem, recoverD, hu, Tryd.ntmps35, Exit.thenS]
  apply wpS_seq
  apply wpS_region
  simp [wpOpsS, go_sem, Exit.thenS]
  refine wpS_cond (t := true) (by simp [Act.eval, Array.replicate]) ?_
  simp only [if_true]
  apply wpS_region
  have hc3 : (w.setCell p (.slice none 0 0)).cell? q = some y := by simp [go_sem, hpq, hc2]
  simp [wpOpsS, go_sem, hc, hz, hc3, hz2, bodyPostS, results, Tryd.results35]
theorem catch_idle (p q : Addr) (w : World) :
    CallsD Tryd.prog 35 #[.pointer (some p), .pointer (some q)] .returning w fun e u' w' => e = .returned (.tuple #[]) ∧ u' = .returning ∧ w' = w := by
  refine callsD_of_wpS Tryd.func35 rfl fun c₀ cs hu => ?_
  apply wpS_seq
  apply wpS_region
  simp [wpOpsS, go_sem, recoverD, hu, Tryd.ntmps35, Exit.thenS]
  apply wpS_seq
  apply wpS_region
  simp [wpOpsS, go_sem, Exit.thenS]
  refine wpS_cond (t := false) (by simp [Act.eval, Array.replicate]) ?_
  simp only [Bool.false_eq_true, if_false]
  refine wpS_of_wp (wp_skip ?_)
  cases c₀
  simp_all [bodyPostS, results, Tryd.results35]
def mapB (l : List S80) : Nat → DataW Unit
  | 0 => .map []
  | k + 1 => (mapB l k).put (rkey (rd_T80 l (k : Int)).f0) (.lit (.bool true))
theorem isMap_mapB (l : List S80) : ∀ k, Maps.IsMap (mapB l k)
  | 0 => Maps.isMap_empty
  | k + 1 => (isMap_mapB l k).put _ _
theorem at_mapB (l : List S80) (r : Int) : ∀ k, (mapB l k).atKey (rkey r) (.lit (.bool false)) = .lit (.bool (look l k r).isSome)
  | 0 => rfl
  | k + 1 => by
    have ih := at_mapB l r k
    unfold mapB look
    by_cases hr : (rd_T80 l (k : Int)).f0 = r
    · rw [hr, Maps.atKey_put_same (isMap_mapB l k) (keyLit r)]
      cases look l k r <;> simp
    · rw [Maps.atKey_put_other (rkey_ne (fun e => hr e.symm)), ih]
      cases e : look l k r with
      | some j => rfl
      | none => simp [hr]
theorem zeroB (w : World) : (zeroValue 4).run Tryd.prog w = .ok (.bool false) w := by kernel_rfl
def SetAt (w : World) (mb : Nat) (l : List S80) (k : Nat) : Prop := w.ownsMap Tryd.prog 21 (plainElem (H := Unit) Tryd.prog 4) mb k (mapB l k)
theorem SetAt.look {w : World} {mb : Nat} {l : List S80} (h : SetAt w mb l l.length) (r : Int) (hr : (Lit.int .i32 r).wf = true) : (Instr.lookup 89 (.map (some mb)) (.int .i32 r) false).run Tryd.prog w = .ok (.bool (isL l r)) w := by
  obtain ⟨v, ps, hrun, hv⟩ := World.ownsMap.lookup h keyR Tryd.underlying89 (zeroB w) (plainElem_bool Tryd.underlying4 false) (keyOf_int_mk Tryd.underlying21 hr)
  rw [hrun]
  have h2 := at_mapB l r l.length
  unfold rkey at h2
  rw [h2] at hv
  have : v = .bool (isL l r) := by
    unfold plainElem at hv
    split at hv
    · rename_i x heq; cases hv; rfl
    · split at hv <;> cases hv
    · split at hv <;> cases hv
    · cases hv
  rw [this]
theorem SetAt.put {w : World} {mb : Nat} {l : List S80} {k : Nat} (h : SetAt w mb l k) (hk : k < maxLen) (r : Int) (hr : (Lit.int .i32 r).wf = true) (he : (rd_T80 l (k : Int)).f0 = r) : ∃ w', (Instr.mapUpdate 89 (.map (some mb)) (.int .i32 r) (.bool true)).run Tryd.prog w = .ok () w' ∧ SetAt w' mb l (k + 1) ∧ w.grownBy w' (some mb) := by
  obtain ⟨w', h1, h2, h3⟩ := World.ownsMap.update h keyR Tryd.underlying89 hk (keyOf_int_mk Tryd.underlying21 hr) (plainElem_bool Tryd.underlying4 true)
  refine ⟨w', h1, ?_, h3⟩
  unfold SetAt mapB rkey
  rw [he]; exact h2
def ReaderAt (w : World) (B mb : Nat) (l : List S80) (stop : Int) : Prop := w.cell? ⟨B, 30, none⟩ = some (.map (some mb)) ∧ w.cell? ⟨B, 31, none⟩ = some (.int .i32 stop) ∧ SetAt w mb l l.length
set_option maxRecDepth 100000 in
set_option maxHeartbeats 4000000 in
theorem newReader_calls (a_0 : ByteArray) (a_1 : Bool) (A_2 : Option Addr) (c_2 : Nat) (l_2 : List (S80)) (A_3 : Option Addr) (c_3 : Nat) (l_3 : List (S85)) (A_4 : Option Addr) (c_4 : Nat) (l_4 : List (S180)) (A_5 : Option Addr) (c_5 : Nat) (l_5 : List (S183)) (A_6 : Option Addr) (c_6 : Nat) (l_6 : List (List Int)) (a_7 : Int) (a_8 : Int) (A_9 : Option Addr) (c_9 : Nat) (l_9 : List (S85)) (a_a : Int) (A_b : Option Addr) (c_b : Nat) (l_b : List ByteArray) (A_c : Option Addr) (c_c : Nat) (l_c : List ByteArray) (a_d : Bool) (a_e : ByteArray) (a_f : Int) (a_g : ByteArray) (a_h : Bool) (a_i : Int) (a_j : Int) (A_k : Option Addr) (c_k : Nat) (l_k : List (S186)) (A_l : Option Addr) (c_l : Nat) (l_l : List (S186)) (A_m : Option Addr) (c_m : Nat) (l_m : List ByteArray) (A_n : Option Addr) (c_n : Nat) (l_n : List ByteArray) (A_o : Option Addr) (c_o : Nat) (l_o : List ByteArray) (a_p : Bool) (A_q : Option Addr) (c_q : Nat) (l_q : List (S188)) (A_r : Option Addr) (c_r : Nat) (l_r : List (S190)) (A_s : Option Addr) (c_s : Nat) (l_s : List (S194)) (a_t : ByteArray) (w : World) (hT : Tabs w) (hr_2 : Kd.C k80 w A_2 l_2.length l_2) (hc_2 : l_2.length ≤ c_2) (hr_3 : Kd.C k85 w A_3 l_3.length l_3) (hc_3 : l_3.length ≤ c_3) (hr_4 : Kd.C k180 w A_4 l_4.length l_4) (hc_4 : l_4.length ≤ c_4) (hr_5 : Kd.C k183 w A_5 l_5.length l_5) (hc_5 : l_5.length ≤ c_5) (hr_6 : Kd.C (Kd.slice 78 (Kd.int .u32)) w A_6 l_6.length l_6) (hc_6 : l_6.length ≤ c_6) (hr_9 : Kd.C k85 w A_9 l_9.length l_9) (hc_9 : l_9.length ≤ c_9) (hr_b : Kd.C Kd.string w A_b l_b.length l_b) (hc_b : l_b.length ≤ c_b) (hr_c : Kd.C Kd.string w A_c l_c.length l_c) (hc_c : l_c.length ≤ c_c) (hr_k : Kd.C k186 w A_k l_k.length l_k) (hc_k : l_k.length ≤ c_k) (hr_l : Kd.C k186 w A_l l_l.length l_l) (hc_l : l_l.length ≤ c_l) (hr_m : Kd.C Kd.string w A_m l_m.length l_m) (hc_m : l_m.length ≤ c_m) (hr_n : Kd.C Kd.string w A_n l_n.length l_n) (hc_n : l_n.length ≤ c_n) (hr_o : Kd.C Kd.string w A_o l_o.length l_o) (hc_o : l_o.length ≤ c_o) (hr_q : Kd.C k188 w A_q l_q.length l_q) (hc_q : l_q.length ≤ c_q) (hr_r : Kd.C k190 w A_r l_r.length l_r) (hc_r : l_r.length ≤ c_r) (hr_s : Kd.C k194 w A_s l_s.length l_s) (hc_s : l_s.length ≤ c_s) (hg : runesOk l_2 = true) :
    Calls Tryd.prog 19 #[.agg #[.string a_0, .bool a_1, .slice A_2 l_2.length c_2, .slice A_3 l_3.length c_3, .slice A_4 l_4.length c_4, .slice A_5 l_5.length c_5, .slice A_6 l_6.length c_6, .int .i64 a_7, .int .i64 a_8, .slice A_9 l_9.length c_9, .int .i64 a_a, .slice A_b l_b.length c_b, .slice A_c l_c.length c_c, .bool a_d, .string a_e, .int .i64 a_f, .string a_g, .bool a_h, .int .i64 a_i, .int .i64 a_j, .slice A_k l_k.length c_k, .slice A_l l_l.length c_l, .slice A_m l_m.length c_m, .slice A_n l_n.length c_n, .slice A_o l_o.length c_o, .bool a_p, .slice A_q l_q.length c_q, .slice A_r l_r.length c_r, .slice A_s l_s.length c_s, .string a_t]] w fun e w' => ∃ B mb, e = .returned (.pointer (some ⟨B, 0, none⟩)) ∧ ReaderAt w' B mb l_2 ((decodeGo a_t).1 : Int) ∧ Below w.heap.size w w' := by
  have hu41 := Tryd.underlying41
  have hu91 := Tryd.underlying91
  obtain ⟨W0, hW0⟩ : ∃ W0, w.alloc (.cells #[.string a_0, .bool a_1, .slice A_2 l_2.length c_2, .slice A_3 l_3.length c_3, .slice A_4 l_4.length c_4, .slice A_5 l_5.length c_5, .slice A_6 l_6.length c_6, .int .i64 a_7, .int .i64 a_8, .slice A_9 l_9.length c_9, .int .i64 a_a, .slice A_b l_b.length c_b, .slice A_c l_c.length c_c, .bool a_d, .string a_e, .int .i64 a_f, .string a_g, .bool a_h, .int .i64 a_i, .int .i64 a_j, .slice A_k l_k.length c_k, .slice A_l l_l.length c_l, .slice A_m l_m.length c_m, .slice A_n l_n.length c_n, .slice A_o l_o.length c_o, .bool a_p, .slice A_q l_q.length c_q, .slice A_r l_r.length c_r, .slice A_s l_s.length c_s, .string a_t] 41) = W0 := ⟨_, rfl⟩
  have hB0 : Below w.heap.size w W0 := by rw [← hW0]; exact (Below.refl _ w).alloc (Nat.le_refl _) _
  have hsz0 : w.heap.size < W0.heap.size := by rw [← hW0]; simp
  have hblk : ∀ w1, Below W0.heap.size W0 w1 → w1.heap[w.heap.size]? = some (.cells #[.string a_0, .bool a_1, .slice A_2 l_2.length c_2, .slice A_3 l_3.length c_3, .slice A_4 l_4.length c_4, .slice A_5 l_5.length c_5, .slice A_6 l_6.length c_6, .int .i64 a_7, .int .i64 a_8, .slice A_9 l_9.length c_9, .int .i64 a_a, .slice A_b l_b.length c_b, .slice A_c l_c.length c_c, .bool a_d, .string a_e, .int .i64 a_f, .string a_g, .bool a_h, .int .i64 a_i, .int .i64 a_j, .slice A_k l_k.length c_k, .slice A_l l_l.length c_l, .slice A_m l_m.length c_m, .slice A_n l_n.length c_n, .slice A_o l_o.length c_o, .bool a_p, .slice A_q l_q.length c_q, .slice A_r l_r.length c_r, .slice A_s l_s.length c_s, .string a_t] 41 (0, 0)) := by
    intro w1 hB
    refine (hB.block _ hsz0).trans ?_
    rw [← hW0]; exact World.alloc_heap_new w _
  have hmm : ∀ w, (Instr.makeMap 89 none).run Tryd.prog w = .ok (.map (some w.heap.size)) (w.alloc (.map #[] 0)) := by
    intro w
    simp [Instr.makeMap, run_underlying Tryd.underlying89, Result.andThen]
  have hbk0 := hblk _ (Below.refl _ _)
  have hB0' := Aside0.mk hB0
  have hblk' := Aside0.mk hblk
  have hR := Aside0.mk hr_2
  have hRO := Aside0.mk hg
  have hT' := Aside0.mk hT
  have hLl := Aside0.mk hr_2.2.1
  obtain ⟨cs, hcs⟩ : ∃ cs : Array Value, #[.string a_0, .bool a_1, .slice A_2 l_2.length c_2, .slice A_3 l_3.length c_3, .slice A_4 l_4.length c_4, .slice A_5 l_5.length c_5, .slice A_6 l_6.length c_6, .int .i64 a_7, .int .i64 a_8, .slice A_9 l_9.length c_9, .int .i64 a_a, .slice A_b l_b.length c_b, .slice A_c l_c.length c_c, .bool a_d, .string a_e, .int .i64 a_f, .string a_g, .bool a_h, .int .i64 a_i, .int .i64 a_j, .slice A_k l_k.length c_k, .slice A_l l_l.length c_l, .slice A_m l_m.length c_m, .slice A_n l_n.length c_n, .slice A_o l_o.length c_o, .bool a_p, .slice A_q l_q.length c_q, .slice A_r l_r.length c_r, .slice A_s l_s.length c_s, .string a_t, .map (some W0.heap.size), .int .i32 0] = cs := ⟨_, rfl⟩
  have hc30 : cs[30]? = some (.map (some W0.heap.size)) := by rw [← hcs]; rfl
  have hc31 : cs[31]? = some (.int .i32 0) := by rw [← hcs]; rfl
  obtain ⟨WM, hWM0⟩ : ∃ WM, (W0.alloc (.map #[] 0)).alloc (.cells cs 91) = WM := ⟨_, rfl⟩
  have hWM := hWM0
  rw [← hcs] at hWM
  have hsetM : SetAt WM W0.heap.size l_2 0 := by rw [← hWM0]; exact (World.ownsMap_made W0 _ _ _).alloc _
  have hBM : Below W0.heap.size W0 WM := by rw [← hWM0]; exact ((Below.refl _ W0).alloc (Nat.le_refl _) _).alloc (by simp) _
  have hblkM : WM.heap[W0.heap.size + 1]? = some (.cells cs 91 (0, 0)) := by rw [← hWM0]; have := World.alloc_heap_new (W0.alloc (.map #[] 0)) (.cells cs 91); simpa using this
  obtain ⟨mb, hmb⟩ : ∃ mb, W0.heap.size = mb := ⟨_, rfl⟩
  have hk2 : WM.cell? ⟨w.heap.size, 2, none⟩ = some (.slice A_2 l_2.length c_2) := by rw [Lib.cell_of_heap (hblk _ hBM)]; rfl
  have hcs1 := Aside0.mk hc30
  have hcs2 := Aside0.mk hc31
  have hsetM' := Aside0.mk hsetM
  have hBM' := Aside0.mk hBM
  have hblkM' := Aside0.mk hblkM
  have hmb' := Aside0.mk hmb
  have hsz0' := Aside0.mk hsz0
  clear hT hr_2 hr_3 hr_4 hr_5 hr_6 hr_9 hr_b hr_c hr_k hr_l hr_m hr_n hr_o hr_q hr_r hr_s hg hB0 hblk hsz0 hsetM hBM hblkM hWM0 hcs hc30 hc31 hmb
  go_enter Tryd.func19, Tryd.ntmps19
  go_wp2_with ((with_reducible refine gate_load (t := 41) (p := 1) rfl ?_); (try (refine gate_guard (by rfl) ?_; dsimp only)); refine wpList_load_row rfl 41 (.tmp 1) rfl w.heap.size rfl 41 _ (0, 0) _ hbk0 Tryd.underlying41 rfl (by kernel_rfl) ?_)
  rw [hmb'.out] at hsetM' hblkM' hBM' hcs1 hWM ⊢
  clear hk2 hbk0 hWM
  go_loopg [14] l_2.length (fun kq v14 w' => ∃ i : Nat, v14 = .int .i64 (i : Int) ∧ Aside0 (i + kq = l_2.length) ∧ Aside0 (SetAt w' mb l_2 i) ∧ Aside0 (w'.heap[mb + 1]? = some (.cells cs 91 (0, 0))) ∧ Aside0 (Below mb W0 w'))
  case atStart => exact ⟨0, rfl, ⟨by omega⟩, hsetM', hblkM', hBM'⟩
  case round =>
    obtain ⟨i, rfl, hik, HS, HK, HB⟩ := hrel
    have HBw : Below W0.heap.size W0 wr := by rw [hmb'.out]; exact HB.out
    cases gk with
    | zero =>
      have hcd : ¬ ((i : Int) < (l_2.length : Int)) := by have := hik.out; omega
      have hdi : Aside0 (i = l_2.length) := ⟨by have := hik.out; omega⟩
      have k29 : wr.cell? ⟨w.heap.size, 29, none⟩ = some (.string a_t) := by rw [Lib.cell_of_heap (hblk'.out _ HBw)]; rfl
      have hdec := utf8_DecodeRuneInString.calls a_t _ _ wr (tabs_below hT'.out (hB0'.out.trans (HBw.mono hB0'.out.size))) rfl
      have HBw' := Aside0.mk HBw
      clear HBw
      go_wp2_with (go_at_call 33; refine hdec.mono ?_; clear hdec; rintro e w5 ⟨rfl, hB5⟩; have HK5 := (hB5.block (mb + 1) (blk_lt HK.out)).trans HK.out; have hx31 : w5.cell? ⟨mb + 1, 31, none⟩ = some (.int .i32 0) := (by rw [Lib.cell_of_heap HK5]; exact hcs2.out); have hz31 : w5.frozen? ⟨mb + 1, 31, none⟩ = false := Lib.frozen_of_heap HK5 31)
      go_ret
      have hb5 := hB0'.out.trans ((HBw'.out.trans (hB5.mono HBw'.out.size)).mono hB0'.out.size)
      refine ⟨mb + 1, mb, rfl, ⟨?_, ?_, ?_⟩, hb5.setCell (by have := hmb'.out; have := hB0'.out.size; show w.heap.size ≤ mb + 1; omega) _⟩
      · have h9 : w5.cell? ⟨mb + 1, 30, none⟩ = some (.map (some mb)) := by rw [Lib.cell_of_heap HK5]; exact hcs1.out
        simp [go_sem, h9]
      · simp [go_sem, hx31]
      · refine ownsMap_heap (hdi.out ▸ HS.out) ?_
        rw [Below.heap_setCell _ _ _ _ (by show mb ≠ mb + 1; omega)]
        exact hB5.block mb (World.ownsMap.lt HS.out)
    | succ g1 =>
      have hcd : (i : Int) < (l_2.length : Int) := by have := hik.out; omega
      have hlt : i < l_2.length := by have := hik.out; omega
      obtain ⟨ad, hA, hx0, hx1⟩ := at_T80 hR.out (i : Int) (by omega) hcd
      subst hA
      rw [Int.toNat_natCast] at hx0 hx1
      have HBf := hB0'.out.trans (HBw.mono hB0'.out.size)
      replace hx0 := (HBf.cell (World.block_lt_of_cell? _ _ hx0)).trans hx0
      replace hx1 := (HBf.cell (World.block_lt_of_cell? _ _ hx1)).trans hx1
      have hwx := runesOk_mem hRO.out _ (mem_rd l_2 i hlt)
      obtain ⟨R, hRe⟩ : ∃ R, (rd_T80 l_2 (i : Int)).f0 = R := ⟨_, rfl⟩
      obtain ⟨C, hCe⟩ : ∃ C, (rd_T80 l_2 (i : Int)).f1 = C := ⟨_, rfl⟩
      rw [hRe] at hx0 hwx
      rw [hCe] at hx1
      obtain ⟨W1, hW1⟩ : ∃ W1, wr.alloc (.cells #[.int .i32 R, .int .u32 C] 80) = W1 := ⟨_, rfl⟩
      obtain ⟨LB, hLB⟩ : ∃ LB, wr.heap.size = LB := ⟨_, rfl⟩
      have q1 : W1.cell? ⟨LB, 0, none⟩ = some (.int .i32 R) := by rw [← hW1, ← hLB]; exact cell_new _ _ _ 0 _ rfl
      have hB1 : Below mb W0 W1 := by rw [← hW1]; exact HB.out.alloc (by have := hmb'.out; have := HB.out.size; omega) _
      have HK1 : W1.heap[mb + 1]? = some (.cells cs 91 (0, 0)) := by rw [← hW1]; exact (Below.heap_alloc _ _ _ (blk_lt HK.out)).trans HK.out
      have q0 : W1.cell? ⟨mb + 1, 30, none⟩ = some (.map (some mb)) := by rw [Lib.cell_of_heap HK1]; exact hcs1.out
      have HS1 : SetAt W1 mb l_2 i := by rw [← hW1]; exact World.ownsMap.alloc HS.out _
      have hLl2 : LB < W1.heap.size := by rw [← hW1, ← hLB]; simp
      obtain ⟨w2, hput, hset2, hgr2⟩ := SetAt.put (w := W1.drew) HS1 (by have := hLl.out; simp only [maxLen]; omega) R hwx hRe
      have hne : LB ≠ mb := by have := HS.out.lt; omega
      have HK2 : w2.heap[mb + 1]? = some (.cells cs 91 (0, 0)) := (hgr2.block (mb + 1) (blk_lt HK1) (by simp)).trans HK1
      have q0b : w2.cell? ⟨mb + 1, 30, none⟩ = some (.map (some mb)) := by rw [Lib.cell_of_heap HK2]; exact hcs1.out
      have q1b : w2.cell? ⟨LB, 0, none⟩ = some (.int .i32 R) := cell_grown hgr2 q1 (by simp [hne])
      have hB2 : Below mb W0 w2 := hB1.drew.grown hgr2 (by have := hmb'.out; have := hB1.size; show mb ≤ W1.heap.size; omega) (fun k e => by cases e; exact Nat.le_refl _)
      have hfin := Aside0.mk (idx_next (i := i) (n := l_2.length) hlt hLl.out)
      have hset2' := Aside0.mk hset2
      have HK2' := Aside0.mk HK2
      have hB2' := Aside0.mk hB2
      have q0b' := Aside0.mk q0b
      have q1b' := Aside0.mk q1b
      have hdl := Aside0.mk hlt
      clear hRe hCe hwx HBf HBw hB1 HK1 HS1 hLl2 hset2 hgr2 hne HK2 hB2 q0b q1b hlt
      go_wp2
      refine start_ (n := 7) (S := fun w' => w'.cell? ⟨mb + 1, 30, none⟩ = some (.map (some mb)) ∧ w'.cell? ⟨LB, 0, none⟩ = some (.int .i32 R)) (ds := []) #[false, false, false, false, false, false, false] (by kernel_rfl) rfl rfl ⟨q0, q1⟩ (fun hHeld => ?_)
      refine pK 0 18 ?_
      refine pK 1 19 ?_
      refine pK 2 20 ?_
      refine pK 4 22 ?_
      refine tKt 3 21 hHeld ?_
      refine tKt 5 23 hHeld ?_
      refine one_ (i := 6) (N := none) #[true, true, true, true, true, true, true] rfl rfl (by kernel_rfl) (by decide) (fun K hK => ?_)
      refine skip_ (w1 := ?_) (by rfl) rfl ?_ ?_
      rotate_left
      · go_simp
        rfl
      refine hK.out _ _ ⟨q0b'.out, q1b'.out⟩ (fun hHeld => ?_)
      clear hK K
      refine done_ (by kernel_rfl) ?_
      go_wp2
      go_roundg g1
      case measure => omega
      case rel => exact ⟨i + 1, by first | rw [hfin.out] | rfl, ⟨by have := hik.out; omega⟩, hset2', HK2', hB2'⟩
end Go.Proofs.YtfbhdjflkaldgaaDoor.Pr

namespace Go.Proofs.YtfbhdjflkaldgaaDoor.Pr
set_option linter.unusedVariables false
set_option linter.unusedSimpArgs false
def refG {α : Type} (st : α → α × Bool) (host : α → Bool) : List α → List α → Option (List (List α))
  | [], words => if words.length = 0 then some [] else none
  | part :: rest, words => if host (st part).1 = true then (if (st part).2 = true then (refG st host rest []).map (fun o => (words ++ [(st part).1]) :: o) else refG st host rest (words ++ [(st part).1])) else none
theorem refG_map {α β : Type} {st : α → α × Bool} {host : α → Bool} {st' : β → β × Bool} {host' : β → Bool} (f : α → β) : ∀ (parts words : List α), (∀ a ∈ parts, st' (f a) = (f (st a).1, (st a).2)) → (∀ a ∈ parts, host' (f (st a).1) = host (st a).1) → refG st' host' (parts.map f) (words.map f) = (refG st host parts words).map (fun o => o.map (fun ws => ws.map f))
  | [], words, _, _ => by
    rw [List.map_nil, refG, refG, List.length_map]
    split <;> rfl
  | a :: parts, words, h1, h2 => by
    have ih := fun ws => refG_map f parts ws (fun b hb => h1 b (by simp [hb])) (fun b hb => h2 b (by simp [hb]))
    rw [List.map_cons, refG, refG, h1 a (by simp), h2 a (by simp)]
    split
    · split
      · have := ih []
        rw [List.map_nil] at this
        rw [this, Option.map_map, Option.map_map]
        congr 1
        funext o
        simp
      · rw [← ih]; simp
    · rfl
section Reader
variable (L : Int → Bool) (stop : Int)
def readOk : List Int → List (List Int) → List Int → Bool → Bool → Option (List (List (List Int)))
  | [], _, _, ended, _ => if ended = true then some [] else none
  | r :: t, words, cur, ended, blank =>
    if L r = true ∧ (blank = true ∨ 0 < cur.length) ∧ cur.length < 40 then readOk t words (cur ++ [r]) false false
    else if r = 32 ∧ (0 < cur.length ∨ ended = true) then readOk t (if 0 < cur.length then words ++ [cur] else words) [] false true
    else if r = stop ∧ 0 < cur.length then (readOk t [] [] true blank).map fun o => (words ++ [cur]) :: o
    else none
def splitR : List Int → List (List Int)
  | [] => [[]]
  | r :: t => if r = 32 then [] :: splitR t else match splitR t with
    | [] => [[r]]
    | p :: rest => (r :: p) :: rest
def stoppedR (p : List Int) : List Int × Bool := if p.getLast? = some stop then (p.dropLast, true) else (p, false)
def hostR (w : List Int) : Bool := decide (0 < w.length) && (w.all L && decide (w.length ≤ 40))
theorem splitR_ne : ∀ R, splitR R ≠ []
  | [] => by simp [splitR]
  | r :: t => by
    unfold splitR
    split
    · simp
    · split <;> simp
variable {L} {stop}
theorem stopped_mem {p : List Int} {r : Int} (h : r ∈ p) (hr : r ≠ stop) : r ∈ (stoppedR stop p).1 := by
  unfold stoppedR
  split
  · rename_i hl
    obtain ⟨q, rfl⟩ := List.getLast?_eq_some_iff.1 hl
    rw [List.mem_append] at h
    rcases h with h | h
    · simpa using h
    · exact absurd (by simpa using h) hr
  · exact h
theorem host_no {w : List Int} {r : Int} (h : r ∈ w) (hr : L r = false) : hostR L w = false := by
  unfold hostR
  have : w.all L = false := by
    rw [Bool.eq_false_iff]
    intro e
    rw [List.all_eq_true] at e
    rw [e r h] at hr; cases hr
  rw [this]; simp
theorem stopped_len {a b : List Int} (h : ∀ r ∈ a, r ≠ stop) : a.length ≤ (stoppedR stop (a ++ b)).1.length := by
  unfold stoppedR
  split
  · rename_i hl
    rcases List.eq_nil_or_concat b with rfl | ⟨b', x, rfl⟩
    · rw [List.append_nil] at hl ⊢
      exact absurd rfl (h stop (List.mem_of_getLast? hl))
    · rw [List.concat_eq_append, ← List.append_assoc, List.dropLast_concat, List.length_append]; omega
  · simp
theorem read_stop (hs32 : stop ≠ 32) (blank : Bool) (hb : blank = false) : ∀ R, readOk L stop R [] [] true blank = match R with
    | [] => some []
    | r :: t => if r = 32 then readOk L stop t [] [] false true else none
  | [] => by simp [readOk]
  | r :: t => by
    subst hb
    rw [readOk]
    by_cases h : r = 32
    · subst h; simp
    · simp [h]
theorem LRdrx1 {p : Prop} (h : p := by
  simp only [splitR, List.cons.injEq] at hp
  obtain ⟨rfl, rfl⟩ := hp
  have hst : stoppedR stop cur = (cur, false) := by
    unfold stoppedR
    rw [if_neg]
    intro h
    rw [hc stop (List.mem_of_getLast? h)] at hL; cases hL
  simp [readOk, refG, hst]) : p := h
theorem read_eq (hL : L stop = false) (hL32 : L 32 = false) (hs32 : stop ≠ 32) : ∀ (n : Nat) (R : List Int), R.length ≤ n → ∀ (words : List (List Int)) (cur : List Int), (∀ r ∈ cur, L r = true) → cur.length ≤ 40 → ∀ p rest, splitR R = p :: rest →
    readOk L stop R words cur false (decide (cur.length = 0)) = refG (stoppedR stop) (hostR L) ((cur ++ p) :: rest) words := by
  intro n
  induction n with
  | zero =>
    intro R hn words cur hc h40 p rest hp
    obtain rfl : R = [] := List.eq_nil_of_length_eq_zero (by omega)
    exact LRdrx1
  | succ n ih =>
    intro R hn words cur hc h40 p rest hp
    cases R with
    | nil =>
      exact LRdrx1
    | cons r t =>
      have hn' : t.length ≤ n := by simp at hn; omega
      have hcs : ∀ x ∈ cur, x ≠ stop := fun x hx e => by rw [e] at hx; rw [hc stop hx] at hL; cases hL
      have hst0 : stoppedR stop cur = (cur, false) := by
        unfold stoppedR
        rw [if_neg]
        intro h
        exact hcs stop (List.mem_of_getLast? h) rfl
      by_cases h32 : r = 32
      · subst h32
        rw [splitR, if_pos rfl] at hp
        obtain ⟨rfl, rfl⟩ := List.cons.inj hp
        obtain ⟨p', rest', hp'⟩ := List.exists_cons_of_ne_nil (splitR_ne t)
        have := ih t hn' (words ++ [cur]) [] (by simp) (by simp) p' rest' hp'
        rw [List.append_nil, hp']
        by_cases hz : 0 < cur.length
        · rw [readOk, if_neg (by simp [hL32]), if_pos ⟨rfl, Or.inl hz⟩, if_pos hz, refG, hst0]
          have hh : hostR L cur = true := by
            unfold hostR
            rw [decide_eq_true hz, decide_eq_true h40, List.all_eq_true.2 hc]; rfl
          rw [if_pos hh, if_neg (by simp)]
          simpa using this
        · rw [readOk, if_neg (by simp [hL32]), if_neg (by simp [hz]), if_neg (by simp [hz]), refG, hst0]
          have hh : hostR L cur = false := by unfold hostR; rw [decide_eq_false hz]; rfl
          rw [hh]; simp
      · rw [splitR, if_neg h32] at hp
        obtain ⟨p', rest', hp'⟩ := List.exists_cons_of_ne_nil (splitR_ne t)
        rw [hp'] at hp
        simp only at hp
        obtain ⟨rfl, rfl⟩ := List.cons.inj hp
        by_cases hl : L r = true
        · by_cases hc40 : cur.length < 40
          · have hbl : (decide (cur.length = 0) = true ∨ 0 < cur.length) := by rw [decide_eq_true_eq]; omega
            have := ih t hn' words (cur ++ [r]) (by intro x hx; rcases List.mem_append.1 hx with h | h; exact hc x h; rw [List.mem_singleton.1 h]; exact hl) (by simp; omega) p' rest' hp'
            rw [readOk, if_pos ⟨hl, hbl, hc40⟩]
            rw [show decide ((cur ++ [r]).length = 0) = false by simp] at this
            rw [this]; simp
          · have hrs : r ≠ stop := fun e => by rw [e, hL] at hl; cases hl
            rw [readOk, if_neg (by simp [hc40]), if_neg (by simp [h32]), if_neg (by simp [hrs]), refG, if_neg]
            have hlen := stopped_len (stop := stop) (a := cur ++ [r]) (b := p') (by intro x hx; rcases List.mem_append.1 hx with h | h; exact hcs x h; rw [List.mem_singleton.1 h]; exact hrs)
            rw [List.append_assoc] at hlen
            unfold hostR
            rw [decide_eq_false (show ¬ (stoppedR stop (cur ++ ([r] ++ p'))).1.length ≤ 40 by simp at hlen; simp; omega) |> fun h => (show decide ((stoppedR stop (cur ++ r :: p')).1.length ≤ 40) = false from h)]
            simp
        · have hl' : L r = false := by simpa using hl
          by_cases hrs : r = stop
          · subst hrs
            by_cases hz : 0 < cur.length
            · rw [readOk, if_neg (by simp [hl']), if_neg (by simp [h32]), if_pos ⟨rfl, hz⟩, read_stop hs32 _ (by rw [decide_eq_false]; omega)]
              have hh : hostR L cur = true := by
                unfold hostR
                rw [decide_eq_true hz, decide_eq_true h40, List.all_eq_true.2 hc]; rfl
              cases t with
              | nil =>
                simp only [splitR, List.cons.injEq] at hp'
                obtain ⟨rfl, rfl⟩ := hp'
                have hst : stoppedR r (cur ++ [r]) = (cur, true) := by unfold stoppedR; rw [if_pos (by simp)]; simp
                rw [refG, hst, if_pos hh, if_pos rfl, refG]; rfl
              | cons x t' =>
                simp only
                by_cases hx : x = 32
                · subst hx
                  rw [splitR, if_pos rfl] at hp'
                  obtain ⟨rfl, rfl⟩ := List.cons.inj hp'
                  have hst : stoppedR r (cur ++ [r]) = (cur, true) := by unfold stoppedR; rw [if_pos (by simp)]; simp
                  rw [refG, hst, if_pos hh, if_pos rfl, if_pos rfl]
                  obtain ⟨p2, rest2, hp2⟩ := List.exists_cons_of_ne_nil (splitR_ne t')
                  have := ih t' (by simp at hn'; omega) [] [] (by simp) (by simp) p2 rest2 hp2
                  rw [hp2]
                  rw [show decide (([] : List Int).length = 0) = true by rfl] at this
                  rw [this]; rfl
                · rw [if_neg hx, refG, if_neg]
                  · rfl
                  · rw [splitR, if_neg hx] at hp'
                    obtain ⟨p2, rest2, hp2⟩ := List.exists_cons_of_ne_nil (splitR_ne t')
                    rw [hp2] at hp'
                    simp only at hp'
                    obtain ⟨rfl, rfl⟩ := List.cons.inj hp'
                    have hm : r ∈ (stoppedR r (cur ++ r :: x :: p2)).1 := by
                      unfold stoppedR
                      split
                      · rw [List.dropLast_append_of_ne_nil (by simp), List.dropLast_cons_of_ne_nil (by simp)]; simp
                      · simp
                    rw [host_no hm hl']; simp
            · obtain rfl : cur = [] := List.eq_nil_of_length_eq_zero (by omega)
              rw [readOk, if_neg (by simp [hl']), if_neg (by simp [h32]), if_neg (by simp), refG, if_neg]
              rw [List.nil_append]
              cases p' with
              | nil =>
                have : stoppedR r [r] = ([], true) := by unfold stoppedR; simp
                rw [this]; simp [hostR]
              | cons y p2 =>
                have hm : r ∈ (stoppedR r (r :: y :: p2)).1 := by
                  unfold stoppedR
                  split
                  · simp
                  · simp
                rw [host_no hm hl']; simp
          · rw [readOk, if_neg (by simp [hl']), if_neg (by simp [h32]), if_neg (by simp [hrs]), refG, if_neg]
            rw [host_no (stopped_mem (by simp) hrs) hl']; simp
end Reader
end Go.Proofs.YtfbhdjflkaldgaaDoor.Pr
