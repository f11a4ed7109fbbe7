/- Several texts in one: RfV, CdV. -/
import Derived.Test.YtfbhdjflkaldgaaDoorMg16
import Derived.Test.YtfbhdjflkaldgaaDoorMg4
import Derived.Test.YtfbhdjflkaldgaaDoorMg13
/- The reference's Valid of a language's orthography. -/
/- orthography.valid in plain words. -/
namespace Go.Proofs.YtfbhdjflkaldgaaDoor.Pr
open Go.Proofs.YtfbhdjflkaldgaaDoor.Ct Go.RowKit Go.Maps Go.Lib Go.Proofs.YtfbhdjflkaldgaaDoorW.PrintWords Go.Proofs.YtfbhdjflkaldgaaDoorW.PrintLast Go.Proofs.YtfbhdjflkaldgaaDoorW.PrintMore
set_option linter.unusedVariables false
set_option linter.unusedSimpArgs false
def okR (l : List S80) (r : Int) : Bool := !decide (r ≤ 32) && (!(r == 45) && (!(r == 61) && !isL l r))
def stopOk (l : List S80) (s : ByteArray) : Bool := (runesS s).all (okR l) && (decide ((runesS s).length = 1) && validD s.data.toList)
def orthP (l : List S80) (rules : List S85) (s : ByteArray) : Bool := stopOk l s && cliticP l rules
def pentaglotref42_Valid.f (a_0 : ByteArray) (a_1 : Bool) (l_2 : List (S80)) (l_3 : List (S85)) (l_4 : List (S180)) (l_5 : List (S183)) (l_6 : List (List Int)) (a_7 : Int) (a_8 : Int) (l_9 : List (S85)) (a_a : Int) (l_b : List ByteArray) (l_c : List ByteArray) (a_d : Bool) (a_e : ByteArray) (a_f : Int) (a_g : ByteArray) (a_h : Bool) (a_i : Int) (a_j : Int) (l_k : List (S186)) (l_l : List (S186)) (l_m : List ByteArray) (l_n : List ByteArray) (l_o : List ByteArray) (a_p : Bool) (l_q : List (S188)) (l_r : List (S190)) (l_s : List (S194)) (a_t : ByteArray) : Option Bool := if (l_9.all smallR = true ∧ okLen l_9 = true) ∧ a_t.size ≤ 1099511627776 then some (orthP l_2 l_9 a_t) else none
theorem ref14_calls (A0 : Option Addr) (c0 : Nat) (l0 : List S80) (A1 : Option Addr) (c1 : Nat) (l1 : List S85) (w : World) (hT : Tabs w) (hr0 : Kd.C k80 w A0 l0.length l0) (hc0 : l0.length ≤ c0) (hr1 : Kd.C k85 w A1 l1.length l1) (hc1 : l1.length ≤ c1) (h2 : l1.all smallR = true) (h3 : okLen l1 = true) :
    Calls Tryd.prog 41 #[.slice A0 l0.length c0, .slice A1 l1.length c1] w fun e w' => e = .returned (.bool (cliticP l0 l1)) ∧ Below w.heap.size w w' := by
  obtain ⟨k, hk⟩ := (ref14_ev l0 l1 hr0.2.1 hr1.2.1 h2 h3).rounds
  exact pentaglotref14_Valid.calls k A0 c0 l0 A1 c1 l1 _ w hT hr0 hc0 hr1 hc1 hk
set_option maxRecDepth 100000 in
set_option maxHeartbeats 2000000 in
theorem pentaglotref42_Valid.calls (a_0 : ByteArray) (a_1 : Bool) (A_2 : Option Addr) (c_2 : Nat) (l_2 : List (S80)) (A_3 : Option Addr) (c_3 : Nat) (l_3 : List (S85)) (A_4 : Option Addr) (c_4 : Nat) (l_4 : List (S180)) (A_5 : Option Addr) (c_5 : Nat) (l_5 : List (S183)) (A_6 : Option Addr) (c_6 : Nat) (l_6 : List (List Int)) (a_7 : Int) (a_8 : Int) (A_9 : Option Addr) (c_9 : Nat) (l_9 : List (S85)) (a_a : Int) (A_b : Option Addr) (c_b : Nat) (l_b : List ByteArray) (A_c : Option Addr) (c_c : Nat) (l_c : List ByteArray) (a_d : Bool) (a_e : ByteArray) (a_f : Int) (a_g : ByteArray) (a_h : Bool) (a_i : Int) (a_j : Int) (A_k : Option Addr) (c_k : Nat) (l_k : List (S186)) (A_l : Option Addr) (c_l : Nat) (l_l : List (S186)) (A_m : Option Addr) (c_m : Nat) (l_m : List ByteArray) (A_n : Option Addr) (c_n : Nat) (l_n : List ByteArray) (A_o : Option Addr) (c_o : Nat) (l_o : List ByteArray) (a_p : Bool) (A_q : Option Addr) (c_q : Nat) (l_q : List (S188)) (A_r : Option Addr) (c_r : Nat) (l_r : List (S190)) (A_s : Option Addr) (c_s : Nat) (l_s : List (S194)) (a_t : ByteArray) (r : Bool) (w : World) (hT : Tabs w) (hr_2 : Kd.C k80 w A_2 l_2.length l_2) (hc_2 : l_2.length ≤ c_2) (hr_3 : Kd.C k85 w A_3 l_3.length l_3) (hc_3 : l_3.length ≤ c_3) (hr_4 : Kd.C k180 w A_4 l_4.length l_4) (hc_4 : l_4.length ≤ c_4) (hr_5 : Kd.C k183 w A_5 l_5.length l_5) (hc_5 : l_5.length ≤ c_5) (hr_6 : Kd.C (Kd.slice 78 (Kd.int .u32)) w A_6 l_6.length l_6) (hc_6 : l_6.length ≤ c_6) (hr_9 : Kd.C k85 w A_9 l_9.length l_9) (hc_9 : l_9.length ≤ c_9) (hr_b : Kd.C Kd.string w A_b l_b.length l_b) (hc_b : l_b.length ≤ c_b) (hr_c : Kd.C Kd.string w A_c l_c.length l_c) (hc_c : l_c.length ≤ c_c) (hr_k : Kd.C k186 w A_k l_k.length l_k) (hc_k : l_k.length ≤ c_k) (hr_l : Kd.C k186 w A_l l_l.length l_l) (hc_l : l_l.length ≤ c_l) (hr_m : Kd.C Kd.string w A_m l_m.length l_m) (hc_m : l_m.length ≤ c_m) (hr_n : Kd.C Kd.string w A_n l_n.length l_n) (hc_n : l_n.length ≤ c_n) (hr_o : Kd.C Kd.string w A_o l_o.length l_o) (hc_o : l_o.length ≤ c_o) (hr_q : Kd.C k188 w A_q l_q.length l_q) (hc_q : l_q.length ≤ c_q) (hr_r : Kd.C k190 w A_r l_r.length l_r) (hc_r : l_r.length ≤ c_r) (hr_s : Kd.C k194 w A_s l_s.length l_s) (hc_s : l_s.length ≤ c_s) (h : pentaglotref42_Valid.f a_0 a_1 l_2 l_3 l_4 l_5 l_6 a_7 a_8 l_9 a_a l_b l_c a_d a_e a_f a_g a_h a_i a_j l_k l_l l_m l_n l_o a_p l_q l_r l_s a_t = some r) :
    Calls Tryd.prog 22 #[.agg #[.string a_0, .bool a_1, .slice A_2 l_2.length c_2, .slice A_3 l_3.length c_3, .slice A_4 l_4.length c_4, .slice A_5 l_5.length c_5, .slice A_6 l_6.length c_6, .int .i64 a_7, .int .i64 a_8, .slice A_9 l_9.length c_9, .int .i64 a_a, .slice A_b l_b.length c_b, .slice A_c l_c.length c_c, .bool a_d, .string a_e, .int .i64 a_f, .string a_g, .bool a_h, .int .i64 a_i, .int .i64 a_j, .slice A_k l_k.length c_k, .slice A_l l_l.length c_l, .slice A_m l_m.length c_m, .slice A_n l_n.length c_n, .slice A_o l_o.length c_o, .bool a_p, .slice A_q l_q.length c_q, .slice A_r l_r.length c_r, .slice A_s l_s.length c_s, .string a_t]] w fun e w' => e = .returned (.bool r) ∧ Below w.heap.size w w' := by
  unfold pentaglotref42_Valid.f at h
  by_cases hg : (l_9.all smallR = true ∧ okLen l_9 = true) ∧ a_t.size ≤ 1099511627776
  · rw [if_pos hg] at h
    have hr := Option.some.inj h
    clear h
    obtain ⟨W0, hW0⟩ : ∃ W0, w.alloc (.cells #[.string a_0, .bool a_1, .slice A_2 l_2.length c_2, .slice A_3 l_3.length c_3, .slice A_4 l_4.length c_4, .slice A_5 l_5.length c_5, .slice A_6 l_6.length c_6, .int .i64 a_7, .int .i64 a_8, .slice A_9 l_9.length c_9, .int .i64 a_a, .slice A_b l_b.length c_b, .slice A_c l_c.length c_c, .bool a_d, .string a_e, .int .i64 a_f, .string a_g, .bool a_h, .int .i64 a_i, .int .i64 a_j, .slice A_k l_k.length c_k, .slice A_l l_l.length c_l, .slice A_m l_m.length c_m, .slice A_n l_n.length c_n, .slice A_o l_o.length c_o, .bool a_p, .slice A_q l_q.length c_q, .slice A_r l_r.length c_r, .slice A_s l_s.length c_s, .string a_t] 41) = W0 := ⟨_, rfl⟩
    have hB0 : Below w.heap.size w W0 := by rw [← hW0]; exact (Below.refl _ w).alloc (Nat.le_refl _) _
    have hcell : ∀ w1, Below W0.heap.size W0 w1 → w1.cell? ⟨w.heap.size, 2, none⟩ = some (.slice A_2 l_2.length c_2) ∧ w1.cell? ⟨w.heap.size, 9, none⟩ = some (.slice A_9 l_9.length c_9) ∧ w1.cell? ⟨w.heap.size, 29, none⟩ = some (.string a_t) := by
      intro w1 hB
      have hlt : w.heap.size < W0.heap.size := by rw [← hW0]; simp
      refine ⟨(hB.cell hlt).trans ?_, (hB.cell hlt).trans ?_, (hB.cell hlt).trans ?_⟩
      · rw [← hW0]; exact cell_new _ _ _ 2 _ rfl
      · rw [← hW0]; exact cell_new _ _ _ 9 _ rfl
      · rw [← hW0]; exact cell_new _ _ _ 29 _ rfl
    have hsz0 : w.heap.size + 1 = W0.heap.size := by rw [← hW0]; simp
    have hlv := fun (w1 : World) (hB : Below W0.heap.size W0 w1) => ref14_calls A_2 c_2 l_2 A_9 c_9 l_9 w1 (tabs_below hT (hB0.trans (hB.mono hB0.size))) (Kd.C_below hr_2 (hB0.trans (hB.mono hB0.size))) hc_2 (Kd.C_below hr_9 (hB0.trans (hB.mono hB0.size))) hc_9 hg.1.1 hg.1.2
    have hix := fun (R : Int) (w1 : World) (hB : Below W0.heap.size W0 w1) => refIndex_calls A_2 c_2 l_2 R w1 (Kd.C_below hr_2 (hB0.trans (hB.mono hB0.size))) hc_2
    have hlv' := Aside0.mk hlv
    have hix' := Aside0.mk hix
    have hG := Aside0.mk hg.2
    have hr' := Aside0.mk hr
    have hcell' := Aside0.mk hcell
    have hB0' := Aside0.mk hB0
    have HB9 : Below W0.heap.size W0 W0 := Below.refl _ _
    obtain ⟨k2, k9, k29⟩ := hcell W0 HB9
    clear hT hr_2 hr_3 hr_4 hr_5 hr_6 hr_9 hr_b hr_c hr_k hr_l hr_m hr_n hr_o hr_q hr_r hr_s hg hr hB0 hcell hlv hix
    go_enter Tryd.func22, Tryd.ntmps22
    go_wp2
    obtain ⟨it, hit9⟩ : ∃ it, W0.heap.size = it := ⟨_, rfl⟩
    have hBi : Below W0.heap.size W0 (W0.iter a_t 0) := (Below.refl _ W0).alloc (Nat.le_refl _) _
    have hBi' := Aside0.mk hBi
    have hit0 := Aside0.mk (World.iter_heap W0 a_t 0)
    clear hBi
    have hit9' := Aside0.mk hit9
    rw [hit9] at hit0 hBi' ⊢
    clear hit9
    go_loopg [4, 5, 7] a_t.size (fun kq v4 v5 v7 w' => ∃ (pos : Nat) (done : List Int) (b : ByteArray), v4 = .int .i64 (done.length : Int) ∧ v5 = .string b ∧ Aside0 (w'.heap[it]? = some (.stringIter a_t pos)) ∧ Aside0 (a_t.size - pos ≤ kq) ∧ Aside0 (done ++ runesAt a_t pos = runesS a_t) ∧ Aside0 (done.all (okR l_2) = true) ∧ Aside0 (b.data.toList = encL done) ∧ Aside0 (Below it W0 w'))
    case atStart => exact ⟨0, [], ⟨#[]⟩, rfl, rfl, hit0, ⟨by omega⟩, ⟨by rw [runesAt_zero]; rfl⟩, ⟨rfl⟩, ⟨rfl⟩, hBi'⟩
    case round =>
      obtain ⟨pos, done, b, rfl, rfl, hit, hq, hdone, hall, hb, HB⟩ := hrel
      have hdl : done.length ≤ a_t.size := by
        have h1 := congrArg List.length hdone.out
        have h2 := runesS_length a_t
        rw [List.length_append] at h1
        omega
      have hdl' := Aside0.mk hdl
      by_cases hp : pos < a_t.size
      · obtain ⟨g1, rfl⟩ : ∃ g1, gk = g1 + 1 := ⟨gk - 1, by have := hq.out; omega⟩
        have hnx : ∀ ty, (Instr.next (.pointer (some ⟨it, 0, none⟩)) true ty).run Tryd.prog wr = _ := fun ty => run_next_any_at wr it a_t pos ty hit.out hp
        have hsc := scalar_at a_t pos
        have hst := runesAt_step hp
        have hwd := width_at hp
        obtain ⟨R, hRR⟩ : ∃ R : Int, ((Utf8.decode a_t pos).1 : Int) = R := ⟨_, rfl⟩
        rw [hRR] at hsc hst
        simp only [hRR] at hnx
        obtain ⟨pos2, hp2⟩ : ∃ p2, pos + (Utf8.decode a_t pos).2 = p2 := ⟨_, rfl⟩
        rw [hp2] at hst hnx
        obtain ⟨W1, hW1⟩ : ∃ W1, wr.iterAt it a_t pos2 = W1 := ⟨_, rfl⟩
        have hB1 : Below it W0 W1 := by rw [← hW1]; exact below_iterAt HB.out (Nat.le_refl _) _ _
        have hit1 : W1.heap[it]? = some (.stringIter a_t pos2) := by rw [← hW1]; exact iterAt_heap _ _ _ _ _ hit.out
        simp only [hW1] at hnx
        have hB1w : Below W0.heap.size W0 W1 := by rw [hit9'.out]; exact hB1
        have hix1 := hix'.out R W1 hB1w
        obtain ⟨X, hX⟩ : ∃ X, idxI l_2 R = X := ⟨_, rfl⟩
        rw [hX] at hix1
        have hbs : b.size ≤ 4 * done.length := by rw [← sizeL, hb.out]; exact encL_length done
        have hadd : ¬ 9223372036854775807 < b.size + (Utf8.encode R).size := by have := enc_size R hsc; have := hG.out; omega
        have hfin := idx_next (i := done.length) (n := done.length + 1) (by omega) (by have := hG.out; omega)
        have hfin' := Aside0.mk hfin
        have hst' := Aside0.mk hst
        have hsc' := Aside0.mk hsc
        have hw' : Aside0 (pos < pos2) := ⟨by omega⟩
        have hB1' := Aside0.mk hB1
        have hB1w' := Aside0.mk hB1w
        have hit1' := Aside0.mk hit1
        have hX' := Aside0.mk hX
        obtain ⟨D, hD⟩ : ∃ D, done.length = D := ⟨_, rfl⟩
        have hD' := Aside0.mk hD
        rw [hD] at hfin ⊢
        clear hst hsc hwd hp hB1 hit1 hB1w hW1 hX hp2 hRR hbs hdl hD
        by_cases c1 : R ≤ 32
        · have c1b : decide (R ≤ 32) = true := decide_eq_true c1
          have hRf : okR l_2 R = false := by unfold okR; rw [c1b]; rfl
          obtain rfl : r = false := by rw [← hr'.out]; unfold orthP stopOk; rw [← hdone.out, List.all_append, hst'.out, List.all_cons, hRf]; simp
          clear hRf
          go_wp2
          go_ret
          exact ⟨rfl, hB0'.out.trans (hB1w'.out.mono hB0'.out.size)⟩
        · have c1b : decide (R ≤ 32) = false := decide_eq_false c1
          have c1' := Aside0.mk c1
          by_cases c2 : R = 45
          · have c2b : (R == 45) = true := beq_iff_eq.2 c2
            have hRf : okR l_2 R = false := by unfold okR; rw [c2b]; simp
            obtain rfl : r = false := by rw [← hr'.out]; unfold orthP stopOk; rw [← hdone.out, List.all_append, hst'.out, List.all_cons, hRf]; simp
            clear hRf c2
            go_wp2
            go_ret
            exact ⟨rfl, hB0'.out.trans (hB1w'.out.mono hB0'.out.size)⟩
          · have c2b : (R == 45) = false := beq_eq_false_iff_ne.2 c2
            by_cases c3 : R = 61
            · have c3b : (R == 61) = true := beq_iff_eq.2 c3
              have hRf : okR l_2 R = false := by unfold okR; rw [c3b]; simp
              obtain rfl : r = false := by rw [← hr'.out]; unfold orthP stopOk; rw [← hdone.out, List.all_append, hst'.out, List.all_cons, hRf]; simp
              clear hRf c3
              go_wp2
              go_ret
              exact ⟨rfl, hB0'.out.trans (hB1w'.out.mono hB0'.out.size)⟩
            · have c3b : (R == 61) = false := beq_eq_false_iff_ne.2 c3
              have hdx := idx_isL l_2 R
              rw [hX'.out] at hdx
              clear c1 c2 c3
              by_cases c4 : 0 ≤ X
              · have c4b : decide (X ≥ 0) = true := decide_eq_true c4
                have c4c : isL l_2 R = true := by rw [← hdx]; exact c4b
                have hRf : okR l_2 R = false := by unfold okR; rw [c4c]; simp
                obtain rfl : r = false := by rw [← hr'.out]; unfold orthP stopOk; rw [← hdone.out, List.all_append, hst'.out, List.all_cons, hRf]; simp
                clear hRf c4c hdx c4b
                go_wp2_with (go_at_call 40; refine hix1.mono ?_; clear hix1; rintro e w5 ⟨rfl, ⟨nd, rfl⟩⟩)
                go_ret
                exact ⟨rfl, hB0'.out.trans ((pw_below_drewN hB1w'.out nd).mono hB0'.out.size)⟩
              · have c4b : decide (X ≥ 0) = false := decide_eq_false c4
                have c4c : isL l_2 R = false := by rw [← hdx]; exact c4b
                have hRt : Aside0 (okR l_2 R = true) := ⟨by unfold okR; rw [c1b, c2b, c3b, c4c]; rfl⟩
                clear c4c hdx c4b
                go_wp2_with (go_at_call 40; refine hix1.mono ?_; clear hix1; rintro e w5 ⟨rfl, ⟨nd, rfl⟩⟩)
                go_roundg g1
                case measure => omega
                case rel =>
                  refine ⟨pos2, done ++ [R], b ++ Utf8.encode R, ?_, rfl, hit1', ⟨by have := hq.out; have := hw'.out; omega⟩, ⟨by rw [List.append_assoc, List.singleton_append, ← hst'.out]; exact hdone.out⟩, ⟨by rw [List.all_append, hall.out]; simp [hRt.out]⟩, ⟨enc_snoc b done R hb.out hsc'.out⟩, ⟨pw_below_drewN hB1'.out nd⟩⟩
                  rw [List.length_append, hD'.out]
                  first | rfl | (rw [← hfin'.out, hD'.out])
      · have hnx : ∀ ty, (Instr.next (.pointer (some ⟨it, 0, none⟩)) true ty).run Tryd.prog wr = _ := fun ty => run_next_end_at wr it a_t pos ty hit.out hp
        have hre := runesAt_end hp
        have hd : done = runesS a_t := by rw [← hdone.out, hre, List.append_nil]
        have HBw : Below W0.heap.size W0 wr := by rw [hit9'.out]; exact HB.out
        obtain ⟨k2, k9, k29⟩ := hcell'.out wr HBw
        have hlv1 := hlv'.out wr HBw
        have hv : (b.toList == a_t.toList) = validD a_t.data.toList := by
          cases e : validD a_t.data.toList with
          | true =>
            refine beq_iff_eq.2 ?_
            rw [ByteArray.toList_eq, ByteArray.toList_eq, hb.out, hd]
            exact (valid_iff _).1 e
          | false =>
            refine beq_eq_false_iff_ne.2 fun h => ?_
            rw [ByteArray.toList_eq, ByteArray.toList_eq, hb.out, hd] at h
            have := (valid_iff a_t.data.toList).2 h
            rw [e] at this; cases this
        have hall2 := hall.out
        have hrr : r = ((decide (done.length = 1) && validD a_t.data.toList) && cliticP l_2 l_9) := by rw [← hr'.out]; unfold orthP stopOk; rw [← hd, hall2, Bool.true_and]
        have hrr' := Aside0.mk hrr
        have HBw' := Aside0.mk HBw
        clear hre hd hall2 hp hrr HBw hdl
        by_cases d1 : done.length = 1
        · have d1b : ((done.length : Int) == 1) = true := beq_iff_eq.2 (by omega)
          have d1c := Aside0.mk (decide_eq_true d1)
          obtain ⟨D, hD⟩ : ∃ D, (done.length : Int) = D := ⟨_, rfl⟩
          rw [hD] at d1b ⊢
          clear d1 hD
          cases d2 : validD a_t.data.toList with
          | false =>
            rw [d2] at hv
            obtain rfl : r = false := by rw [hrr'.out, d2]; simp
            clear d2
            go_wp2
            go_ret
            exact ⟨rfl, hB0'.out.trans (HBw'.out.mono hB0'.out.size)⟩
          | true =>
            rw [d2] at hv
            obtain ⟨C, hC⟩ : ∃ C, cliticP l_2 l_9 = C := ⟨_, rfl⟩
            rw [hC] at hlv1
            obtain rfl : r = C := by rw [hrr'.out, d2, d1c.out, hC]; simp
            clear d2 hC
            go_wp2_with (go_at_call 41; refine hlv1.mono ?_; clear hlv1; rintro e w6 ⟨rfl, hB6⟩)
            go_ret
            exact ⟨rfl, hB0'.out.trans ((HBw'.out.trans (hB6.mono HBw'.out.size)).mono hB0'.out.size)⟩
        · have d1b : ((done.length : Int) == 1) = false := beq_eq_false_iff_ne.2 (by omega)
          obtain rfl : r = false := by rw [hrr'.out, decide_eq_false d1]; simp
          obtain ⟨D, hD⟩ : ∃ D, (done.length : Int) = D := ⟨_, rfl⟩
          rw [hD] at d1b ⊢
          clear d1 hD
          go_wp2
          go_ret
          exact ⟨rfl, hB0'.out.trans (HBw'.out.mono hB0'.out.size)⟩
  · rw [if_neg hg] at h; cases h
def stopC (l : List S80) (s : ByteArray) : Bool := decide (0 < (decodeGo s).2) && (decide ((decodeGo s).2 = s.size) && (decide (¬ (decodeGo s).1 = 65533 ∨ (decodeGo s).2 = 3) && okR l ((decodeGo s).1 : Int)))
theorem replacement_width (l : List UInt8) (hne : l ≠ []) (h : (decodeL l).1 = 65533) (h2 : (decodeL l).2 ≤ l.length) : (decodeL l).2 = 1 ∨ (decodeL l).2 = 3 := by
  by_cases h1 : (decodeL l).2 = 1
  · exact .inl h1
  · have e := encode_decode l hne (fun h3 => h1 h3.2)
    rw [h] at e
    have e2 := congrArg List.length e
    rw [List.length_take, Nat.min_eq_left h2] at e2
    refine .inr (e2.symm.trans ?_)
    decide
theorem width_le (l : List UInt8) (hne : l ≠ []) : (decodeL l).2 ≤ l.length := by
  have hl : 0 < l.length := List.length_pos_iff.2 hne
  rw [decodeL_N]
  unfold decodeN
  repeat' split
  all_goals (simp only; omega)
theorem decodeGo_L (s : ByteArray) (h : 0 < s.size) : decodeGo s = decodeL s.data.toList := by
  unfold decodeGo
  rw [if_neg (by omega)]
  have := decodeL_drop s 0
  rw [List.drop_zero] at this
  exact this.symm
theorem stop_eq (l : List S80) (s : ByteArray) : stopC l s = stopOk l s := by
  by_cases hz : 0 < s.size
  · have hne : s.data.toList ≠ [] := fun e => by
      have := congrArg List.length e
      rw [sizeL, List.length_nil] at this; omega
    have hle : (decodeL s.data.toList).2 ≤ s.size := by rw [← sizeL]; exact width_le _ hne
    unfold stopC stopOk runesS
    rw [decodeGo_L s hz]
    have hw := width_pos _ hne
    rw [runesL_step _ hne, validD_step _ hne]
    rw [decide_eq_true (show 0 < (decodeL s.data.toList).2 by omega), Bool.true_and]
    by_cases hn : (decodeL s.data.toList).2 = s.size
    · have hd : s.data.toList.drop (decodeL s.data.toList).2 = [] := List.drop_of_length_le (by rw [sizeL]; omega)
      rw [hd, runesL_nil, decide_eq_true hn, Bool.true_and]
      have hr := fun h => replacement_width _ hne h (by rw [sizeL]; exact hle)
      rw [List.all_cons, List.all_nil, Bool.and_true, decide_eq_true (show [((decodeL s.data.toList).1 : Int)].length = 1 from rfl), Bool.true_and, Bool.and_comm]
      congr 1
      by_cases h9 : (decodeL s.data.toList).1 = 65533
      · rcases hr h9 with h8 | h8
        · rw [if_pos ⟨h9, h8⟩, decide_eq_false (by omega)]
        · rw [if_neg (by omega), decide_eq_true (.inr h8)]; rfl
      · rw [if_neg (fun h => h9 h.1), decide_eq_true (.inl h9)]; rfl
    · rw [decide_eq_false hn, Bool.false_and]
      have hd : 0 < (s.data.toList.drop (decodeL s.data.toList).2).length := by rw [List.length_drop, sizeL]; omega
      have hd2 : s.data.toList.drop (decodeL s.data.toList).2 ≠ [] := fun e => by rw [e] at hd; simp at hd
      rw [runesL_step _ hd2, decide_eq_false (by simp), Bool.false_and, Bool.and_false]
  · have he : s.data.toList = [] := List.eq_nil_of_length_eq_zero (by rw [sizeL]; omega)
    unfold stopC stopOk runesS decodeGo
    rw [if_pos (by omega), he, runesL_nil]; rfl
theorem valid_ev (a_0 : ByteArray) (a_1 : Bool) (l_2 : List (S80)) (l_3 : List (S85)) (l_4 : List (S180)) (l_5 : List (S183)) (l_6 : List (List Int)) (a_7 : Int) (a_8 : Int) (l_9 : List (S85)) (a_a : Int) (l_b : List ByteArray) (l_c : List ByteArray) (a_d : Bool) (a_e : ByteArray) (a_f : Int) (a_g : ByteArray) (a_h : Bool) (a_i : Int) (a_j : Int) (l_k : List (S186)) (l_l : List (S186)) (l_m : List ByteArray) (l_n : List ByteArray) (l_o : List ByteArray) (a_p : Bool) (l_q : List (S188)) (l_r : List (S190)) (l_s : List (S194)) (a_t : ByteArray) (h1 : runesOk l_2 = true) (h2 : l_9.all smallR = true) : Ev (fun k => orthography_valid.f k a_0 a_1 l_2 l_3 l_4 l_5 l_6 a_7 a_8 l_9 a_a l_b l_c a_d a_e a_f a_g a_h a_i a_j l_k l_l l_m l_n l_o a_p l_q l_r l_s a_t) (orthP l_2 l_9 a_t) := by
  unfold orthP
  rw [← stop_eq, Bool.and_comm]
  obtain ⟨r, hr⟩ : ∃ r, (decodeGo a_t).1 = r := ⟨_, rfl⟩
  obtain ⟨n, hn⟩ : ∃ n, (decodeGo a_t).2 = n := ⟨_, rfl⟩
  have hsc : scalar (r : Int) := by
    rw [← hr]
    unfold decodeGo
    split
    · exact ⟨by decide, by decide⟩
    · exact scalar_at _ _
  have hdec : utf8_DecodeRuneInString.f a_t = some ((r : Int), (n : Int)) := by unfold utf8_DecodeRuneInString.f; rw [hr, hn]
  have hix : alphabet_Index.f l_2 (r : Int) = some (idxI l_2 r) := by unfold alphabet_Index.f; rw [if_pos ⟨h1, scalar_wf hsc⟩]
  have hid : decide (idxI l_2 (r : Int) < 0) = !isL l_2 r := by
    have := idx_isL l_2 (r : Int)
    by_cases c : idxI l_2 (r : Int) ≥ 0
    · rw [decide_eq_true c] at this; rw [decide_eq_false (by omega), ← this]; rfl
    · rw [decide_eq_false c] at this; rw [decide_eq_true (by omega), ← this]; rfl
  have e : ∀ k, orthography_valid.f k a_0 a_1 l_2 l_3 l_4 l_5 l_6 a_7 a_8 l_9 a_a l_b l_c a_d a_e a_f a_g a_h a_i a_j l_k l_l l_m l_n l_o a_p l_q l_r l_s a_t = (clitic_Valid.f k l_2 l_9).bind fun t129 => some (t129 && stopC l_2 a_t) := by
    intro k
    unfold orthography_valid.f
    rw [hdec, Option.bind_some]
    congr 1
    funext t
    unfold stopC okR
    rw [hr, hn]
    cases t with
    | false => rfl
    | true =>
      rw [Bool.true_and, if_pos rfl]
      by_cases c1 : 0 < n
      · rw [if_pos (by simp; omega), decide_eq_true c1, Bool.true_and]
        by_cases c2 : n = a_t.size
        · rw [if_pos (by simp; omega), decide_eq_true c2, Bool.true_and]
          have rest : (if (r : Int) > 32 then (if (r : Int) = 45 then (some false) else (if (r : Int) = 61 then (some false) else ((alphabet_Index.f l_2 (r : Int)).bind fun t131 => (some (decide (t131 < 0)))))) else (some false)) = some (!decide ((r : Int) ≤ 32) && (!((r : Int) == 45) && (!((r : Int) == 61) && !isL l_2 r))) := by
            by_cases d1 : (r : Int) > 32
            · rw [if_pos d1, decide_eq_false (by omega)]
              by_cases d2 : (r : Int) = 45
              · rw [if_pos d2, beq_iff_eq.2 d2]; rfl
              · rw [if_neg d2, beq_eq_false_iff_ne.2 d2]
                by_cases d3 : (r : Int) = 61
                · rw [if_pos d3, beq_iff_eq.2 d3]; rfl
                · rw [if_neg d3, beq_eq_false_iff_ne.2 d3, hix, Option.bind_some, hid]; rfl
            · rw [if_neg d1, decide_eq_true (by omega)]; rfl
          by_cases c3 : r = 65533
          · rw [if_pos (show (r : Int) = 65533 by omega)]
            by_cases c4 : n = 3
            · rw [if_pos (show (n : Int) = 3 by omega), decide_eq_true (.inr c4), Bool.true_and]
              exact rest
            · rw [if_neg (show ¬ (n : Int) = 3 by omega), decide_eq_false (by omega)]; rfl
          · rw [if_neg (show ¬ (r : Int) = 65533 by omega), decide_eq_true (.inl c3), Bool.true_and]
            exact rest
        · rw [if_neg (by simp; omega), decide_eq_false c2]; rfl
      · rw [if_neg (by simp; omega), decide_eq_false c1]; rfl
  exact Ev.congr e (Ev.bind (clitic_ev l_2 l_9 h1 h2) (Ev.now _))
theorem valid_calls (a_0 : ByteArray) (a_1 : Bool) (A_2 : Option Addr) (c_2 : Nat) (l_2 : List (S80)) (A_3 : Option Addr) (c_3 : Nat) (l_3 : List (S85)) (A_4 : Option Addr) (c_4 : Nat) (l_4 : List (S180)) (A_5 : Option Addr) (c_5 : Nat) (l_5 : List (S183)) (A_6 : Option Addr) (c_6 : Nat) (l_6 : List (List Int)) (a_7 : Int) (a_8 : Int) (A_9 : Option Addr) (c_9 : Nat) (l_9 : List (S85)) (a_a : Int) (A_b : Option Addr) (c_b : Nat) (l_b : List ByteArray) (A_c : Option Addr) (c_c : Nat) (l_c : List ByteArray) (a_d : Bool) (a_e : ByteArray) (a_f : Int) (a_g : ByteArray) (a_h : Bool) (a_i : Int) (a_j : Int) (A_k : Option Addr) (c_k : Nat) (l_k : List (S186)) (A_l : Option Addr) (c_l : Nat) (l_l : List (S186)) (A_m : Option Addr) (c_m : Nat) (l_m : List ByteArray) (A_n : Option Addr) (c_n : Nat) (l_n : List ByteArray) (A_o : Option Addr) (c_o : Nat) (l_o : List ByteArray) (a_p : Bool) (A_q : Option Addr) (c_q : Nat) (l_q : List (S188)) (A_r : Option Addr) (c_r : Nat) (l_r : List (S190)) (A_s : Option Addr) (c_s : Nat) (l_s : List (S194)) (a_t : ByteArray) (w : World) (hT : Tabs w) (hr_2 : Kd.C k80 w A_2 l_2.length l_2) (hc_2 : l_2.length ≤ c_2) (hr_3 : Kd.C k85 w A_3 l_3.length l_3) (hc_3 : l_3.length ≤ c_3) (hr_4 : Kd.C k180 w A_4 l_4.length l_4) (hc_4 : l_4.length ≤ c_4) (hr_5 : Kd.C k183 w A_5 l_5.length l_5) (hc_5 : l_5.length ≤ c_5) (hr_6 : Kd.C (Kd.slice 78 (Kd.int .u32)) w A_6 l_6.length l_6) (hc_6 : l_6.length ≤ c_6) (hr_9 : Kd.C k85 w A_9 l_9.length l_9) (hc_9 : l_9.length ≤ c_9) (hr_b : Kd.C Kd.string w A_b l_b.length l_b) (hc_b : l_b.length ≤ c_b) (hr_c : Kd.C Kd.string w A_c l_c.length l_c) (hc_c : l_c.length ≤ c_c) (hr_k : Kd.C k186 w A_k l_k.length l_k) (hc_k : l_k.length ≤ c_k) (hr_l : Kd.C k186 w A_l l_l.length l_l) (hc_l : l_l.length ≤ c_l) (hr_m : Kd.C Kd.string w A_m l_m.length l_m) (hc_m : l_m.length ≤ c_m) (hr_n : Kd.C Kd.string w A_n l_n.length l_n) (hc_n : l_n.length ≤ c_n) (hr_o : Kd.C Kd.string w A_o l_o.length l_o) (hc_o : l_o.length ≤ c_o) (hr_q : Kd.C k188 w A_q l_q.length l_q) (hc_q : l_q.length ≤ c_q) (hr_r : Kd.C k190 w A_r l_r.length l_r) (hc_r : l_r.length ≤ c_r) (hr_s : Kd.C k194 w A_s l_s.length l_s) (hc_s : l_s.length ≤ c_s) (h1 : runesOk l_2 = true) (h2 : l_9.all smallR = true) :
    Calls Tryd.prog 18 #[.agg #[.string a_0, .bool a_1, .slice A_2 l_2.length c_2, .slice A_3 l_3.length c_3, .slice A_4 l_4.length c_4, .slice A_5 l_5.length c_5, .slice A_6 l_6.length c_6, .int .i64 a_7, .int .i64 a_8, .slice A_9 l_9.length c_9, .int .i64 a_a, .slice A_b l_b.length c_b, .slice A_c l_c.length c_c, .bool a_d, .string a_e, .int .i64 a_f, .string a_g, .bool a_h, .int .i64 a_i, .int .i64 a_j, .slice A_k l_k.length c_k, .slice A_l l_l.length c_l, .slice A_m l_m.length c_m, .slice A_n l_n.length c_n, .slice A_o l_o.length c_o, .bool a_p, .slice A_q l_q.length c_q, .slice A_r l_r.length c_r, .slice A_s l_s.length c_s, .string a_t]] w fun e w' => e = .returned (.bool (orthP l_2 l_9 a_t)) ∧ Below w.heap.size w w' := by
  obtain ⟨k, hk⟩ := (valid_ev a_0 a_1 l_2 l_3 l_4 l_5 l_6 a_7 a_8 l_9 a_a l_b l_c a_d a_e a_f a_g a_h a_i a_j l_k l_l l_m l_n l_o a_p l_q l_r l_s a_t h1 h2).rounds
  exact orthography_valid.calls k a_0 a_1 A_2 c_2 l_2 A_3 c_3 l_3 A_4 c_4 l_4 A_5 c_5 l_5 A_6 c_6 l_6 a_7 a_8 A_9 c_9 l_9 a_a A_b c_b l_b A_c c_c l_c a_d a_e a_f a_g a_h a_i a_j A_k c_k l_k A_l c_l l_l A_m c_m l_m A_n c_n l_n A_o c_o l_o a_p A_q c_q l_q A_r c_r l_r A_s c_s l_s a_t _ w hT hr_2 hc_2 hr_3 hc_3 hr_4 hc_4 hr_5 hc_5 hr_6 hc_6 hr_9 hc_9 hr_b hc_b hr_c hc_c hr_k hc_k hr_l hc_l hr_m hc_m hr_n hc_n hr_o hc_o hr_q hc_q hr_r hc_r hr_s hc_s hk
theorem stop_rune {l : List S80} {s : ByteArray} (h : stopOk l s = true) : s.data.toList = encodeRune ((decodeGo s).1 : Int) ∧ scalar ((decodeGo s).1 : Int) ∧ okR l ((decodeGo s).1 : Int) = true := by
  have hc := h
  rw [← stop_eq] at hc
  unfold stopC at hc
  simp only [Bool.and_eq_true, decide_eq_true_eq] at hc
  unfold stopOk at h
  simp only [Bool.and_eq_true, decide_eq_true_eq] at h
  have hz : 0 < s.size := by omega
  have hne : s.data.toList ≠ [] := fun e => by
    have := congrArg List.length e
    rw [sizeL, List.length_nil] at this; omega
  have hb := (valid_iff s.data.toList).1 h.2.2
  have hs : runesL s.data.toList = [((decodeGo s).1 : Int)] := by
    rw [decodeGo_L s hz] at hc ⊢
    rw [runesL_step _ hne, List.drop_of_length_le (by rw [sizeL]; omega), runesL_nil]
  refine ⟨?_, ?_, hc.2.2.2⟩
  · rw [← hb, hs]; simp [encL]
  · exact scalar_runes s.data.toList _ (by rw [hs]; simp)
end Go.Proofs.YtfbhdjflkaldgaaDoor.Pr
