/- Several texts in one: Rdf, NewR, Rdr. -/
import Derived.Test.YtfbhdjflkaldgaaDoorSeg
import Derived.Recover
import Derived.WalkLawsBesides
import Derived.Test.YtfbhdjflkaldgaaDoorMg2
/- The reader's deferred closure. -/
/- orthography.newReader. -/
/- A reader of runes against splitting at blanks: no program in sight. -/
namespace Go.Proofs.YtfbhdjflkaldgaaDoor.Pr
open Go.Proofs.YtfbhdjflkaldgaaDoor.Ct Go.RowKit Go.Maps Go.Lib Go.Proofs.YtfbhdjflkaldgaaDoorW.PrintWords Go.Proofs.YtfbhdjflkaldgaaDoorW.PrintLast Go.Proofs.YtfbhdjflkaldgaaDoorW.PrintMore
set_option linter.unusedVariables false
set_option linter.unusedSimpArgs false
theorem catch_panicking (p q : Addr) (x y : Value) (u : TypeId) (pv : Value) (older : List PanicEntry) (w : World) (hpq : p ≠ q) (hc : w.cell? p = some x) (hz : w.frozen? p = false) (hc2 : w.cell? q = some y) (hz2 : w.frozen? q = false) :
    CallsD Tryd.prog 35 #[.pointer (some p), .pointer (some q)] (.panicking ({ v := .iface u pv, recovered := false } :: older)) w fun e u' w' =>
      e = .returned (.tuple #[]) ∧ u' = .panicking ({ v := .iface u pv, recovered := true } :: older) ∧ w' = (w.setCell p (.slice none 0 0)).setCell q (.bool false) := by
  refine callsD_of_wpS Tryd.func35 rfl fun c₀ cs hu => ?_
  apply wpS_seq
  apply wpS_region
  simp [wpOpsS, go_sem, recoverD, hu, Tryd.ntmps35, Exit.thenS]
  apply wpS_seq
  apply wpS_region
  simp [wpOpsS, go_sem, Exit.thenS]
  refine wpS_cond (t := true) (by simp [Act.eval, Array.replicate]) ?_
  simp only [if_true]
  apply wpS_region
  have hc3 : (w.setCell p (.slice none 0 0)).cell? q = some y := by simp [go_sem, hpq, hc2]
  simp [wpOpsS, go_sem, hc, hz, hc3, hz2, bodyPostS, results, Tryd.results35]
theorem catch_idle (p q : Addr) (w : World) :
    CallsD Tryd.prog 35 #[.pointer (some p), .pointer (some q)] .returning w fun e u' w' => e = .returned (.tuple #[]) ∧ u' = .returning ∧ w' = w := by
  refine callsD_of_wpS Tryd.func35 rfl fun c₀ cs hu => ?_
  apply wpS_seq
  apply wpS_region
  simp [wpOpsS, go_sem, recoverD, hu, Tryd.ntmps35, Exit.thenS]
  apply wpS_seq
  apply wpS_region
  simp [wpOpsS, go_sem, Exit.thenS]
  refine wpS_cond (t := false) (by simp [Act.eval, Array.replicate]) ?_
  simp only [Bool.false_eq_true, if_false]
  refine wpS_of_wp (wp_skip ?_)
  cases c₀
  simp_all [bodyPostS, results, Tryd.results35]
def mapB (l : List S80) : Nat → DataW Unit
  | 0 => .map []
  | k + 1 => (mapB l k).put (rkey (rd_T80 l (k : Int)).f0) (.lit (.bool true))
theorem isMap_mapB (l : List S80) : ∀ k, Maps.IsMap (mapB l k)
  | 0 => Maps.isMap_empty
  | k + 1 => (isMap_mapB l k).put _ _
theorem at_mapB (l : List S80) (r : Int) : ∀ k, (mapB l k).atKey (rkey r) (.lit (.bool false)) = .lit (.bool (look l k r).isSome)
  | 0 => rfl
  | k + 1 => by
    have ih := at_mapB l r k
    unfold mapB look
    by_cases hr : (rd_T80 l (k : Int)).f0 = r
    · rw [hr, Maps.atKey_put_same (isMap_mapB l k) (keyLit r)]
      cases look l k r <;> simp
    · rw [Maps.atKey_put_other (rkey_ne (fun e => hr e.symm)), ih]
      cases e : look l k r with
      | some j => rfl
      | none => simp [hr]
theorem zeroB (w : World) : (zeroValue 4).run Tryd.prog w = .ok (.bool false) w := by kernel_rfl
def SetAt (w : World) (mb : Nat) (l : List S80) (k : Nat) : Prop := w.ownsMap Tryd.prog 21 (plainElem (H := Unit) Tryd.prog 4) mb k (mapB l k)
theorem SetAt.look {w : World} {mb : Nat} {l : List S80} (h : SetAt w mb l l.length) (r : Int) (hr : (Lit.int .i32 r).wf = true) : (Instr.lookup 89 (.map (some mb)) (.int .i32 r) false).run Tryd.prog w = .ok (.bool (isL l r)) w := by
  obtain ⟨v, ps, hrun, hv⟩ := World.ownsMap.lookup h keyR Tryd.underlying89 (zeroB w) (plainElem_bool Tryd.underlying4 false) (keyOf_int_mk Tryd.underlying21 hr)
  rw [hrun]
  have h2 := at_mapB l r l.length
  unfold rkey at h2
  rw [h2] at hv
  have : v = .bool (isL l r) := by
    unfold plainElem at hv
    split at hv
    · rename_i x heq; cases hv; rfl
    · split at hv <;> cases hv
    · split at hv <;> cases hv
    · cases hv
  rw [this]
theorem SetAt.put {w : World} {mb : Nat} {l : List S80} {k : Nat} (h : SetAt w mb l k) (hk : k < maxLen) (r : Int) (hr : (Lit.int .i32 r).wf = true) (he : (rd_T80 l (k : Int)).f0 = r) : ∃ w', (Instr.mapUpdate 89 (.map (some mb)) (.int .i32 r) (.bool true)).run Tryd.prog w = .ok () w' ∧ SetAt w' mb l (k + 1) ∧ w.grownBy w' (some mb) := by
  obtain ⟨w', h1, h2, h3⟩ := World.ownsMap.update h keyR Tryd.underlying89 hk (keyOf_int_mk Tryd.underlying21 hr) (plainElem_bool Tryd.underlying4 true)
  refine ⟨w', h1, ?_, h3⟩
  unfold SetAt mapB rkey
  rw [he]; exact h2
def ReaderAt (w : World) (B mb : Nat) (l : List S80) (stop : Int) : Prop := w.cell? ⟨B, 30, none⟩ = some (.map (some mb)) ∧ w.cell? ⟨B, 31, none⟩ = some (.int .i32 stop) ∧ SetAt w mb l l.length
set_option maxRecDepth 100000 in
set_option maxHeartbeats 4000000 in
theorem newReader_calls (a_0 : ByteArray) (a_1 : Bool) (A_2 : Option Addr) (c_2 : Nat) (l_2 : List (S80)) (A_3 : Option Addr) (c_3 : Nat) (l_3 : List (S85)) (A_4 : Option Addr) (c_4 : Nat) (l_4 : List (S180)) (A_5 : Option Addr) (c_5 : Nat) (l_5 : List (S183)) (A_6 : Option Addr) (c_6 : Nat) (l_6 : List (List Int)) (a_7 : Int) (a_8 : Int) (A_9 : Option Addr) (c_9 : Nat) (l_9 : List (S85)) (a_a : Int) (A_b : Option Addr) (c_b : Nat) (l_b : List ByteArray) (A_c : Option Addr) (c_c : Nat) (l_c : List ByteArray) (a_d : Bool) (a_e : ByteArray) (a_f : Int) (a_g : ByteArray) (a_h : Bool) (a_i : Int) (a_j : Int) (A_k : Option Addr) (c_k : Nat) (l_k : List (S186)) (A_l : Option Addr) (c_l : Nat) (l_l : List (S186)) (A_m : Option Addr) (c_m : Nat) (l_m : List ByteArray) (A_n : Option Addr) (c_n : Nat) (l_n : List ByteArray) (A_o : Option Addr) (c_o : Nat) (l_o : List ByteArray) (a_p : Bool) (A_q : Option Addr) (c_q : Nat) (l_q : List (S188)) (A_r : Option Addr) (c_r : Nat) (l_r : List (S190)) (A_s : Option Addr) (c_s : Nat) (l_s : List (S194)) (a_t : ByteArray) (w : World) (hT : Tabs w) (hr_2 : Kd.C k80 w A_2 l_2.length l_2) (hc_2 : l_2.length ≤ c_2) (hr_3 : Kd.C k85 w A_3 l_3.length l_3) (hc_3 : l_3.length ≤ c_3) (hr_4 : Kd.C k180 w A_4 l_4.length l_4) (hc_4 : l_4.length ≤ c_4) (hr_5 : Kd.C k183 w A_5 l_5.length l_5) (hc_5 : l_5.length ≤ c_5) (hr_6 : Kd.C (Kd.slice 78 (Kd.int .u32)) w A_6 l_6.length l_6) (hc_6 : l_6.length ≤ c_6) (hr_9 : Kd.C k85 w A_9 l_9.length l_9) (hc_9 : l_9.length ≤ c_9) (hr_b : Kd.C Kd.string w A_b l_b.length l_b) (hc_b : l_b.length ≤ c_b) (hr_c : Kd.C Kd.string w A_c l_c.length l_c) (hc_c : l_c.length ≤ c_c) (hr_k : Kd.C k186 w A_k l_k.length l_k) (hc_k : l_k.length ≤ c_k) (hr_l : Kd.C k186 w A_l l_l.length l_l) (hc_l : l_l.length ≤ c_l) (hr_m : Kd.C Kd.string w A_m l_m.length l_m) (hc_m : l_m.length ≤ c_m) (hr_n : Kd.C Kd.string w A_n l_n.length l_n) (hc_n : l_n.length ≤ c_n) (hr_o : Kd.C Kd.string w A_o l_o.length l_o) (hc_o : l_o.length ≤ c_o) (hr_q : Kd.C k188 w A_q l_q.length l_q) (hc_q : l_q.length ≤ c_q) (hr_r : Kd.C k190 w A_r l_r.length l_r) (hc_r : l_r.length ≤ c_r) (hr_s : Kd.C k194 w A_s l_s.length l_s) (hc_s : l_s.length ≤ c_s) (hg : runesOk l_2 = true) :
    Calls Tryd.prog 19 #[.agg #[.string a_0, .bool a_1, .slice A_2 l_2.length c_2, .slice A_3 l_3.length c_3, .slice A_4 l_4.length c_4, .slice A_5 l_5.length c_5, .slice A_6 l_6.length c_6, .int .i64 a_7, .int .i64 a_8, .slice A_9 l_9.length c_9, .int .i64 a_a, .slice A_b l_b.length c_b, .slice A_c l_c.length c_c, .bool a_d, .string a_e, .int .i64 a_f, .string a_g, .bool a_h, .int .i64 a_i, .int .i64 a_j, .slice A_k l_k.length c_k, .slice A_l l_l.length c_l, .slice A_m l_m.length c_m, .slice A_n l_n.length c_n, .slice A_o l_o.length c_o, .bool a_p, .slice A_q l_q.length c_q, .slice A_r l_r.length c_r, .slice A_s l_s.length c_s, .string a_t]] w fun e w' => ∃ B mb, e = .returned (.pointer (some ⟨B, 0, none⟩)) ∧ ReaderAt w' B mb l_2 ((decodeGo a_t).1 : Int) ∧ Below w.heap.size w w' := by
  have hu41 := Tryd.underlying41
  have hu91 := Tryd.underlying91
  obtain ⟨W0, hW0⟩ : ∃ W0, w.alloc (.cells #[.string a_0, .bool a_1, .slice A_2 l_2.length c_2, .slice A_3 l_3.length c_3, .slice A_4 l_4.length c_4, .slice A_5 l_5.length c_5, .slice A_6 l_6.length c_6, .int .i64 a_7, .int .i64 a_8, .slice A_9 l_9.length c_9, .int .i64 a_a, .slice A_b l_b.length c_b, .slice A_c l_c.length c_c, .bool a_d, .string a_e, .int .i64 a_f, .string a_g, .bool a_h, .int .i64 a_i, .int .i64 a_j, .slice A_k l_k.length c_k, .slice A_l l_l.length c_l, .slice A_m l_m.length c_m, .slice A_n l_n.length c_n, .slice A_o l_o.length c_o, .bool a_p, .slice A_q l_q.length c_q, .slice A_r l_r.length c_r, .slice A_s l_s.length c_s, .string a_t] 41) = W0 := ⟨_, rfl⟩
  have hB0 : Below w.heap.size w W0 := by rw [← hW0]; exact (Below.refl _ w).alloc (Nat.le_refl _) _
  have hsz0 : w.heap.size < W0.heap.size := by rw [← hW0]; simp
  have hblk : ∀ w1, Below W0.heap.size W0 w1 → w1.heap[w.heap.size]? = some (.cells #[.string a_0, .bool a_1, .slice A_2 l_2.length c_2, .slice A_3 l_3.length c_3, .slice A_4 l_4.length c_4, .slice A_5 l_5.length c_5, .slice A_6 l_6.length c_6, .int .i64 a_7, .int .i64 a_8, .slice A_9 l_9.length c_9, .int .i64 a_a, .slice A_b l_b.length c_b, .slice A_c l_c.length c_c, .bool a_d, .string a_e, .int .i64 a_f, .string a_g, .bool a_h, .int .i64 a_i, .int .i64 a_j, .slice A_k l_k.length c_k, .slice A_l l_l.length c_l, .slice A_m l_m.length c_m, .slice A_n l_n.length c_n, .slice A_o l_o.length c_o, .bool a_p, .slice A_q l_q.length c_q, .slice A_r l_r.length c_r, .slice A_s l_s.length c_s, .string a_t] 41 (0, 0)) := by
    intro w1 hB
    refine (hB.block _ hsz0).trans ?_
    rw [← hW0]; exact World.alloc_heap_new w _
  have hmm : ∀ w, (Instr.makeMap 89 none).run Tryd.prog w = .ok (.map (some w.heap.size)) (w.alloc (.map #[] 0)) := by
    intro w
    simp [Instr.makeMap, run_underlying Tryd.underlying89, Result.andThen]
  have hbk0 := hblk _ (Below.refl _ _)
  have hB0' := Aside0.mk hB0
  have hblk' := Aside0.mk hblk
  have hR := Aside0.mk hr_2
  have hRO := Aside0.mk hg
  have hT' := Aside0.mk hT
  have hLl := Aside0.mk hr_2.2.1
  obtain ⟨cs, hcs⟩ : ∃ cs : Array Value, #[.string a_0, .bool a_1, .slice A_2 l_2.length c_2, .slice A_3 l_3.length c_3, .slice A_4 l_4.length c_4, .slice A_5 l_5.length c_5, .slice A_6 l_6.length c_6, .int .i64 a_7, .int .i64 a_8, .slice A_9 l_9.length c_9, .int .i64 a_a, .slice A_b l_b.length c_b, .slice A_c l_c.length c_c, .bool a_d, .string a_e, .int .i64 a_f, .string a_g, .bool a_h, .int .i64 a_i, .int .i64 a_j, .slice A_k l_k.length c_k, .slice A_l l_l.length c_l, .slice A_m l_m.length c_m, .slice A_n l_n.length c_n, .slice A_o l_o.length c_o, .bool a_p, .slice A_q l_q.length c_q, .slice A_r l_r.length c_r, .slice A_s l_s.length c_s, .string a_t, .map (some W0.heap.size), .int .i32 0] = cs := ⟨_, rfl⟩
  have hc30 : cs[30]? = some (.map (some W0.heap.size)) := by rw [← hcs]; rfl
  have hc31 : cs[31]? = some (.int .i32 0) := by rw [← hcs]; rfl
  obtain ⟨WM, hWM0⟩ : ∃ WM, (W0.alloc (.map #[] 0)).alloc (.cells cs 91) = WM := ⟨_, rfl⟩
  have hWM := hWM0
  rw [← hcs] at hWM
  have hsetM : SetAt WM W0.heap.size l_2 0 := by rw [← hWM0]; exact (World.ownsMap_made W0 _ _ _).alloc _
  have hBM : Below W0.heap.size W0 WM := by rw [← hWM0]; exact ((Below.refl _ W0).alloc (Nat.le_refl _) _).alloc (by simp) _
  have hblkM : WM.heap[W0.heap.size + 1]? = some (.cells cs 91 (0, 0)) := by rw [← hWM0]; have := World.alloc_heap_new (W0.alloc (.map #[] 0)) (.cells cs 91); simpa using this
  obtain ⟨mb, hmb⟩ : ∃ mb, W0.heap.size = mb := ⟨_, rfl⟩
  have hk2 : WM.cell? ⟨w.heap.size, 2, none⟩ = some (.slice A_2 l_2.length c_2) := by rw [Lib.cell_of_heap (hblk _ hBM)]; rfl
  have hcs1 := Aside0.mk hc30
  have hcs2 := Aside0.mk hc31
  have hsetM' := Aside0.mk hsetM
  have hBM' := Aside0.mk hBM
  have hblkM' := Aside0.mk hblkM
  have hmb' := Aside0.mk hmb
  have hsz0' := Aside0.mk hsz0
  clear hT hr_2 hr_3 hr_4 hr_5 hr_6 hr_9 hr_b hr_c hr_k hr_l hr_m hr_n hr_o hr_q hr_r hr_s hg hB0 hblk hsz0 hsetM hBM hblkM hWM0 hcs hc30 hc31 hmb
  go_enter Tryd.func19, Tryd.ntmps19
  go_wp2_with ((with_reducible refine gate_load (t := 41) (p := 1) rfl ?_); (try (refine gate_guard (by rfl) ?_; dsimp only)); refine wpList_load_row rfl 41 (.tmp 1) rfl w.heap.size rfl 41 _ (0, 0) _ hbk0 Tryd.underlying41 rfl (by kernel_rfl) ?_)
  rw [hmb'.out] at hsetM' hblkM' hBM' hcs1 hWM ⊢
  clear hk2 hbk0 hWM
  go_loopg [14] l_2.length (fun kq v14 w' => ∃ i : Nat, v14 = .int .i64 (i : Int) ∧ Aside0 (i + kq = l_2.length) ∧ Aside0 (SetAt w' mb l_2 i) ∧ Aside0 (w'.heap[mb + 1]? = some (.cells cs 91 (0, 0))) ∧ Aside0 (Below mb W0 w'))
  case atStart => exact ⟨0, rfl, ⟨by omega⟩, hsetM', hblkM', hBM'⟩
  case round =>
    obtain ⟨i, rfl, hik, HS, HK, HB⟩ := hrel
    have HBw : Below W0.heap.size W0 wr := by rw [hmb'.out]; exact HB.out
    cases gk with
    | zero =>
      have hcd : ¬ ((i : Int) < (l_2.length : Int)) := by have := hik.out; omega
      have hdi : Aside0 (i = l_2.length) := ⟨by have := hik.out; omega⟩
      have k29 : wr.cell? ⟨w.heap.size, 29, none⟩ = some (.string a_t) := by rw [Lib.cell_of_heap (hblk'.out _ HBw)]; rfl
      have hdec := utf8_DecodeRuneInString.calls a_t _ _ wr (tabs_below hT'.out (hB0'.out.trans (HBw.mono hB0'.out.size))) rfl
      have HBw' := Aside0.mk HBw
      clear HBw
      go_wp2_with (go_at_call 33; refine hdec.mono ?_; clear hdec; rintro e w5 ⟨rfl, hB5⟩; have HK5 := (hB5.block (mb + 1) (blk_lt HK.out)).trans HK.out; have hx31 : w5.cell? ⟨mb + 1, 31, none⟩ = some (.int .i32 0) := (by rw [Lib.cell_of_heap HK5]; exact hcs2.out); have hz31 : w5.frozen? ⟨mb + 1, 31, none⟩ = false := Lib.frozen_of_heap HK5 31)
      go_ret
      have hb5 := hB0'.out.trans ((HBw'.out.trans (hB5.mono HBw'.out.size)).mono hB0'.out.size)
      refine ⟨mb + 1, mb, rfl, ⟨?_, ?_, ?_⟩, hb5.setCell (by have := hmb'.out; have := hB0'.out.size; show w.heap.size ≤ mb + 1; omega) _⟩
      · have h9 : w5.cell? ⟨mb + 1, 30, none⟩ = some (.map (some mb)) := by rw [Lib.cell_of_heap HK5]; exact hcs1.out
        simp [go_sem, h9]
      · simp [go_sem, hx31]
      · refine ownsMap_heap (hdi.out ▸ HS.out) ?_
        rw [Below.heap_setCell _ _ _ _ (by show mb ≠ mb + 1; omega)]
        exact hB5.block mb (World.ownsMap.lt HS.out)
    | succ g1 =>
      have hcd : (i : Int) < (l_2.length : Int) := by have := hik.out; omega
      have hlt : i < l_2.length := by have := hik.out; omega
      obtain ⟨ad, hA, hx0, hx1⟩ := at_T80 hR.out (i : Int) (by omega) hcd
      subst hA
      rw [Int.toNat_natCast] at hx0 hx1
      have HBf := hB0'.out.trans (HBw.mono hB0'.out.size)
      replace hx0 := (HBf.cell (World.block_lt_of_cell? _ _ hx0)).trans hx0
      replace hx1 := (HBf.cell (World.block_lt_of_cell? _ _ hx1)).trans hx1
      have hwx := runesOk_mem hRO.out _ (mem_rd l_2 i hlt)
      obtain ⟨R, hRe⟩ : ∃ R, (rd_T80 l_2 (i : Int)).f0 = R := ⟨_, rfl⟩
      obtain ⟨C, hCe⟩ : ∃ C, (rd_T80 l_2 (i : Int)).f1 = C := ⟨_, rfl⟩
      rw [hRe] at hx0 hwx
      rw [hCe] at hx1
      obtain ⟨W1, hW1⟩ : ∃ W1, wr.alloc (.cells #[.int .i32 R, .int .u32 C] 80) = W1 := ⟨_, rfl⟩
      obtain ⟨LB, hLB⟩ : ∃ LB, wr.heap.size = LB := ⟨_, rfl⟩
      have q1 : W1.cell? ⟨LB, 0, none⟩ = some (.int .i32 R) := by rw [← hW1, ← hLB]; exact cell_new _ _ _ 0 _ rfl
      have hB1 : Below mb W0 W1 := by rw [← hW1]; exact HB.out.alloc (by have := hmb'.out; have := HB.out.size; omega) _
      have HK1 : W1.heap[mb + 1]? = some (.cells cs 91 (0, 0)) := by rw [← hW1]; exact (Below.heap_alloc _ _ _ (blk_lt HK.out)).trans HK.out
      have q0 : W1.cell? ⟨mb + 1, 30, none⟩ = some (.map (some mb)) := by rw [Lib.cell_of_heap HK1]; exact hcs1.out
      have HS1 : SetAt W1 mb l_2 i := by rw [← hW1]; exact World.ownsMap.alloc HS.out _
      have hLl2 : LB < W1.heap.size := by rw [← hW1, ← hLB]; simp
      obtain ⟨w2, hput, hset2, hgr2⟩ := SetAt.put (w := W1.drew) HS1 (by have := hLl.out; simp only [maxLen]; omega) R hwx hRe
      have hne : LB ≠ mb := by have := HS.out.lt; omega
      have HK2 : w2.heap[mb + 1]? = some (.cells cs 91 (0, 0)) := (hgr2.block (mb + 1) (blk_lt HK1) (by simp)).trans HK1
      have q0b : w2.cell? ⟨mb + 1, 30, none⟩ = some (.map (some mb)) := by rw [Lib.cell_of_heap HK2]; exact hcs1.out
      have q1b : w2.cell? ⟨LB, 0, none⟩ = some (.int .i32 R) := cell_grown hgr2 q1 (by simp [hne])
      have hB2 : Below mb W0 w2 := hB1.drew.grown hgr2 (by have := hmb'.out; have := hB1.size; show mb ≤ W1.heap.size; omega) (fun k e => by cases e; exact Nat.le_refl _)
      have hfin := Aside0.mk (idx_next (i := i) (n := l_2.length) hlt hLl.out)
      have hset2' := Aside0.mk hset2
      have HK2' := Aside0.mk HK2
      have hB2' := Aside0.mk hB2
      have q0b' := Aside0.mk q0b
      have q1b' := Aside0.mk q1b
      have hdl := Aside0.mk hlt
      clear hRe hCe hwx HBf HBw hB1 HK1 HS1 hLl2 hset2 hgr2 hne HK2 hB2 q0b q1b hlt
      go_wp2
      refine start_ (n := 7) (S := fun w' => w'.cell? ⟨mb + 1, 30, none⟩ = some (.map (some mb)) ∧ w'.cell? ⟨LB, 0, none⟩ = some (.int .i32 R)) (ds := []) #[false, false, false, false, false, false, false] (by kernel_rfl) rfl rfl ⟨q0, q1⟩ (fun hHeld => ?_)
      refine pK 0 18 ?_
      refine pK 1 19 ?_
      refine pK 2 20 ?_
      refine pK 4 22 ?_
      refine tKt 3 21 hHeld ?_
      refine tKt 5 23 hHeld ?_
      refine one_ (i := 6) (N := none) #[true, true, true, true, true, true, true] rfl rfl (by kernel_rfl) (by decide) (fun K hK => ?_)
      refine skip_ (w1 := ?_) (by rfl) rfl ?_ ?_
      rotate_left
      · go_simp
        rfl
      refine hK.out _ _ ⟨q0b'.out, q1b'.out⟩ (fun hHeld => ?_)
      clear hK K
      refine done_ (by kernel_rfl) ?_
      go_wp2
      go_roundg g1
      case measure => omega
      case rel => exact ⟨i + 1, by first | rw [hfin.out] | rfl, ⟨by have := hik.out; omega⟩, hset2', HK2', hB2'⟩
end Go.Proofs.YtfbhdjflkaldgaaDoor.Pr

namespace Go.Proofs.YtfbhdjflkaldgaaDoor.Pr
set_option linter.unusedVariables false
set_option linter.unusedSimpArgs false
def refG {α : Type} (st : α → α × Bool) (host : α → Bool) : List α → List α → Option (List (List α))
  | [], words => if words.length = 0 then some [] else none
  | part :: rest, words => if host (st part).1 = true then (if (st part).2 = true then (refG st host rest []).map (fun o => (words ++ [(st part).1]) :: o) else refG st host rest (words ++ [(st part).1])) else none
theorem refG_map {α β : Type} {st : α → α × Bool} {host : α → Bool} {st' : β → β × Bool} {host' : β → Bool} (f : α → β) : ∀ (parts words : List α), (∀ a ∈ parts, st' (f a) = (f (st a).1, (st a).2)) → (∀ a ∈ parts, host' (f (st a).1) = host (st a).1) → refG st' host' (parts.map f) (words.map f) = (refG st host parts words).map (fun o => o.map (fun ws => ws.map f))
  | [], words, _, _ => by
    rw [List.map_nil, refG, refG, List.length_map]
    split <;> rfl
  | a :: parts, words, h1, h2 => by
    have ih := fun ws => refG_map f parts ws (fun b hb => h1 b (by simp [hb])) (fun b hb => h2 b (by simp [hb]))
    rw [List.map_cons, refG, refG, h1 a (by simp), h2 a (by simp)]
    split
    · split
      · have := ih []
        rw [List.map_nil] at this
        rw [this, Option.map_map, Option.map_map]
        congr 1
        funext o
        simp
      · rw [← ih]; simp
    · rfl
section Reader
variable (L : Int → Bool) (stop : Int)
def readOk : List Int → List (List Int) → List Int → Bool → Bool → Option (List (List (List Int)))
  | [], _, _, ended, _ => if ended = true then some [] else none
  | r :: t, words, cur, ended, blank =>
    if L r = true ∧ (blank = true ∨ 0 < cur.length) ∧ cur.length < 40 then readOk t words (cur ++ [r]) false false
    else if r = 32 ∧ (0 < cur.length ∨ ended = true) then readOk t (if 0 < cur.length then words ++ [cur] else words) [] false true
    else if r = stop ∧ 0 < cur.length then (readOk t [] [] true blank).map fun o => (words ++ [cur]) :: o
    else none
def splitR : List Int → List (List Int)
  | [] => [[]]
  | r :: t => if r = 32 then [] :: splitR t else match splitR t with
    | [] => [[r]]
    | p :: rest => (r :: p) :: rest
def stoppedR (p : List Int) : List Int × Bool := if p.getLast? = some stop then (p.dropLast, true) else (p, false)
def hostR (w : List Int) : Bool := decide (0 < w.length) && (w.all L && decide (w.length ≤ 40))
theorem splitR_ne : ∀ R, splitR R ≠ []
  | [] => by simp [splitR]
  | r :: t => by
    unfold splitR
    split
    · simp
    · split <;> simp
variable {L} {stop}
theorem stopped_mem {p : List Int} {r : Int} (h : r ∈ p) (hr : r ≠ stop) : r ∈ (stoppedR stop p).1 := by
  unfold stoppedR
  split
  · rename_i hl
    obtain ⟨q, rfl⟩ := List.getLast?_eq_some_iff.1 hl
    rw [List.mem_append] at h
    rcases h with h | h
    · simpa using h
    · exact absurd (by simpa using h) hr
  · exact h
theorem host_no {w : List Int} {r : Int} (h : r ∈ w) (hr : L r = false) : hostR L w = false := by
  unfold hostR
  have : w.all L = false := by
    rw [Bool.eq_false_iff]
    intro e
    rw [List.all_eq_true] at e
    rw [e r h] at hr; cases hr
  rw [this]; simp
theorem stopped_len {a b : List Int} (h : ∀ r ∈ a, r ≠ stop) : a.length ≤ (stoppedR stop (a ++ b)).1.length := by
  unfold stoppedR
  split
  · rename_i hl
    rcases List.eq_nil_or_concat b with rfl | ⟨b', x, rfl⟩
    · rw [List.append_nil] at hl ⊢
      exact absurd rfl (h stop (List.mem_of_getLast? hl))
    · rw [List.concat_eq_append, ← List.append_assoc, List.dropLast_concat, List.length_append]; omega
  · simp
theorem read_stop (hs32 : stop ≠ 32) (blank : Bool) (hb : blank = false) : ∀ R, readOk L stop R [] [] true blank = match R with
    | [] => some []
    | r :: t => if r = 32 then readOk L stop t [] [] false true else none
  | [] => by simp [readOk]
  | r :: t => by
    subst hb
    rw [readOk]
    by_cases h : r = 32
    · subst h; simp
    · simp [h]
theorem LRdrx1 {p : Prop} (h : p := by
  simp only [splitR, List.cons.injEq] at hp
  obtain ⟨rfl, rfl⟩ := hp
  have hst : stoppedR stop cur = (cur, false) := by
    unfold stoppedR
    rw [if_neg]
    intro h
    rw [hc stop (List.mem_of_getLast? h)] at hL; cases hL
  simp [readOk, refG, hst]) : p := h
theorem read_eq (hL : L stop = false) (hL32 : L 32 = false) (hs32 : stop ≠ 32) : ∀ (n : Nat) (R : List Int), R.length ≤ n → ∀ (words : List (List Int)) (cur : List Int), (∀ r ∈ cur, L r = true) → cur.length ≤ 40 → ∀ p rest, splitR R = p :: rest →
    readOk L stop R words cur false (decide (cur.length = 0)) = refG (stoppedR stop) (hostR L) ((cur ++ p) :: rest) words := by
  intro n
  induction n with
  | zero =>
    intro R hn words cur hc h40 p rest hp
    obtain rfl : R = [] := List.eq_nil_of_length_eq_zero (by omega)
    exact LRdrx1
  | succ n ih =>
    intro R hn words cur hc h40 p rest hp
    cases R with
    | nil =>
      exact LRdrx1
    | cons r t =>
      have hn' : t.length ≤ n := by simp at hn; omega
      have hcs : ∀ x ∈ cur, x ≠ stop := fun x hx e => by rw [e] at hx; rw [hc stop hx] at hL; cases hL
      have hst0 : stoppedR stop cur = (cur, false) := by
        unfold stoppedR
        rw [if_neg]
        intro h
        exact hcs stop (List.mem_of_getLast? h) rfl
      by_cases h32 : r = 32
      · subst h32
        rw [splitR, if_pos rfl] at hp
        obtain ⟨rfl, rfl⟩ := List.cons.inj hp
        obtain ⟨p', rest', hp'⟩ := List.exists_cons_of_ne_nil (splitR_ne t)
        have := ih t hn' (words ++ [cur]) [] (by simp) (by simp) p' rest' hp'
        rw [List.append_nil, hp']
        by_cases hz : 0 < cur.length
        · rw [readOk, if_neg (by simp [hL32]), if_pos ⟨rfl, Or.inl hz⟩, if_pos hz, refG, hst0]
          have hh : hostR L cur = true := by
            unfold hostR
            rw [decide_eq_true hz, decide_eq_true h40, List.all_eq_true.2 hc]; rfl
          rw [if_pos hh, if_neg (by simp)]
          simpa using this
        · rw [readOk, if_neg (by simp [hL32]), if_neg (by simp [hz]), if_neg (by simp [hz]), refG, hst0]
          have hh : hostR L cur = false := by unfold hostR; rw [decide_eq_false hz]; rfl
          rw [hh]; simp
      · rw [splitR, if_neg h32] at hp
        obtain ⟨p', rest', hp'⟩ := List.exists_cons_of_ne_nil (splitR_ne t)
        rw [hp'] at hp
        simp only at hp
        obtain ⟨rfl, rfl⟩ := List.cons.inj hp
        by_cases hl : L r = true
        · by_cases hc40 : cur.length < 40
          · have hbl : (decide (cur.length = 0) = true ∨ 0 < cur.length) := by rw [decide_eq_true_eq]; omega
            have := ih t hn' words (cur ++ [r]) (by intro x hx; rcases List.mem_append.1 hx with h | h; exact hc x h; rw [List.mem_singleton.1 h]; exact hl) (by simp; omega) p' rest' hp'
            rw [readOk, if_pos ⟨hl, hbl, hc40⟩]
            rw [show decide ((cur ++ [r]).length = 0) = false by simp] at this
            rw [this]; simp
          · have hrs : r ≠ stop := fun e => by rw [e, hL] at hl; cases hl
            rw [readOk, if_neg (by simp [hc40]), if_neg (by simp [h32]), if_neg (by simp [hrs]), refG, if_neg]
            have hlen := stopped_len (stop := stop) (a := cur ++ [r]) (b := p') (by intro x hx; rcases List.mem_append.1 hx with h | h; exact hcs x h; rw [List.mem_singleton.1 h]; exact hrs)
            rw [List.append_assoc] at hlen
            unfold hostR
            rw [decide_eq_false (show ¬ (stoppedR stop (cur ++ ([r] ++ p'))).1.length ≤ 40 by simp at hlen; simp; omega) |> fun h => (show decide ((stoppedR stop (cur ++ r :: p')).1.length ≤ 40) = false from h)]
            simp
        · have hl' : L r = false := by simpa using hl
          by_cases hrs : r = stop
          · subst hrs
            by_cases hz : 0 < cur.length
            · rw [readOk, if_neg (by simp [hl']), if_neg (by simp [h32]), if_pos ⟨rfl, hz⟩, read_stop hs32 _ (by rw [decide_eq_false]; omega)]
              have hh : hostR L cur = true := by
                unfold hostR
                rw [decide_eq_true hz, decide_eq_true h40, List.all_eq_true.2 hc]; rfl
              cases t with
              | nil =>
                simp only [splitR, List.cons.injEq] at hp'
                obtain ⟨rfl, rfl⟩ := hp'
                have hst : stoppedR r (cur ++ [r]) = (cur, true) := by unfold stoppedR; rw [if_pos (by simp)]; simp
                rw [refG, hst, if_pos hh, if_pos rfl, refG]; rfl
              | cons x t' =>
                simp only
                by_cases hx : x = 32
                · subst hx
                  rw [splitR, if_pos rfl] at hp'
                  obtain ⟨rfl, rfl⟩ := List.cons.inj hp'
                  have hst : stoppedR r (cur ++ [r]) = (cur, true) := by unfold stoppedR; rw [if_pos (by simp)]; simp
                  rw [refG, hst, if_pos hh, if_pos rfl, if_pos rfl]
                  obtain ⟨p2, rest2, hp2⟩ := List.exists_cons_of_ne_nil (splitR_ne t')
                  have := ih t' (by simp at hn'; omega) [] [] (by simp) (by simp) p2 rest2 hp2
                  rw [hp2]
                  rw [show decide (([] : List Int).length = 0) = true by rfl] at this
                  rw [this]; rfl
                · rw [if_neg hx, refG, if_neg]
                  · rfl
                  · rw [splitR, if_neg hx] at hp'
                    obtain ⟨p2, rest2, hp2⟩ := List.exists_cons_of_ne_nil (splitR_ne t')
                    rw [hp2] at hp'
                    simp only at hp'
                    obtain ⟨rfl, rfl⟩ := List.cons.inj hp'
                    have hm : r ∈ (stoppedR r (cur ++ r :: x :: p2)).1 := by
                      unfold stoppedR
                      split
                      · rw [List.dropLast_append_of_ne_nil (by simp), List.dropLast_cons_of_ne_nil (by simp)]; simp
                      · simp
                    rw [host_no hm hl']; simp
            · obtain rfl : cur = [] := List.eq_nil_of_length_eq_zero (by omega)
              rw [readOk, if_neg (by simp [hl']), if_neg (by simp [h32]), if_neg (by simp), refG, if_neg]
              rw [List.nil_append]
              cases p' with
              | nil =>
                have : stoppedR r [r] = ([], true) := by unfold stoppedR; simp
                rw [this]; simp [hostR]
              | cons y p2 =>
                have hm : r ∈ (stoppedR r (r :: y :: p2)).1 := by
                  unfold stoppedR
                  split
                  · simp
                  · simp
                rw [host_no hm hl']; simp
          · rw [readOk, if_neg (by simp [hl']), if_neg (by simp [h32]), if_neg (by simp [hrs]), refG, if_neg]
            rw [host_no (stopped_mem (by simp) hrs) hl']; simp
end Reader
end Go.Proofs.YtfbhdjflkaldgaaDoor.Pr
