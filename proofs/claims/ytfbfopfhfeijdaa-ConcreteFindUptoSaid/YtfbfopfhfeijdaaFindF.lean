/- concrete.find: the first category with a name, its lists shared with the language. -/
import Derived.Test.YtfbfopfhfeijdaaFindA
namespace Go.Proofs.Ytfbfopfhfeijdaa.Pr
open Go.Proofs.Ytfbfopfhfeijdaa.Ct Go.RowKit Go.Proofs.YtfbfopfhfeijdaaW.PrintWords Go.Proofs.YtfbfopfhfeijdaaW.PrintLast Go.Proofs.YtfbfopfhfeijdaaW.PrintMore
set_option linter.unusedVariables false
set_option linter.unusedSimpArgs false
theorem catFrom_range (xs : List S68) (nm : ByteArray) : ∀ d (i : Nat), xs.length - i = d → catFrom xs nm i = -1 ∨ ∃ j : Nat, j < xs.length ∧ catFrom xs nm i = (j : Int) := by
  intro d
  induction d with
  | zero => intro i hd; exact .inl (catFrom_end (by omega))
  | succ d ih =>
    intro i hd
    have hi : i < xs.length := by omega
    by_cases e : ((rd_T68 xs i).f0).toList = nm.toList
    · exact .inr ⟨i, hi, catFrom_hit hi e⟩
    · rw [catFrom_miss hi e]; exact ih (i + 1) (by omega)
def catTell (l : List S68) (nm : ByteArray) : ByteArray × List S90 × List ByteArray × Bool :=
  if catFrom l nm 0 < 0 then (⟨#[]⟩, [], [], false) else ((rd_T68 l (catFrom l nm 0)).f0, (rd_T68 l (catFrom l nm 0)).f1, (rd_T68 l (catFrom l nm 0)).f2, true)
def concrete_find.f (b0 : ByteArray) (b1 : Bool) (b2 : List S173) (b3 : List S176) (b4 : List S179) (b5 : List S181) (b6 : List (List Int)) (b7 : Int) (b8 : Int) (b9 : List S176) (b10 : Int) (b11 : List ByteArray) (b12 : List ByteArray) (b13 : Bool) (b14 : ByteArray) (b15 : Int) (b16 : ByteArray) (b17 : Bool) (b18 : Int) (b19 : Int) (b20 : List S184) (b21 : List S184) (b22 : List ByteArray) (b23 : List ByteArray) (b24 : List ByteArray) (b25 : Bool) (b26 : List S186) (b27 : List S68) (b28 : List S33) (b29 : ByteArray) (nm : ByteArray) : Option (ByteArray × List S90 × List ByteArray × Bool) := some (catTell b27 nm)

set_option maxHeartbeats 2000000 in
set_option maxRecDepth 100000 in
theorem find_any (cs : Array Value) (A : Option Addr) (c : Nat) (l : List S68) (nm : ByteArray) (P : Nat → Prop) (w : World) (hcs : cs[27]? = some (.slice A l.length c)) (hsz : cs.size = 30) (hs : Kd.V k68 68 w w.heap.size P (.slice A l.length c) l) :
    Calls Try.prog 43 #[.agg cs, .string nm] w fun e w' => ∃ v1_ v2_ : Value, e = .returned (.tuple #[.agg #[.string (catTell l nm).1, v1_, v2_], .bool (catTell l nm).2.2.2]) ∧ Kd.V k90 90 w' w.heap.size (fun k_ => (P k_ ∨ w.heap.size ≤ k_)) v1_ (catTell l nm).2.1 ∧ Kd.V Kd.string 9 w' w.heap.size (fun k_ => (P k_ ∨ w.heap.size ≤ k_)) v2_ (catTell l nm).2.2.1 ∧ Below w.heap.size w w' := by
  have hu := Try.underlying68
  have HO := Aside0.mk (show Kd.V k68 68 w w.heap.size (fun k_ => (P k_ ∨ w.heap.size ≤ k_)) (.slice A l.length c) l from Kd.V_mono hs (fun k_ hk => .inl hk))
  have HS := Aside0.mk hsz
  have HCS := Aside0.mk hcs
  have HB := Aside0.mk (Below.refl w.heap.size w)
  have hll := (Kd.V_reads' hs).2.2.2.1
  clear hs hsz hcs
  go_enter Try.func43, Try.ntmps43
  by_cases hneg : catFrom l nm 0 < 0
  · have d0 : decide (catFrom l nm 0 < 0) = true := decide_eq_true hneg
    have HT : Aside0 (catTell l nm = (⟨#[]⟩, [], [], false)) := ⟨by unfold catTell; rw [if_pos hneg]⟩
    clear hneg
    go_wp2_with (first | ((with_reducible refine gate_dst (N := 2) rfl ?_); refine box_event ?hg (N := 2) ?hd (cs := cs) (t := 60) ?hr ?_; (case hd => rfl); (case hg => rfl); (case hr => first | (go_simp; done) | (go_simp; rfl)); intro g0 hg w1 hbox hb; have n0_ := Aside0.mk (Kd.V_below (Kd.V_elderB (dV HO) g0 (Nat.le_of_eq hg.symm)) hb); have n1_ := Aside0.mk (below_step (tB HB) hb); have n2_ := Aside0.mk hbox; have n3_ := tZ hg (tS HB); revert n0_ n1_ n2_ n3_; clear HO HB; intro HO HB BK0 GE0; clear hb hbox hg) | ((with_reducible refine gate_dst (N := 3) rfl ?_); refine box_event ?hg (N := 3) ?hd (cs := #[.string nm]) (t := 9) ?hr ?_; (case hd => rfl); (case hg => rfl); (case hr => first | (go_simp; done) | (go_simp; rfl)); intro g1 hg w2 hbox hb; have n0_ := Aside0.mk (Kd.V_below (Kd.V_elderB (dV HO) g1 (Nat.le_of_eq hg.symm)) hb); have n1_ := Aside0.mk (below_step (tB HB) hb); have n2_ := Aside0.mk (blk_below (tK BK0) hb); have n3_ := Aside0.mk hbox; have n4_ := tZ hg (tS HB); revert n0_ n1_ n2_ n3_ n4_; clear HO HB BK0; intro HO HB BK0 BK1 GE1; clear hb hbox hg) | ((with_reducible refine gate_dst (N := 4) rfl ?_); refine box_event ?hg (N := 4) ?hd (cs := #[.string (⟨#[]⟩ : ByteArray), .slice none 0 0, .slice none 0 0]) (t := 68) ?hr ?_; (case hd => rfl); (case hg => rfl); (case hr => first | (go_simp; done) | (go_simp; rfl)); intro g2 hg w3 hbox hb; have n0_ := Aside0.mk (Kd.V_below (Kd.V_elderB (dV HO) g2 (Nat.le_of_eq hg.symm)) hb); have n1_ := Aside0.mk (below_step (tB HB) hb); have n2_ := Aside0.mk (blk_below (tK BK0) hb); have n3_ := Aside0.mk (blk_below (tK BK1) hb); have n4_ := Aside0.mk hbox; have n5_ := tZ hg (tS HB); have n6_ := tL hg (tK BK0); have n7_ := tL hg (tK BK1); revert n0_ n1_ n2_ n3_ n4_ n5_ n6_ n7_; clear HO HB BK0 BK1; intro HO HB BK0 BK1 BK2 GE2 NB0 NB1; clear hb hbox hg; have hc0 := (blk_cell BK0.out 27).trans HCS.out) | (go_at_call 56; refine (indexFunc_calls g1 A c l nm _ (Kd.V_reads' HO.out).2.2 ((blk_cell BK1.out 0).trans rfl)).mono ?_; rintro e w4 ⟨rfl, hb⟩; have n0_ := Aside0.mk (Kd.V_below HO.out hb); have n1_ := Aside0.mk (below_step (tB HB) hb); have n2_ := Aside0.mk (blk_below (tK BK0) hb); have n4_ := Aside0.mk (blk_below (tK BK2) hb); revert n0_ n1_ n2_ n4_; clear HO HB BK0 BK1 BK2 hc0; intro HO HB BK0 BK2; clear hb; obtain ⟨hz0, hz1, hz2, hf0, hf1, hf2⟩ := bx3 BK2))
    refine bodyPost_ret (results_ct rfl _ _ g2 68 #[.string (⟨#[]⟩ : ByteArray), .slice none 0 0, .slice none 0 0] (0, 0) _ rfl (tKp BK2) Try.underlying68 rfl (by kernel_rfl)) rfl ?_
    rw [HT.out]
    exact ⟨_, _, rfl, Kd.V_nil _ _ _ _ _, Kd.V_nil _ _ _ _ _, tB HB⟩
  · have hr : 0 ≤ catFrom l nm 0 ∧ catFrom l nm 0 < (l.length : Int) := by
      rcases catFrom_range l nm _ 0 rfl with h | ⟨j, hj, h⟩ <;> omega
    have d0 : decide (catFrom l nm 0 < 0) = false := decide_eq_false hneg
    have p1 := Aside0.mk hr.1
    have q1 := Aside0.mk hr.2
    have HT : Aside0 (catTell l nm = ((rd_T68 l (catFrom l nm 0)).f0, (rd_T68 l (catFrom l nm 0)).f1, (rd_T68 l (catFrom l nm 0)).f2, true)) := ⟨by unfold catTell; rw [if_neg hneg]⟩
    clear hneg hr
    go_wp2_with (first | ((with_reducible refine gate_dst (N := 2) rfl ?_); refine box_event ?hg (N := 2) ?hd (cs := cs) (t := 60) ?hr ?_; (case hd => rfl); (case hg => rfl); (case hr => first | (go_simp; done) | (go_simp; rfl)); intro g0 hg w1 hbox hb; have n0_ := Aside0.mk (Kd.V_below (Kd.V_elderB (dV HO) g0 (Nat.le_of_eq hg.symm)) hb); have n1_ := Aside0.mk (below_step (tB HB) hb); have n2_ := Aside0.mk hbox; have n3_ := tZ hg (tS HB); revert n0_ n1_ n2_ n3_; clear HO HB; intro HO HB BK0 GE0; clear hb hbox hg) | ((with_reducible refine gate_dst (N := 3) rfl ?_); refine box_event ?hg (N := 3) ?hd (cs := #[.string nm]) (t := 9) ?hr ?_; (case hd => rfl); (case hg => rfl); (case hr => first | (go_simp; done) | (go_simp; rfl)); intro g1 hg w2 hbox hb; have n0_ := Aside0.mk (Kd.V_below (Kd.V_elderB (dV HO) g1 (Nat.le_of_eq hg.symm)) hb); have n1_ := Aside0.mk (below_step (tB HB) hb); have n2_ := Aside0.mk (blk_below (tK BK0) hb); have n3_ := Aside0.mk hbox; have n4_ := tZ hg (tS HB); revert n0_ n1_ n2_ n3_ n4_; clear HO HB BK0; intro HO HB BK0 BK1 GE1; clear hb hbox hg) | ((with_reducible refine gate_dst (N := 4) rfl ?_); refine box_event ?hg (N := 4) ?hd (cs := #[.string (⟨#[]⟩ : ByteArray), .slice none 0 0, .slice none 0 0]) (t := 68) ?hr ?_; (case hd => rfl); (case hg => rfl); (case hr => first | (go_simp; done) | (go_simp; rfl)); intro g2 hg w3 hbox hb; have n0_ := Aside0.mk (Kd.V_below (Kd.V_elderB (dV HO) g2 (Nat.le_of_eq hg.symm)) hb); have n1_ := Aside0.mk (below_step (tB HB) hb); have n2_ := Aside0.mk (blk_below (tK BK0) hb); have n3_ := Aside0.mk (blk_below (tK BK1) hb); have n4_ := Aside0.mk hbox; have n5_ := tZ hg (tS HB); have n6_ := tL hg (tK BK0); have n7_ := tL hg (tK BK1); revert n0_ n1_ n2_ n3_ n4_ n5_ n6_ n7_; clear HO HB BK0 BK1; intro HO HB BK0 BK1 BK2 GE2 NB0 NB1; clear hb hbox hg; have hc0 := (blk_cell BK0.out 27).trans HCS.out) | (go_at_call 56; refine (indexFunc_calls g1 A c l nm _ (Kd.V_reads' HO.out).2.2 ((blk_cell BK1.out 0).trans rfl)).mono ?_; rintro e w4 ⟨rfl, hb⟩; have n0_ := Aside0.mk (Kd.V_below HO.out hb); have n1_ := Aside0.mk (below_step (tB HB) hb); have n2_ := Aside0.mk (blk_below (tK BK0) hb); have n4_ := Aside0.mk (blk_below (tK BK2) hb); revert n0_ n1_ n2_ n4_; clear HO HB BK0 BK1 BK2 hc0; intro HO HB BK0 BK2; clear hb; obtain ⟨hz0, hz1, hz2, hf0, hf1, hf2⟩ := bx3 BK2; have hc1 := (blk_cell BK0.out 27).trans HCS.out; obtain ⟨ad, A1, c1, A2, c2, e1, hx0, hx1, hx2, m1, i1, m2, i2⟩ := at_T68 (Kd.V_reads' HO.out).2.2 (catFrom l nm 0) p1.out q1.out; cases e1; clear i1 i2 m1 m2; have p0 := eq_true p1.out; have q0 := eq_true q1.out))
    obtain ⟨ce, hce, hMe, hcc⟩ := Kd.V_get HO.out z68 (catFrom l nm 0) p1.out q1.out
    obtain ⟨ua1, uc1, ua2, uc2, rfl, ul1, ge1, ul2, ge2⟩ := k68_openF hMe
    have hv1 := hcc 1 _ rfl
    rw [add_field _ _ 1 (by omega)] at hv1
    replace hv1 := Option.some.inj (hv1.symm.trans hx1)
    injection hv1 with ha1 hn1 hc1'
    rw [ha1] at ge1
    rw [hc1'] at ul1
    have hv2 := hcc 2 _ rfl
    rw [add_field _ _ 2 (by omega)] at hv2
    replace hv2 := Option.some.inj (hv2.symm.trans hx2)
    injection hv2 with ha2 hn2 hc2'
    rw [ha2] at ge2
    rw [hc2'] at ul2
    have H1 := Aside0.mk (Kd.V_mk (d := k90) (e := 90) (base := w.heap.size) ul1 ge1)
    have H2 := Aside0.mk (Kd.V_mk (d := Kd.string) (e := 9) (base := w.heap.size) ul2 ge2)
    refine bodyPost_ret (results_ct rfl _ _ g2 68 #[.string (rd_T68 l (catFrom l nm 0)).f0, .slice A1 (rd_T68 l (catFrom l nm 0)).f1.length c1, .slice A2 (rd_T68 l (catFrom l nm 0)).f2.length c2] (0, 0) _ rfl (tKp BK2) Try.underlying68 rfl (by kernel_rfl)) rfl ?_
    rw [HT.out]
    exact ⟨_, _, rfl, dV H1, dV H2, tB HB⟩
set_option maxRecDepth 100000 in
theorem concrete_find.calls (a0_0 : ByteArray) (a0_1 : Bool) (A0_2 : Option Addr) (c0_2 : Nat) (l0_2 : List (S173)) (A0_3 : Option Addr) (c0_3 : Nat) (l0_3 : List (S176)) (A0_4 : Option Addr) (c0_4 : Nat) (l0_4 : List (S179)) (A0_5 : Option Addr) (c0_5 : Nat) (l0_5 : List (S181)) (A0_6 : Option Addr) (c0_6 : Nat) (l0_6 : List (List Int)) (a0_7 : Int) (a0_8 : Int) (A0_9 : Option Addr) (c0_9 : Nat) (l0_9 : List (S176)) (a0_10 : Int) (A0_11 : Option Addr) (c0_11 : Nat) (l0_11 : List ByteArray) (A0_12 : Option Addr) (c0_12 : Nat) (l0_12 : List ByteArray) (a0_13 : Bool) (a0_14 : ByteArray) (a0_15 : Int) (a0_16 : ByteArray) (a0_17 : Bool) (a0_18 : Int) (a0_19 : Int) (A0_20 : Option Addr) (c0_20 : Nat) (l0_20 : List (S184)) (A0_21 : Option Addr) (c0_21 : Nat) (l0_21 : List (S184)) (A0_22 : Option Addr) (c0_22 : Nat) (l0_22 : List ByteArray) (A0_23 : Option Addr) (c0_23 : Nat) (l0_23 : List ByteArray) (A0_24 : Option Addr) (c0_24 : Nat) (l0_24 : List ByteArray) (a0_25 : Bool) (A0_26 : Option Addr) (c0_26 : Nat) (l0_26 : List (S186)) (P0_27_ : Nat → Prop) (A0_27 : Option Addr) (c0_27 : Nat) (l0_27 : List (S68)) (A0_28 : Option Addr) (c0_28 : Nat) (l0_28 : List (S33)) (a0_29 : ByteArray) (a1 : ByteArray) (r1 : ByteArray) (r2 : List (S90)) (r3 : List ByteArray) (r4 : Bool) (w : World) (hr0_2 : Kd.C k173 w A0_2 l0_2.length l0_2) (hc0_2 : l0_2.length ≤ c0_2) (hr0_3 : Kd.C k176 w A0_3 l0_3.length l0_3) (hc0_3 : l0_3.length ≤ c0_3) (hr0_4 : Kd.C k179 w A0_4 l0_4.length l0_4) (hc0_4 : l0_4.length ≤ c0_4) (hr0_5 : Kd.C k181 w A0_5 l0_5.length l0_5) (hc0_5 : l0_5.length ≤ c0_5) (hr0_6 : Kd.C (Kd.slice 143 (Kd.int .u32)) w A0_6 l0_6.length l0_6) (hc0_6 : l0_6.length ≤ c0_6) (hr0_9 : Kd.C k176 w A0_9 l0_9.length l0_9) (hc0_9 : l0_9.length ≤ c0_9) (hr0_11 : Kd.C Kd.string w A0_11 l0_11.length l0_11) (hc0_11 : l0_11.length ≤ c0_11) (hr0_12 : Kd.C Kd.string w A0_12 l0_12.length l0_12) (hc0_12 : l0_12.length ≤ c0_12) (hr0_20 : Kd.C k184 w A0_20 l0_20.length l0_20) (hc0_20 : l0_20.length ≤ c0_20) (hr0_21 : Kd.C k184 w A0_21 l0_21.length l0_21) (hc0_21 : l0_21.length ≤ c0_21) (hr0_22 : Kd.C Kd.string w A0_22 l0_22.length l0_22) (hc0_22 : l0_22.length ≤ c0_22) (hr0_23 : Kd.C Kd.string w A0_23 l0_23.length l0_23) (hc0_23 : l0_23.length ≤ c0_23) (hr0_24 : Kd.C Kd.string w A0_24 l0_24.length l0_24) (hc0_24 : l0_24.length ≤ c0_24) (hr0_26 : Kd.C k186 w A0_26 l0_26.length l0_26) (hc0_26 : l0_26.length ≤ c0_26) (hs0_27 : Kd.V k68 68 w w.heap.size (fun k_ => P0_27_ k_) (.slice A0_27 l0_27.length c0_27) l0_27) (hr0_28 : Kd.C k33 w A0_28 l0_28.length l0_28) (hc0_28 : l0_28.length ≤ c0_28) (h : concrete_find.f a0_0 a0_1 l0_2 l0_3 l0_4 l0_5 l0_6 a0_7 a0_8 l0_9 a0_10 l0_11 l0_12 a0_13 a0_14 a0_15 a0_16 a0_17 a0_18 a0_19 l0_20 l0_21 l0_22 l0_23 l0_24 a0_25 l0_26 l0_27 l0_28 a0_29 a1 = some (r1, r2, r3, r4)) :
 Calls Try.prog 43 #[.agg #[.string a0_0, .bool a0_1, .slice A0_2 l0_2.length c0_2, .slice A0_3 l0_3.length c0_3, .slice A0_4 l0_4.length c0_4, .slice A0_5 l0_5.length c0_5, .slice A0_6 l0_6.length c0_6, .int .i64 a0_7, .int .i64 a0_8, .slice A0_9 l0_9.length c0_9, .int .i64 a0_10, .slice A0_11 l0_11.length c0_11, .slice A0_12 l0_12.length c0_12, .bool a0_13, .string a0_14, .int .i64 a0_15, .string a0_16, .bool a0_17, .int .i64 a0_18, .int .i64 a0_19, .slice A0_20 l0_20.length c0_20, .slice A0_21 l0_21.length c0_21, .slice A0_22 l0_22.length c0_22, .slice A0_23 l0_23.length c0_23, .slice A0_24 l0_24.length c0_24, .bool a0_25, .slice A0_26 l0_26.length c0_26, .slice A0_27 l0_27.length c0_27, .slice A0_28 l0_28.length c0_28, .string a0_29], .string a1] w fun e w' => ∃ v1_ v2_ : Value, e = .returned (.tuple #[.agg #[.string r1, v1_, v2_], .bool r4]) ∧ Kd.V k90 90 w' w.heap.size (fun k_ => (P0_27_ k_ ∨ w.heap.size ≤ k_)) v1_ r2 ∧ Kd.V Kd.string 9 w' w.heap.size (fun k_ => (P0_27_ k_ ∨ w.heap.size ≤ k_)) v2_ r3 ∧ Below w.heap.size w w' := by
  have e := Option.some.inj (show some (catTell l0_27 a1) = some (r1, r2, r3, r4) from h)
  have hf := find_any #[.string a0_0, .bool a0_1, .slice A0_2 l0_2.length c0_2, .slice A0_3 l0_3.length c0_3, .slice A0_4 l0_4.length c0_4, .slice A0_5 l0_5.length c0_5, .slice A0_6 l0_6.length c0_6, .int .i64 a0_7, .int .i64 a0_8, .slice A0_9 l0_9.length c0_9, .int .i64 a0_10, .slice A0_11 l0_11.length c0_11, .slice A0_12 l0_12.length c0_12, .bool a0_13, .string a0_14, .int .i64 a0_15, .string a0_16, .bool a0_17, .int .i64 a0_18, .int .i64 a0_19, .slice A0_20 l0_20.length c0_20, .slice A0_21 l0_21.length c0_21, .slice A0_22 l0_22.length c0_22, .slice A0_23 l0_23.length c0_23, .slice A0_24 l0_24.length c0_24, .bool a0_25, .slice A0_26 l0_26.length c0_26, .slice A0_27 l0_27.length c0_27, .slice A0_28 l0_28.length c0_28, .string a0_29] A0_27 c0_27 l0_27 a1 P0_27_ w rfl rfl hs0_27
  rw [e] at hf
  exact hf
end Go.Proofs.Ytfbfopfhfeijdaa.Pr
