/- Several texts in one: PrF15, PrF7. -/
import Derived.Test.YtfbhdjflkaldgaaDoorMg1
import Derived.Test.YtfbhdjflkaldgaaDoorCt
import Derived.Test.YtfbhdjflkaldgaaDoorMg19

namespace Go.Proofs.YtfbhdjflkaldgaaDoor.Pr
open Go.Proofs.YtfbhdjflkaldgaaDoor.Ct Go.RowKit Go.Proofs.YtfbhdjflkaldgaaDoorW.PrintWords Go.Proofs.YtfbhdjflkaldgaaDoorW.PrintLast Go.Proofs.YtfbhdjflkaldgaaDoorW.PrintMore
attribute [local go_sem] max2_int min2_int max_two min_two max_three min_three max_four min_four
set_option linter.unusedVariables false
set_option linter.unusedSimpArgs false
def pentaglotref42_Segments.l0 : Nat → List ByteArray → List (S57) → Int → ByteArray → Bool → List (S80) → List (S85) → List (S180) → List (S183) → List (List Int) → Int → Int → List (S85) → Int → List ByteArray → List ByteArray → Bool → ByteArray → Int → ByteArray → Bool → Int → Int → List (S186) → List (S186) → List ByteArray → List ByteArray → List ByteArray → Bool → List (S188) → List (S190) → List (S194) → ByteArray → Option ((List (S57)))
 | 0, _, _, _, _, _, _, _, _, _, _, _, _, _, _, _, _, _, _, _, _, _, _, _, _, _, _, _, _, _, _, _, _, _ => none
 | k + 1, x1, x5, x6, x444000, x444001, x444002, x444003, x444004, x444005, x444006, x444007, x444008, x444009, x444010, x444011, x444012, x444013, x444014, x444015, x444016, x444017, x444018, x444019, x444020, x444021, x444022, x444023, x444024, x444025, x444026, x444027, x444028, x444029 => if x6 < (x1.length : Int) then (if 0 ≤ x6 then ((pentaglotref42_Host.f x444000 x444001 x444002 x444003 x444004 x444005 x444006 x444007 x444008 x444009 x444010 x444011 x444012 x444013 x444014 x444015 x444016 x444017 x444018 x444019 x444020 x444021 x444022 x444023 x444024 x444025 x444026 x444027 x444028 x444029 (rdOf ByteArray.empty x1 x6)).bind fun t448 => (if t448 = true then (if x5.length < 3518437208883 then (pentaglotref42_Segments.l0 k x1 (x5 ++ [(⟨rdOf ByteArray.empty x1 x6, ([] : List ByteArray)⟩ : S57)]) (wrap64 (x6 + 1)) x444000 x444001 x444002 x444003 x444004 x444005 x444006 x444007 x444008 x444009 x444010 x444011 x444012 x444013 x444014 x444015 x444016 x444017 x444018 x444019 x444020 x444021 x444022 x444023 x444024 x444025 x444026 x444027 x444028 x444029) else (none)) else (if 0 ≤ (wrap64 ((x5.length : Int) - 1)) then (if (wrap64 ((x5.length : Int) - 1)) < (x5.length : Int) then (if 1 ≤ ((rdOf ByteArray.empty x1 x6).size : Int) then (if ((rd_T57 x5 (wrap64 ((x5.length : Int) - 1))).f1).length < 8796093022208 then (pentaglotref42_Segments.l0 k x1 (x5.set ((wrap64 ((x5.length : Int) - 1)) : Int).toNat (⟨(rd_T57 x5 (wrap64 ((x5.length : Int) - 1))).f0, (((rd_T57 x5 (wrap64 ((x5.length : Int) - 1))).f1) ++ [(rdOf ByteArray.empty x1 x6).extract 1 (rdOf ByteArray.empty x1 x6).size])⟩ : S57)) (wrap64 (x6 + 1)) x444000 x444001 x444002 x444003 x444004 x444005 x444006 x444007 x444008 x444009 x444010 x444011 x444012 x444013 x444014 x444015 x444016 x444017 x444018 x444019 x444020 x444021 x444022 x444023 x444024 x444025 x444026 x444027 x444028 x444029) else (none)) else (none)) else (none)) else (none)))) else (none)) else (some x5)
def pentaglotref42_Segments.f (k : Nat) (a_0 : ByteArray) (a_1 : Bool) (l_2 : List (S80)) (l_3 : List (S85)) (l_4 : List (S180)) (l_5 : List (S183)) (l_6 : List (List Int)) (a_7 : Int) (a_8 : Int) (l_9 : List (S85)) (a_a : Int) (l_b : List ByteArray) (l_c : List ByteArray) (a_d : Bool) (a_e : ByteArray) (a_f : Int) (a_g : ByteArray) (a_h : Bool) (a_i : Int) (a_j : Int) (l_k : List (S186)) (l_l : List (S186)) (l_m : List ByteArray) (l_n : List ByteArray) (l_o : List ByteArray) (a_p : Bool) (l_q : List (S188)) (l_r : List (S190)) (l_s : List (S194)) (a_t : ByteArray) (l1 : List ByteArray) : Option ((List (S57))) := pentaglotref42_Segments.l0 k l1 (([] : List (S57))) 0 a_0 a_1 l_2 l_3 l_4 l_5 l_6 a_7 a_8 l_9 a_a l_b l_c a_d a_e a_f a_g a_h a_i a_j l_k l_l l_m l_n l_o a_p l_q l_r l_s a_t
def pentaglotref42_Segments.T8 : Bool × List (List Nat × List Nat) := (true, [([], []), ([], []), ([], []), ([], []), ([2, 3], [2, 3]), ([4], [4]), ([5], [5]), ([], []), ([], []), ([7, 8], [7, 8]), ([9], [9]), ([10], [10]), ([11], [11]), ([6, 12], [6, 12]), ([0, 1, 0, 1, 2, 3, 4, 5, 6, 7, 8, 9, 10, 11, 12, 13], [0, 1]), ([14, 0, 1, 2, 3, 4, 5, 6, 7, 8, 9, 10, 11, 12, 13], [14]), ([15, 13, 13, 0, 1, 2, 3, 4, 5, 6, 7, 8, 9, 10, 11, 12, 13], [13, 15])])
def pentaglotref42_Segments.B8 : List Nat := [0, 0, 0, 0, 12, 28, 60, 0, 0, 384, 896, 1920, 3968, 8188, 16383, 32767, 65535]
theorem pentaglotref42_Segments.tab8 : rtab .any (opsOf Tryd.f15 8) = pentaglotref42_Segments.T8 := by kernel_rfl
theorem pentaglotref42_Segments.bits8 : waitsOk pentaglotref42_Segments.T8.2 pentaglotref42_Segments.B8 = true := by kernel_rfl
theorem LPrF15x1 {p : Prop} (h : p := by
  rintro w' ⟨z1_, z2_⟩
  first | (refine Eq.trans (load_held 41 (.tmp 2) (by rfl) gb443 (by rfl) 41 _ _ z1_ Tryd.underlying41 (by rfl) (by kernel_rfl)) ?_; with_reducible rfl) | (clear z1_; go_simp; with_reducible rfl)
  skip) : p := h
set_option maxRecDepth 1000000 in
theorem LPrF15xh1 {p : Prop} (h : p := by
  have H' := Aside0.mk H
  clear H
  try go_wp2
  have n0_ := Aside0.mk (Kd.S_drew HO_5.out)
  have n1_ := Aside0.mk (blk_drew BK443.out)
  have n2_ := Aside0.mk (below_drew1 HB.out)
  revert n0_ n1_ n2_
  clear HO_5 BK443 HB
  intro HO_5 BK443 HB
  have p447 : 0 ≤ (x6_1 : Int) := oD
  have q447 : x6_1 < (l1.length : Int) := oD
  obtain ⟨ad447, e447, hx447_0⟩ := Kd.at_string HR1.out x6_1 p447 q447
  have hw447_0 := hx447_0
  cases e447
  replace hx447_0 := celB HB hx447_0
  replace p447 := eq_true p447
  replace q447 := eq_true q447
  refine start_ (n := 6) (S := fun w' => w'.heap[gb443]? = some (.cells #[.string a_0, .bool a_1, .slice A_2 l_2.length c_2, .slice A_3 l_3.length c_3, .slice A_4 l_4.length c_4, .slice A_5 l_5.length c_5, .slice A_6 l_6.length c_6, .int .i64 a_7, .int .i64 a_8, .slice A_9 l_9.length c_9, .int .i64 a_a, .slice A_b l_b.length c_b, .slice A_c l_c.length c_c, .bool a_d, .string a_e, .int .i64 a_f, .string a_g, .bool a_h, .int .i64 a_i, .int .i64 a_j, .slice A_k l_k.length c_k, .slice A_l l_l.length c_l, .slice A_m l_m.length c_m, .slice A_n l_n.length c_n, .slice A_o l_o.length c_o, .bool a_p, .slice A_q l_q.length c_q, .slice A_r l_r.length c_r, .slice A_s l_s.length c_s, .string a_t] 41 (0, 0)) ∧ w'.cell? (ad447.add (x6_1).toNat) = some (.string (rdOf ByteArray.empty l1 x6_1))) (ds := []) #[false, false, false, false, false, false] (by kernel_rfl) rfl rfl ⟨BK443.out, ((HB.out.cell (World.block_lt_of_cell? w _ hw447_0)).trans hw447_0)⟩ (fun hHeld => ?_)
  first
  | (have mk_ := mk0_
     generalize wr.drew = w20 at HO_5 BK443 HB hx447_0 hHeld ⊢
     refine pK 1 16 ?_
     refine pK 2 17 ?_
     refine pK 3 18 ?_
     refine take_ (i := 0) (N := some 15) (v := ?_) (a' := ?_) #[true, true, true, true, false, false] rfl rfl (by kernel_rfl) (fun _ _ _ h => h) (Or.inl ⟨by rfl, ?_⟩) hHeld ?_ ?_
     rotate_left
     ·
      exact LPrF15x1
     rotate_left
     ·
      exact GpR
     refine take_ (i := 4) (N := some 19) (v := ?_) (a' := ?_) #[true, true, true, true, true, false] rfl rfl (by kernel_rfl) (fun _ _ _ h => h) (Or.inl ⟨by rfl, ?_⟩) hHeld ?_ ?_
     rotate_left
     ·
      exact LPrF15x1
     rotate_left
     ·
      exact GpR
     refine one_ (i := 5) (N := some 20) #[true, true, true, true, true, true] rfl rfl (by kernel_rfl) (by decide) (fun K hK => ?_)
     refine goes_ Tryd.func25 (by kernel_rfl) rfl #[.agg _, .string (rdOf ByteArray.empty l1 x6_1)] (by rfl) rfl rfl Gc2 ?_
     with_reducible refine (pentaglotref42_Host.calls a_0 a_1 _ _ l_2 _ _ l_3 _ _ l_4 _ _ l_5 _ _ l_6 a_7 a_8 _ _ l_9 a_a _ _ l_b _ _ l_c a_d a_e a_f a_g a_h a_i a_j _ _ l_k _ _ l_l _ _ l_m _ _ l_n _ _ l_o a_p _ _ l_q _ _ l_r _ _ l_s a_t (rdOf ByteArray.empty l1 x6_1) false _ (tC HR_2 HB) HC_2.out (tC HR_3 HB) HC_3.out (tC HR_4 HB) HC_4.out (tC HR_5 HB) HC_5.out (tC HR_6 HB) HC_6.out (tC HR_9 HB) HC_9.out (tC HR_b HB) HC_b.out (tC HR_c HB) HC_c.out (tC HR_k HB) HC_k.out (tC HR_l HB) HC_l.out (tC HR_m HB) HC_m.out (tC HR_n HB) HC_n.out (tC HR_o HB) HC_o.out (tC HR_q HB) HC_q.out (tC HR_r HB) HC_r.out (tC HR_s HB) HC_s.out A8.out).mono ?_
     rintro e w21 ⟨rfl, hb⟩
     refine ⟨_, rfl, ?_⟩
     have n0_ := Aside0.mk (Kd.S_below (dS HO_5) hb)
     have n1_ := Aside0.mk (blk_below (tK BK443) hb)
     have n2_ := Aside0.mk (below_step (tB HB) hb)
     revert n0_ n1_ n2_
     clear HO_5 BK443 HB
     intro HO_5 BK443 HB
     (try clear hb); (try clear hk)
     refine hK.out _ _ ⟨BK443.out, ((HB.out.cell (World.block_lt_of_cell? w _ hw447_0)).trans hw447_0)⟩ (fun hHeld => ?_)
     clear hK K
     refine nR 20 ?_
     refine done_ (by kernel_rfl) ?_
     obtain ⟨Ao22, co22, eo22⟩ := Kd.S_slice HO_5.out
     subst eo22
     try go_wp2
     have n0_ := Aside0.mk (Kd.S_drew HO_5.out)
     have n1_ := Aside0.mk (blk_drew BK443.out)
     have n2_ := Aside0.mk (below_drew1 HB.out)
     revert n0_ n1_ n2_
     clear HO_5 BK443 HB
     intro HO_5 BK443 HB
     have p453 : 0 ≤ ((ji14) : Int) := oD
     have q453 : (ji14) < (x5_1.length : Int) := oD
     obtain ⟨ad453, A453_1, c453_1, e453, hx453_0, hx453_1, hl453_1, hi453_1⟩ := at_T57 (Kd.S_reads' HO_5.out).2.2 (ji14) p453 q453
     cases e453
     obtain ⟨ce453, hce453, hMe453, hcc453⟩ := Kd.S_get HO_5.out z57 (ji14) p453 (by first | exact q453 | exact oD | (have e_ := (Kd.S_reads' HO_5.out).1; omega))
     obtain ⟨ve453_1, rfl, ge453_1⟩ := k57_openM hMe453
     have hv453_1 := hcc453 1 _ rfl
     rw [add_field _ _ 1 (by omega)] at hv453_1
     replace hv453_1 := Option.some.inj (hv453_1.symm.trans hx453_1)
     rw [hv453_1] at ge453_1
     have HL453_1 := Aside0.mk (show Kd.R Kd.string 9 _ _ _ _ ((rd_T57 x5_1 (ji14)).f1) from ge453_1)
     clear hv453_1 ge453_1
     have HX453_1 := Aside0.mk hx453_1
     clear hcc453 hce453
     have HR453_1 := Aside0.mk hi453_1
     have HC453_1 := Aside0.mk hl453_1
     clear hi453_1 hl453_1
     replace p453 := eq_true p453
     replace q453 := eq_true q453
     have p454 : 0 ≤ (x6_1 : Int) := oD
     have q454 : x6_1 < (l1.length : Int) := oD
     obtain ⟨ad454, e454, hx454_0⟩ := Kd.at_string HR1.out x6_1 p454 q454
     have hw454_0 := hx454_0
     obtain rfl : ad447 = ad454 := (by injection e454)
     replace hx454_0 := celB HB hx454_0
     replace p454 := eq_true p454
     replace q454 := eq_true q454
     obtain ⟨go24, co24, eo24, gb24, gl24, cl24, HG24⟩ := Kd.S_form HO_5.out (by have h_ : ((ji14) : Int) < ((x5_1.length : Int) : Int) := oD; have h2_ : 0 ≤ ((ji14) : Int) := (oD); omega)
     (first | cases eo24 | (injection eo24 with ea_ en_ ec_; (first | subst ea_ | (injection ea_ with ea_; subst ea_)); subst ec_; clear en_))
     have GB24 := Aside0.mk gb24
     have GG24 := Aside0.mk HG24
     clear gb24 gl24 HG24
     (first | simp only [add_plain] at hx453_0 | skip)
     (first | simp only [add_plain] at hx453_1 | skip)
     obtain ⟨oki24, ce24, hcl24, hM24, hcc24, _, _, hH24⟩ := Kd.S_elem HO_5.out z57 ((ji14) : Int) (oD) (by have h_ : ((ji14) : Int) < ((x5_1.length : Int) : Int) := oD; first | exact h_ | (have e_ := (Kd.S_reads' HO_5.out).1; omega) | simpa using h_)
     obtain ⟨ve24_1, rfl, ge24_1⟩ := k57_openM hM24
     have hv24 := hcc24 1 _ rfl
     have hX24 := HX453_1.out
     (try simp only [add_plain] at hX24)
     (try simp only [Nat.add_zero] at hv24)
     replace hv24 := Option.some.inj (hv24.symm.trans hX24)
     subst hv24
     clear hX24 hcc24 hcl24
     have UU24 := Aside0.mk (show Kd.R Kd.string 9 _ w.heap.size oki24 (.slice A453_1 ((rd_T57 x5_1 (ji14)).f1).length c453_1) ((rd_T57 x5_1 (ji14)).f1) from ge24_1)
     have HH24 := Aside0.mk hH24
     have HN24 := Aside0.mk (Kd.S_reads' HO_5.out).1
     clear hH24 ge24_1
     refine start_ (n := 17) (S := fun w' => w'.cell? ⟨go24, (((ji14)).toNat * 2), none⟩ = some (.string ((rd_T57 x5_1 (ji14)).f0)) ∧ w'.cell? ⟨go24, (((ji14)).toNat * 2) + 1, none⟩ = some (.slice A453_1 ((rd_T57 x5_1 (ji14)).f1).length c453_1) ∧ w'.cell? (ad447.add (x6_1).toNat) = some (.string (rdOf ByteArray.empty l1 x6_1))) (ds := [16]) #[false, false, false, false, false, false, false, false, false, false, false, false, false, false, false, false, false] (by kernel_rfl) rfl rfl ⟨hx453_0, hx453_1, ((HB.out.cell (World.block_lt_of_cell? w _ hw454_0)).trans hw454_0)⟩ (fun hHeld => ?_); refine with_tabW pentaglotref42_Segments.tab8 pentaglotref42_Segments.bits8 (fun HT_ HW_ => ?_)
     generalize w21.drew = w23 at HO_5 BK443 HB GG24 HH24 HL453_1 HR453_1 HX453_1 UU24 hx453_0 hx453_1 hx454_0 hHeld ⊢
     refine pT 0 32 ?_
     refine pT 1 33 ?_
     refine pT 2 34 ?_
     refine pT 3 35 ?_
     refine pT 4 36 ?_
     refine pT 5 37 ?_
     refine pT 7 39 ?_
     refine pT 8 40 ?_
     refine pT 9 41 ?_
     refine tTt 6 38 hHeld ?_
     refine tTt 10 42 hHeld ?_
     refine pT 11 43 ?_
     refine one_ (i := 12) (N := some 44) #[true, true, true, true, true, true, true, true, true, true, true, true, true, false, false, false, false] rfl rfl (one_of HT_.out (by kernel_rfl)) (by decide) (fun K hK => ?_)
     refine value_ (w1 := ?_) (v := ?_) (by rfl) rfl ?_ ?_
     rotate_left 2
     ·
      go_simp
      constructor
      ·
       rfl
      ·
       rfl
     refine hK.out _ _ ⟨(World.cell?_alloc_lt _ _ _ (World.block_lt_of_cell? _ _ (hHeld.1))).trans (hHeld.1), (World.cell?_alloc_lt _ _ _ (World.block_lt_of_cell? _ _ (hHeld.2.1))).trans (hHeld.2.1), (World.cell?_alloc_lt _ _ _ (World.block_lt_of_cell? _ _ (((HB.out.cell (World.block_lt_of_cell? w _ hw454_0)).trans hw454_0)))).trans (((HB.out.cell (World.block_lt_of_cell? w _ hw454_0)).trans hw454_0))⟩ (fun hHeld => ?_)
     clear hK K
     refine nR 44 ?_
     refine one_ (i := 13) (N := some 45) #[true, true, true, true, true, true, true, true, true, true, true, true, true, true, false, false, false] rfl rfl (one_of HT_.out (by kernel_rfl)) (by decide) (fun K hK => ?_)
     refine Kd.R_append_step Kd.string (w0 := w) w.heap.size (by rfl) (.tmp 38) (.tmp 44) 31 9 (.string ⟨#[]⟩) 16 rfl Tryd.underlying31 info9 rfl (by decide) (by omega) (.slice A453_1 ((rd_T57 x5_1 (ji14)).f1).length c453_1) ((rd_T57 x5_1 (ji14)).f1) ((rdOf ByteArray.empty l1 x6_1).extract 1 (rdOf ByteArray.empty l1 x6_1).size) [.string ((rdOf ByteArray.empty l1 x6_1).extract 1 (rdOf ByteArray.empty l1 x6_1).size)] (fun k_ => oki24 k_ ∨ ((fun _ => True)) k_ ∧ w23.heap.size ≤ k_) (fun _ => False) rfl rfl ?aP (fun _ hk => hk.elim) ?aF ?aO ?aB ?aS ?aL ?_
     (case aP => exact rfl)
     (case aB => exact (tB HB))
     (case aF => exact (fun k_ hk => .inr ⟨trivial, hk⟩))
     (case aO => exact (by (with_reducible repeat (first | apply Kd.R_alloc | apply Kd.R_drewN | apply Kd.R_drew)); exact Kd.R_mono UU24.out (fun _ hk => .inl hk)))
     (case aS => exact (tS HB))
     (case aL => have := LMc18.out; omega)
     intro v456 w25 ho hb hg hat
     (first | have HS0_ := cell_grown hg (hHeld.1) Gc10 | have HS0_ := cell_grown hg (cell_unalloc (hHeld.1) (by first | (rw [add_block]; exact Kd.S_lt HO_5.out _ rfl) | (show (Addr.add _ _).block < _; rw [add_block]; exact Kd.S_lt HO_5.out _ rfl) | exact Kd.S_lt HO_5.out _ rfl)) Gc10)
     (first | have HS1_ := cell_grown hg (hHeld.2.1) Gc10 | have HS1_ := cell_grown hg (cell_unalloc (hHeld.2.1) (by first | (rw [add_block]; exact Kd.S_lt HO_5.out _ rfl) | (show (Addr.add _ _).block < _; rw [add_block]; exact Kd.S_lt HO_5.out _ rfl) | exact Kd.S_lt HO_5.out _ rfl)) Gc10)
     rw [← Ny455.out] at ho
     have n0_ := Aside0.mk (blk_grown (tK BK443) hg (Kd.R_ne HL453_1.out BK443.out (by decide)))
     have n1_ := Aside0.mk (hb)
     have n2_ := Aside0.mk (Kd.H_grown (Kd.H_widen (by repeat (first | exact HH24.out | refine Kd.H_alloc ?_ _ | refine Kd.H_drewN ?_ _ | refine Kd.H_drew ?_))) hg (fun k_ e_ => .inl (UU24.out.1 k_ e_)))
     have n3_ := Aside0.mk (ho)
     revert n0_ n1_ n2_ n3_
     clear BK443 HB HH24 HO_5 UU24 HL453_1
     intro BK443 HB HH24 HO457
     clear ho hb hg hat
     have p19 : 0 ≤ ((ji14) : Int) := oD
     have q19 : ((ji14) : Int) < ((x5_1.length : Int) : Int) := oD
     replace p19 := eq_true p19
     replace q19 := eq_true q19
     obtain ⟨Ao28, co28, eo28⟩ := Kd.R_slice HO457.out
     (first | subst eo28 | (injection eo28 with f1_ f2_ f3_; have f4_ := f1_.symm; have f5_ := f3_.symm; clear f1_ f2_ f3_; subst f4_; subst f5_))
     obtain ⟨_, _, hraw26, _, _, hcc26, _⟩ := Kd.H_raw HH24.out (oD) Gc16
     obtain ⟨_, hfr26⟩ := Kd.H_at HH24.out (oD) Gc16
     have hx26_0 := hcc26 1 _ rfl
     have hf26_0 := hfr26 1
     (try rw [show (k57).sz = 2 from rfl] at hx26_0)
     (try rw [show (k57).sz = 2 from rfl] at hf26_0)
     have HP26 := Kd.S_seg0 HH24.out (oD) Gc16 (seg := [.slice Ao28 y455.length co28]) (j := 1) (show 2 ≤ 2 from by decide) (x' := (⟨(rd_T57 x5_1 (ji14)).f0, y455⟩ : S57)) (k57_mkM _ _ _ (⟨(rd_T57 x5_1 (ji14)).f0, y455⟩ : S57) HO457.out) (fun _ hk => hk)
     clear hcc26 hfr26
     have HNB443_go24 := Aside0.mk (show gb443 ≠ go24 from by have h_ := Kd.R_ne hraw26 BK443.out (by decide); intro e_; exact h_ (by rw [e_]; rfl))
     have HS26 := HP26.1
     (try simp only [show (k57).sz = 2 from rfl, World.setCells] at HS26)
     rw [← Ny458.out] at HS26
     have HQ26 := Aside0.mk HS26
     obtain ⟨_, hgg26⟩ := Kd.R_typed hraw26 go24 rfl
     have GG26_ := Aside0.mk hgg26
     clear HP26 HS26 hgg26
     refine hK.out _ _ ⟨HS0_, HS1_, ((HB.out.cell (World.block_lt_of_cell? w _ hw454_0)).trans hw454_0)⟩ (fun hHeld => ?_)
     clear hK K
     refine nR 45 ?_
     refine pT 14 46 ?_
     refine pT 15 47 ?_
     refine last_ (i := 16) (N := none) #[true, true, true, true, true, true, true, true, true, true, true, true, true, true, true, true, true] rfl rfl (one_of HT_.out (by kernel_rfl)) (by decide) (fun K hK => ?_)
     refine skip_ (w1 := ?_) (by rfl) rfl ?_ ?_
     rotate_left
     ·
      go_simp
      rfl
     refine hK.out _ _ ?_
     clear hK K
     refine done_ (done_of HT_.out (by kernel_rfl)) ?_
     try go_wp2
     go_roundg k1
     case measure => have := HK1.out; omega
     case rel => exact ⟨(y458), (wrap64 (x6_1 + 1)), tV1, H', ⟨by have := HK1.out; omega⟩, ⟨dS HQ26⟩, ⟨by (with_reducible repeat (first | refine blk_drewN ?_ _ | refine blk_drew ?_ | refine blk_alloc ?_ _)); refine blk_far ?_ HNB443_go24.out _; (with_reducible repeat (first | refine blk_drewN ?_ _ | refine blk_drew ?_ | refine blk_alloc ?_ _)); exact BK443.out⟩, ⟨tB HB⟩⟩)
  | (have mk_ := mk1_
     generalize wr.drew = w11 at HO_5 BK443 HB hx447_0 hHeld ⊢
     refine pK 1 16 ?_
     refine pK 2 17 ?_
     refine pK 3 18 ?_
     refine take_ (i := 0) (N := some 15) (v := ?_) (a' := ?_) #[true, true, true, true, false, false] rfl rfl (by kernel_rfl) (fun _ _ _ h => h) (Or.inl ⟨by rfl, ?_⟩) hHeld ?_ ?_
     rotate_left
     ·
      exact LPrF15x1
     rotate_left
     ·
      exact GpR
     refine take_ (i := 4) (N := some 19) (v := ?_) (a' := ?_) #[true, true, true, true, true, false] rfl rfl (by kernel_rfl) (fun _ _ _ h => h) (Or.inl ⟨by rfl, ?_⟩) hHeld ?_ ?_
     rotate_left
     ·
      exact LPrF15x1
     rotate_left
     ·
      exact GpR
     refine one_ (i := 5) (N := some 20) #[true, true, true, true, true, true] rfl rfl (by kernel_rfl) (by decide) (fun K hK => ?_)
     refine goes_ Tryd.func25 (by kernel_rfl) rfl #[.agg _, .string (rdOf ByteArray.empty l1 x6_1)] (by rfl) rfl rfl Gc2 ?_
     with_reducible refine (pentaglotref42_Host.calls a_0 a_1 _ _ l_2 _ _ l_3 _ _ l_4 _ _ l_5 _ _ l_6 a_7 a_8 _ _ l_9 a_a _ _ l_b _ _ l_c a_d a_e a_f a_g a_h a_i a_j _ _ l_k _ _ l_l _ _ l_m _ _ l_n _ _ l_o a_p _ _ l_q _ _ l_r _ _ l_s a_t (rdOf ByteArray.empty l1 x6_1) true _ (tC HR_2 HB) HC_2.out (tC HR_3 HB) HC_3.out (tC HR_4 HB) HC_4.out (tC HR_5 HB) HC_5.out (tC HR_6 HB) HC_6.out (tC HR_9 HB) HC_9.out (tC HR_b HB) HC_b.out (tC HR_c HB) HC_c.out (tC HR_k HB) HC_k.out (tC HR_l HB) HC_l.out (tC HR_m HB) HC_m.out (tC HR_n HB) HC_n.out (tC HR_o HB) HC_o.out (tC HR_q HB) HC_q.out (tC HR_r HB) HC_r.out (tC HR_s HB) HC_s.out A8.out).mono ?_
     rintro e w12 ⟨rfl, hb⟩
     refine ⟨_, rfl, ?_⟩
     have n0_ := Aside0.mk (Kd.S_below (dS HO_5) hb)
     have n1_ := Aside0.mk (blk_below (tK BK443) hb)
     have n2_ := Aside0.mk (below_step (tB HB) hb)
     revert n0_ n1_ n2_
     clear HO_5 BK443 HB
     intro HO_5 BK443 HB
     (try clear hb); (try clear hk)
     refine hK.out _ _ ⟨BK443.out, ((HB.out.cell (World.block_lt_of_cell? w _ hw447_0)).trans hw447_0)⟩ (fun hHeld => ?_)
     clear hK K
     refine nR 20 ?_
     refine done_ (by kernel_rfl) ?_
     have p449 : 0 ≤ (x6_1 : Int) := oD
     have q449 : x6_1 < (l1.length : Int) := oD
     obtain ⟨ad449, e449, hx449_0⟩ := Kd.at_string HR1.out x6_1 p449 q449
     obtain rfl : ad447 = ad449 := (by injection e449)
     replace hx449_0 := celB HB hx449_0
     replace p449 := eq_true p449
     replace q449 := eq_true q449
     try go_wp2_with (first | ((with_reducible refine gate_load (t := 41) (p := 2) rfl ?_); (try (refine gate_guard (by rfl) ?_; dsimp only)); refine wpList_load_row rfl 41 (.tmp 2) rfl gb443 rfl 41 _ (0, 0) _ (tK BK443) Tryd.underlying41 rfl (by kernel_rfl) ?_) | ((with_reducible refine gate_builtin (b := .append) (xs := #[.tmp 21, .tmp 27]) rfl ?_); at_builtin; refine Kd.S_append k57 (w0 := w) w.heap.size rfl (.tmp 21) (.tmp 27) 53 57 (.agg #[(.string ⟨#[]⟩), (.slice none 0 0)]) 40 rfl Tryd.underlying53 info57 rfl (by decide) (by omega) u5 x5_1 (⟨rdOf ByteArray.empty l1 x6_1, ([] : List ByteArray)⟩ : S57) [.string (rdOf ByteArray.empty l1 x6_1), .slice none 0 0] (fun _ => True) (fun _ => False) rfl rfl ?aP (fun k_ hk_ => hk_.elim) ?aF ?aO ?aB ?aS ?aL ?_; (case aP => exact k57_mkM _ _ _ (⟨rdOf ByteArray.empty l1 x6_1, ([] : List ByteArray)⟩ : S57) (Kd.R_nil _ _ _ _ _)); (case aB => exact (tB HB)); (case aF => exact Gc22); (case aO => exact (dS HO_5)); (case aS => exact (tS HB)); (case aL => have := LMc10.out; omega); intro v451 w13 ho hb hg hat; rw [← Ny450.out] at ho; have n0_ := Aside0.mk (blk_grown (tK BK443) hg (Kd.S_ne HO_5.out BK443.out (by decide))); have n1_ := Aside0.mk (hb); have n2_ := Aside0.mk (ho); revert n0_ n1_ n2_; clear BK443 HB HO_5; intro BK443 HB HO452; clear ho hb hg hat))
     go_roundg k1
     case measure => have := HK1.out; omega
     case rel => exact ⟨(y450), (wrap64 (x6_1 + 1)), tV1, H', ⟨by have := HK1.out; omega⟩, ⟨dS HO452⟩, ⟨tK BK443⟩, ⟨tB HB⟩⟩)) : p := h
set_option maxHeartbeats 8000000 in
set_option maxRecDepth 100000 in
theorem pentaglotref42_Segments.calls (k : Nat) (a_0 : ByteArray) (a_1 : Bool) (A_2 : Option Addr) (c_2 : Nat) (l_2 : List (S80)) (A_3 : Option Addr) (c_3 : Nat) (l_3 : List (S85)) (A_4 : Option Addr) (c_4 : Nat) (l_4 : List (S180)) (A_5 : Option Addr) (c_5 : Nat) (l_5 : List (S183)) (A_6 : Option Addr) (c_6 : Nat) (l_6 : List (List Int)) (a_7 : Int) (a_8 : Int) (A_9 : Option Addr) (c_9 : Nat) (l_9 : List (S85)) (a_a : Int) (A_b : Option Addr) (c_b : Nat) (l_b : List ByteArray) (A_c : Option Addr) (c_c : Nat) (l_c : List ByteArray) (a_d : Bool) (a_e : ByteArray) (a_f : Int) (a_g : ByteArray) (a_h : Bool) (a_i : Int) (a_j : Int) (A_k : Option Addr) (c_k : Nat) (l_k : List (S186)) (A_l : Option Addr) (c_l : Nat) (l_l : List (S186)) (A_m : Option Addr) (c_m : Nat) (l_m : List ByteArray) (A_n : Option Addr) (c_n : Nat) (l_n : List ByteArray) (A_o : Option Addr) (c_o : Nat) (l_o : List ByteArray) (a_p : Bool) (A_q : Option Addr) (c_q : Nat) (l_q : List (S188)) (A_r : Option Addr) (c_r : Nat) (l_r : List (S190)) (A_s : Option Addr) (c_s : Nat) (l_s : List (S194)) (a_t : ByteArray) (A1 : Option Addr) (c1 : Nat) (l1 : List ByteArray) (r : List (S57)) (w : World) (hr_2 : Kd.C k80 w A_2 l_2.length l_2) (hc_2 : l_2.length ≤ c_2) (hr_3 : Kd.C k85 w A_3 l_3.length l_3) (hc_3 : l_3.length ≤ c_3) (hr_4 : Kd.C k180 w A_4 l_4.length l_4) (hc_4 : l_4.length ≤ c_4) (hr_5 : Kd.C k183 w A_5 l_5.length l_5) (hc_5 : l_5.length ≤ c_5) (hr_6 : Kd.C (Kd.slice 78 (Kd.int .u32)) w A_6 l_6.length l_6) (hc_6 : l_6.length ≤ c_6) (hr_9 : Kd.C k85 w A_9 l_9.length l_9) (hc_9 : l_9.length ≤ c_9) (hr_b : Kd.C Kd.string w A_b l_b.length l_b) (hc_b : l_b.length ≤ c_b) (hr_c : Kd.C Kd.string w A_c l_c.length l_c) (hc_c : l_c.length ≤ c_c) (hr_k : Kd.C k186 w A_k l_k.length l_k) (hc_k : l_k.length ≤ c_k) (hr_l : Kd.C k186 w A_l l_l.length l_l) (hc_l : l_l.length ≤ c_l) (hr_m : Kd.C Kd.string w A_m l_m.length l_m) (hc_m : l_m.length ≤ c_m) (hr_n : Kd.C Kd.string w A_n l_n.length l_n) (hc_n : l_n.length ≤ c_n) (hr_o : Kd.C Kd.string w A_o l_o.length l_o) (hc_o : l_o.length ≤ c_o) (hr_q : Kd.C k188 w A_q l_q.length l_q) (hc_q : l_q.length ≤ c_q) (hr_r : Kd.C k190 w A_r l_r.length l_r) (hc_r : l_r.length ≤ c_r) (hr_s : Kd.C k194 w A_s l_s.length l_s) (hc_s : l_s.length ≤ c_s) (hr1 : Kd.C Kd.string w A1 l1.length l1) (hc1 : l1.length ≤ c1) (h : pentaglotref42_Segments.f k a_0 a_1 l_2 l_3 l_4 l_5 l_6 a_7 a_8 l_9 a_a l_b l_c a_d a_e a_f a_g a_h a_i a_j l_k l_l l_m l_n l_o a_p l_q l_r l_s a_t l1 = some r) :
 Calls Tryd.prog 15 #[.agg #[.string a_0, .bool a_1, .slice A_2 l_2.length c_2, .slice A_3 l_3.length c_3, .slice A_4 l_4.length c_4, .slice A_5 l_5.length c_5, .slice A_6 l_6.length c_6, .int .i64 a_7, .int .i64 a_8, .slice A_9 l_9.length c_9, .int .i64 a_a, .slice A_b l_b.length c_b, .slice A_c l_c.length c_c, .bool a_d, .string a_e, .int .i64 a_f, .string a_g, .bool a_h, .int .i64 a_i, .int .i64 a_j, .slice A_k l_k.length c_k, .slice A_l l_l.length c_l, .slice A_m l_m.length c_m, .slice A_n l_n.length c_n, .slice A_o l_o.length c_o, .bool a_p, .slice A_q l_q.length c_q, .slice A_r l_r.length c_r, .slice A_s l_s.length c_s, .string a_t], .slice A1 l1.length c1] w fun e w' => ∃ v0_ : Value, e = .returned (v0_) ∧ Kd.S k57 57 w' w.heap.size (fun _ => True) v0_ r ∧ Below w.heap.size w w' := by
 have hu41 := Tryd.underlying41
 have hu57 := Tryd.underlying57
 have HR_2 := Aside0.mk hr_2
 have HC_2 := Aside0.mk hc_2
 clear hr_2 hc_2
 have HR_3 := Aside0.mk hr_3
 have HC_3 := Aside0.mk hc_3
 clear hr_3 hc_3
 have HR_4 := Aside0.mk hr_4
 have HC_4 := Aside0.mk hc_4
 clear hr_4 hc_4
 have HR_5 := Aside0.mk hr_5
 have HC_5 := Aside0.mk hc_5
 clear hr_5 hc_5
 have HR_6 := Aside0.mk hr_6
 have HC_6 := Aside0.mk hc_6
 clear hr_6 hc_6
 have HR_9 := Aside0.mk hr_9
 have HC_9 := Aside0.mk hc_9
 clear hr_9 hc_9
 have HR_b := Aside0.mk hr_b
 have HC_b := Aside0.mk hc_b
 clear hr_b hc_b
 have HR_c := Aside0.mk hr_c
 have HC_c := Aside0.mk hc_c
 clear hr_c hc_c
 have HR_k := Aside0.mk hr_k
 have HC_k := Aside0.mk hc_k
 clear hr_k hc_k
 have HR_l := Aside0.mk hr_l
 have HC_l := Aside0.mk hc_l
 clear hr_l hc_l
 have HR_m := Aside0.mk hr_m
 have HC_m := Aside0.mk hc_m
 clear hr_m hc_m
 have HR_n := Aside0.mk hr_n
 have HC_n := Aside0.mk hc_n
 clear hr_n hc_n
 have HR_o := Aside0.mk hr_o
 have HC_o := Aside0.mk hc_o
 clear hr_o hc_o
 have HR_q := Aside0.mk hr_q
 have HC_q := Aside0.mk hc_q
 clear hr_q hc_q
 have HR_r := Aside0.mk hr_r
 have HC_r := Aside0.mk hc_r
 clear hr_r hc_r
 have HR_s := Aside0.mk hr_s
 have HC_s := Aside0.mk hc_s
 clear hr_s hc_s
 have HR1 := Aside0.mk hr1
 have HC1 := Aside0.mk hc1
 clear hr1 hc1
 have HB := Aside0.mk (Below.refl w.heap.size w)
 have H : (pentaglotref42_Segments.l0 k l1 (([] : List (S57))) 0 a_0 a_1 l_2 l_3 l_4 l_5 l_6 a_7 a_8 l_9 a_a l_b l_c a_d a_e a_f a_g a_h a_i a_j l_k l_l l_m l_n l_o a_p l_q l_r l_s a_t) = some r := h
 clear h
 obtain ⟨y444, hy444⟩ : ∃ y_ : List (S57), y_ = (([] : List (S57))) := ⟨_, rfl⟩
 replace H : (pentaglotref42_Segments.l0 k l1 y444 0 a_0 a_1 l_2 l_3 l_4 l_5 l_6 a_7 a_8 l_9 a_a l_b l_c a_d a_e a_f a_g a_h a_i a_j l_k l_l l_m l_n l_o a_p l_q l_r l_s a_t) = some r := by first | (rw [hy444]; with_reducible exact H) | (have H2_ := (Option.bind_some _ _).symm.trans H; rw [hy444]; with_reducible exact H2_) | (have H2_ := (Option.bind_some _ _).symm.trans H; with_reducible exact H2_) | with_reducible exact H | (rw [hy444]; exact H) | exact H
 have Ny444 := Aside0.mk hy444
 clear hy444
 have H' := Aside0.mk H
 clear H
 go_enter Tryd.func15, Tryd.ntmps15
 go_wp2_with (first | ((with_reducible refine gate_load (t := 41) (p := 2) rfl ?_); (try (refine gate_guard (by rfl) ?_; dsimp only)); refine wpList_load_row rfl 41 (.tmp 2) rfl gb443 rfl 41 _ (0, 0) _ (tK BK443) Tryd.underlying41 rfl (by kernel_rfl) ?_) | ((with_reducible refine gate_dst (N := 2) rfl ?_); refine box_event ?hg (N := 2) ?hd (cs := ?cs) (t := 41) ?hr ?_; (case hd => rfl); (case hg => rfl); (case hr => exact Gc6); intro gb443 hg w3 hbox hb; have n0_ := Aside0.mk (below_step (tB HB) hb); have n1_ := Aside0.mk (hbox); have n2_ := tZ hg (tS HB); have n3_ := tZ hg (tS HB); revert n0_ n1_ n2_ n3_; clear HB; intro HB BK443 GW443 GE443; clear hb hbox hg) | ((with_reducible refine gate_dst (N := 8) rfl ?_); refine Kd.S_lit k57 _ 57 ?hg (N := 8) ?hd (xs := ([] : List (S57))) (inner := []) (ok := fun _ => True) (okp := fun _ => True) ?hr ?hp (fun _ hk => hk) trivial (Below.refl _ _) (Nat.le_refl _) (by simp) ?_; (case hd => rfl); (case hg => rfl); (case hr => exact Gc6); (case hp => exact (Reps.none _ _)); intro v445 w4 ho5 hb hg_ hnew_; clear hg_ hnew_; (first | rw [← Ny444.out] at ho5 | (simp only [Int.reduceToNat] at ho5; rw [← Ny444.out] at ho5)); have n0_ := Aside0.mk (Kd.S_lower ho5 (tS HB)); have n1_ := Aside0.mk (blk_below (tK BK443) hb); have n2_ := Aside0.mk (below_step (tB HB) hb); revert n0_ n1_ n2_; clear BK443 HB; intro HO446 BK443 HB; clear hb ho5))
 go_loopg [5, 6] k (fun kq v5 v6 w' => ∃ (x5_1 : List (S57)) (x6_1 : Int), v6 = .int .i64 x6_1 ∧ Aside0 (pentaglotref42_Segments.l0 kq l1 x5_1 x6_1 a_0 a_1 l_2 l_3 l_4 l_5 l_6 a_7 a_8 l_9 a_a l_b l_c a_d a_e a_f a_g a_h a_i a_j l_k l_l l_m l_n l_o a_p l_q l_r l_s a_t = some r) ∧ Aside0 (kq ≤ k) ∧ Aside0 (Kd.S k57 57 w' w.heap.size (fun _ => True) v5 x5_1) ∧ Aside0 (w'.heap[gb443]? = some (.cells #[.string a_0, .bool a_1, (.slice A_2 l_2.length c_2), (.slice A_3 l_3.length c_3), (.slice A_4 l_4.length c_4), (.slice A_5 l_5.length c_5), (.slice A_6 l_6.length c_6), .int .i64 a_7, .int .i64 a_8, (.slice A_9 l_9.length c_9), .int .i64 a_a, (.slice A_b l_b.length c_b), (.slice A_c l_c.length c_c), .bool a_d, .string a_e, .int .i64 a_f, .string a_g, .bool a_h, .int .i64 a_i, .int .i64 a_j, (.slice A_k l_k.length c_k), (.slice A_l l_l.length c_l), (.slice A_m l_m.length c_m), (.slice A_n l_n.length c_n), (.slice A_o l_o.length c_o), .bool a_p, (.slice A_q l_q.length c_q), (.slice A_r l_r.length c_r), (.slice A_s l_s.length c_s), .string a_t] 41 (0, 0))) ∧ Aside0 (Below w.heap.size w w'))
 case atStart => exact ⟨(y444), (0), tV1, H', ⟨Nat.le_refl _⟩, ⟨dS HO446⟩, ⟨tK BK443⟩, ⟨tB HB⟩⟩
 case round =>
  clear H'
  obtain ⟨x5_1, x6_1, rfl, HA, HK1, HO_5, BK443, HB⟩ := hrel
  cases gk with
  | zero => exact absurd HA.out (by simp [pentaglotref42_Segments.l0])
  | succ k1 =>
   have H := HA.out
   clear HA
   simp only [pentaglotref42_Segments.l0] at H
   replace H := iF H; obtain ⟨c6, H⟩ | ⟨c6, H⟩ := H
   ·
    have c6b0 : decide (x6_1 < (l1.length : Int)) = true := decide_eq_true c6
    clear c6
    replace H := iF H; obtain ⟨c7, H⟩ | ⟨c7, H⟩ := H
    ·
     have c7b0 : decide (0 ≤ x6_1) = true := decide_eq_true c7
     clear c7
     replace H := bI H; obtain ⟨t448, A8, H⟩ := H; (try dsimp only at H)
     replace H := iT H; obtain ⟨rfl, H⟩ | ⟨rfl, H⟩ := H
     ·
      replace H := iF H; obtain ⟨c10, H⟩ | ⟨c10, H⟩ := H
      ·
       have LMc10 := Aside0.mk c10
       clear c10
       obtain ⟨y450, hy450⟩ : ∃ y_ : List (S57), y_ = (x5_1 ++ [(⟨rdOf ByteArray.empty l1 x6_1, ([] : List ByteArray)⟩ : S57)]) := ⟨_, rfl⟩
       replace H : (pentaglotref42_Segments.l0 k1 l1 y450 (wrap64 (x6_1 + 1)) a_0 a_1 l_2 l_3 l_4 l_5 l_6 a_7 a_8 l_9 a_a l_b l_c a_d a_e a_f a_g a_h a_i a_j l_k l_l l_m l_n l_o a_p l_q l_r l_s a_t) = some r := by first | (rw [hy450]; with_reducible exact H) | (have H2_ := (Option.bind_some _ _).symm.trans H; rw [hy450]; with_reducible exact H2_) | (have H2_ := (Option.bind_some _ _).symm.trans H; with_reducible exact H2_) | with_reducible exact H | (rw [hy450]; exact H) | exact H
       have Ny450 := Aside0.mk hy450
       clear hy450
       have mk1_ := trivial
       exact LPrF15xh1
      ·
       exact absurd H (by simp)
     ·
      obtain ⟨ji14, hji14⟩ : ∃ j_ : Int, (wrap64 ((x5_1.length : Int) - 1)) = j_ := ⟨_, rfl⟩
      replace H : (if 0 ≤ (ji14) then (if (ji14) < (x5_1.length : Int) then (if 1 ≤ ((rdOf ByteArray.empty l1 x6_1).size : Int) then (if ((rd_T57 x5_1 (ji14)).f1).length < 8796093022208 then (pentaglotref42_Segments.l0 k1 l1 (x5_1.set ((ji14) : Int).toNat (⟨(rd_T57 x5_1 (ji14)).f0, (((rd_T57 x5_1 (ji14)).f1) ++ [(rdOf ByteArray.empty l1 x6_1).extract 1 (rdOf ByteArray.empty l1 x6_1).size])⟩ : S57)) (wrap64 (x6_1 + 1)) a_0 a_1 l_2 l_3 l_4 l_5 l_6 a_7 a_8 l_9 a_a l_b l_c a_d a_e a_f a_g a_h a_i a_j l_k l_l l_m l_n l_o a_p l_q l_r l_s a_t) else (none)) else (none)) else (none)) else (none)) = some r := by first | (rw [hji14] at H; exact H) | (simp only [hji14] at H ⊢; exact H)
      (try rw [hji14] at A8)
      have hji14w : (IntKind.i64.wrap ((x5_1.length : Int) - 1)) = ji14 := (i64_w _).trans hji14
      replace H := iF H; obtain ⟨c15, H⟩ | ⟨c15, H⟩ := H
      ·
       have c15b0 : decide (0 ≤ (ji14)) = true := decide_eq_true c15
       clear c15
       replace H := iF H; obtain ⟨c16, H⟩ | ⟨c16, H⟩ := H
       ·
        have c16b0 : decide ((ji14) < (x5_1.length : Int)) = true := decide_eq_true c16
        clear c16
        replace H := iF H; obtain ⟨c17, H⟩ | ⟨c17, H⟩ := H
        ·
         have c17b0 := eq_true c17
         have c17b1 : decide (1 ≤ ((rdOf ByteArray.empty l1 x6_1).size : Int)) = true := decide_eq_true c17
         clear c17
         replace H := iF H; obtain ⟨c18, H⟩ | ⟨c18, H⟩ := H
         ·
          have LMc18 := Aside0.mk c18
          clear c18
          obtain ⟨y455, hy455⟩ : ∃ y_ : List ByteArray, y_ = (((rd_T57 x5_1 (ji14)).f1) ++ [(rdOf ByteArray.empty l1 x6_1).extract 1 (rdOf ByteArray.empty l1 x6_1).size]) := ⟨_, rfl⟩
          replace H : (pentaglotref42_Segments.l0 k1 l1 (x5_1.set ((ji14) : Int).toNat (⟨(rd_T57 x5_1 (ji14)).f0, y455⟩ : S57)) (wrap64 (x6_1 + 1)) a_0 a_1 l_2 l_3 l_4 l_5 l_6 a_7 a_8 l_9 a_a l_b l_c a_d a_e a_f a_g a_h a_i a_j l_k l_l l_m l_n l_o a_p l_q l_r l_s a_t) = some r := by first | (rw [hy455]; with_reducible exact H) | (have H2_ := (Option.bind_some _ _).symm.trans H; rw [hy455]; with_reducible exact H2_) | (have H2_ := (Option.bind_some _ _).symm.trans H; with_reducible exact H2_) | with_reducible exact H | (rw [hy455]; exact H) | exact H
          have Ny455 := Aside0.mk hy455
          clear hy455
          obtain ⟨y458, hy458⟩ : ∃ y_ : List (S57), y_ = (x5_1.set ((ji14) : Int).toNat (⟨(rd_T57 x5_1 (ji14)).f0, y455⟩ : S57)) := ⟨_, rfl⟩
          replace H : (pentaglotref42_Segments.l0 k1 l1 y458 (wrap64 (x6_1 + 1)) a_0 a_1 l_2 l_3 l_4 l_5 l_6 a_7 a_8 l_9 a_a l_b l_c a_d a_e a_f a_g a_h a_i a_j l_k l_l l_m l_n l_o a_p l_q l_r l_s a_t) = some r := by first | (rw [hy458]; with_reducible exact H) | (have H2_ := (Option.bind_some _ _).symm.trans H; rw [hy458]; with_reducible exact H2_) | (have H2_ := (Option.bind_some _ _).symm.trans H; with_reducible exact H2_) | with_reducible exact H | (rw [hy458]; exact H) | exact H
          have Ny458 := Aside0.mk hy458
          clear hy458
          have mk0_ := trivial
          exact LPrF15xh1
         ·
          exact absurd H (by simp)
        ·
         exact absurd H (by simp)
       ·
        exact absurd H (by simp)
      ·
       exact absurd H (by simp)
    ·
     exact absurd H (by simp)
   ·
    have c6b0 : decide (x6_1 < (l1.length : Int)) = false := decide_eq_false c6
    clear c6
    obtain rfl := Option.some.inj H
    go_wp2
    go_ret
    exact ⟨_, tE, by (with_reducible repeat (first | apply Kd.S_alloc | apply Kd.S_drewN | apply Kd.S_drew)); exact HO_5.out, by repeat (first | (with_reducible first | exact HB.out | apply below_alloc | apply pw_below_drewN | apply below_drew1 | refine below_set ?_ GE443.out) | exact HB.out)⟩
def pentaglotlaw42_few.f (a_0 : ByteArray) (a_1 : Bool) (l_2 : List (S80)) (l_3 : List (S85)) (l_4 : List (S180)) (l_5 : List (S183)) (l_6 : List (List Int)) (a_7 : Int) (a_8 : Int) (l_9 : List (S85)) (a_a : Int) (l_b : List ByteArray) (l_c : List ByteArray) (a_d : Bool) (a_e : ByteArray) (a_f : Int) (a_g : ByteArray) (a_h : Bool) (a_i : Int) (a_j : Int) (l_k : List (S186)) (l_l : List (S186)) (l_m : List ByteArray) (l_n : List ByteArray) (l_o : List ByteArray) (a_p : Bool) (l_q : List (S188)) (l_r : List (S190)) (l_s : List (S194)) (a_t : ByteArray) : Option (Bool) := if (l_2.length : Int) ≤ 40 then (if (l_9.length : Int) ≤ 4 then (if (l_s.length : Int) ≤ 60 then (if (l_r.length : Int) ≤ 12 then (some (decide ((l_5.length : Int) ≤ 30))) else (some false)) else (some false)) else (some false)) else (some false)
theorem LPrF7a1 {p : Prop} (h : p := by
  go_enter Tryd.func7, Tryd.ntmps7
  go_wp2_with (first | ((with_reducible refine gate_load (t := 41) (p := 1) rfl ?_); (try (refine gate_guard (by rfl) ?_; dsimp only)); refine wpList_load_row rfl 41 (.tmp 1) rfl gb310 rfl 41 _ (0, 0) _ (tK BK310) Tryd.underlying41 rfl (by kernel_rfl) ?_) | ((with_reducible refine gate_dst (N := 1) rfl ?_); (try (refine gate_guard (by rfl) ?_; dsimp only)); refine box_event ?hg (N := 1) ?hd (cs := ?cs) (t := 41) ?hr ?_; (case hd => rfl); (case hg => rfl); (case hr => exact Gc6); intro gb310 hg z2_ hbox hb; have z3_ := Aside0.mk (below_step (tB HB) hb); have z4_ := Aside0.mk (hbox); have z5_ := tZ hg (tS HB); have z6_ := tZ hg (tS HB); revert z3_ z4_ z5_ z6_; clear HB; intro HB BK310 z8_ GE310; clear hb hbox hg; have z10_ := cel2 BK310 2 rfl; have z11_ := cel2 BK310 5 rfl; have z12_ := cel2 BK310 9 rfl; have z13_ := cel2 BK310 27 rfl; have z14_ := cel2 BK310 28 rfl; have z15_ := blk_frozen BK310.out 2; have z16_ := blk_frozen BK310.out 5; have z17_ := blk_frozen BK310.out 9; have z18_ := blk_frozen BK310.out 27; have z19_ := blk_frozen BK310.out 28))
  go_ret
  exact ⟨tE, by repeat (first | (with_reducible first | exact HB.out | apply below_alloc | apply pw_below_drewN | apply below_drew1 | refine below_set ?_ GE310.out) | exact HB.out)⟩) : p := h
set_option maxHeartbeats 8000000 in
set_option maxRecDepth 100000 in
theorem pentaglotlaw42_few.calls (a_0 : ByteArray) (a_1 : Bool) (A_2 : Option Addr) (c_2 : Nat) (l_2 : List (S80)) (A_3 : Option Addr) (c_3 : Nat) (l_3 : List (S85)) (A_4 : Option Addr) (c_4 : Nat) (l_4 : List (S180)) (A_5 : Option Addr) (c_5 : Nat) (l_5 : List (S183)) (A_6 : Option Addr) (c_6 : Nat) (l_6 : List (List Int)) (a_7 : Int) (a_8 : Int) (A_9 : Option Addr) (c_9 : Nat) (l_9 : List (S85)) (a_a : Int) (A_b : Option Addr) (c_b : Nat) (l_b : List ByteArray) (A_c : Option Addr) (c_c : Nat) (l_c : List ByteArray) (a_d : Bool) (a_e : ByteArray) (a_f : Int) (a_g : ByteArray) (a_h : Bool) (a_i : Int) (a_j : Int) (A_k : Option Addr) (c_k : Nat) (l_k : List (S186)) (A_l : Option Addr) (c_l : Nat) (l_l : List (S186)) (A_m : Option Addr) (c_m : Nat) (l_m : List ByteArray) (A_n : Option Addr) (c_n : Nat) (l_n : List ByteArray) (A_o : Option Addr) (c_o : Nat) (l_o : List ByteArray) (a_p : Bool) (A_q : Option Addr) (c_q : Nat) (l_q : List (S188)) (A_r : Option Addr) (c_r : Nat) (l_r : List (S190)) (A_s : Option Addr) (c_s : Nat) (l_s : List (S194)) (a_t : ByteArray) (r : Bool) (w : World) (hr_2 : Kd.C k80 w A_2 l_2.length l_2) (hc_2 : l_2.length ≤ c_2) (hr_3 : Kd.C k85 w A_3 l_3.length l_3) (hc_3 : l_3.length ≤ c_3) (hr_4 : Kd.C k180 w A_4 l_4.length l_4) (hc_4 : l_4.length ≤ c_4) (hr_5 : Kd.C k183 w A_5 l_5.length l_5) (hc_5 : l_5.length ≤ c_5) (hr_6 : Kd.C (Kd.slice 78 (Kd.int .u32)) w A_6 l_6.length l_6) (hc_6 : l_6.length ≤ c_6) (hr_9 : Kd.C k85 w A_9 l_9.length l_9) (hc_9 : l_9.length ≤ c_9) (hr_b : Kd.C Kd.string w A_b l_b.length l_b) (hc_b : l_b.length ≤ c_b) (hr_c : Kd.C Kd.string w A_c l_c.length l_c) (hc_c : l_c.length ≤ c_c) (hr_k : Kd.C k186 w A_k l_k.length l_k) (hc_k : l_k.length ≤ c_k) (hr_l : Kd.C k186 w A_l l_l.length l_l) (hc_l : l_l.length ≤ c_l) (hr_m : Kd.C Kd.string w A_m l_m.length l_m) (hc_m : l_m.length ≤ c_m) (hr_n : Kd.C Kd.string w A_n l_n.length l_n) (hc_n : l_n.length ≤ c_n) (hr_o : Kd.C Kd.string w A_o l_o.length l_o) (hc_o : l_o.length ≤ c_o) (hr_q : Kd.C k188 w A_q l_q.length l_q) (hc_q : l_q.length ≤ c_q) (hr_r : Kd.C k190 w A_r l_r.length l_r) (hc_r : l_r.length ≤ c_r) (hr_s : Kd.C k194 w A_s l_s.length l_s) (hc_s : l_s.length ≤ c_s) (h : pentaglotlaw42_few.f a_0 a_1 l_2 l_3 l_4 l_5 l_6 a_7 a_8 l_9 a_a l_b l_c a_d a_e a_f a_g a_h a_i a_j l_k l_l l_m l_n l_o a_p l_q l_r l_s a_t = some r) :
 Calls Tryd.prog 7 #[.agg #[.string a_0, .bool a_1, .slice A_2 l_2.length c_2, .slice A_3 l_3.length c_3, .slice A_4 l_4.length c_4, .slice A_5 l_5.length c_5, .slice A_6 l_6.length c_6, .int .i64 a_7, .int .i64 a_8, .slice A_9 l_9.length c_9, .int .i64 a_a, .slice A_b l_b.length c_b, .slice A_c l_c.length c_c, .bool a_d, .string a_e, .int .i64 a_f, .string a_g, .bool a_h, .int .i64 a_i, .int .i64 a_j, .slice A_k l_k.length c_k, .slice A_l l_l.length c_l, .slice A_m l_m.length c_m, .slice A_n l_n.length c_n, .slice A_o l_o.length c_o, .bool a_p, .slice A_q l_q.length c_q, .slice A_r l_r.length c_r, .slice A_s l_s.length c_s, .string a_t]] w fun e w' => e = .returned (.bool r) ∧ Below w.heap.size w w' := by
 have hu41 := Tryd.underlying41
 have HR_2 := Aside0.mk hr_2
 have HC_2 := Aside0.mk hc_2
 clear hr_2 hc_2
 have HR_3 := Aside0.mk hr_3
 have HC_3 := Aside0.mk hc_3
 clear hr_3 hc_3
 have HR_4 := Aside0.mk hr_4
 have HC_4 := Aside0.mk hc_4
 clear hr_4 hc_4
 have HR_5 := Aside0.mk hr_5
 have HC_5 := Aside0.mk hc_5
 clear hr_5 hc_5
 have HR_6 := Aside0.mk hr_6
 have HC_6 := Aside0.mk hc_6
 clear hr_6 hc_6
 have HR_9 := Aside0.mk hr_9
 have HC_9 := Aside0.mk hc_9
 clear hr_9 hc_9
 have HR_b := Aside0.mk hr_b
 have HC_b := Aside0.mk hc_b
 clear hr_b hc_b
 have HR_c := Aside0.mk hr_c
 have HC_c := Aside0.mk hc_c
 clear hr_c hc_c
 have HR_k := Aside0.mk hr_k
 have HC_k := Aside0.mk hc_k
 clear hr_k hc_k
 have HR_l := Aside0.mk hr_l
 have HC_l := Aside0.mk hc_l
 clear hr_l hc_l
 have HR_m := Aside0.mk hr_m
 have HC_m := Aside0.mk hc_m
 clear hr_m hc_m
 have HR_n := Aside0.mk hr_n
 have HC_n := Aside0.mk hc_n
 clear hr_n hc_n
 have HR_o := Aside0.mk hr_o
 have HC_o := Aside0.mk hc_o
 clear hr_o hc_o
 have HR_q := Aside0.mk hr_q
 have HC_q := Aside0.mk hc_q
 clear hr_q hc_q
 have HR_r := Aside0.mk hr_r
 have HC_r := Aside0.mk hc_r
 clear hr_r hc_r
 have HR_s := Aside0.mk hr_s
 have HC_s := Aside0.mk hc_s
 clear hr_s hc_s
 have HB := Aside0.mk (Below.refl w.heap.size w)
 have H : (if (l_2.length : Int) ≤ 40 then (if (l_9.length : Int) ≤ 4 then (if (l_s.length : Int) ≤ 60 then (if (l_r.length : Int) ≤ 12 then (some (decide ((l_5.length : Int) ≤ 30))) else (some false)) else (some false)) else (some false)) else (some false)) = some r := h
 clear h
 replace H := iF H; obtain ⟨c2, H⟩ | ⟨c2, H⟩ := H
 ·
  have c2b0 : decide ((l_2.length : Int) ≤ 40) = true := decide_eq_true c2
  have c2b1 : decide (l_2.length ≤ 40) = true := decide_eq_true (by omega)
  clear c2
  replace H := iF H; obtain ⟨c3, H⟩ | ⟨c3, H⟩ := H
  ·
   have c3b0 : decide ((l_9.length : Int) ≤ 4) = true := decide_eq_true c3
   have c3b1 : decide (l_9.length ≤ 4) = true := decide_eq_true (by omega)
   clear c3
   replace H := iF H; obtain ⟨c4, H⟩ | ⟨c4, H⟩ := H
   ·
    have c4b0 : decide ((l_s.length : Int) ≤ 60) = true := decide_eq_true c4
    have c4b1 : decide (l_s.length ≤ 60) = true := decide_eq_true (by omega)
    clear c4
    replace H := iF H; obtain ⟨c5, H⟩ | ⟨c5, H⟩ := H
    ·
     have c5b0 : decide ((l_r.length : Int) ≤ 12) = true := decide_eq_true c5
     have c5b1 : decide (l_r.length ≤ 12) = true := decide_eq_true (by omega)
     clear c5
     obtain rfl := Option.some.inj H
     exact LPrF7a1
    ·
     have c5b0 : decide ((l_r.length : Int) ≤ 12) = false := decide_eq_false c5
     have c5b1 : decide (l_r.length ≤ 12) = false := decide_eq_false (by omega)
     clear c5
     obtain rfl := Option.some.inj H
     exact LPrF7a1
   ·
    have c4b0 : decide ((l_s.length : Int) ≤ 60) = false := decide_eq_false c4
    have c4b1 : decide (l_s.length ≤ 60) = false := decide_eq_false (by omega)
    clear c4
    obtain rfl := Option.some.inj H
    exact LPrF7a1
  ·
   have c3b0 : decide ((l_9.length : Int) ≤ 4) = false := decide_eq_false c3
   have c3b1 : decide (l_9.length ≤ 4) = false := decide_eq_false (by omega)
   clear c3
   obtain rfl := Option.some.inj H
   exact LPrF7a1
 ·
  have c2b0 : decide ((l_2.length : Int) ≤ 40) = false := decide_eq_false c2
  have c2b1 : decide (l_2.length ≤ 40) = false := decide_eq_false (by omega)
  clear c2
  obtain rfl := Option.some.inj H
  exact LPrF7a1
end Go.Proofs.YtfbhdjflkaldgaaDoor.Pr
