/- Several texts in one: PrF98, PrF99, PrF93. -/
import Derived.Test.YtfbhdjflkaldgaaDoorMg1
import Derived.Test.YtfbhdjflkaldgaaDoorCt
import Derived.Test.YtfbhdjflkaldgaaDoorMg7
import Derived.Test.YtfbhdjflkaldgaaDoorMg5
import Derived.Test.YtfbhdjflkaldgaaDoorMg3

namespace Go.Proofs.YtfbhdjflkaldgaaDoor.Pr
open Go.Proofs.YtfbhdjflkaldgaaDoor.Ct Go.RowKit Go.Proofs.YtfbhdjflkaldgaaDoorW.PrintWords Go.Proofs.YtfbhdjflkaldgaaDoorW.PrintLast Go.Proofs.YtfbhdjflkaldgaaDoorW.PrintMore
attribute [local go_sem] max2_int min2_int max_two min_two max_three min_three max_four min_four
set_option linter.unusedVariables false
set_option linter.unusedSimpArgs false
def api_Item_98.l0 : Nat → List (S82) → Int → Int → Option ((List (S82)))
 | 0, _, _, _ => none
 | k + 1, x0, x2, x3 => if x2 < x3 then (if 0 ≤ x3 then (if x3 < (x0.length : Int) then (if 0 ≤ x2 then (if x2 < (x0.length : Int) then (api_Item_98.l0 k ((x0.set (x2 : Int).toNat (⟨(rd_T82 x0 x3).f0, (rd_T82 x0 x3).f1, (rd_T82 x0 x3).f2, (rd_T82 x0 x3).f3⟩ : S82)).set (x3 : Int).toNat (⟨(rd_T82 x0 x2).f0, (rd_T82 x0 x2).f1, (rd_T82 x0 x2).f2, (rd_T82 x0 x2).f3⟩ : S82)) (wrap64 (x2 + 1)) (wrap64 (x3 - 1))) else (none)) else (none)) else (none)) else (none)) else (some x0)
def api_Item_98.f (k : Nat) (l0 : List (S82)) : Option ((List (S82))) := api_Item_98.l0 k l0 0 (wrap64 ((l0.length : Int) - 1))
def api_Item_98.T3 : Bool × List (List Nat × List Nat) := (true, [([], []), ([], []), ([], []), ([], []), ([], []), ([], []), ([4, 5], [4, 5]), ([6], [6]), ([], []), ([], []), ([8, 9], [8, 9]), ([10], [10]), ([0, 1, 0, 1, 4, 5, 6, 7, 11], [0, 1]), ([12, 7, 0, 1, 4, 5, 6, 7, 11], [7, 12]), ([2, 3, 0, 1, 2, 3, 4, 5, 6, 7, 8, 9, 10, 11, 12, 13], [2, 3]), ([14, 11, 13, 0, 1, 2, 3, 4, 5, 6, 7, 8, 9, 10, 11, 12, 13], [11, 14])])
def api_Item_98.B3 : List Nat := [0, 0, 0, 0, 0, 0, 48, 112, 0, 0, 768, 1792, 4083, 8179, 16383, 32767]
theorem api_Item_98.tab3 : rtab .any (opsOf Tryd.f98 3) = api_Item_98.T3 := by kernel_rfl
theorem api_Item_98.bits3 : waitsOk api_Item_98.T3.2 api_Item_98.B3 = true := by kernel_rfl
set_option maxHeartbeats 8000000 in
set_option maxRecDepth 100000 in
theorem api_Item_98.calls (k : Nat) (P0_ : Nat → Prop) (u9000_ : Value) (l0 : List (S82)) (r : List (S82)) (w0 w : World) (hB : Below w0.heap.size w0 w) (ho0 : Kd.R k82 82 w w0.heap.size P0_ u9000_ l0) (h : api_Item_98.f k l0 = some r) :
 Calls Tryd.prog 98 #[u9000_] w fun e w' => e = .returned (.tuple #[]) ∧ Kd.R k82 82 w' w0.heap.size (fun k_ => (P0_ k_ ∨ w.heap.size ≤ k_)) u9000_ r ∧ Below w0.heap.size w0 w' ∧ Kept w w' (fun k_ => P0_ k_) := by
 have hu82 := Tryd.underlying82
 have HO0 := Aside0.mk (show Kd.R k82 82 w w0.heap.size (fun k_ => (P0_ k_ ∨ w.heap.size ≤ k_)) u9000_ l0 from Kd.R_mono ho0 (fun k_ hk => (.inl hk)))
 have HK := Aside0.mk (Kept.refl w (fun k_ => P0_ k_))
 have HW0 := Aside0.mk hB.size
 have HB := Aside0.mk hB
 clear hB
 have H : (api_Item_98.l0 k l0 0 (wrap64 ((l0.length : Int) - 1))) = some r := h
 clear h
 have H' := Aside0.mk H
 clear H
 obtain ⟨Ao2, co2, eo2⟩ := Kd.R_slice HO0.out
 subst eo2
 go_enter Tryd.func98, Tryd.ntmps98
 go_wp2
 go_loopg [2, 3] k (fun kq v2 v3 w' => ∃ (x0_1 : List (S82)) (x2_1 : Int) (x3_1 : Int), v2 = .int .i64 x2_1 ∧ v3 = .int .i64 x3_1 ∧ Aside0 (api_Item_98.l0 kq x0_1 x2_1 x3_1 = some r) ∧ Aside0 (kq ≤ k) ∧ Aside0 (Kd.R k82 82 w' w0.heap.size (fun k_ => (P0_ k_ ∨ w.heap.size ≤ k_)) (.slice Ao2 l0.length co2) x0_1) ∧ Aside0 (Kept w w' (fun k_ => P0_ k_)) ∧ Aside0 (Below w0.heap.size w0 w'))
 case atStart => exact ⟨(l0), (0), (wrap64 ((l0.length : Int) - 1)), tV1, tV1, H', ⟨Nat.le_refl _⟩, ⟨dR HO0⟩, ⟨by repeat (first | (with_reducible first | exact HK.out | apply Kept.alloc | apply Kept.drewN | apply Kept.drew) | exact HK.out)⟩, ⟨tB HB⟩⟩
 case round =>
  clear H'
  obtain ⟨x0_1, x2_1, x3_1, rfl, rfl, HA, HK1, HO_0, HK, HB⟩ := hrel
  have hl0_1 := (Kd.R_reads' HO_0.out).1
  rw [hl0_1] at HO_0
  (try simp only [hl0_1])
  cases gk with
  | zero => exact absurd HA.out (by simp [api_Item_98.l0])
  | succ k1 =>
   have H := HA.out
   clear HA
   simp only [api_Item_98.l0] at H
   replace H := iF H; obtain ⟨c3, H⟩ | ⟨c3, H⟩ := H
   ·
    have c3b0 : decide (x2_1 < x3_1) = true := decide_eq_true c3
    clear c3
    replace H := iF H; obtain ⟨c4, H⟩ | ⟨c4, H⟩ := H
    ·
     have c4b0 : decide (0 ≤ x3_1) = true := decide_eq_true c4
     clear c4
     replace H := iF H; obtain ⟨c5, H⟩ | ⟨c5, H⟩ := H
     ·
      have c5b0 : decide (x3_1 < (x0_1.length : Int)) = true := decide_eq_true c5
      clear c5
      replace H := iF H; obtain ⟨c6, H⟩ | ⟨c6, H⟩ := H
      ·
       have c6b0 : decide (0 ≤ x2_1) = true := decide_eq_true c6
       clear c6
       replace H := iF H; obtain ⟨c7, H⟩ | ⟨c7, H⟩ := H
       ·
        have c7b0 : decide (x2_1 < (x0_1.length : Int)) = true := decide_eq_true c7
        clear c7
        obtain ⟨y150, hy150⟩ : ∃ y_ : List (S82), y_ = (x0_1.set (x2_1 : Int).toNat (⟨(rd_T82 x0_1 x3_1).f0, (rd_T82 x0_1 x3_1).f1, (rd_T82 x0_1 x3_1).f2, (rd_T82 x0_1 x3_1).f3⟩ : S82)) := ⟨_, rfl⟩
        replace H : (api_Item_98.l0 k1 (y150.set (x3_1 : Int).toNat (⟨(rd_T82 x0_1 x2_1).f0, (rd_T82 x0_1 x2_1).f1, (rd_T82 x0_1 x2_1).f2, (rd_T82 x0_1 x2_1).f3⟩ : S82)) (wrap64 (x2_1 + 1)) (wrap64 (x3_1 - 1))) = some r := by first | (rw [hy150]; with_reducible exact H) | (have H2_ := (Option.bind_some _ _).symm.trans H; rw [hy150]; with_reducible exact H2_) | (have H2_ := (Option.bind_some _ _).symm.trans H; with_reducible exact H2_) | with_reducible exact H | (rw [hy150]; exact H) | exact H
        have Ny150 := Aside0.mk hy150
        clear hy150
        obtain ⟨y151, hy151⟩ : ∃ y_ : List (S82), y_ = (y150.set (x3_1 : Int).toNat (⟨(rd_T82 x0_1 x2_1).f0, (rd_T82 x0_1 x2_1).f1, (rd_T82 x0_1 x2_1).f2, (rd_T82 x0_1 x2_1).f3⟩ : S82)) := ⟨_, rfl⟩
        replace H : (api_Item_98.l0 k1 y151 (wrap64 (x2_1 + 1)) (wrap64 (x3_1 - 1))) = some r := by first | (rw [hy151]; with_reducible exact H) | (have H2_ := (Option.bind_some _ _).symm.trans H; rw [hy151]; with_reducible exact H2_) | (have H2_ := (Option.bind_some _ _).symm.trans H; with_reducible exact H2_) | with_reducible exact H | (rw [hy151]; exact H) | exact H
        have Ny151 := Aside0.mk hy151
        clear hy151
        have H' := Aside0.mk H
        clear H
        try go_wp2
        have n0_ := Aside0.mk (Kd.R_drew HO_0.out)
        have n1_ := Aside0.mk (Kept.drew HK.out)
        have n2_ := Aside0.mk (below_drew1 HB.out)
        revert n0_ n1_ n2_
        clear HO_0 HK HB
        intro HO_0 HK HB
        have p148 : 0 ≤ (x3_1 : Int) := oD
        have q148 : x3_1 < (x0_1.length : Int) := oD
        obtain ⟨ad148, e148, hx148_0, hx148_1, hx148_2, hx148_3⟩ := at_T82 (Kd.R_reads' HO_0.out).2.2 x3_1 p148 q148
        cases e148
        replace p148 := eq_true p148
        replace q148 := eq_true q148
        have p149 : 0 ≤ (x2_1 : Int) := oD
        have q149 : x2_1 < (x0_1.length : Int) := oD
        obtain ⟨ad149, e149, hx149_0, hx149_1, hx149_2, hx149_3⟩ := at_T82 (Kd.R_reads' HO_0.out).2.2 x2_1 p149 q149
        obtain rfl : ad148 = ad149 := (by injection e149)
        replace p149 := eq_true p149
        replace q149 := eq_true q149
        have p8 : 0 ≤ (x2_1 : Int) := oD
        have q8 : (x2_1 : Int) < ((x0_1.length : Int) : Int) := oD
        obtain ⟨go8, co8, eo8, gb8, gl8, cl8, HG8⟩ := Kd.R_form HO_0.out (by omega)
        (first | cases eo8 | (injection eo8 with ea_ en_ ec_; (first | subst ea_ | (injection ea_ with ea_; subst ea_)); subst ec_; clear en_))
        have GB8 := Aside0.mk gb8
        have GG8 := Aside0.mk HG8
        clear gb8 gl8 HG8
        have HMgo8 := Aside0.mk (show (P0_ go8 ∨ w.heap.size ≤ go8) from (HO_0.out.1 _ rfl))
        (first | simp only [add_plain] at hx148_0 | skip)
        (first | simp only [add_plain] at hx148_1 | skip)
        (first | simp only [add_plain] at hx148_2 | skip)
        (first | simp only [add_plain] at hx148_3 | skip)
        (first | simp only [add_plain] at hx149_0 | skip)
        (first | simp only [add_plain] at hx149_1 | skip)
        (first | simp only [add_plain] at hx149_2 | skip)
        (first | simp only [add_plain] at hx149_3 | skip)
        obtain ⟨ce8, hcl8, hM8, hcc8, hfr8⟩ := Kd.R_elem HO_0.out z82 (x2_1 : Int) p8 q8
        obtain rfl := k82_openM hM8
        have hx8_0 : World.cell? _ ⟨go8, (x2_1 : Int).toNat * 4, none⟩ = some (.int .u32 ((rd_T82 x0_1 x2_1).f0)) := hcc8 0 _ rfl
        have hx8_1 : World.cell? _ ⟨go8, (x2_1 : Int).toNat * 4 + 1, none⟩ = some (.string ((rd_T82 x0_1 x2_1).f1)) := hcc8 1 _ rfl
        have hx8_2 : World.cell? _ ⟨go8, (x2_1 : Int).toNat * 4 + 2, none⟩ = some (.bool ((rd_T82 x0_1 x2_1).f2)) := hcc8 2 _ rfl
        have hx8_3 : World.cell? _ ⟨go8, (x2_1 : Int).toNat * 4 + 3, none⟩ = some (.bool ((rd_T82 x0_1 x2_1).f3)) := hcc8 3 _ rfl
        have hf8_0 : World.frozen? _ ⟨go8, (x2_1 : Int).toNat * 4, none⟩ = false := hfr8 0
        have hf8_1 : World.frozen? _ ⟨go8, (x2_1 : Int).toNat * 4 + 1, none⟩ = false := hfr8 1
        have hf8_2 : World.frozen? _ ⟨go8, (x2_1 : Int).toNat * 4 + 2, none⟩ = false := hfr8 2
        have hf8_3 : World.frozen? _ ⟨go8, (x2_1 : Int).toNat * 4 + 3, none⟩ = false := hfr8 3
        clear hcl8 hcc8 hfr8 hM8
        replace p8 := eq_true p8
        replace q8 := eq_true q8
        obtain ⟨ce11, hcl11, hM11, hcc11, hfr11⟩ := Kd.R_elem HO_0.out z82 (x2_1 : Int) (oD) (by have h_ : (x2_1 : Int) < ((x0_1.length : Int) : Int) := oD; first | exact h_ | (have e_ := (Kd.R_reads' HO_0.out).1; omega) | simpa using h_)
        obtain rfl := k82_openM hM11
        have HP11 := (Kd.R_seg HO_0.out (x2_1 : Int) (oD) (by have h_ : (x2_1 : Int) < ((x0_1.length : Int) : Int) := oD; first | exact h_ | (have e_ := (Kd.R_reads' HO_0.out).1; omega) | simpa using h_) (seg := [.int .u32 ((rd_T82 x0_1 x3_1).f0), .string ((rd_T82 x0_1 x3_1).f1), .bool ((rd_T82 x0_1 x3_1).f2), .bool ((rd_T82 x0_1 x3_1).f3)]) (j := 0) hcl11 hcc11 (show 4 ≤ 4 from by decide) (x' := (⟨(rd_T82 x0_1 x3_1).f0, (rd_T82 x0_1 x3_1).f1, (rd_T82 x0_1 x3_1).f2, (rd_T82 x0_1 x3_1).f3⟩ : S82)) (k82_mkM _ _ _ (⟨(rd_T82 x0_1 x3_1).f0, (rd_T82 x0_1 x3_1).f1, (rd_T82 x0_1 x3_1).f2, (rd_T82 x0_1 x3_1).f3⟩ : S82) ) (fun _ hk => hk)).1
        rw [← Ny150.out] at HP11
        have HQ11 := Aside0.mk HP11
        clear hcl11 hcc11 hfr11 hM11 HP11
        have p9 : 0 ≤ (x3_1 : Int) := oD
        have q9 : (x3_1 : Int) < ((x0_1.length : Int) : Int) := oD
        obtain ⟨ce9, hcl9, hM9, hcc9, hfr9⟩ := Kd.R_elem HQ11.out z82 (x3_1 : Int) p9 q9
        obtain rfl := k82_openM hM9
        have hx9_0 : World.cell? _ ⟨go8, (x3_1 : Int).toNat * 4, none⟩ = some (.int .u32 ((rd_T82 y150 x3_1).f0)) := hcc9 0 _ rfl
        have hx9_1 : World.cell? _ ⟨go8, (x3_1 : Int).toNat * 4 + 1, none⟩ = some (.string ((rd_T82 y150 x3_1).f1)) := hcc9 1 _ rfl
        have hx9_2 : World.cell? _ ⟨go8, (x3_1 : Int).toNat * 4 + 2, none⟩ = some (.bool ((rd_T82 y150 x3_1).f2)) := hcc9 2 _ rfl
        have hx9_3 : World.cell? _ ⟨go8, (x3_1 : Int).toNat * 4 + 3, none⟩ = some (.bool ((rd_T82 y150 x3_1).f3)) := hcc9 3 _ rfl
        have hf9_0 : World.frozen? _ ⟨go8, (x3_1 : Int).toNat * 4, none⟩ = false := hfr9 0
        have hf9_1 : World.frozen? _ ⟨go8, (x3_1 : Int).toNat * 4 + 1, none⟩ = false := hfr9 1
        have hf9_2 : World.frozen? _ ⟨go8, (x3_1 : Int).toNat * 4 + 2, none⟩ = false := hfr9 2
        have hf9_3 : World.frozen? _ ⟨go8, (x3_1 : Int).toNat * 4 + 3, none⟩ = false := hfr9 3
        clear hcl9 hcc9 hfr9 hM9
        have hne_ : ¬ ((x2_1 : Int).toNat = (x3_1 : Int).toNat) := by have h_ := of_decide_eq_true c3b0; have h2_ := of_decide_eq_true c6b0; omega
        obtain ⟨_, _, _, _, hfrX⟩ := Kd.R_elem HO_0.out z82 (x3_1 : Int) (oD) Gc15
        have hfX_0 : World.frozen? _ ⟨go8, (x3_1 : Int).toNat * 4, none⟩ = false := hfrX 0
        have hfX_1 : World.frozen? _ ⟨go8, (x3_1 : Int).toNat * 4 + 1, none⟩ = false := hfrX 1
        have hfX_2 : World.frozen? _ ⟨go8, (x3_1 : Int).toNat * 4 + 2, none⟩ = false := hfrX 2
        have hfX_3 : World.frozen? _ ⟨go8, (x3_1 : Int).toNat * 4 + 3, none⟩ = false := hfrX 3
        clear hfrX
        replace p9 := eq_true p9
        replace q9 := eq_true q9
        obtain ⟨ce12, hcl12, hM12, hcc12, hfr12⟩ := Kd.R_elem HQ11.out z82 (x3_1 : Int) (oD) Gc15
        obtain rfl := k82_openM hM12
        have HP12 := (Kd.R_seg HQ11.out (x3_1 : Int) (oD) Gc15 (seg := [.int .u32 ((rd_T82 x0_1 x2_1).f0), .string ((rd_T82 x0_1 x2_1).f1), .bool ((rd_T82 x0_1 x2_1).f2), .bool ((rd_T82 x0_1 x2_1).f3)]) (j := 0) hcl12 hcc12 (show 4 ≤ 4 from by decide) (x' := (⟨(rd_T82 x0_1 x2_1).f0, (rd_T82 x0_1 x2_1).f1, (rd_T82 x0_1 x2_1).f2, (rd_T82 x0_1 x2_1).f3⟩ : S82)) (k82_mkM _ _ _ (⟨(rd_T82 x0_1 x2_1).f0, (rd_T82 x0_1 x2_1).f1, (rd_T82 x0_1 x2_1).f2, (rd_T82 x0_1 x2_1).f3⟩ : S82) ) (fun _ hk => hk)).1
        rw [← Ny151.out] at HP12
        have HQ12 := Aside0.mk HP12
        clear hcl12 hcc12 hfr12 hM12 HP12
        refine start_ (n := 16) (S := fun w' => w'.cell? ⟨go8, ((x3_1).toNat * 4), none⟩ = some (.int .u32 ((rd_T82 x0_1 x3_1).f0)) ∧ w'.cell? ⟨go8, ((x3_1).toNat * 4) + 1, none⟩ = some (.string ((rd_T82 x0_1 x3_1).f1)) ∧ w'.cell? ⟨go8, ((x3_1).toNat * 4) + 2, none⟩ = some (.bool ((rd_T82 x0_1 x3_1).f2)) ∧ w'.cell? ⟨go8, ((x3_1).toNat * 4) + 3, none⟩ = some (.bool ((rd_T82 x0_1 x3_1).f3)) ∧ w'.cell? ⟨go8, ((x2_1).toNat * 4), none⟩ = some (.int .u32 ((rd_T82 x0_1 x2_1).f0)) ∧ w'.cell? ⟨go8, ((x2_1).toNat * 4) + 1, none⟩ = some (.string ((rd_T82 x0_1 x2_1).f1)) ∧ w'.cell? ⟨go8, ((x2_1).toNat * 4) + 2, none⟩ = some (.bool ((rd_T82 x0_1 x2_1).f2)) ∧ w'.cell? ⟨go8, ((x2_1).toNat * 4) + 3, none⟩ = some (.bool ((rd_T82 x0_1 x2_1).f3))) (ds := [13, 15]) #[false, false, false, false, false, false, false, false, false, false, false, false, false, false, false, false] (by kernel_rfl) rfl rfl ⟨hx148_0, hx148_1, hx148_2, hx148_3, hx149_0, hx149_1, hx149_2, hx149_3⟩ (fun hHeld => ?_); refine with_tabW api_Item_98.tab3 api_Item_98.bits3 (fun HT_ HW_ => ?_)
        generalize wr.drew = w10 at hfX_0 hfX_1 hfX_2 hfX_3 HO_0 HK HB GG8 HQ11 HQ12 hf8_0 hf8_1 hf8_2 hf8_3 hf9_0 hf9_1 hf9_2 hf9_3 hx148_0 hx148_1 hx148_2 hx148_3 hx149_0 hx149_1 hx149_2 hx149_3 hx8_0 hx8_1 hx8_2 hx8_3 hx9_0 hx9_1 hx9_2 hx9_3 hHeld ⊢
        refine pT 0 14 ?_
        refine pT 1 15 ?_
        refine pT 2 16 ?_
        refine pT 3 17 ?_
        refine pT 4 18 ?_
        refine pT 5 19 ?_
        refine pT 6 20 ?_
        refine pT 8 22 ?_
        refine pT 9 23 ?_
        refine pT 10 24 ?_
        refine tTt 7 21 hHeld ?_
        refine tTt 11 25 hHeld ?_
        refine pT 12 26 ?_
        refine last_ (i := 13) (N := none) #[true, true, true, true, true, true, true, true, true, true, true, true, true, true, false, false] rfl rfl (one_of HT_.out (by kernel_rfl)) (by decide) (fun K hK => ?_)
        refine skip_ (w1 := ?_) (by rfl) rfl ?_ ?_
        rotate_left
        ·
         go_simp
         rfl
        refine hK.out _ _ ?_
        clear hK K
        refine pT 14 27 ?_
        refine last_ (i := 15) (N := none) #[true, true, true, true, true, true, true, true, true, true, true, true, true, true, true, true] rfl rfl (one_of HT_.out (by kernel_rfl)) (by decide) (fun K hK => ?_)
        refine skip_ (w1 := ?_) (by rfl) rfl ?_ ?_
        rotate_left
        ·
         go_simp
         rfl
        refine hK.out _ _ ?_
        clear hK K
        refine done_ (done_of HT_.out (by kernel_rfl)) ?_
        try go_wp2
        (try simp only [← hl0_1])
        go_roundg k1
        case measure => have := HK1.out; omega
        case rel => exact ⟨(y151), (wrap64 (x2_1 + 1)), (wrap64 (x3_1 - 1)), tV1, tV1, H', ⟨by have := HK1.out; omega⟩, ⟨by (try simp only [hl0_1]); (with_reducible repeat (first | apply Kd.R_alloc | apply Kd.R_drewN | apply Kd.R_drew)); exact HQ12.out⟩, ⟨by repeat (first | (with_reducible first | exact HK.out | apply Kept.alloc | apply Kept.drewN | apply Kept.drew | refine Kept.setCell ?_ HMgo8.out _ | refine Kept.setCell ?_ HMgo8.out _ | refine Kept.setCell ?_ HMgo8.out _ | refine Kept.setCell ?_ HMgo8.out _ | refine Kept.setCell ?_ HMgo8.out _ | refine Kept.setCell ?_ HMgo8.out _ | refine Kept.setCell ?_ HMgo8.out _ | refine Kept.setCell ?_ HMgo8.out _) | exact HK.out)⟩, ⟨tB HB⟩⟩
       ·
        exact absurd H (by simp)
      ·
       exact absurd H (by simp)
     ·
      exact absurd H (by simp)
    ·
     exact absurd H (by simp)
   ·
    have c3b0 : decide (x2_1 < x3_1) = false := decide_eq_false c3
    clear c3
    obtain rfl := Option.some.inj H
    go_wp2
    first | go_end0 | ((try simp only [Exit.inBlock, Exit.then]); refine bodyPost_ret (results_none rfl _ _ _) rfl ?_)
    exact ⟨tE, (by first | exact (dR HO_0) | (simp only [hl0_1]; exact (dR HO_0))), by repeat (first | (with_reducible first | exact HB.out | apply below_alloc | apply pw_below_drewN | apply below_drew1) | exact HB.out), by repeat (first | (with_reducible first | exact HK.out | apply Kept.alloc | apply Kept.drewN | apply Kept.drew) | exact HK.out)⟩
def slices_Reverse_int_int.l0 : Nat → List Int → Int → Int → Option (List Int)
 | 0, _, _, _ => none
 | k + 1, x0, x2, x3 => if x2 < x3 then (if 0 ≤ x3 then (if x3 < (x0.length : Int) then (if 0 ≤ x2 then (if x2 < (x0.length : Int) then (slices_Reverse_int_int.l0 k ((x0.set (x2 : Int).toNat (rd x0 x3)).set (x3 : Int).toNat (rd x0 x2)) (wrap64 (x2 + 1)) (wrap64 (x3 - 1))) else (none)) else (none)) else (none)) else (none)) else (some x0)
def slices_Reverse_int_int.f (k : Nat) (l0 : List Int) : Option (List Int) := slices_Reverse_int_int.l0 k l0 0 (wrap64 ((l0.length : Int) - 1))
def slices_Reverse_int_int.T3 : Bool × List (List Nat × List Nat) := (true, [([], []), ([], []), ([], []), ([], []), ([], []), ([], []), ([4, 5], [4, 5]), ([6], [6]), ([], []), ([], []), ([8, 9], [8, 9]), ([10], [10]), ([0, 1, 0, 1, 4, 5, 6, 7, 11], [0, 1]), ([12, 7, 0, 1, 4, 5, 6, 7, 11], [7, 12]), ([2, 3, 0, 1, 2, 3, 4, 5, 6, 7, 8, 9, 10, 11, 12, 13], [2, 3]), ([14, 11, 13, 0, 1, 2, 3, 4, 5, 6, 7, 8, 9, 10, 11, 12, 13], [11, 14])])
def slices_Reverse_int_int.B3 : List Nat := [0, 0, 0, 0, 0, 0, 48, 112, 0, 0, 768, 1792, 4083, 8179, 16383, 32767]
theorem slices_Reverse_int_int.tab3 : rtab .any (opsOf Tryd.f99 3) = slices_Reverse_int_int.T3 := by kernel_rfl
theorem slices_Reverse_int_int.bits3 : waitsOk slices_Reverse_int_int.T3.2 slices_Reverse_int_int.B3 = true := by kernel_rfl
set_option maxHeartbeats 8000000 in
set_option maxRecDepth 100000 in
theorem slices_Reverse_int_int.calls (k : Nat) (P0_ : Nat → Prop) (u9000_ : Value) (l0 : List Int) (r : List Int) (w0 w : World) (hB : Below w0.heap.size w0 w) (ho0 : Kd.R (Kd.int .i64) 3 w w0.heap.size P0_ u9000_ l0) (h : slices_Reverse_int_int.f k l0 = some r) :
 Calls Tryd.prog 99 #[u9000_] w fun e w' => e = .returned (.tuple #[]) ∧ Kd.R (Kd.int .i64) 3 w' w0.heap.size (fun k_ => (P0_ k_ ∨ w.heap.size ≤ k_)) u9000_ r ∧ Below w0.heap.size w0 w' ∧ Kept w w' (fun k_ => P0_ k_) := by
 have HO0 := Aside0.mk (show Kd.R (Kd.int .i64) 3 w w0.heap.size (fun k_ => (P0_ k_ ∨ w.heap.size ≤ k_)) u9000_ l0 from Kd.R_mono ho0 (fun k_ hk => (.inl hk)))
 have HK := Aside0.mk (Kept.refl w (fun k_ => P0_ k_))
 have HW0 := Aside0.mk hB.size
 have HB := Aside0.mk hB
 clear hB
 have H : (slices_Reverse_int_int.l0 k l0 0 (wrap64 ((l0.length : Int) - 1))) = some r := h
 clear h
 have H' := Aside0.mk H
 clear H
 obtain ⟨Ao2, co2, eo2⟩ := Kd.R_slice HO0.out
 subst eo2
 go_enter Tryd.func99, Tryd.ntmps99
 go_wp2
 go_loopg [2, 3] k (fun kq v2 v3 w' => ∃ (x0_1 : List Int) (x2_1 : Int) (x3_1 : Int), v2 = .int .i64 x2_1 ∧ v3 = .int .i64 x3_1 ∧ Aside0 (slices_Reverse_int_int.l0 kq x0_1 x2_1 x3_1 = some r) ∧ Aside0 (kq ≤ k) ∧ Aside0 (Kd.R (Kd.int .i64) 3 w' w0.heap.size (fun k_ => (P0_ k_ ∨ w.heap.size ≤ k_)) (.slice Ao2 l0.length co2) x0_1) ∧ Aside0 (Kept w w' (fun k_ => P0_ k_)) ∧ Aside0 (Below w0.heap.size w0 w'))
 case atStart => exact ⟨(l0), (0), (wrap64 ((l0.length : Int) - 1)), tV1, tV1, H', ⟨Nat.le_refl _⟩, ⟨dR HO0⟩, ⟨by repeat (first | (with_reducible first | exact HK.out | apply Kept.alloc | apply Kept.drewN | apply Kept.drew) | exact HK.out)⟩, ⟨tB HB⟩⟩
 case round =>
  clear H'
  obtain ⟨x0_1, x2_1, x3_1, rfl, rfl, HA, HK1, HO_0, HK, HB⟩ := hrel
  have hl0_1 := (Kd.R_reads' HO_0.out).1
  rw [hl0_1] at HO_0
  (try simp only [hl0_1])
  cases gk with
  | zero => exact absurd HA.out (by simp [slices_Reverse_int_int.l0])
  | succ k1 =>
   have H := HA.out
   clear HA
   simp only [slices_Reverse_int_int.l0] at H
   replace H := iF H; obtain ⟨c3, H⟩ | ⟨c3, H⟩ := H
   ·
    have c3b0 : decide (x2_1 < x3_1) = true := decide_eq_true c3
    clear c3
    replace H := iF H; obtain ⟨c4, H⟩ | ⟨c4, H⟩ := H
    ·
     have c4b0 : decide (0 ≤ x3_1) = true := decide_eq_true c4
     clear c4
     replace H := iF H; obtain ⟨c5, H⟩ | ⟨c5, H⟩ := H
     ·
      have c5b0 : decide (x3_1 < (x0_1.length : Int)) = true := decide_eq_true c5
      clear c5
      replace H := iF H; obtain ⟨c6, H⟩ | ⟨c6, H⟩ := H
      ·
       have c6b0 : decide (0 ≤ x2_1) = true := decide_eq_true c6
       clear c6
       replace H := iF H; obtain ⟨c7, H⟩ | ⟨c7, H⟩ := H
       ·
        have c7b0 : decide (x2_1 < (x0_1.length : Int)) = true := decide_eq_true c7
        clear c7
        obtain ⟨y154, hy154⟩ : ∃ y_ : List Int, y_ = (x0_1.set (x2_1 : Int).toNat (rd x0_1 x3_1)) := ⟨_, rfl⟩
        replace H : (slices_Reverse_int_int.l0 k1 (y154.set (x3_1 : Int).toNat (rd x0_1 x2_1)) (wrap64 (x2_1 + 1)) (wrap64 (x3_1 - 1))) = some r := by first | (rw [hy154]; with_reducible exact H) | (have H2_ := (Option.bind_some _ _).symm.trans H; rw [hy154]; with_reducible exact H2_) | (have H2_ := (Option.bind_some _ _).symm.trans H; with_reducible exact H2_) | with_reducible exact H | (rw [hy154]; exact H) | exact H
        have Ny154 := Aside0.mk hy154
        clear hy154
        obtain ⟨y155, hy155⟩ : ∃ y_ : List Int, y_ = (y154.set (x3_1 : Int).toNat (rd x0_1 x2_1)) := ⟨_, rfl⟩
        replace H : (slices_Reverse_int_int.l0 k1 y155 (wrap64 (x2_1 + 1)) (wrap64 (x3_1 - 1))) = some r := by first | (rw [hy155]; with_reducible exact H) | (have H2_ := (Option.bind_some _ _).symm.trans H; rw [hy155]; with_reducible exact H2_) | (have H2_ := (Option.bind_some _ _).symm.trans H; with_reducible exact H2_) | with_reducible exact H | (rw [hy155]; exact H) | exact H
        have Ny155 := Aside0.mk hy155
        clear hy155
        have H' := Aside0.mk H
        clear H
        try go_wp2
        have n0_ := Aside0.mk (Kd.R_drew HO_0.out)
        have n1_ := Aside0.mk (Kept.drew HK.out)
        have n2_ := Aside0.mk (below_drew1 HB.out)
        revert n0_ n1_ n2_
        clear HO_0 HK HB
        intro HO_0 HK HB
        have p152 : 0 ≤ (x3_1 : Int) := oD
        have q152 : x3_1 < (x0_1.length : Int) := oD
        obtain ⟨ad152, e152, hx152_0⟩ := Kd.at_int (Kd.R_reads' HO_0.out).2.2 x3_1 p152 q152
        cases e152
        replace p152 := eq_true p152
        replace q152 := eq_true q152
        have p153 : 0 ≤ (x2_1 : Int) := oD
        have q153 : x2_1 < (x0_1.length : Int) := oD
        obtain ⟨ad153, e153, hx153_0⟩ := Kd.at_int (Kd.R_reads' HO_0.out).2.2 x2_1 p153 q153
        obtain rfl : ad152 = ad153 := (by injection e153)
        replace p153 := eq_true p153
        replace q153 := eq_true q153
        have p8 : 0 ≤ (x2_1 : Int) := oD
        have q8 : (x2_1 : Int) < ((x0_1.length : Int) : Int) := oD
        obtain ⟨go8, co8, eo8, gb8, gl8, cl8, HG8⟩ := Kd.R_form HO_0.out (by omega)
        (first | cases eo8 | (injection eo8 with ea_ en_ ec_; (first | subst ea_ | (injection ea_ with ea_; subst ea_)); subst ec_; clear en_))
        have GB8 := Aside0.mk gb8
        have GG8 := Aside0.mk HG8
        clear gb8 gl8 HG8
        have HMgo8 := Aside0.mk (show (P0_ go8 ∨ w.heap.size ≤ go8) from (HO_0.out.1 _ rfl))
        (first | simp only [add_plain] at hx152_0 | skip)
        (first | simp only [add_plain] at hx153_0 | skip)
        obtain ⟨hx8_0, hf8_0⟩ := Kd.R_celln 0 HO_0.out (x2_1 : Int) p8 q8
        replace p8 := eq_true p8
        replace q8 := eq_true q8
        have HP11 := Kd.R_putn HO_0.out (x2_1 : Int) (rd x0_1 x3_1)
        rw [← Ny154.out] at HP11
        have HQ11 := Aside0.mk HP11
        clear HP11
        have p9 : 0 ≤ (x3_1 : Int) := oD
        have q9 : (x3_1 : Int) < ((x0_1.length : Int) : Int) := oD
        obtain ⟨hx9_0, hf9_0⟩ := Kd.R_celln 0 HQ11.out (x3_1 : Int) p9 q9
        replace p9 := eq_true p9
        replace q9 := eq_true q9
        have HP12 := Kd.R_putn HQ11.out (x3_1 : Int) (rd x0_1 x2_1)
        rw [← Ny155.out] at HP12
        have HQ12 := Aside0.mk HP12
        clear HP12
        refine start_ (n := 16) (S := fun w' => w'.cell? ⟨go8, (x3_1).toNat, none⟩ = some (.int .i64 (rd x0_1 x3_1)) ∧ w'.cell? ⟨go8, (x2_1).toNat, none⟩ = some (.int .i64 (rd x0_1 x2_1))) (ds := [13, 15]) #[false, false, false, false, false, false, false, false, false, false, false, false, false, false, false, false] (by kernel_rfl) rfl rfl ⟨hx152_0, hx153_0⟩ (fun hHeld => ?_); refine with_tabW slices_Reverse_int_int.tab3 slices_Reverse_int_int.bits3 (fun HT_ HW_ => ?_)
        generalize wr.drew = w10 at HO_0 HK HB GG8 HQ11 HQ12 hf8_0 hf9_0 hx152_0 hx153_0 hx8_0 hx9_0 hHeld ⊢
        refine pT 0 14 ?_
        refine pT 1 15 ?_
        refine pT 2 16 ?_
        refine pT 3 17 ?_
        refine pT 4 18 ?_
        refine pT 5 19 ?_
        refine pT 6 20 ?_
        refine pT 8 22 ?_
        refine pT 9 23 ?_
        refine pT 10 24 ?_
        refine tTt 7 21 hHeld ?_
        refine tTt 11 25 hHeld ?_
        refine pT 12 26 ?_
        refine last_ (i := 13) (N := none) #[true, true, true, true, true, true, true, true, true, true, true, true, true, true, false, false] rfl rfl (one_of HT_.out (by kernel_rfl)) (by decide) (fun K hK => ?_)
        refine skip_ (w1 := ?_) (by rfl) rfl ?_ ?_
        rotate_left
        ·
         go_simp
         rfl
        refine hK.out _ _ ?_
        clear hK K
        refine pT 14 27 ?_
        refine last_ (i := 15) (N := none) #[true, true, true, true, true, true, true, true, true, true, true, true, true, true, true, true] rfl rfl (one_of HT_.out (by kernel_rfl)) (by decide) (fun K hK => ?_)
        refine skip_ (w1 := ?_) (by rfl) rfl ?_ ?_
        rotate_left
        ·
         go_simp
         rfl
        refine hK.out _ _ ?_
        clear hK K
        refine done_ (done_of HT_.out (by kernel_rfl)) ?_
        try go_wp2
        (try simp only [← hl0_1])
        go_roundg k1
        case measure => have := HK1.out; omega
        case rel => exact ⟨(y155), (wrap64 (x2_1 + 1)), (wrap64 (x3_1 - 1)), tV1, tV1, H', ⟨by have := HK1.out; omega⟩, ⟨by (try simp only [hl0_1]); (with_reducible repeat (first | apply Kd.R_alloc | apply Kd.R_drewN | apply Kd.R_drew)); exact HQ12.out⟩, ⟨by repeat (first | (with_reducible first | exact HK.out | apply Kept.alloc | apply Kept.drewN | apply Kept.drew | refine Kept.setCell ?_ HMgo8.out _ | refine Kept.setCell ?_ HMgo8.out _) | exact HK.out)⟩, ⟨tB HB⟩⟩
       ·
        exact absurd H (by simp)
      ·
       exact absurd H (by simp)
     ·
      exact absurd H (by simp)
    ·
     exact absurd H (by simp)
   ·
    have c3b0 : decide (x2_1 < x3_1) = false := decide_eq_false c3
    clear c3
    obtain rfl := Option.some.inj H
    go_wp2
    first | go_end0 | ((try simp only [Exit.inBlock, Exit.then]); refine bodyPost_ret (results_none rfl _ _ _) rfl ?_)
    exact ⟨tE, (by first | exact (dR HO_0) | (simp only [hl0_1]; exact (dR HO_0))), by repeat (first | (with_reducible first | exact HB.out | apply below_alloc | apply pw_below_drewN | apply below_drew1) | exact HB.out), by repeat (first | (with_reducible first | exact HK.out | apply Kept.alloc | apply Kept.drewN | apply Kept.drew) | exact HK.out)⟩
def pattern_Suffixes.f (k : Nat) (l0 : List (S80)) (l1 : List (S82)) (a2 : ByteArray) : Option (List Int) := (pattern_read.f l0 l1 a2).bind fun bt156 => (if bt156.2 = true then ((api_Item_97.f l1).bind fun t160 => ((api_Item_98.f k t160).bind fun t163 => ((slices_Reverse_int_int.f k bt156.1).bind fun t164 => ((pattern_lengths.f l0 t163 t164).bind fun t165 => (some t165))))) else (some ([] : List Int)))
set_option maxHeartbeats 8000000 in
set_option maxRecDepth 100000 in
theorem pattern_Suffixes.calls (k : Nat) (A0 : Option Addr) (c0 : Nat) (l0 : List (S80)) (A1 : Option Addr) (c1 : Nat) (l1 : List (S82)) (a2 : ByteArray) (r : List Int) (w : World) (hT : Tabs w) (hr0 : Kd.C k80 w A0 l0.length l0) (hc0 : l0.length ≤ c0) (hr1 : Kd.C k82 w A1 l1.length l1) (hc1 : l1.length ≤ c1) (h : pattern_Suffixes.f k l0 l1 a2 = some r) :
 Calls Tryd.prog 93 #[.slice A0 l0.length c0, .slice A1 l1.length c1, .string a2] w fun e w' => ∃ v0_ : Value, e = .returned (v0_) ∧ Kd.R (Kd.int .i64) 3 w' w.heap.size (fun _ => True) v0_ r ∧ Below w.heap.size w w' := by
 have HT := Aside0.mk hT
 clear hT
 have HR0 := Aside0.mk hr0
 have HC0 := Aside0.mk hc0
 clear hr0 hc0
 have HR1 := Aside0.mk hr1
 have HC1 := Aside0.mk hc1
 clear hr1 hc1
 have HB := Aside0.mk (Below.refl w.heap.size w)
 have H : ((pattern_read.f l0 l1 a2).bind fun bt156 => (if bt156.2 = true then ((api_Item_97.f l1).bind fun t160 => ((api_Item_98.f k t160).bind fun t163 => ((slices_Reverse_int_int.f k bt156.1).bind fun t164 => ((pattern_lengths.f l0 t163 t164).bind fun t165 => (some t165))))) else (some ([] : List Int)))) = some r := h
 clear h
 replace H := bI H; obtain ⟨⟨t156, t157⟩, A4, H⟩ := H; (try dsimp only at H)
 replace H := iT H; obtain ⟨rfl, H⟩ | ⟨rfl, H⟩ := H
 ·
  replace H := bI H; obtain ⟨t160, A6, H⟩ := H; (try dsimp only at H)
  replace H := bI H; obtain ⟨t163, A7, H⟩ := H; (try dsimp only at H)
  replace H := bI H; obtain ⟨t164, A8, H⟩ := H; (try dsimp only at H)
  replace H := bI H; obtain ⟨t165, A9, H⟩ := H; (try dsimp only at H)
  obtain rfl := Option.some.inj H
  go_enter Tryd.func93, Tryd.ntmps93
  go_wp2_with (first | ((with_reducible refine gate_callee (f := 95) rfl ?_); refine goesL_ (some 14) rfl rfl Tryd.func95 (by kernel_rfl) rfl #[.slice A0 l0.length c0, .slice A1 l1.length c1, .string a2] rfl Gc2 ?_; (with_reducible refine (pattern_read.calls _ _ l0 _ _ l1 a2 t156 true _ ?sT ?s1 HC0.out ?s3 HC1.out A4.out).mono ?_); (case sT => exact Gc1); (case s1 => exact Gc5); (case s3 => exact Gc8); rintro e w10 ⟨v158, rfl, ho0, hb⟩; refine ⟨_, rfl, ?_⟩; have n0_ := Aside0.mk (Kd.R_lower ho0 (tS HB)); have n1_ := Aside0.mk (below_step (tB HB) hb); revert n0_ n1_; clear HB; intro HO159 HB; (try clear hb); (try clear hb2); (try clear hk); (try clear hi); (try clear ho0)) | ((with_reducible refine gate_callee (f := 97) rfl ?_); refine goesL_ (some 20) rfl rfl Tryd.func97 (by kernel_rfl) rfl #[.slice A1 l1.length c1] rfl Gc2 ?_; (with_reducible refine (api_Item_97.calls _ _ l1 t160 _ (tC HR1 HB) HC1.out A6.out).mono ?_); rintro e w11 ⟨v161, rfl, ho0, hb⟩; refine ⟨_, rfl, ?_⟩; have n0_ := Aside0.mk (Kd.R_below (dR HO159) hb); have n1_ := Aside0.mk (Kd.R_lower ho0 (tS HB)); have n2_ := Aside0.mk (below_step (tB HB) hb); revert n0_ n1_ n2_; clear HO159 HB; intro HO159 HO162 HB; (try clear hb); (try clear hb2); (try clear hk); (try clear hi); (try clear ho0); obtain ⟨Ao12, co12, eo12⟩ := Kd.R_slice HO162.out; subst eo12) | ((with_reducible refine gate_callee (f := 98) rfl ?_); refine goesL_ (some 22) rfl rfl Tryd.func98 (by kernel_rfl) rfl #[.slice Ao12 t160.length co12] rfl Gc2 ?_; (with_reducible refine (api_Item_98.calls k (fun k_ => some k_ = (.slice Ao12 t160.length co12 : Value).ownBlock) (.slice Ao12 t160.length co12) t160 t163 w _ ?s1 ?s2 A7.out).mono ?_); (case s1 => repeat (first | (with_reducible first | exact HB.out | apply below_alloc | apply pw_below_drewN | apply below_drew1) | exact HB.out)); (case s2 => exact Kd.R_tight rfl HO162.out); rintro e w13 ⟨rfl, hy0, hb, hkp⟩; refine ⟨_, rfl, ?_⟩; have n0_ := Aside0.mk (Kd.R_mono (ok' := fun k_ => True) (Kd.R_keptB ((Kd.R_apart' HO159.out (Kd.R_typed HO162.out) (by decide))) hkp (fun k_ hk_ hs_ => (hk_.2) hs_)) (fun k_ hk_ => trivial)); have n1_ := Aside0.mk (Kd.R_reok rfl hy0 (fun k_ e_ => HO162.out.1 k_ e_)); have n2_ := Aside0.mk (hb); revert n0_ n1_ n2_; clear HO159 HO162 HB; intro HO159 HO162 HB; (try clear hb); (try clear hkp); (try clear hy0); obtain ⟨Ao14, co14, eo14⟩ := Kd.R_slice HO159.out; subst eo14) | ((with_reducible refine gate_callee (f := 99) rfl ?_); refine goesL_ (some 24) rfl rfl Tryd.func99 (by kernel_rfl) rfl #[.slice Ao14 t156.length co14] rfl Gc2 ?_; (with_reducible refine (slices_Reverse_int_int.calls k (fun k_ => some k_ = (.slice Ao14 t156.length co14 : Value).ownBlock) (.slice Ao14 t156.length co14) t156 t164 w _ ?s1 ?s2 A8.out).mono ?_); (case s1 => repeat (first | (with_reducible first | exact HB.out | apply below_alloc | apply pw_below_drewN | apply below_drew1) | exact HB.out)); (case s2 => exact Kd.R_tight rfl HO159.out); rintro e w15 ⟨rfl, hy0, hb, hkp⟩; refine ⟨_, rfl, ?_⟩; have n0_ := Aside0.mk (Kd.R_reok rfl hy0 (fun k_ e_ => HO159.out.1 k_ e_)); have n1_ := Aside0.mk (Kd.R_mono (ok' := fun k_ => True) (Kd.R_keptB ((Kd.R_apart' HO162.out (Kd.R_typed HO159.out) (by decide))) hkp (fun k_ hk_ hs_ => (hk_.2) hs_)) (fun k_ hk_ => trivial)); have n2_ := Aside0.mk (hb); revert n0_ n1_ n2_; clear HO159 HO162 HB; intro HO159 HO162 HB; (try clear hb); (try clear hkp); (try clear hy0)) | ((with_reducible refine gate_callee (f := 96) rfl ?_); refine goesL_ (some 28) rfl rfl Tryd.func96 (by kernel_rfl) rfl #[.slice A0 l0.length c0, .slice Ao12 t163.length co12, .slice Ao14 t164.length co14] rfl (by (try simp only [List.map_toArray, List.map_cons, List.map_nil]); first | done | (rw [show t163.length = t160.length from (Kd.R_reads' HO162.out).1.symm, show t164.length = t156.length from (Kd.R_reads' HO159.out).1.symm] <;> rfl) | rfl | (simp only [List.length_drop, List.length_take]; rfl)) ?_; (with_reducible refine (pattern_lengths.calls _ _ l0 _ _ t163 _ _ t164 t165 _ (tC HR0 HB) HC0.out ?s3 ?s4 ?s5 ?s6 A9.out).mono ?_); (case s3 => repeat (first | exact (Kd.R_reads' HO162.out).2.2 | (with_reducible refine Kd.C_alloc ?_ _) | (with_reducible refine Kd.C_drewN ?_ _) | (with_reducible refine Kd.C_drew ?_))); (case s4 => rw [show t163.length = t160.length from (Kd.R_reads' HO162.out).1.symm]; exact (Kd.R_reads' HO162.out).2.1); (case s5 => repeat (first | exact (Kd.R_reads' HO159.out).2.2 | (with_reducible refine Kd.C_alloc ?_ _) | (with_reducible refine Kd.C_drewN ?_ _) | (with_reducible refine Kd.C_drew ?_))); (case s6 => rw [show t164.length = t156.length from (Kd.R_reads' HO159.out).1.symm]; exact (Kd.R_reads' HO159.out).2.1); rintro e w16 ⟨v166, rfl, ho0, hb⟩; refine ⟨_, rfl, ?_⟩; have n0_ := Aside0.mk (Kd.R_elder' (dR HO159) (Kd.R_base ho0) hb); have n1_ := Aside0.mk (Kd.R_below (dR HO162) hb); have n2_ := Aside0.mk (Kd.R_lower (Kd.R_new' ho0 (Kd.R_lt (dR HO159))) (tS HB)); have n3_ := Aside0.mk (below_step (tB HB) hb); revert n0_ n1_ n2_ n3_; clear HO159 HO162 HB; intro HO159 HO162 HO167 HB; (try clear hb); (try clear hb2); (try clear hk); (try clear hi); (try clear ho0)))
  go_ret
  exact ⟨_, tE, by (with_reducible repeat (first | apply Kd.R_alloc | apply Kd.R_drewN | apply Kd.R_drew)); exact Kd.R_mono HO167.out (fun _ hk => trivial), by repeat (first | (with_reducible first | exact HB.out | apply below_alloc | apply pw_below_drewN | apply below_drew1) | exact HB.out)⟩
 ·
  obtain rfl := Option.some.inj H
  go_enter Tryd.func93, Tryd.ntmps93
  go_wp2_with (first | ((with_reducible refine gate_callee (f := 95) rfl ?_); refine goesL_ (some 14) rfl rfl Tryd.func95 (by kernel_rfl) rfl #[.slice A0 l0.length c0, .slice A1 l1.length c1, .string a2] rfl Gc2 ?_; (with_reducible refine (pattern_read.calls _ _ l0 _ _ l1 a2 t156 false _ ?sT ?s1 HC0.out ?s3 HC1.out A4.out).mono ?_); (case sT => exact Gc1); (case s1 => exact Gc5); (case s3 => exact Gc8); rintro e w17 ⟨v158, rfl, ho0, hb⟩; refine ⟨_, rfl, ?_⟩; have n0_ := Aside0.mk (Kd.R_lower ho0 (tS HB)); have n1_ := Aside0.mk (below_step (tB HB) hb); revert n0_ n1_; clear HB; intro HO159 HB; (try clear hb); (try clear hb2); (try clear hk); (try clear hi); (try clear ho0)))
  go_ret
  exact ⟨_, tE, by first | exact Kd.R_nil _ _ _ _ _ | exact Kd.N_nil _ _ _ _ _ | exact Kd.V_nil _ _ _ _ _ | exact Kd.Q_nil _ _ _ _ _ | exact Kd.S_nil _ _ _ _ _, by repeat (first | (with_reducible first | exact HB.out | apply below_alloc | apply pw_below_drewN | apply below_drew1) | exact HB.out)⟩
end Go.Proofs.YtfbhdjflkaldgaaDoor.Pr
