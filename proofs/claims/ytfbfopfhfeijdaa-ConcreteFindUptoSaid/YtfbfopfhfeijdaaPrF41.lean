-- Written by a program of this session (ownprint.py, over the kit's printer). Not trusted: Lean checks it.
import Derived.Test.YtfbfopfhfeijdaaPr0
import Derived.Test.YtfbfopfhfeijdaaCt
import Derived.Test.YtfbfopfhfeijdaaMg6
namespace Go.Proofs.Ytfbfopfhfeijdaa.Pr
open Go.Proofs.Ytfbfopfhfeijdaa.Ct Go.RowKit Go.Proofs.YtfbfopfhfeijdaaW.PrintWords Go.Proofs.YtfbfopfhfeijdaaW.PrintLast Go.Proofs.YtfbfopfhfeijdaaW.PrintMore
attribute [local go_sem] max2_int min2_int max_two min_two max_three min_three max_four min_four   -- for this text's walks alone
set_option linter.unusedVariables false
set_option linter.unusedSimpArgs false

/-! ### concrete_copiedRule: function 41 -/
mutual
def concrete_copiedRule.l0 : Nat → List (List (S37)) → Int → Int → ByteArray → List (List (S37)) → List (S37) → List (S88) → ByteArray → List (List (S37)) → List (S37) → Option (ByteArray × (List (List (S37))) × (List (S37)) × (List (S88)))
 | 0, _, _, _, _, _, _, _, _, _, _ => none
 | k + 1, x19, x20, x21, x216000, x216001, x216002, x216003, x224000, x224001, x224002 => if x21 < x20 then (if 0 ≤ x21 then (if x21 < (x19.length : Int) then ((api_Feature_55.f (rd_L2 x19 x21)).bind fun t225 => ((api_Feature_54.f t225).bind fun t228 => (if x224001.length < 5864062014805 then (concrete_copiedRule.l0 k x19 x20 (wrap64 (x21 + 1)) x216000 x216001 x216002 x216003 x224000 (x224001 ++ [t228]) x224002) else (none)))) else (none)) else (none)) else (concrete_copiedRule.l1 k x216003 (x216003.length : Int) 0 x224000 x224001 x224002 ([] : List (S88)))
def concrete_copiedRule.l1 : Nat → List (S88) → Int → Int → ByteArray → List (List (S37)) → List (S37) → List (S88) → Option (ByteArray × (List (List (S37))) × (List (S37)) × (List (S88)))
 | 0, _, _, _, _, _, _, _ => none
 | k + 1, x35, x36, x37, x224000, x224001, x224002, x224003 => if x37 < x36 then (if 0 ≤ x37 then (if x37 < (x35.length : Int) then (concrete_copiedRule.l2 k x35 x36 x37 ((rd_T88 x35 x37).f1) (((rd_T88 x35 x37).f1).length : Int) 0 x224000 x224001 x224002 x224003 ((rd_T88 x35 x37).f0) ([] : List (S94))) else (none)) else (none)) else (some (x224000, x224001, x224002, x224003))
def concrete_copiedRule.l2 : Nat → List (S88) → Int → Int → List (S94) → Int → Int → ByteArray → List (List (S37)) → List (S37) → List (S88) → ByteArray → List (S94) → Option (ByteArray × (List (List (S37))) × (List (S37)) × (List (S88)))
 | 0, _, _, _, _, _, _, _, _, _, _, _, _ => none
 | k + 1, x35, x36, x37, x45, x46, x47, x224000, x224001, x224002, x224003, x237000, x237001 => if x47 < x46 then (if 0 ≤ x47 then (if x47 < (x45.length : Int) then ((api_Feature_55.f ((rd_T94 x45 x47).f4)).bind fun t239 => ((api_Feature_54.f t239).bind fun t242 => (if x237001.length < 1954687338268 then (concrete_copiedRule.l2 k x35 x36 x37 x45 x46 (wrap64 (x47 + 1)) x224000 x224001 x224002 x224003 x237000 (x237001 ++ [(⟨(rd_T94 x45 x47).f0, (rd_T94 x45 x47).f1, (rd_T94 x45 x47).f2, (rd_T94 x45 x47).f3, t242⟩ : S94)])) else (none)))) else (none)) else (none)) else (if x224003.length < 3518437208883 then (concrete_copiedRule.l1 k x35 x36 (wrap64 (x37 + 1)) x224000 x224001 x224002 (x224003 ++ [(⟨x237000, x237001⟩ : S88)])) else (none))
end
def concrete_copiedRule.f (k : Nat) (a0_0 : ByteArray) (l0_1 : List (List (S37))) (l0_2 : List (S37)) (l0_3 : List (S88)) : Option (ByteArray × (List (List (S37))) × (List (S37)) × (List (S88))) := (api_Feature_55.f l0_2).bind fun t217 => ((api_Feature_54.f t217).bind fun t220 => (concrete_copiedRule.l0 k l0_1 (l0_1.length : Int) 0 a0_0 l0_1 l0_2 l0_3 a0_0 ([] : List (List (S37))) t220))
def concrete_copiedRule.T1 : Bool × List (List Nat × List Nat) := (true, [([], []), ([0], [0]), ([], []), ([2], [2]), ([3], [3]), ([4, 4], [4]), ([1, 5], [1, 5]), ([], []), ([7, 6, 5, 0, 1, 2, 3, 4, 5, 6, 7], [6, 7])])
def concrete_copiedRule.B1 : List Nat := [0, 1, 0, 4, 12, 28, 63, 0, 255]
theorem concrete_copiedRule.tab1 : rtab .any (opsOf Try.f41 1) = concrete_copiedRule.T1 := by kernel_rfl
theorem concrete_copiedRule.bits1 : waitsOk concrete_copiedRule.T1.2 concrete_copiedRule.B1 = true := by kernel_rfl
def concrete_copiedRule.T5 : Bool × List (List Nat × List Nat) := (true, [([], []), ([0], [0]), ([], []), ([2], [2]), ([3, 3], [3]), ([4], [4]), ([1, 5, 4], [1, 5]), ([0, 1, 2, 3, 4, 5, 6], []), ([7, 6, 6, 0, 1, 2, 3, 4, 5, 6], [6, 7])])
def concrete_copiedRule.B5 : List Nat := [0, 1, 0, 4, 12, 28, 63, 127, 255]
theorem concrete_copiedRule.tab5 : rtab .any (opsOf Try.f41 5) = concrete_copiedRule.T5 := by kernel_rfl
theorem concrete_copiedRule.bits5 : waitsOk concrete_copiedRule.T5.2 concrete_copiedRule.B5 = true := by kernel_rfl
set_option maxHeartbeats 8000000 in
set_option maxRecDepth 100000 in
theorem concrete_copiedRule.calls (k : Nat) (a0_0 : ByteArray) (A0_1 : Option Addr) (c0_1 : Nat) (l0_1 : List (List (S37))) (A0_2 : Option Addr) (c0_2 : Nat) (l0_2 : List (S37)) (A0_3 : Option Addr) (c0_3 : Nat) (l0_3 : List (S88)) (r1 : ByteArray) (r2 : List (List (S37))) (r3 : List (S37)) (r4 : List (S88)) (w : World) (hr0_1 : Kd.C (Kd.slice 37 k37) w A0_1 l0_1.length l0_1) (hc0_1 : l0_1.length ≤ c0_1) (hr0_2 : Kd.C k37 w A0_2 l0_2.length l0_2) (hc0_2 : l0_2.length ≤ c0_2) (hr0_3 : Kd.C k88 w A0_3 l0_3.length l0_3) (hc0_3 : l0_3.length ≤ c0_3) (h : concrete_copiedRule.f k a0_0 l0_1 l0_2 l0_3 = some (r1, r2, r3, r4)) :
 Calls Try.prog 41 #[.agg #[.string a0_0, .slice A0_1 l0_1.length c0_1, .slice A0_2 l0_2.length c0_2, .slice A0_3 l0_3.length c0_3]] w fun e w' => ∃ v1_ v2_ v3_ : Value, e = .returned (.agg #[.string r1, v1_, v2_, v3_]) ∧ Kd.N (Kd.slice 37 k37) 30 w' w.heap.size (fun k_ => (w.heap.size ≤ k_) ∧ some k_ ≠ (v3_ : Value).ownBlock) v1_ r2 ∧ Kd.V k37 37 w' w.heap.size (fun k_ => (w.heap.size ≤ k_) ∧ some k_ ≠ (v1_ : Value).ownBlock ∧ some k_ ≠ (v3_ : Value).ownBlock) v2_ r3 ∧ Kd.N k88 88 w' w.heap.size (fun k_ => (w.heap.size ≤ k_) ∧ some k_ ≠ (v1_ : Value).ownBlock) v3_ r4 ∧ Below w.heap.size w w' := by
 have hu33 := Try.underlying33
 have hu88 := Try.underlying88
 have hu94 := Try.underlying94
 have HR0_1 := Aside0.mk hr0_1
 have HC0_1 := Aside0.mk hc0_1
 clear hr0_1 hc0_1
 have HR0_2 := Aside0.mk hr0_2
 have HC0_2 := Aside0.mk hc0_2
 clear hr0_2 hc0_2
 have HR0_3 := Aside0.mk hr0_3
 have HC0_3 := Aside0.mk hc0_3
 clear hr0_3 hc0_3
 have HB := Aside0.mk (Below.refl w.heap.size w)
 have H : ((api_Feature_55.f l0_2).bind fun t217 => ((api_Feature_54.f t217).bind fun t220 => (concrete_copiedRule.l0 k l0_1 (l0_1.length : Int) 0 a0_0 l0_1 l0_2 l0_3 a0_0 ([] : List (List (S37))) t220))) = some (r1, r2, r3, r4) := h
 clear h
 replace H := Option.bind_eq_some_iff.mp H
 obtain ⟨t217, A20, H⟩ := H
 (try dsimp only at H)
 have A2 := Aside0.mk A20
 clear A20
 replace H := Option.bind_eq_some_iff.mp H
 obtain ⟨t220, A30, H⟩ := H
 (try dsimp only at H)
 have A3 := Aside0.mk A30
 clear A30
 have H' := Aside0.mk H
 clear H
 go_enter Try.func41, Try.ntmps41
 try go_wp2_with (first | ((with_reducible refine gate_dst (N := 1) rfl ?_); refine box_event ?hg (N := 1) ?hd (cs := #[.string a0_0, .slice A0_1 l0_1.length c0_1, .slice A0_2 l0_2.length c0_2, .slice A0_3 l0_3.length c0_3]) (t := 33) ?hr ?_; (case hd => rfl); (case hg => rfl); (case hr => first | (go_simp; done) | (go_simp; rfl)); intro gb215 hg w4 hbox hb; have n0_ := Aside0.mk (below_step (tB HB) hb); have n1_ := Aside0.mk (hbox); have n2_ := tZ hg (tS HB); have n3_ := tZ hg (tS HB); revert n0_ n1_ n2_ n3_; clear HB; intro HB BK215 GW215 GE215; clear hb hbox hg) | ((with_reducible refine gate_dst (N := 2) rfl ?_); refine box_event ?hg (N := 2) ?hd (cs := #[.string (⟨#[]⟩ : ByteArray), .slice none 0 0, .slice none 0 0, .slice none 0 0]) (t := 33) ?hr ?_; (case hd => rfl); (case hg => rfl); (case hr => first | (go_simp; done) | (go_simp; rfl)); intro gb216 hg w5 hbox hb; have n0_ := Aside0.mk (blk_below (tK BK215) hb); have n1_ := Aside0.mk (below_step (tB HB) hb); have n2_ := Aside0.mk (hbox); have n3_ := tZ hg (tS HB); have n4_ := tZ hg (tS HB); have n5_ := tL hg (tK BK215); have n6_ := tG hg (tK BK215); revert n0_ n1_ n2_ n3_ n4_ n5_ n6_; clear BK215 HB; intro BK215 HB BK216 GW216 GE216 NB215_216 NB216_215; clear hb hbox hg))
 have n0_ := Aside0.mk (blk_drew BK215.out)
 have n1_ := Aside0.mk (blk_drew BK216.out)
 have n2_ := Aside0.mk (below_drew1 HB.out)
 revert n0_ n1_ n2_
 clear BK215 BK216 HB
 intro BK215 BK216 HB
 refine start_ (n := 9) (S := fun w' => w'.cell? ⟨gb215, 0, none⟩ = some (.string a0_0) ∧ w'.cell? ⟨gb215, 1, none⟩ = some (.slice A0_1 l0_1.length c0_1) ∧ w'.cell? ⟨gb215, 2, none⟩ = some (.slice A0_2 l0_2.length c0_2) ∧ w'.cell? ⟨gb215, 3, none⟩ = some (.slice A0_3 l0_3.length c0_3)) (ds := []) #[false, false, false, false, false, false, false, false, false] (by kernel_rfl) rfl rfl ⟨(blk_cell BK215.out 0).trans rfl, (blk_cell BK215.out 1).trans rfl, (blk_cell BK215.out 2).trans rfl, (blk_cell BK215.out 3).trans rfl⟩ (fun hHeld => ?_); refine with_tabW concrete_copiedRule.tab1 concrete_copiedRule.bits1 (fun HT_ HW_ => ?_)
 generalize w5.drew = w6 at BK215 BK216 HB hHeld ⊢
 refine pure_ (i := 0) (N := some 11) (v := ?_) (a' := ?_) #[true, false, false, false, false, false, false, false, false] rfl rfl (any_of HT_.out (by kernel_rfl)) (fun _ _ _ h => h) (Or.inl ⟨by rfl, ?_⟩) ?_ ?_
 rotate_left
 ·
  intro w'
  go_simp
  with_reducible rfl
 rotate_left
 ·
  simp only [Act.put, List.setIfInBounds_toArray, List.set_cons_zero, List.set_cons_succ, i64_w, i32_w]
  rfl
 refine pure_ (i := 2) (N := some 13) (v := ?_) (a' := ?_) #[true, false, true, false, false, false, false, false, false] rfl rfl (any_of HT_.out (by kernel_rfl)) (fun _ _ _ h => h) (Or.inl ⟨by rfl, ?_⟩) ?_ ?_
 rotate_left
 ·
  intro w'
  go_simp
  with_reducible rfl
 rotate_left
 ·
  simp only [Act.put, List.setIfInBounds_toArray, List.set_cons_zero, List.set_cons_succ, i64_w, i32_w]
  rfl
 refine take_ (i := 1) (N := some 12) (v := ?_) (a' := ?_) #[true, true, true, false, false, false, false, false, false] rfl rfl (take_ofW HT_.out HW_.out (by kernel_rfl)) (fun _ _ _ h => h) (Or.inl ⟨by rfl, ?_⟩) hHeld ?_ ?_
 rotate_left
 ·
  rintro w' ⟨s0, s1, s2, s3⟩
  go_simp
  with_reducible rfl
 rotate_left
 ·
  simp only [Act.put, List.setIfInBounds_toArray, List.set_cons_zero, List.set_cons_succ, i64_w, i32_w]
  rfl
 refine take_ (i := 3) (N := some 14) (v := ?_) (a' := ?_) #[true, true, true, true, false, false, false, false, false] rfl rfl (take_ofW HT_.out HW_.out (by kernel_rfl)) (fun _ _ _ h => h) (Or.inl ⟨by rfl, ?_⟩) hHeld ?_ ?_
 rotate_left
 ·
  rintro w' ⟨s0, s1, s2, s3⟩
  go_simp
  with_reducible rfl
 rotate_left
 ·
  simp only [Act.put, List.setIfInBounds_toArray, List.set_cons_zero, List.set_cons_succ, i64_w, i32_w]
  rfl
 refine join_ (σ := Value × Value × Nat) 1 #[true, true, true, true, true, true, true, true, false] (fun s_ => [(15, s_.1), (16, s_.2.1), (3, .pointer (some ⟨s_.2.2, 0, none⟩)), (17, .agg #[.string a0_0, .slice none 0 0, s_.2.1, .slice none 0 0])]) (fun s_ w' => (w'.cell? ⟨gb215, 0, none⟩ = some (.string a0_0) ∧ w'.cell? ⟨gb215, 1, none⟩ = some (.slice A0_1 l0_1.length c0_1) ∧ w'.cell? ⟨gb215, 2, none⟩ = some (.slice A0_2 l0_2.length c0_2) ∧ w'.cell? ⟨gb215, 3, none⟩ = some (.slice A0_3 l0_3.length c0_3)) ∧ (Kd.R k37 37 w' w.heap.size (fun k_ => (w.heap.size ≤ k_)) s_.1 t217) ∧ (Kd.V k37 37 w' w.heap.size (fun k_ => (w.heap.size ≤ k_) ∧ k_ ≠ gb215 ∧ k_ ≠ gb216 ∧ k_ ≠ s_.2.2) s_.2.1 t220) ∧ (w'.heap[gb215]? = some (.cells #[.string a0_0, .slice A0_1 l0_1.length c0_1, .slice A0_2 l0_2.length c0_2, .slice A0_3 l0_3.length c0_3] 33 (0, 0))) ∧ (w'.heap[gb216]? = some (.cells #[.string (⟨#[]⟩ : ByteArray), .slice none 0 0, .slice none 0 0, .slice none 0 0] 33 (0, 0))) ∧ (w'.heap[s_.2.2]? = some (.cells #[.string (⟨#[]⟩ : ByteArray), .slice none 0 0, .slice none 0 0, .slice none 0 0] 33 (0, 0))) ∧ (w.heap.size ≤ s_.2.2) ∧ (w.heap.size ≤ s_.2.2) ∧ (gb215 ≠ s_.2.2) ∧ (s_.2.2 ≠ gb215) ∧ (gb216 ≠ s_.2.2) ∧ (s_.2.2 ≠ gb216) ∧ (Below w.heap.size w w')) ?_ ?_
 rotate_left
 ·
  intro hCont
  refine two_ (i := 4) (j := 7) (Ni := some 15) (Nj := some 3) #[true, true, true, true, true, false, false, false, false] #[true, true, true, true, false, false, false, true, false] rfl rfl rfl rfl (two_of HT_.out (by kernel_rfl)) (by decide) (by decide) (fun K hK => ?_) (fun K hK => ?_)
  ·
   skip
   refine goes_ Try.func55 (by kernel_rfl) rfl #[.slice A0_2 l0_2.length c0_2] (by rfl) rfl rfl (by (try simp only [List.map_toArray, List.map_cons, List.map_nil]); first | done | rfl | (simp only [List.length_drop, List.length_take]; rfl)) ?_
   with_reducible refine (api_Feature_55.calls _ _ l0_2 t217 _ ?s1 ?s2 A2.out).mono ?_
   (case s1 => exact tC HR0_2 HB)
   (case s2 => exact HC0_2.out)
   rintro e w7 ⟨v218, rfl, ho0, hb⟩
   refine ⟨_, rfl, ?_⟩
   have n0_ := Aside0.mk (Kd.R_lower (Kd.R_newM (M := fun k_ => (w.heap.size ≤ k_)) ho0 (tS HB) (fun k_ h_ => h_)) (tS HB))
   have n1_ := Aside0.mk (blk_below (tK BK215) hb)
   have n2_ := Aside0.mk (blk_below (tK BK216) hb)
   have n3_ := Aside0.mk (below_step (tB HB) hb)
   revert n0_ n1_ n2_ n3_
   clear BK215 BK216 HB
   intro HO219 BK215 BK216 HB
   (try clear hb); (try clear ho0)
   obtain ⟨Ao8, co8, eo8⟩ := Kd.R_slice HO219.out
   (first | subst eo8 | (injection eo8 with f1_ f2_ f3_; have f4_ := f1_.symm; have f5_ := f3_.symm; clear f1_ f2_ f3_; subst f4_; subst f5_))
   refine hK.out _ _ ⟨(blk_cell BK215.out 0).trans rfl, (blk_cell BK215.out 1).trans rfl, (blk_cell BK215.out 2).trans rfl, (blk_cell BK215.out 3).trans rfl⟩ (fun hHeld => ?_)
   clear hK K
   refine norm_ (a' := ?_) ?_ ?_
   rotate_left
   ·
    show Act.put _ (some 15) _ = _
    simp only [Act.put, List.setIfInBounds_toArray, List.set_cons_zero, List.set_cons_succ, i64_w, i32_w]
    rfl
   refine two_ (i := 5) (j := 7) (Ni := some 16) (Nj := some 3) #[true, true, true, true, true, true, false, false, false] #[true, true, true, true, true, false, false, true, false] rfl rfl rfl rfl (two_of HT_.out (by kernel_rfl)) (by decide) (by decide) (fun K hK => ?_) (fun K hK => ?_)
   ·
    skip
    refine goes_ Try.func54 (by kernel_rfl) rfl #[.slice Ao8 t217.length co8] (by rfl) rfl rfl (by (try simp only [List.map_toArray, List.map_cons, List.map_nil]); first | done | rfl | (simp only [List.length_drop, List.length_take]; rfl)) ?_
    with_reducible refine (api_Feature_54.calls (fun k_ => some k_ = (.slice Ao8 t217.length co8 : Value).ownBlock) _ _ t217 t220 _ ?s1 A3.out).mono ?_
    (case s1 => exact Kd.R_V (Kd.R_tight rfl (Kd.R_types (Kd.R_types (HO219.out) BK215.out (by decide)) BK216.out (by decide))))
    rintro e w9 ⟨v221, rfl, ho0, hb⟩
    refine ⟨_, rfl, ?_⟩
    have n0_ := Aside0.mk (Kd.R_below (dR HO219) hb)
    have n1_ := Aside0.mk (Kd.V_lower (Kd.V_mono (ok' := fun k_ => (w.heap.size ≤ k_) ∧ k_ ≠ gb215 ∧ k_ ≠ gb216) ho0 (fun k_ hk_ => ⟨Or.elim hk_ (fun hs_ => ((Kd.R_types (Kd.R_types (HO219.out) BK215.out (by decide)) BK216.out (by decide)).1 k_ hs_.symm).1.1.1) (fun hn_ => (Nat.le_trans (tS HB) hn_)), Or.elim hk_ (fun hs_ => ((Kd.R_types (Kd.R_types (HO219.out) BK215.out (by decide)) BK216.out (by decide)).1 k_ hs_.symm).1.2) (fun hn_ => (Kd.freshB (tK BK215) k_ hn_)), Or.elim hk_ (fun hs_ => ((Kd.R_types (Kd.R_types (HO219.out) BK215.out (by decide)) BK216.out (by decide)).1 k_ hs_.symm).2) (fun hn_ => (Kd.freshB (tK BK216) k_ hn_))⟩)) (tS HB))
    have n2_ := Aside0.mk (blk_below (tK BK215) hb)
    have n3_ := Aside0.mk (blk_below (tK BK216) hb)
    have n4_ := Aside0.mk (below_step (tB HB) hb)
    revert n0_ n1_ n2_ n3_ n4_
    clear HO219 BK215 BK216 HB
    intro HO219 HO222 BK215 BK216 HB
    (try clear hb); (try clear ho0)
    obtain ⟨Ao10, co10, eo10⟩ := Kd.V_slice HO222.out
    (first | subst eo10 | (injection eo10 with f1_ f2_ f3_; have f4_ := f1_.symm; have f5_ := f3_.symm; clear f1_ f2_ f3_; subst f4_; subst f5_))
    refine hK.out _ _ ⟨(blk_cell BK215.out 0).trans rfl, (blk_cell BK215.out 1).trans rfl, (blk_cell BK215.out 2).trans rfl, (blk_cell BK215.out 3).trans rfl⟩ (fun hHeld => ?_)
    clear hK K
    refine norm_ (a' := ?_) ?_ ?_
    rotate_left
    ·
     show Act.put _ (some 16) _ = _
     simp only [Act.put, List.setIfInBounds_toArray, List.set_cons_zero, List.set_cons_succ, i64_w, i32_w]
     rfl
    refine pure_ (i := 6) (N := some 17) (v := ?_) (a' := ?_) #[true, true, true, true, true, true, true, false, false] rfl rfl (any_of HT_.out (by kernel_rfl)) (fun _ _ _ h => h) (Or.inl ⟨by rfl, ?_⟩) ?_ ?_
    rotate_left
    ·
     intro w'
     go_simp
     with_reducible rfl
    rotate_left
    ·
     simp only [Act.put, List.setIfInBounds_toArray, List.set_cons_zero, List.set_cons_succ, i64_w, i32_w]
     rfl
    refine one_ (i := 7) (N := some 3) #[true, true, true, true, true, true, true, true, false] rfl rfl (one_of HT_.out (by kernel_rfl)) (by decide) (fun K hK => ?_)
    refine box_step ?hg (N := 3) ?hd (cs := #[.string (⟨#[]⟩ : ByteArray), .slice none 0 0, .slice none 0 0, .slice none 0 0]) (t := 33) ?hr ?_; (case hd => rfl); (case hg => rfl); (case hr => first | (go_simp; done) | (go_simp; rfl))
    intro gb223 hg w11 hbox hb
    have n0_ := Aside0.mk (Kd.R_below (dR HO219) hb)
    have n1_ := Aside0.mk (Kd.V_below (Kd.V_elderB (dV HO222) gb223 (Nat.le_of_eq hg.symm)) hb)
    have n2_ := Aside0.mk (blk_below (tK BK215) hb)
    have n3_ := Aside0.mk (blk_below (tK BK216) hb)
    have n4_ := Aside0.mk (below_step (tB HB) hb)
    have n5_ := Aside0.mk (hbox)
    have n6_ := tZ hg (tS HB)
    have n7_ := tZ hg (tS HB)
    have n8_ := tL hg (tK BK215)
    have n9_ := tG hg (tK BK215)
    have n10_ := tL hg (tK BK216)
    have n11_ := tG hg (tK BK216)
    revert n0_ n1_ n2_ n3_ n4_ n5_ n6_ n7_ n8_ n9_ n10_ n11_
    clear HO219 HO222 BK215 BK216 HB
    intro HO219 HO222 BK215 BK216 HB BK223 GW223 GE223 NB215_223 NB223_215 NB216_223 NB223_216
    clear hb hbox hg
    refine hK.out _ _ ⟨(blk_cell BK215.out 0).trans rfl, (blk_cell BK215.out 1).trans rfl, (blk_cell BK215.out 2).trans rfl, (blk_cell BK215.out 3).trans rfl⟩ (fun hHeld => ?_)
    clear hK K
    refine norm_ (a' := ?_) ?_ ?_
    rotate_left
    ·
     show Act.put _ (some 3) _ = _
     simp only [Act.put, List.setIfInBounds_toArray, List.set_cons_zero, List.set_cons_succ, i64_w, i32_w]
     rfl
    exact norm_ (by simp only [putAll, Act.put, List.setIfInBounds_toArray, List.set_cons_zero, List.set_cons_succ]) (hCont (.slice Ao8 t217.length co8, .slice Ao10 t220.length co10, gb223) _ ⟨hHeld, (dR HO219), (dV HO222), (tK BK215), (tK BK216), (tK BK223), GW223.out, GE223.out, NB215_223.out, NB223_215.out, NB216_223.out, NB223_216.out, (tB HB)⟩)
   ·
    skip
    refine box_step ?hg (N := 3) ?hd (cs := #[.string (⟨#[]⟩ : ByteArray), .slice none 0 0, .slice none 0 0, .slice none 0 0]) (t := 33) ?hr ?_; (case hd => rfl); (case hg => rfl); (case hr => first | (go_simp; done) | (go_simp; rfl))
    intro gb223 hg w8 hbox hb
    have n0_ := Aside0.mk (Kd.R_below (dR HO219) hb)
    have n1_ := Aside0.mk (blk_below (tK BK215) hb)
    have n2_ := Aside0.mk (blk_below (tK BK216) hb)
    have n3_ := Aside0.mk (below_step (tB HB) hb)
    have n4_ := Aside0.mk (hbox)
    have n5_ := tZ hg (tS HB)
    have n6_ := tZ hg (tS HB)
    have n7_ := tL hg (tK BK215)
    have n8_ := tG hg (tK BK215)
    have n9_ := tL hg (tK BK216)
    have n10_ := tG hg (tK BK216)
    revert n0_ n1_ n2_ n3_ n4_ n5_ n6_ n7_ n8_ n9_ n10_
    clear HO219 BK215 BK216 HB
    intro HO219 BK215 BK216 HB BK223 GW223 GE223 NB215_223 NB223_215 NB216_223 NB223_216
    clear hb hbox hg
    obtain ⟨Ao9, co9, eo9⟩ := Kd.R_slice HO219.out
    (first | subst eo9 | (injection eo9 with f1_ f2_ f3_; have f4_ := f1_.symm; have f5_ := f3_.symm; clear f1_ f2_ f3_; subst f4_; subst f5_))
    refine hK.out _ _ ⟨(blk_cell BK215.out 0).trans rfl, (blk_cell BK215.out 1).trans rfl, (blk_cell BK215.out 2).trans rfl, (blk_cell BK215.out 3).trans rfl⟩ (fun hHeld => ?_)
    clear hK K
    refine norm_ (a' := ?_) ?_ ?_
    rotate_left
    ·
     show Act.put _ (some 3) _ = _
     simp only [Act.put, List.setIfInBounds_toArray, List.set_cons_zero, List.set_cons_succ, i64_w, i32_w]
     rfl
    refine one_ (i := 5) (N := some 16) #[true, true, true, true, true, true, false, true, false] rfl rfl (one_of HT_.out (by kernel_rfl)) (by decide) (fun K hK => ?_)
    refine goes_ Try.func54 (by kernel_rfl) rfl #[.slice Ao9 t217.length co9] (by rfl) rfl rfl (by (try simp only [List.map_toArray, List.map_cons, List.map_nil]); first | done | rfl | (simp only [List.length_drop, List.length_take]; rfl)) ?_
    with_reducible refine (api_Feature_54.calls (fun k_ => some k_ = (.slice Ao9 t217.length co9 : Value).ownBlock) _ _ t217 t220 _ ?s1 A3.out).mono ?_
    (case s1 => exact Kd.R_V (Kd.R_tight rfl (Kd.R_types (Kd.R_types (Kd.R_types (HO219.out) BK215.out (by decide)) BK216.out (by decide)) BK223.out (by decide))))
    rintro e w10 ⟨v221, rfl, ho0, hb⟩
    refine ⟨_, rfl, ?_⟩
    have n0_ := Aside0.mk (Kd.R_below (dR HO219) hb)
    have n1_ := Aside0.mk (Kd.V_lower (Kd.V_mono (ok' := fun k_ => (w.heap.size ≤ k_) ∧ k_ ≠ gb215 ∧ k_ ≠ gb216 ∧ k_ ≠ gb223) ho0 (fun k_ hk_ => ⟨Or.elim hk_ (fun hs_ => ((Kd.R_types (Kd.R_types (Kd.R_types (HO219.out) BK215.out (by decide)) BK216.out (by decide)) BK223.out (by decide)).1 k_ hs_.symm).1.1.1.1) (fun hn_ => (Nat.le_trans (tS HB) hn_)), Or.elim hk_ (fun hs_ => ((Kd.R_types (Kd.R_types (Kd.R_types (HO219.out) BK215.out (by decide)) BK216.out (by decide)) BK223.out (by decide)).1 k_ hs_.symm).1.1.2) (fun hn_ => (Kd.freshB (tK BK215) k_ hn_)), Or.elim hk_ (fun hs_ => ((Kd.R_types (Kd.R_types (Kd.R_types (HO219.out) BK215.out (by decide)) BK216.out (by decide)) BK223.out (by decide)).1 k_ hs_.symm).1.2) (fun hn_ => (Kd.freshB (tK BK216) k_ hn_)), Or.elim hk_ (fun hs_ => ((Kd.R_types (Kd.R_types (Kd.R_types (HO219.out) BK215.out (by decide)) BK216.out (by decide)) BK223.out (by decide)).1 k_ hs_.symm).2) (fun hn_ => (Kd.freshB (tK BK223) k_ hn_))⟩)) (tS HB))
    have n2_ := Aside0.mk (blk_below (tK BK215) hb)
    have n3_ := Aside0.mk (blk_below (tK BK216) hb)
    have n4_ := Aside0.mk (blk_below (tK BK223) hb)
    have n5_ := Aside0.mk (below_step (tB HB) hb)
    revert n0_ n1_ n2_ n3_ n4_ n5_
    clear HO219 BK215 BK216 BK223 HB
    intro HO219 HO222 BK215 BK216 BK223 HB
    (try clear hb); (try clear ho0)
    obtain ⟨Ao11, co11, eo11⟩ := Kd.V_slice HO222.out
    (first | subst eo11 | (injection eo11 with f1_ f2_ f3_; have f4_ := f1_.symm; have f5_ := f3_.symm; clear f1_ f2_ f3_; subst f4_; subst f5_))
    refine hK.out _ _ ⟨(blk_cell BK215.out 0).trans rfl, (blk_cell BK215.out 1).trans rfl, (blk_cell BK215.out 2).trans rfl, (blk_cell BK215.out 3).trans rfl⟩ (fun hHeld => ?_)
    clear hK K
    refine norm_ (a' := ?_) ?_ ?_
    rotate_left
    ·
     show Act.put _ (some 16) _ = _
     simp only [Act.put, List.setIfInBounds_toArray, List.set_cons_zero, List.set_cons_succ, i64_w, i32_w]
     rfl
    refine pure_ (i := 6) (N := some 17) (v := ?_) (a' := ?_) #[true, true, true, true, true, true, true, true, false] rfl rfl (any_of HT_.out (by kernel_rfl)) (fun _ _ _ h => h) (Or.inl ⟨by rfl, ?_⟩) ?_ ?_
    rotate_left
    ·
     intro w'
     go_simp
     with_reducible rfl
    rotate_left
    ·
     simp only [Act.put, List.setIfInBounds_toArray, List.set_cons_zero, List.set_cons_succ, i64_w, i32_w]
     rfl
    exact norm_ (by simp only [putAll, Act.put, List.setIfInBounds_toArray, List.set_cons_zero, List.set_cons_succ]) (hCont (.slice Ao9 t217.length co9, .slice Ao11 t220.length co11, gb223) _ ⟨hHeld, (dR HO219), (dV HO222), (tK BK215), (tK BK216), (tK BK223), GW223.out, GE223.out, NB215_223.out, NB223_215.out, NB216_223.out, NB223_216.out, (tB HB)⟩)
  ·
   skip
   refine box_step ?hg (N := 3) ?hd (cs := #[.string (⟨#[]⟩ : ByteArray), .slice none 0 0, .slice none 0 0, .slice none 0 0]) (t := 33) ?hr ?_; (case hd => rfl); (case hg => rfl); (case hr => first | (go_simp; done) | (go_simp; rfl))
   intro gb223 hg w7 hbox hb
   have n0_ := Aside0.mk (blk_below (tK BK215) hb)
   have n1_ := Aside0.mk (blk_below (tK BK216) hb)
   have n2_ := Aside0.mk (below_step (tB HB) hb)
   have n3_ := Aside0.mk (hbox)
   have n4_ := tZ hg (tS HB)
   have n5_ := tZ hg (tS HB)
   have n6_ := tL hg (tK BK215)
   have n7_ := tG hg (tK BK215)
   have n8_ := tL hg (tK BK216)
   have n9_ := tG hg (tK BK216)
   revert n0_ n1_ n2_ n3_ n4_ n5_ n6_ n7_ n8_ n9_
   clear BK215 BK216 HB
   intro BK215 BK216 HB BK223 GW223 GE223 NB215_223 NB223_215 NB216_223 NB223_216
   clear hb hbox hg
   refine hK.out _ _ ⟨(blk_cell BK215.out 0).trans rfl, (blk_cell BK215.out 1).trans rfl, (blk_cell BK215.out 2).trans rfl, (blk_cell BK215.out 3).trans rfl⟩ (fun hHeld => ?_)
   clear hK K
   refine norm_ (a' := ?_) ?_ ?_
   rotate_left
   ·
    show Act.put _ (some 3) _ = _
    simp only [Act.put, List.setIfInBounds_toArray, List.set_cons_zero, List.set_cons_succ, i64_w, i32_w]
    rfl
   refine one_ (i := 4) (N := some 15) #[true, true, true, true, true, false, false, true, false] rfl rfl (one_of HT_.out (by kernel_rfl)) (by decide) (fun K hK => ?_)
   refine goes_ Try.func55 (by kernel_rfl) rfl #[.slice A0_2 l0_2.length c0_2] (by rfl) rfl rfl (by (try simp only [List.map_toArray, List.map_cons, List.map_nil]); first | done | rfl | (simp only [List.length_drop, List.length_take]; rfl)) ?_
   with_reducible refine (api_Feature_55.calls _ _ l0_2 t217 _ ?s1 ?s2 A2.out).mono ?_
   (case s1 => exact tC HR0_2 HB)
   (case s2 => exact HC0_2.out)
   rintro e w8 ⟨v218, rfl, ho0, hb⟩
   refine ⟨_, rfl, ?_⟩
   have n0_ := Aside0.mk (Kd.R_lower (Kd.R_newM (M := fun k_ => (w.heap.size ≤ k_)) ho0 (tS HB) (fun k_ h_ => h_)) (tS HB))
   have n1_ := Aside0.mk (blk_below (tK BK215) hb)
   have n2_ := Aside0.mk (blk_below (tK BK216) hb)
   have n3_ := Aside0.mk (blk_below (tK BK223) hb)
   have n4_ := Aside0.mk (below_step (tB HB) hb)
   revert n0_ n1_ n2_ n3_ n4_
   clear BK215 BK216 BK223 HB
   intro HO219 BK215 BK216 BK223 HB
   (try clear hb); (try clear ho0)
   obtain ⟨Ao9, co9, eo9⟩ := Kd.R_slice HO219.out
   (first | subst eo9 | (injection eo9 with f1_ f2_ f3_; have f4_ := f1_.symm; have f5_ := f3_.symm; clear f1_ f2_ f3_; subst f4_; subst f5_))
   refine hK.out _ _ ⟨(blk_cell BK215.out 0).trans rfl, (blk_cell BK215.out 1).trans rfl, (blk_cell BK215.out 2).trans rfl, (blk_cell BK215.out 3).trans rfl⟩ (fun hHeld => ?_)
   clear hK K
   refine norm_ (a' := ?_) ?_ ?_
   rotate_left
   ·
    show Act.put _ (some 15) _ = _
    simp only [Act.put, List.setIfInBounds_toArray, List.set_cons_zero, List.set_cons_succ, i64_w, i32_w]
    rfl
   refine one_ (i := 5) (N := some 16) #[true, true, true, true, true, true, false, true, false] rfl rfl (one_of HT_.out (by kernel_rfl)) (by decide) (fun K hK => ?_)
   refine goes_ Try.func54 (by kernel_rfl) rfl #[.slice Ao9 t217.length co9] (by rfl) rfl rfl (by (try simp only [List.map_toArray, List.map_cons, List.map_nil]); first | done | rfl | (simp only [List.length_drop, List.length_take]; rfl)) ?_
   with_reducible refine (api_Feature_54.calls (fun k_ => some k_ = (.slice Ao9 t217.length co9 : Value).ownBlock) _ _ t217 t220 _ ?s1 A3.out).mono ?_
   (case s1 => exact Kd.R_V (Kd.R_tight rfl (Kd.R_types (Kd.R_types (Kd.R_types (HO219.out) BK215.out (by decide)) BK216.out (by decide)) BK223.out (by decide))))
   rintro e w10 ⟨v221, rfl, ho0, hb⟩
   refine ⟨_, rfl, ?_⟩
   have n0_ := Aside0.mk (Kd.R_below (dR HO219) hb)
   have n1_ := Aside0.mk (Kd.V_lower (Kd.V_mono (ok' := fun k_ => (w.heap.size ≤ k_) ∧ k_ ≠ gb215 ∧ k_ ≠ gb216 ∧ k_ ≠ gb223) ho0 (fun k_ hk_ => ⟨Or.elim hk_ (fun hs_ => ((Kd.R_types (Kd.R_types (Kd.R_types (HO219.out) BK215.out (by decide)) BK216.out (by decide)) BK223.out (by decide)).1 k_ hs_.symm).1.1.1.1) (fun hn_ => (Nat.le_trans (tS HB) hn_)), Or.elim hk_ (fun hs_ => ((Kd.R_types (Kd.R_types (Kd.R_types (HO219.out) BK215.out (by decide)) BK216.out (by decide)) BK223.out (by decide)).1 k_ hs_.symm).1.1.2) (fun hn_ => (Kd.freshB (tK BK215) k_ hn_)), Or.elim hk_ (fun hs_ => ((Kd.R_types (Kd.R_types (Kd.R_types (HO219.out) BK215.out (by decide)) BK216.out (by decide)) BK223.out (by decide)).1 k_ hs_.symm).1.2) (fun hn_ => (Kd.freshB (tK BK216) k_ hn_)), Or.elim hk_ (fun hs_ => ((Kd.R_types (Kd.R_types (Kd.R_types (HO219.out) BK215.out (by decide)) BK216.out (by decide)) BK223.out (by decide)).1 k_ hs_.symm).2) (fun hn_ => (Kd.freshB (tK BK223) k_ hn_))⟩)) (tS HB))
   have n2_ := Aside0.mk (blk_below (tK BK215) hb)
   have n3_ := Aside0.mk (blk_below (tK BK216) hb)
   have n4_ := Aside0.mk (blk_below (tK BK223) hb)
   have n5_ := Aside0.mk (below_step (tB HB) hb)
   revert n0_ n1_ n2_ n3_ n4_ n5_
   clear HO219 BK215 BK216 BK223 HB
   intro HO219 HO222 BK215 BK216 BK223 HB
   (try clear hb); (try clear ho0)
   obtain ⟨Ao11, co11, eo11⟩ := Kd.V_slice HO222.out
   (first | subst eo11 | (injection eo11 with f1_ f2_ f3_; have f4_ := f1_.symm; have f5_ := f3_.symm; clear f1_ f2_ f3_; subst f4_; subst f5_))
   refine hK.out _ _ ⟨(blk_cell BK215.out 0).trans rfl, (blk_cell BK215.out 1).trans rfl, (blk_cell BK215.out 2).trans rfl, (blk_cell BK215.out 3).trans rfl⟩ (fun hHeld => ?_)
   clear hK K
   refine norm_ (a' := ?_) ?_ ?_
   rotate_left
   ·
    show Act.put _ (some 16) _ = _
    simp only [Act.put, List.setIfInBounds_toArray, List.set_cons_zero, List.set_cons_succ, i64_w, i32_w]
    rfl
   refine pure_ (i := 6) (N := some 17) (v := ?_) (a' := ?_) #[true, true, true, true, true, true, true, true, false] rfl rfl (any_of HT_.out (by kernel_rfl)) (fun _ _ _ h => h) (Or.inl ⟨by rfl, ?_⟩) ?_ ?_
   rotate_left
   ·
    intro w'
    go_simp
    with_reducible rfl
   rotate_left
   ·
    simp only [Act.put, List.setIfInBounds_toArray, List.set_cons_zero, List.set_cons_succ, i64_w, i32_w]
    rfl
   exact norm_ (by simp only [putAll, Act.put, List.setIfInBounds_toArray, List.set_cons_zero, List.set_cons_succ]) (hCont (.slice Ao9 t217.length co9, .slice Ao11 t220.length co11, gb223) _ ⟨hHeld, (dR HO219), (dV HO222), (tK BK215), (tK BK216), (tK BK223), GW223.out, GE223.out, NB215_223.out, NB223_215.out, NB216_223.out, NB223_216.out, (tB HB)⟩)
 rintro ⟨v218, v221, gb223⟩ w12 ⟨hS_, h0_, h1_, h2_, h3_, h4_, h5_, h6_, h7_, h8_, h9_, h10_, h11_⟩
 have n0_ : Aside0 (Kd.R k37 37 w12 w.heap.size (fun k_ => (w.heap.size ≤ k_)) v218 t217) := ⟨h0_⟩
 have n1_ : Aside0 (Kd.V k37 37 w12 w.heap.size (fun k_ => (w.heap.size ≤ k_) ∧ k_ ≠ gb215 ∧ k_ ≠ gb216 ∧ k_ ≠ gb223) v221 t220) := ⟨h1_⟩
 have n2_ : Aside0 (w12.heap[gb215]? = some (.cells #[.string a0_0, .slice A0_1 l0_1.length c0_1, .slice A0_2 l0_2.length c0_2, .slice A0_3 l0_3.length c0_3] 33 (0, 0))) := ⟨h2_⟩
 have n3_ : Aside0 (w12.heap[gb216]? = some (.cells #[.string (⟨#[]⟩ : ByteArray), .slice none 0 0, .slice none 0 0, .slice none 0 0] 33 (0, 0))) := ⟨h3_⟩
 have n4_ : Aside0 (w12.heap[gb223]? = some (.cells #[.string (⟨#[]⟩ : ByteArray), .slice none 0 0, .slice none 0 0, .slice none 0 0] 33 (0, 0))) := ⟨h4_⟩
 have n5_ : Aside0 (w.heap.size ≤ gb223) := ⟨h5_⟩
 have n6_ : Aside0 (w.heap.size ≤ gb223) := ⟨h6_⟩
 have n7_ : Aside0 (gb215 ≠ gb223) := ⟨h7_⟩
 have n8_ : Aside0 (gb223 ≠ gb215) := ⟨h8_⟩
 have n9_ : Aside0 (gb216 ≠ gb223) := ⟨h9_⟩
 have n10_ : Aside0 (gb223 ≠ gb216) := ⟨h10_⟩
 have n11_ : Aside0 (Below w.heap.size w w12) := ⟨h11_⟩
 clear BK215; clear BK216; clear HB; clear h0_ h1_ h2_ h3_ h4_ h5_ h6_ h7_ h8_ h9_ h10_ h11_
 have HO219 := n0_
 have HO222 := n1_
 have BK215 := n2_
 have BK216 := n3_
 have BK223 := n4_
 have GW223 := n5_
 have GE223 := n6_
 have NB215_223 := n7_
 have NB223_215 := n8_
 have NB216_223 := n9_
 have NB223_216 := n10_
 have HB := n11_
 clear n0_ n1_ n2_ n3_ n4_ n5_ n6_ n7_ n8_ n9_ n10_ n11_
 have hHeld : w12.cell? ⟨gb215, 0, none⟩ = some (.string a0_0) ∧ w12.cell? ⟨gb215, 1, none⟩ = some (.slice A0_1 l0_1.length c0_1) ∧ w12.cell? ⟨gb215, 2, none⟩ = some (.slice A0_2 l0_2.length c0_2) ∧ w12.cell? ⟨gb215, 3, none⟩ = some (.slice A0_3 l0_3.length c0_3) := hS_
 obtain ⟨Ao13, co13, eo13⟩ := Kd.V_slice HO222.out
 (first | subst eo13 | (injection eo13 with f1_ f2_ f3_; have f4_ := f1_.symm; have f5_ := f3_.symm; clear f1_ f2_ f3_; subst f4_; subst f5_))
 refine norm_ (a' := ?_) ?_ ?_
 rotate_left
 ·
  simp only [putAll, Act.put, List.setIfInBounds_toArray, List.set_cons_zero, List.set_cons_succ]
  rfl
 refine one_ (i := 8) (N := none) #[true, true, true, true, true, true, true, true, true] rfl rfl (one_of HT_.out (by kernel_rfl)) (by decide) (fun K hK => ?_)
 have hs14 : w12.cell? ⟨gb223, 0, none⟩ = some (.string (⟨#[]⟩ : ByteArray)) := (blk_cell BK223.out 0).trans rfl
 have hfs14 := blk_frozen BK223.out 0
 have hns14_0 := NB215_223.out
 have hns14_1 := NB216_223.out
 have hms14_0 := NB223_215.out
 have hms14_1 := NB223_216.out
 have hs15 : w12.cell? ⟨gb223, 1, none⟩ = some (.slice none 0 0) := (blk_cell BK223.out 1).trans rfl
 have hfs15 := blk_frozen BK223.out 1
 have hns15_0 := NB215_223.out
 have hns15_1 := NB216_223.out
 have hms15_0 := NB223_215.out
 have hms15_1 := NB223_216.out
 have hs16 : w12.cell? ⟨gb223, 2, none⟩ = some (.slice none 0 0) := (blk_cell BK223.out 2).trans rfl
 have hfs16 := blk_frozen BK223.out 2
 have hns16_0 := NB215_223.out
 have hns16_1 := NB216_223.out
 have hms16_0 := NB223_215.out
 have hms16_1 := NB223_216.out
 have hs17 : w12.cell? ⟨gb223, 3, none⟩ = some (.slice none 0 0) := (blk_cell BK223.out 3).trans rfl
 have hfs17 := blk_frozen BK223.out 3
 have hns17_0 := NB215_223.out
 have hns17_1 := NB216_223.out
 have hms17_0 := NB223_215.out
 have hms17_1 := NB223_216.out
 refine skip_ (w1 := ?_) (by rfl) rfl ?_ ?_
 rotate_left
 ·
  go_simp
  rfl
 refine hK.out _ _ ⟨((cell_far (p := ⟨gb223, _, none⟩) NB215_223.out _).trans (((cell_far (p := ⟨gb223, _, none⟩) NB215_223.out _).trans (((cell_far (p := ⟨gb223, _, none⟩) NB215_223.out _).trans (((cell_far (p := ⟨gb223, _, none⟩) NB215_223.out _).trans (hHeld.1)))))))), ((cell_far (p := ⟨gb223, _, none⟩) NB215_223.out _).trans (((cell_far (p := ⟨gb223, _, none⟩) NB215_223.out _).trans (((cell_far (p := ⟨gb223, _, none⟩) NB215_223.out _).trans (((cell_far (p := ⟨gb223, _, none⟩) NB215_223.out _).trans (hHeld.2.1)))))))), ((cell_far (p := ⟨gb223, _, none⟩) NB215_223.out _).trans (((cell_far (p := ⟨gb223, _, none⟩) NB215_223.out _).trans (((cell_far (p := ⟨gb223, _, none⟩) NB215_223.out _).trans (((cell_far (p := ⟨gb223, _, none⟩) NB215_223.out _).trans (hHeld.2.2.1)))))))), ((cell_far (p := ⟨gb223, _, none⟩) NB215_223.out _).trans (((cell_far (p := ⟨gb223, _, none⟩) NB215_223.out _).trans (((cell_far (p := ⟨gb223, _, none⟩) NB215_223.out _).trans (((cell_far (p := ⟨gb223, _, none⟩) NB215_223.out _).trans (hHeld.2.2.2))))))))⟩ (fun hHeld => ?_)
 clear hK K
 refine done_ (done_of HT_.out (by kernel_rfl)) ?_
 have hnb18 := NB215_216.out
 have hnc18 := NB216_215.out
 have hnb19 := NB215_223.out
 have hnc19 := NB223_215.out
 obtain ⟨hcz20_0, hcz20_1, hcz20_2, hcz20_3, hfz20_0, hfz20_1, hfz20_2, hfz20_3⟩ := bx4 BK215
 try go_wp2
 go_loopg [21] k (fun kq v21 w' => ∃ (x21_1 : Int) (x224001_1 : List (List (S37))) (u224001 : Value), v21 = .int .i64 x21_1 ∧ Aside0 (concrete_copiedRule.l0 kq l0_1 (l0_1.length : Int) x21_1 a0_0 l0_1 l0_2 l0_3 a0_0 x224001_1 t220 = some (r1, r2, r3, r4)) ∧ Aside0 (kq ≤ k) ∧ Aside0 (Kd.N (Kd.slice 37 k37) 30 w' w.heap.size (fun k_ => (w.heap.size ≤ k_) ∧ k_ ≠ gb215 ∧ k_ ≠ gb216 ∧ k_ ≠ gb223) u224001 x224001_1) ∧ Aside0 (Kd.V k37 37 w' w.heap.size (fun k_ => (w.heap.size ≤ k_) ∧ some k_ ≠ (u224001 : Value).ownBlock ∧ k_ ≠ gb215 ∧ k_ ≠ gb216 ∧ k_ ≠ gb223) (.slice Ao13 t220.length co13) t220) ∧ Aside0 (w'.heap[gb215]? = some (.cells #[.string a0_0, (.slice A0_1 l0_1.length c0_1), (.slice A0_2 l0_2.length c0_2), (.slice A0_3 l0_3.length c0_3)] 33 (0, 0))) ∧ Aside0 (w'.heap[gb216]? = some (.cells #[.string (⟨#[]⟩ : ByteArray), (.slice none 0 0), (.slice none 0 0), (.slice none 0 0)] 33 (0, 0))) ∧ Aside0 (w'.heap[gb223]? = some (.cells #[.string a0_0, u224001, (.slice Ao13 t220.length co13), (.slice none 0 0)] 33 (0, 0))) ∧ Aside0 (Below w.heap.size w w'))
 case atStart => exact ⟨(0), (([] : List (List (S37)))), (.slice none 0 0), tV1, H', ⟨Nat.le_refl _⟩, ⟨by first | exact Kd.S_nil _ _ _ _ _ | exact Kd.N_nil _ _ _ _ _ | exact Kd.V_nil _ _ _ _ _ | exact Kd.Q_nil _ _ _ _ _ | exact Kd.R_nil _ _ _ _ _⟩, ⟨dV HO222⟩, ⟨tK BK215⟩, ⟨tK BK216⟩, ⟨tKp BK223⟩, ⟨tB HB⟩⟩
 case round =>
  clear H'; (try clear hcz20_0); (try clear hcz20_1); (try clear hcz20_2); (try clear hcz20_3); (try clear hfz20_0); (try clear hfz20_1); (try clear hfz20_2); (try clear hfz20_3)
  obtain ⟨x21_1, x224001_1, u224001, rfl, HA, HK1, HO_224001, HO_224002, BK215, BK216, BK223, HB⟩ := hrel
  cases gk with
  | zero => exact absurd HA.out (by simp [concrete_copiedRule.l0])
  | succ k1 =>
   have H := HA.out
   clear HA
   simp only [concrete_copiedRule.l0] at H
   by_cases c21 : x21_1 < (l0_1.length : Int)
   ·
    rw [if_pos c21] at H
    have c21b0 : decide (x21_1 < (l0_1.length : Int)) = true := decide_eq_true c21
    clear c21
    by_cases c22 : 0 ≤ x21_1
    ·
     rw [if_pos c22] at H
     have c22b0 : decide (0 ≤ x21_1) = true := decide_eq_true c22
     clear c22
     by_cases c23 : x21_1 < (l0_1.length : Int)
     ·
      rw [if_pos c23] at H
      have c23b0 : decide (x21_1 < (l0_1.length : Int)) = true := decide_eq_true c23
      clear c23
      replace H := Option.bind_eq_some_iff.mp H
      obtain ⟨t225, A240, H⟩ := H
      (try dsimp only at H)
      have A24 := Aside0.mk A240
      clear A240
      replace H := Option.bind_eq_some_iff.mp H
      obtain ⟨t228, A250, H⟩ := H
      (try dsimp only at H)
      have A25 := Aside0.mk A250
      clear A250
      by_cases c26 : x224001_1.length < 5864062014805
      ·
       rw [if_pos c26] at H
       have LMc26 := Aside0.mk c26
       clear c26
       obtain ⟨y231, hy231⟩ : ∃ y_ : List (List (S37)), y_ = (x224001_1 ++ [t228]) := ⟨_, rfl⟩
       replace H : (concrete_copiedRule.l0 k1 l0_1 (l0_1.length : Int) (wrap64 (x21_1 + 1)) a0_0 l0_1 l0_2 l0_3 a0_0 y231 t220) = some (r1, r2, r3, r4) := by first | (rw [hy231]; with_reducible exact H) | (have H2_ := (Option.bind_some _ _).symm.trans H; rw [hy231]; with_reducible exact H2_) | (have H2_ := (Option.bind_some _ _).symm.trans H; with_reducible exact H2_) | with_reducible exact H | (rw [hy231]; exact H) | exact H
       have Ny231 := Aside0.mk hy231
       clear hy231
       have H' := Aside0.mk H
       clear H
       have p224 : 0 ≤ (x21_1 : Int) := oD
       have q224 : x21_1 < (l0_1.length : Int) := oD
       obtain ⟨ad224, A224_0, c224_0, e224, hx224_0, hl224_0, hi224_0⟩ := at_L2 HR0_1.out x21_1 p224 q224
       cases e224
       replace hx224_0 := celB HB hx224_0
       have HR224_0 := Aside0.mk hi224_0
       have HC224_0 := Aside0.mk hl224_0
       clear hi224_0 hl224_0
       replace p224 := eq_true p224
       replace q224 := eq_true q224
       try go_wp2
       have n0_ := Aside0.mk (Kd.N_drew HO_224001.out)
       have n1_ := Aside0.mk (Kd.V_drew HO_224002.out)
       have n2_ := Aside0.mk (blk_drew BK215.out)
       have n3_ := Aside0.mk (blk_drew BK216.out)
       have n4_ := Aside0.mk (blk_drew BK223.out)
       have n5_ := Aside0.mk (below_drew1 HB.out)
       revert n0_ n1_ n2_ n3_ n4_ n5_
       clear HO_224001 HO_224002 BK215 BK216 BK223 HB
       intro HO_224001 HO_224002 BK215 BK216 BK223 HB
       refine start_ (n := 9) (S := fun w' => w'.cell? ⟨gb223, 0, none⟩ = some (.string a0_0) ∧ w'.cell? ⟨gb223, 1, none⟩ = some (u224001) ∧ w'.cell? ⟨gb223, 2, none⟩ = some (.slice Ao13 t220.length co13) ∧ w'.cell? ⟨gb223, 3, none⟩ = some (.slice none 0 0)) (ds := [8]) #[false, false, false, false, false, false, false, false, false] (by kernel_rfl) rfl rfl ⟨(blk_cell BK223.out 0).trans rfl, (blk_cell BK223.out 1).trans rfl, (blk_cell BK223.out 2).trans rfl, (blk_cell BK223.out 3).trans rfl⟩ (fun hHeld => ?_); refine with_tabW concrete_copiedRule.tab5 concrete_copiedRule.bits5 (fun HT_ HW_ => ?_)
       generalize wr.drew = w27 at HO_224001 HO_224002 BK215 BK216 BK223 HB hHeld ⊢
       refine pure_ (i := 0) (N := some 25) (v := ?_) (a' := ?_) #[true, false, false, false, false, false, false, false, false] rfl rfl (any_of HT_.out (by kernel_rfl)) (fun _ _ _ h => h) (Or.inl ⟨by rfl, ?_⟩) ?_ ?_
       rotate_left
       ·
        intro w'
        go_simp
        with_reducible rfl
       rotate_left
       ·
        simp only [Act.put, List.setIfInBounds_toArray, List.set_cons_zero, List.set_cons_succ, i64_w, i32_w]
        rfl
       refine pure_ (i := 2) (N := some 27) (v := ?_) (a' := ?_) #[true, false, true, false, false, false, false, false, false] rfl rfl (any_of HT_.out (by kernel_rfl)) (fun _ _ _ h => h) (Or.inl ⟨by rfl, ?_⟩) ?_ ?_
       rotate_left
       ·
        intro w'
        go_simp
        with_reducible rfl
       rotate_left
       ·
        simp only [Act.put, List.setIfInBounds_toArray, List.set_cons_zero, List.set_cons_succ, i64_w, i32_w]
        rfl
       refine take_ (i := 1) (N := some 26) (v := ?_) (a' := ?_) #[true, true, true, false, false, false, false, false, false] rfl rfl (take_ofW HT_.out HW_.out (by kernel_rfl)) (fun _ _ _ h => h) (Or.inl ⟨by rfl, ?_⟩) hHeld ?_ ?_
       rotate_left
       ·
        rintro w' ⟨s0, s1, s2, s3⟩
        go_simp
        with_reducible rfl
       rotate_left
       ·
        simp only [Act.put, List.setIfInBounds_toArray, List.set_cons_zero, List.set_cons_succ, i64_w, i32_w]
        rfl
       refine one_ (i := 3) (N := some 28) #[true, true, true, true, false, false, false, false, false] rfl rfl (one_of HT_.out (by kernel_rfl)) (by decide) (fun K hK => ?_)
       refine goes_ Try.func55 (by kernel_rfl) rfl #[.slice A224_0 (rd_L2 l0_1 x21_1).length c224_0] (by rfl) rfl rfl (by (try simp only [List.map_toArray, List.map_cons, List.map_nil]); first | done | rfl | (simp only [List.length_drop, List.length_take]; rfl)) ?_
       with_reducible refine (api_Feature_55.calls _ _ (rd_L2 l0_1 x21_1) t225 _ ?s1 ?s2 A24.out).mono ?_
       (case s1 => exact tC HR224_0 HB)
       (case s2 => exact HC224_0.out)
       rintro e w28 ⟨v226, rfl, ho0, hb⟩
       refine ⟨_, rfl, ?_⟩
       have n0_ := Aside0.mk (Kd.N_elder' (dN HO_224001) (Kd.R_base ho0) hb)
       have n1_ := Aside0.mk (Kd.V_elder' (dV HO_224002) (Kd.R_base ho0) hb)
       have n2_ := Aside0.mk (Kd.R_lower (Kd.R_newM (M := fun k_ => (w.heap.size ≤ k_)) ho0 (tS HB) (fun k_ h_ => h_)) (tS HB))
       have n3_ := Aside0.mk (blk_below (tK BK215) hb)
       have n4_ := Aside0.mk (blk_below (tK BK216) hb)
       have n5_ := Aside0.mk (blk_below (tK BK223) hb)
       have n6_ := Aside0.mk (below_step (tB HB) hb)
       revert n0_ n1_ n2_ n3_ n4_ n5_ n6_
       clear HO_224001 HO_224002 BK215 BK216 BK223 HB
       intro HO_224001 HO_224002 HO227 BK215 BK216 BK223 HB
       (try clear hb); (try clear ho0)
       obtain ⟨Ao29, co29, eo29⟩ := Kd.R_slice HO227.out
       (first | subst eo29 | (injection eo29 with f1_ f2_ f3_; have f4_ := f1_.symm; have f5_ := f3_.symm; clear f1_ f2_ f3_; subst f4_; subst f5_))
       refine hK.out _ _ ⟨(blk_cell BK223.out 0).trans rfl, (blk_cell BK223.out 1).trans rfl, (blk_cell BK223.out 2).trans rfl, (blk_cell BK223.out 3).trans rfl⟩ (fun hHeld => ?_)
       clear hK K
       refine norm_ (a' := ?_) ?_ ?_
       rotate_left
       ·
        show Act.put _ (some 28) _ = _
        simp only [Act.put, List.setIfInBounds_toArray, List.set_cons_zero, List.set_cons_succ, i64_w, i32_w]
        rfl
       refine one_ (i := 4) (N := some 29) #[true, true, true, true, true, false, false, false, false] rfl rfl (one_of HT_.out (by kernel_rfl)) (by decide) (fun K hK => ?_)
       refine goes_ Try.func54 (by kernel_rfl) rfl #[.slice Ao29 t225.length co29] (by rfl) rfl rfl (by (try simp only [List.map_toArray, List.map_cons, List.map_nil]); first | done | rfl | (simp only [List.length_drop, List.length_take]; rfl)) ?_
       with_reducible refine (api_Feature_54.calls (fun k_ => some k_ = (.slice Ao29 t225.length co29 : Value).ownBlock) _ _ t225 t228 _ ?s1 A25.out).mono ?_
       (case s1 => exact Kd.R_V (Kd.R_tight rfl (Kd.R_types (Kd.R_types (Kd.R_types (Kd.R_apart' (HO227.out) (Kd.N_typed HO_224001.out) (by decide)) BK215.out (by decide)) BK216.out (by decide)) BK223.out (by decide))))
       rintro e w30 ⟨v229, rfl, ho0, hb⟩
       refine ⟨_, rfl, ?_⟩
       have n0_ := Aside0.mk (Kd.N_below (dN HO_224001) hb)
       have n1_ := Aside0.mk (Kd.V_below (dV HO_224002) hb)
       have n2_ := Aside0.mk (Kd.R_below (dR HO227) hb)
       have n3_ := Aside0.mk (Kd.V_lower (Kd.V_mono (ok' := fun k_ => (w.heap.size ≤ k_) ∧ some k_ ≠ (u224001 : Value).ownBlock ∧ k_ ≠ gb215 ∧ k_ ≠ gb216 ∧ k_ ≠ gb223) ho0 (fun k_ hk_ => ⟨Or.elim hk_ (fun hs_ => ((Kd.R_types (Kd.R_types (Kd.R_types (Kd.R_apart' (HO227.out) (Kd.N_typed HO_224001.out) (by decide)) BK215.out (by decide)) BK216.out (by decide)) BK223.out (by decide)).1 k_ hs_.symm).1.1.1.1.1) (fun hn_ => (Nat.le_trans (tS HB) hn_)), Or.elim hk_ (fun hs_ => ((Kd.R_types (Kd.R_types (Kd.R_types (Kd.R_apart' (HO227.out) (Kd.N_typed HO_224001.out) (by decide)) BK215.out (by decide)) BK216.out (by decide)) BK223.out (by decide)).1 k_ hs_.symm).1.1.1.2) (fun hn_ => (Kd.fresh' (Kd.N_lt (dN HO_224001)) k_ hn_)), Or.elim hk_ (fun hs_ => ((Kd.R_types (Kd.R_types (Kd.R_types (Kd.R_apart' (HO227.out) (Kd.N_typed HO_224001.out) (by decide)) BK215.out (by decide)) BK216.out (by decide)) BK223.out (by decide)).1 k_ hs_.symm).1.1.2) (fun hn_ => (Kd.freshB (tK BK215) k_ hn_)), Or.elim hk_ (fun hs_ => ((Kd.R_types (Kd.R_types (Kd.R_types (Kd.R_apart' (HO227.out) (Kd.N_typed HO_224001.out) (by decide)) BK215.out (by decide)) BK216.out (by decide)) BK223.out (by decide)).1 k_ hs_.symm).1.2) (fun hn_ => (Kd.freshB (tK BK216) k_ hn_)), Or.elim hk_ (fun hs_ => ((Kd.R_types (Kd.R_types (Kd.R_types (Kd.R_apart' (HO227.out) (Kd.N_typed HO_224001.out) (by decide)) BK215.out (by decide)) BK216.out (by decide)) BK223.out (by decide)).1 k_ hs_.symm).2) (fun hn_ => (Kd.freshB (tK BK223) k_ hn_))⟩)) (tS HB))
       have n4_ := Aside0.mk (blk_below (tK BK215) hb)
       have n5_ := Aside0.mk (blk_below (tK BK216) hb)
       have n6_ := Aside0.mk (blk_below (tK BK223) hb)
       have n7_ := Aside0.mk (below_step (tB HB) hb)
       revert n0_ n1_ n2_ n3_ n4_ n5_ n6_ n7_
       clear HO_224001 HO_224002 HO227 BK215 BK216 BK223 HB
       intro HO_224001 HO_224002 HO227 HO230 BK215 BK216 BK223 HB
       (try clear hb); (try clear ho0)
       obtain ⟨Ao32, co32, eo32⟩ := Kd.V_slice HO230.out
       (first | subst eo32 | (injection eo32 with f1_ f2_ f3_; have f4_ := f1_.symm; have f5_ := f3_.symm; clear f1_ f2_ f3_; subst f4_; subst f5_))
       refine hK.out _ _ ⟨(blk_cell BK223.out 0).trans rfl, (blk_cell BK223.out 1).trans rfl, (blk_cell BK223.out 2).trans rfl, (blk_cell BK223.out 3).trans rfl⟩ (fun hHeld => ?_)
       clear hK K
       refine norm_ (a' := ?_) ?_ ?_
       rotate_left
       ·
        show Act.put _ (some 29) _ = _
        simp only [Act.put, List.setIfInBounds_toArray, List.set_cons_zero, List.set_cons_succ, i64_w, i32_w]
        rfl
       refine one_ (i := 5) (N := some 30) #[true, true, true, true, true, true, false, false, false] rfl rfl (one_of HT_.out (by kernel_rfl)) (by decide) (fun K hK => ?_)
       refine value_ (w1 := ?_) (v := ?_) (by rfl) rfl ?_ ?_
       rotate_left 2
       ·
        go_simp
        constructor
        ·
         rfl
        ·
         rfl
       refine hK.out _ _ ⟨(blk_cell (blk_alloc BK223.out _) 0).trans rfl, (blk_cell (blk_alloc BK223.out _) 1).trans rfl, (blk_cell (blk_alloc BK223.out _) 2).trans rfl, (blk_cell (blk_alloc BK223.out _) 3).trans rfl⟩ (fun hHeld => ?_)
       clear hK K
       refine norm_ (a' := ?_) ?_ ?_
       rotate_left
       ·
        show Act.put _ (some 30) _ = _
        simp only [Act.put, List.setIfInBounds_toArray, List.set_cons_zero, List.set_cons_succ, i64_w, i32_w]
        rfl
       refine one_ (i := 6) (N := some 31) #[true, true, true, true, true, true, true, false, false] rfl rfl (one_of HT_.out (by kernel_rfl)) (by decide) (fun K hK => ?_)
       refine Kd.N_append_step (Kd.slice 37 k37) (w0 := w) w.heap.size (by rfl) (.tmp 26) (.tmp 30) 22 30 (.slice none 0 0) 24 rfl Try.underlying22 info30 rfl (by decide) (by omega) u224001 x224001_1 t228 [.slice Ao32 t228.length co32] (fun k_ => (w.heap.size ≤ k_) ∧ k_ ≠ gb215 ∧ k_ ≠ gb216 ∧ k_ ≠ gb223) (fun k_ => ((fun k_ => (w.heap.size ≤ k_) ∧ k_ ≠ gb215 ∧ k_ ≠ gb216 ∧ k_ ≠ gb223)) k_ ∧ some k_ ≠ (u224001 : Value).ownBlock) rfl rfl ?aP (fun _ hk => hk) ?aF ?aO ?aB ?aS ?aL ?_
       (case aP => exact (Kd.FK_slice_mk (Kd.V_reads' (Kd.V_mono (ok' := (fun k_ => ((fun k_ => (w.heap.size ≤ k_) ∧ k_ ≠ gb215 ∧ k_ ≠ gb216 ∧ k_ ≠ gb223)) k_ ∧ some k_ ≠ (u224001 : Value).ownBlock)) (HO230.out) (fun k_ hk => ⟨⟨hk.1, ⟨hk.2.2.1, ⟨hk.2.2.2.1, hk.2.2.2.2⟩⟩⟩, hk.2.1⟩))).2.1 (Kd.V_F (Kd.V_mono (ok' := (fun k_ => ((fun k_ => (w.heap.size ≤ k_) ∧ k_ ≠ gb215 ∧ k_ ≠ gb216 ∧ k_ ≠ gb223)) k_ ∧ some k_ ≠ (u224001 : Value).ownBlock)) (HO230.out) (fun k_ hk => ⟨⟨hk.1, ⟨hk.2.2.1, ⟨hk.2.2.2.1, hk.2.2.2.2⟩⟩⟩, hk.2.1⟩)))))
       (case aB => exact (tB HB))
       (case aF => exact (fun k_ hk => ⟨(Nat.le_trans (tS HB) hk), Kd.freshB (tK BK215) k_ hk, Kd.freshB (tK BK216) k_ hk, Kd.freshB (tK BK223) k_ hk⟩))
       (case aO => exact (dN HO_224001))
       (case aS => exact (tS HB))
       (case aL => have := LMc26.out; omega)
       intro v232 w31 ho hb hg hat
       rw [← Ny231.out] at ho
       have n0_ := Aside0.mk (Kd.V_afterv (ok := (fun k_ => (w.heap.size ≤ k_) ∧ some k_ ≠ (.slice Ao29 t225.length co29 : Value).ownBlock ∧ k_ ≠ gb215 ∧ k_ ≠ gb216 ∧ k_ ≠ gb223)) (dV HO_224002) hg hat)
       have n1_ := Aside0.mk (blk_grown (tK BK215) hg (Kd.N_ne HO_224001.out BK215.out (by decide)))
       have n2_ := Aside0.mk (blk_grown (tK BK216) hg (Kd.N_ne HO_224001.out BK216.out (by decide)))
       have n3_ := Aside0.mk (blk_grown (tK BK223) hg (Kd.N_ne HO_224001.out BK223.out (by decide)))
       have n4_ := Aside0.mk (Kd.R_over' (dR HO227) (Kd.N_typed (dN HO_224001)) (by decide) hg)
       have n5_ := Aside0.mk (Kd.V_afterv (ok := (fun k_ => (w.heap.size ≤ k_) ∧ k_ ≠ gb215 ∧ k_ ≠ gb216 ∧ k_ ≠ gb223)) (dV HO230) hg hat)
       have n6_ := Aside0.mk (hb)
       have n7_ := Aside0.mk (ho)
       revert n0_ n1_ n2_ n3_ n4_ n5_ n6_ n7_
       clear HO_224002 BK215 BK216 BK223 HO227 HO230 HB HO_224001
       intro HO_224002 BK215 BK216 BK223 HO227 HO230 HB HO233
       clear ho hb hg hat
       obtain ⟨Ao33, co33, eo33⟩ := Kd.N_slice HO233.out
       (first | subst eo33 | (injection eo33 with f1_ f2_ f3_; have f4_ := f1_.symm; have f5_ := f3_.symm; clear f1_ f2_ f3_; subst f4_; subst f5_))
       refine hK.out _ _ ⟨(blk_cell BK223.out 0).trans rfl, (blk_cell BK223.out 1).trans rfl, (blk_cell BK223.out 2).trans rfl, (blk_cell BK223.out 3).trans rfl⟩ (fun hHeld => ?_)
       clear hK K
       refine norm_ (a' := ?_) ?_ ?_
       rotate_left
       ·
        show Act.put _ (some 31) _ = _
        simp only [Act.put, List.setIfInBounds_toArray, List.set_cons_zero, List.set_cons_succ, i64_w, i32_w]
        rfl
       refine pure_ (i := 7) (N := some 32) (v := ?_) (a' := ?_) #[true, true, true, true, true, true, true, true, false] rfl rfl (any_of HT_.out (by kernel_rfl)) (fun _ _ _ h => h) (Or.inl ⟨by rfl, ?_⟩) ?_ ?_
       rotate_left
       ·
        intro w'
        go_simp
        with_reducible rfl
       rotate_left
       ·
        simp only [Act.put, List.setIfInBounds_toArray, List.set_cons_zero, List.set_cons_succ, i64_w, i32_w]
        rfl
       refine last_ (i := 8) (N := none) #[true, true, true, true, true, true, true, true, true] rfl rfl (one_of HT_.out (by kernel_rfl)) (by decide) (fun K hK => ?_)
       have hs34 : w31.cell? ⟨gb223, 1, none⟩ = some (u224001) := (blk_cell BK223.out 1).trans rfl
       have hfs34 := blk_frozen BK223.out 1
       have hns34_0 := NB215_223.out
       have hns34_1 := NB216_223.out
       have hms34_0 := NB223_215.out
       have hms34_1 := NB223_216.out
       refine skip_ (w1 := ?_) (by rfl) rfl ?_ ?_
       rotate_left
       ·
        go_simp
        rfl
       refine hK.out _ _ ?_
       clear hK K
       refine done_ (done_of HT_.out (by kernel_rfl)) ?_
       try go_wp2
       go_roundg k1
       case measure => have := HK1.out; omega
       case rel => exact ⟨(wrap64 (x21_1 + 1)), (y231), (.slice Ao33 y231.length co33), tV1, H', ⟨by have := HK1.out; omega⟩, ⟨dN HO233⟩, ⟨dV HO_224002⟩, ⟨tK BK215⟩, ⟨tK BK216⟩, ⟨tKp BK223⟩, ⟨tB HB⟩⟩
      ·
       rw [if_neg c26] at H
       exact absurd H (by simp)
     ·
      rw [if_neg c23] at H
      exact absurd H (by simp)
    ·
     rw [if_neg c22] at H
     exact absurd H (by simp)
   ·
    rw [if_neg c21] at H
    have c21b0 : decide (x21_1 < (l0_1.length : Int)) = false := decide_eq_false c21
    clear c21
    have H' := Aside0.mk H
    clear H
    have hnb35 := NB215_216.out
    have hnc35 := NB216_215.out
    have hnb36 := NB215_223.out
    have hnc36 := NB223_215.out
    obtain ⟨hcz37_0, hcz37_1, hcz37_2, hcz37_3, hfz37_0, hfz37_1, hfz37_2, hfz37_3⟩ := bx4 BK215
    go_wp2
    go_loopg [37] k1 (fun kq v37 w' => ∃ (x37_2 : Int) (x224003_2 : List (S88)) (u224003 : Value), v37 = .int .i64 x37_2 ∧ Aside0 (concrete_copiedRule.l1 kq l0_3 (l0_3.length : Int) x37_2 a0_0 x224001_1 t220 x224003_2 = some (r1, r2, r3, r4)) ∧ Aside0 (kq ≤ k1) ∧ Aside0 (Kd.N (Kd.slice 37 k37) 30 w' w.heap.size (fun k_ => (w.heap.size ≤ k_) ∧ some k_ ≠ (u224003 : Value).ownBlock ∧ k_ ≠ gb215 ∧ k_ ≠ gb216 ∧ k_ ≠ gb223) u224001 x224001_1) ∧ Aside0 (Kd.V k37 37 w' w.heap.size (fun k_ => (w.heap.size ≤ k_) ∧ some k_ ≠ (u224001 : Value).ownBlock ∧ some k_ ≠ (u224003 : Value).ownBlock ∧ k_ ≠ gb215 ∧ k_ ≠ gb216 ∧ k_ ≠ gb223) (.slice Ao13 t220.length co13) t220) ∧ Aside0 (Kd.N k88 88 w' w.heap.size (fun k_ => (w.heap.size ≤ k_) ∧ some k_ ≠ (u224001 : Value).ownBlock ∧ k_ ≠ gb215 ∧ k_ ≠ gb216 ∧ k_ ≠ gb223) u224003 x224003_2) ∧ Aside0 (w'.heap[gb215]? = some (.cells #[.string a0_0, (.slice A0_1 l0_1.length c0_1), (.slice A0_2 l0_2.length c0_2), (.slice A0_3 l0_3.length c0_3)] 33 (0, 0))) ∧ Aside0 (w'.heap[gb216]? = some (.cells #[.string (⟨#[]⟩ : ByteArray), (.slice none 0 0), (.slice none 0 0), (.slice none 0 0)] 33 (0, 0))) ∧ Aside0 (w'.heap[gb223]? = some (.cells #[.string a0_0, u224001, (.slice Ao13 t220.length co13), u224003] 33 (0, 0))) ∧ Aside0 (Below w.heap.size w w'))
    case atStart => exact ⟨(0), (([] : List (S88))), (.slice none 0 0), tV1, H', ⟨Nat.le_refl _⟩, ⟨dN HO_224001⟩, ⟨dV HO_224002⟩, ⟨by first | exact Kd.R_nil _ _ _ _ _ | exact Kd.N_nil _ _ _ _ _ | exact Kd.V_nil _ _ _ _ _ | exact Kd.Q_nil _ _ _ _ _ | exact Kd.S_nil _ _ _ _ _⟩, ⟨tK BK215⟩, ⟨tK BK216⟩, ⟨tK BK223⟩, ⟨tB HB⟩⟩
    case round =>
     clear H'; (try clear c21); (try clear c21b0); (try clear hcz20_0); (try clear hcz20_1); (try clear hcz20_2); (try clear hcz20_3); (try clear hcz37_0); (try clear hcz37_1); (try clear hcz37_2); (try clear hcz37_3); (try clear hfz20_0); (try clear hfz20_1); (try clear hfz20_2); (try clear hfz20_3); (try clear hfz37_0); (try clear hfz37_1); (try clear hfz37_2); (try clear hfz37_3)
     obtain ⟨x37_2, x224003_2, u224003, rfl, HA, HK2, HO_224001, HO_224002, HO_224003, BK215, BK216, BK223, HB⟩ := hrel
     cases gk with
     | zero => exact absurd HA.out (by simp [concrete_copiedRule.l1])
     | succ k2 =>
      have H := HA.out
      clear HA
      simp only [concrete_copiedRule.l1] at H
      by_cases c38 : x37_2 < (l0_3.length : Int)
      ·
       rw [if_pos c38] at H
       have c38b0 : decide (x37_2 < (l0_3.length : Int)) = true := decide_eq_true c38
       clear c38
       by_cases c39 : 0 ≤ x37_2
       ·
        rw [if_pos c39] at H
        have c39b0 : decide (0 ≤ x37_2) = true := decide_eq_true c39
        clear c39
        by_cases c40 : x37_2 < (l0_3.length : Int)
        ·
         rw [if_pos c40] at H
         have c40b0 : decide (x37_2 < (l0_3.length : Int)) = true := decide_eq_true c40
         clear c40
         have H' := Aside0.mk H
         clear H
         have p234 : 0 ≤ (x37_2 : Int) := oD
         have q234 : x37_2 < (l0_3.length : Int) := oD
         obtain ⟨ad234, A234_1, c234_1, e234, hx234_0, hx234_1, hl234_1, hi234_1⟩ := at_T88 HR0_3.out x37_2 p234 q234
         cases e234
         replace hx234_0 := celB HB hx234_0
         replace hx234_1 := celB HB hx234_1
         have HR234_1 := Aside0.mk hi234_1
         have HC234_1 := Aside0.mk hl234_1
         clear hi234_1 hl234_1
         replace p234 := eq_true p234
         replace q234 := eq_true q234
         go_wp2_with (first | ((with_reducible refine gate_dst (N := 7) rfl ?_); refine box_event ?hg (N := 7) ?hd (cs := #[.string (⟨#[]⟩ : ByteArray), .slice none 0 0]) (t := 88) ?hr ?_; (case hd => rfl); (case hg => rfl); (case hr => first | (go_simp; done) | (go_simp; rfl)); intro gb235 hg w41 hbox hb; have n0_ := Aside0.mk (Kd.N_below (Kd.N_elderB (dN HO_224001) gb235 (Nat.le_of_eq hg.symm)) hb); have n1_ := Aside0.mk (Kd.V_below (Kd.V_elderB (dV HO_224002) gb235 (Nat.le_of_eq hg.symm)) hb); have n2_ := Aside0.mk (Kd.N_below (Kd.N_elderB (dN HO_224003) gb235 (Nat.le_of_eq hg.symm)) hb); have n3_ := Aside0.mk (blk_below (tK BK215) hb); have n4_ := Aside0.mk (blk_below (tK BK216) hb); have n5_ := Aside0.mk (blk_below (tK BK223) hb); have n6_ := Aside0.mk (below_step (tB HB) hb); have n7_ := Aside0.mk (hbox); have n8_ := tZ hg (tS HB); have n9_ := tZ hg (tS HB); have n10_ := tL hg (tK BK215); have n11_ := tG hg (tK BK215); have n12_ := tL hg (tK BK216); have n13_ := tG hg (tK BK216); have n14_ := tL hg (tK BK223); have n15_ := tG hg (tK BK223); revert n0_ n1_ n2_ n3_ n4_ n5_ n6_ n7_ n8_ n9_ n10_ n11_ n12_ n13_ n14_ n15_; clear HO_224001 HO_224002 HO_224003 BK215 BK216 BK223 HB; intro HO_224001 HO_224002 HO_224003 BK215 BK216 BK223 HB BK235 GW235 GE235 NB215_235 NB235_215 NB216_235 NB235_216 NB223_235 NB235_223; clear hb hbox hg; have hnb42 := NB235_215.out; have hnc42 := NB215_235.out; have hnb43 := NB235_216.out; have hnc43 := NB216_235.out; have hnb44 := NB235_223.out; have hnc44 := NB223_235.out; have hcz45_0 := cel2 BK235 0 rfl; have hcz45_1 := cel2 BK235 1 rfl; have hfz45_0 := blk_frozen BK235.out 0; have hfz45_1 := blk_frozen BK235.out 1) | ((with_reducible refine gate_dst (N := 8) rfl ?_); refine box_event ?hg (N := 8) ?hd (cs := #[.string (⟨#[]⟩ : ByteArray), .slice none 0 0]) (t := 88) ?hr ?_; (case hd => rfl); (case hg => rfl); (case hr => first | (go_simp; done) | (go_simp; rfl)); intro gb236 hg w46 hbox hb; have n0_ := Aside0.mk (Kd.N_below (Kd.N_elderB (dN HO_224001) gb236 (Nat.le_of_eq hg.symm)) hb); have n1_ := Aside0.mk (Kd.V_below (Kd.V_elderB (dV HO_224002) gb236 (Nat.le_of_eq hg.symm)) hb); have n2_ := Aside0.mk (Kd.N_below (Kd.N_elderB (dN HO_224003) gb236 (Nat.le_of_eq hg.symm)) hb); have n3_ := Aside0.mk (blk_below (tK BK215) hb); have n4_ := Aside0.mk (blk_below (tK BK216) hb); have n5_ := Aside0.mk (blk_below (tK BK223) hb); have n6_ := Aside0.mk (blk_below (g := gb235) (o := .cells #[.string ((rd_T88 l0_3 x37_2).f0), .slice A234_1 ((rd_T88 l0_3 x37_2).f1).length c234_1] 88 (0, 0)) (tKp BK235) hb); have n7_ := Aside0.mk (below_step (tB HB) hb); have n8_ := Aside0.mk (hbox); have n9_ := tZ hg (tS HB); have n10_ := tZ hg (tS HB); have n11_ := tL hg (tK BK215); have n12_ := tG hg (tK BK215); have n13_ := tL hg (tK BK216); have n14_ := tG hg (tK BK216); have n15_ := tL hg (tK BK223); have n16_ := tG hg (tK BK223); have n17_ := Aside0.mk ((by rw [hg]; exact Nat.ne_of_lt (blk_lt (g := gb235) (o := .cells #[.string ((rd_T88 l0_3 x37_2).f0), .slice A234_1 ((rd_T88 l0_3 x37_2).f1).length c234_1] 88 (0, 0)) (tKp BK235)) : gb235 ≠ gb236)); have n18_ := Aside0.mk ((by rw [hg]; exact Nat.ne_of_gt (blk_lt (g := gb235) (o := .cells #[.string ((rd_T88 l0_3 x37_2).f0), .slice A234_1 ((rd_T88 l0_3 x37_2).f1).length c234_1] 88 (0, 0)) (tKp BK235)) : gb236 ≠ gb235)); revert n0_ n1_ n2_ n3_ n4_ n5_ n6_ n7_ n8_ n9_ n10_ n11_ n12_ n13_ n14_ n15_ n16_ n17_ n18_; clear HO_224001 HO_224002 HO_224003 BK215 BK216 BK223 BK235 HB; intro HO_224001 HO_224002 HO_224003 BK215 BK216 BK223 BK235 HB BK236 GW236 GE236 NB215_236 NB236_215 NB216_236 NB236_216 NB223_236 NB236_223 NB235_236 NB236_235; clear hb hbox hg; have hnb47 := NB236_215.out; have hnc47 := NB215_236.out; have hnb48 := NB236_216.out; have hnc48 := NB216_236.out; have hnb49 := NB236_223.out; have hnc49 := NB223_236.out; have hnb50 := NB236_235.out; have hnc50 := NB235_236.out; have hcz51_0 := cel2 BK236 0 rfl; have hcz51_1 := cel2 BK236 1 rfl; have hfz51_0 := blk_frozen BK236.out 0; have hfz51_1 := blk_frozen BK236.out 1; have hcz52_0 := cel2 BK235 0 rfl; have hcz52_1 := cel2 BK235 1 rfl; have hfz52_0 := blk_frozen BK235.out 0; have hfz52_1 := blk_frozen BK235.out 1))
         go_loopg [47] k2 (fun kq v47 w' => ∃ (x47_3 : Int) (x237001_3 : List (S94)) (u237001 : Value), v47 = .int .i64 x47_3 ∧ Aside0 (concrete_copiedRule.l2 kq l0_3 (l0_3.length : Int) x37_2 ((rd_T88 l0_3 x37_2).f1) (((rd_T88 l0_3 x37_2).f1).length : Int) x47_3 a0_0 x224001_1 t220 x224003_2 ((rd_T88 l0_3 x37_2).f0) x237001_3 = some (r1, r2, r3, r4)) ∧ Aside0 (kq ≤ k2) ∧ Aside0 (Kd.N (Kd.slice 37 k37) 30 w' w.heap.size (fun k_ => (w.heap.size ≤ k_) ∧ some k_ ≠ (u224003 : Value).ownBlock ∧ some k_ ≠ (u237001 : Value).ownBlock ∧ k_ ≠ gb215 ∧ k_ ≠ gb216 ∧ k_ ≠ gb223 ∧ k_ ≠ gb235 ∧ k_ ≠ gb236) u224001 x224001_1) ∧ Aside0 (Kd.V k37 37 w' w.heap.size (fun k_ => (w.heap.size ≤ k_) ∧ some k_ ≠ (u224001 : Value).ownBlock ∧ some k_ ≠ (u224003 : Value).ownBlock ∧ some k_ ≠ (u237001 : Value).ownBlock ∧ k_ ≠ gb215 ∧ k_ ≠ gb216 ∧ k_ ≠ gb223 ∧ k_ ≠ gb235 ∧ k_ ≠ gb236) (.slice Ao13 t220.length co13) t220) ∧ Aside0 (Kd.N k88 88 w' w.heap.size (fun k_ => (w.heap.size ≤ k_) ∧ some k_ ≠ (u224001 : Value).ownBlock ∧ some k_ ≠ (u237001 : Value).ownBlock ∧ k_ ≠ gb215 ∧ k_ ≠ gb216 ∧ k_ ≠ gb223 ∧ k_ ≠ gb235 ∧ k_ ≠ gb236) u224003 x224003_2) ∧ Aside0 (Kd.N k94 94 w' w.heap.size (fun k_ => (w.heap.size ≤ k_) ∧ some k_ ≠ (u224001 : Value).ownBlock ∧ some k_ ≠ (u224003 : Value).ownBlock ∧ k_ ≠ gb215 ∧ k_ ≠ gb216 ∧ k_ ≠ gb223 ∧ k_ ≠ gb235 ∧ k_ ≠ gb236) u237001 x237001_3) ∧ Aside0 (w'.heap[gb215]? = some (.cells #[.string a0_0, (.slice A0_1 l0_1.length c0_1), (.slice A0_2 l0_2.length c0_2), (.slice (some ad234) l0_3.length c0_3)] 33 (0, 0))) ∧ Aside0 (w'.heap[gb216]? = some (.cells #[.string (⟨#[]⟩ : ByteArray), (.slice none 0 0), (.slice none 0 0), (.slice none 0 0)] 33 (0, 0))) ∧ Aside0 (w'.heap[gb223]? = some (.cells #[.string a0_0, u224001, (.slice Ao13 t220.length co13), u224003] 33 (0, 0))) ∧ Aside0 (w'.heap[gb235]? = some (.cells #[.string ((rd_T88 l0_3 x37_2).f0), (.slice A234_1 ((rd_T88 l0_3 x37_2).f1).length c234_1)] 88 (0, 0))) ∧ Aside0 (w'.heap[gb236]? = some (.cells #[.string ((rd_T88 l0_3 x37_2).f0), u237001] 88 (0, 0))) ∧ Aside0 (Below w.heap.size w w'))
         case atStart => exact ⟨(0), (([] : List (S94))), (.slice none 0 0), tV1, H', ⟨Nat.le_refl _⟩, ⟨dN HO_224001⟩, ⟨dV HO_224002⟩, ⟨dN HO_224003⟩, ⟨by first | exact Kd.S_nil _ _ _ _ _ | exact Kd.N_nil _ _ _ _ _ | exact Kd.V_nil _ _ _ _ _ | exact Kd.Q_nil _ _ _ _ _ | exact Kd.R_nil _ _ _ _ _⟩, ⟨tK BK215⟩, ⟨tK BK216⟩, ⟨tK BK223⟩, ⟨tK BK235⟩, ⟨tKp BK236⟩, ⟨tB HB⟩⟩
         case round =>
          clear H'; (try clear c21); (try clear c21b0); (try clear c38); (try clear c38b0); (try clear c39); (try clear c39b0); (try clear c40); (try clear c40b0); (try clear hcz20_0); (try clear hcz20_1); (try clear hcz20_2); (try clear hcz20_3); (try clear hcz37_0); (try clear hcz37_1); (try clear hcz37_2); (try clear hcz37_3); (try clear hcz45_0); (try clear hcz45_1); (try clear hcz51_0); (try clear hcz51_1); (try clear hcz52_0); (try clear hcz52_1); (try clear hfz20_0); (try clear hfz20_1); (try clear hfz20_2); (try clear hfz20_3); (try clear hfz37_0); (try clear hfz37_1); (try clear hfz37_2); (try clear hfz37_3); (try clear hfz45_0); (try clear hfz45_1); (try clear hfz51_0); (try clear hfz51_1); (try clear hfz52_0); (try clear hfz52_1); (try clear hx234_0); (try clear hx234_1); (try clear p234); (try clear q234)
          obtain ⟨x47_3, x237001_3, u237001, rfl, HA, HK3, HO_224001, HO_224002, HO_224003, HO_237001, BK215, BK216, BK223, BK235, BK236, HB⟩ := hrel
          cases gk with
          | zero => exact absurd HA.out (by simp [concrete_copiedRule.l2])
          | succ k3 =>
           have H := HA.out
           clear HA
           simp only [concrete_copiedRule.l2] at H
           by_cases c53 : x47_3 < (((rd_T88 l0_3 x37_2).f1).length : Int)
           ·
            rw [if_pos c53] at H
            have c53b0 : decide (x47_3 < (((rd_T88 l0_3 x37_2).f1).length : Int)) = true := decide_eq_true c53
            clear c53
            by_cases c54 : 0 ≤ x47_3
            ·
             rw [if_pos c54] at H
             have c54b0 : decide (0 ≤ x47_3) = true := decide_eq_true c54
             clear c54
             by_cases c55 : x47_3 < (((rd_T88 l0_3 x37_2).f1).length : Int)
             ·
              rw [if_pos c55] at H
              have c55b0 : decide (x47_3 < (((rd_T88 l0_3 x37_2).f1).length : Int)) = true := decide_eq_true c55
              clear c55
              replace H := Option.bind_eq_some_iff.mp H
              obtain ⟨t239, A560, H⟩ := H
              (try dsimp only at H)
              have A56 := Aside0.mk A560
              clear A560
              replace H := Option.bind_eq_some_iff.mp H
              obtain ⟨t242, A570, H⟩ := H
              (try dsimp only at H)
              have A57 := Aside0.mk A570
              clear A570
              by_cases c58 : x237001_3.length < 1954687338268
              ·
               rw [if_pos c58] at H
               have LMc58 := Aside0.mk c58
               clear c58
               obtain ⟨y245, hy245⟩ : ∃ y_ : List (S94), y_ = (x237001_3 ++ [(⟨(rd_T94 ((rd_T88 l0_3 x37_2).f1) x47_3).f0, (rd_T94 ((rd_T88 l0_3 x37_2).f1) x47_3).f1, (rd_T94 ((rd_T88 l0_3 x37_2).f1) x47_3).f2, (rd_T94 ((rd_T88 l0_3 x37_2).f1) x47_3).f3, t242⟩ : S94)]) := ⟨_, rfl⟩
               replace H : (concrete_copiedRule.l2 k3 l0_3 (l0_3.length : Int) x37_2 ((rd_T88 l0_3 x37_2).f1) (((rd_T88 l0_3 x37_2).f1).length : Int) (wrap64 (x47_3 + 1)) a0_0 x224001_1 t220 x224003_2 ((rd_T88 l0_3 x37_2).f0) y245) = some (r1, r2, r3, r4) := by first | (rw [hy245]; with_reducible exact H) | (have H2_ := (Option.bind_some _ _).symm.trans H; rw [hy245]; with_reducible exact H2_) | (have H2_ := (Option.bind_some _ _).symm.trans H; with_reducible exact H2_) | with_reducible exact H | (rw [hy245]; exact H) | exact H
               have Ny245 := Aside0.mk hy245
               clear hy245
               have H' := Aside0.mk H
               clear H
               have p237 : 0 ≤ (x47_3 : Int) := oD
               have q237 : x47_3 < (((rd_T88 l0_3 x37_2).f1).length : Int) := oD
               obtain ⟨ad237, A237_4, c237_4, e237, hx237_0, hx237_1, hx237_2, hx237_3, hx237_4, hl237_4, hi237_4⟩ := at_T94 HR234_1.out x47_3 p237 q237
               cases e237
               replace hx237_0 := celB HB hx237_0
               replace hx237_1 := celB HB hx237_1
               replace hx237_2 := celB HB hx237_2
               replace hx237_3 := celB HB hx237_3
               replace hx237_4 := celB HB hx237_4
               have HR237_4 := Aside0.mk hi237_4
               have HC237_4 := Aside0.mk hl237_4
               clear hi237_4 hl237_4
               replace p237 := eq_true p237
               replace q237 := eq_true q237
               go_wp2_with (first | ((with_reducible refine gate_dst (N := 10) rfl ?_); refine box_event ?hg (N := 10) ?hd (cs := #[.int .i64 0, .string (⟨#[]⟩ : ByteArray), .int .i64 0, .string (⟨#[]⟩ : ByteArray), .slice none 0 0]) (t := 94) ?hr ?_; (case hd => rfl); (case hg => rfl); (case hr => first | (go_simp; done) | (go_simp; rfl)); intro gb238 hg w59 hbox hb; have n0_ := Aside0.mk (Kd.N_below (Kd.N_elderB (dN HO_224001) gb238 (Nat.le_of_eq hg.symm)) hb); have n1_ := Aside0.mk (Kd.V_below (Kd.V_elderB (dV HO_224002) gb238 (Nat.le_of_eq hg.symm)) hb); have n2_ := Aside0.mk (Kd.N_below (Kd.N_elderB (dN HO_224003) gb238 (Nat.le_of_eq hg.symm)) hb); have n3_ := Aside0.mk (Kd.N_below (Kd.N_elderB (dN HO_237001) gb238 (Nat.le_of_eq hg.symm)) hb); have n4_ := Aside0.mk (blk_below (tK BK215) hb); have n5_ := Aside0.mk (blk_below (tK BK216) hb); have n6_ := Aside0.mk (blk_below (tK BK223) hb); have n7_ := Aside0.mk (blk_below (tK BK235) hb); have n8_ := Aside0.mk (blk_below (tK BK236) hb); have n9_ := Aside0.mk (below_step (tB HB) hb); have n10_ := Aside0.mk (hbox); have n11_ := tZ hg (tS HB); have n12_ := tZ hg (tS HB); have n13_ := tL hg (tK BK215); have n14_ := tG hg (tK BK215); have n15_ := tL hg (tK BK216); have n16_ := tG hg (tK BK216); have n17_ := tL hg (tK BK223); have n18_ := tG hg (tK BK223); have n19_ := tL hg (tK BK235); have n20_ := tG hg (tK BK235); have n21_ := tL hg (tK BK236); have n22_ := tG hg (tK BK236); revert n0_ n1_ n2_ n3_ n4_ n5_ n6_ n7_ n8_ n9_ n10_ n11_ n12_ n13_ n14_ n15_ n16_ n17_ n18_ n19_ n20_ n21_ n22_; clear HO_224001 HO_224002 HO_224003 HO_237001 BK215 BK216 BK223 BK235 BK236 HB; intro HO_224001 HO_224002 HO_224003 HO_237001 BK215 BK216 BK223 BK235 BK236 HB BK238 GW238 GE238 NB215_238 NB238_215 NB216_238 NB238_216 NB223_238 NB238_223 NB235_238 NB238_235 NB236_238 NB238_236; clear hb hbox hg; have hnb60 := NB238_215.out; have hnc60 := NB215_238.out; have hnb61 := NB238_216.out; have hnc61 := NB216_238.out; have hnb62 := NB238_223.out; have hnc62 := NB223_238.out; have hnb63 := NB238_235.out; have hnc63 := NB235_238.out; have hnb64 := NB238_236.out; have hnc64 := NB236_238.out; have hcz65_0 := cel2 BK238 0 rfl; have hcz65_1 := cel2 BK238 1 rfl; have hcz65_2 := cel2 BK238 2 rfl; have hcz65_3 := cel2 BK238 3 rfl; have hcz65_4 := cel2 BK238 4 rfl; have hfz65_0 := blk_frozen BK238.out 0; have hfz65_1 := blk_frozen BK238.out 1; have hfz65_2 := blk_frozen BK238.out 2; have hfz65_3 := blk_frozen BK238.out 3; have hfz65_4 := blk_frozen BK238.out 4) | ((with_reducible refine gate_callee (f := 55) rfl ?_); refine goesL_ (some 53) rfl rfl Try.func55 (by kernel_rfl) rfl #[.slice A237_4 ((rd_T94 ((rd_T88 l0_3 x37_2).f1) x47_3).f4).length c237_4] rfl (by (try simp only [List.map_toArray, List.map_cons, List.map_nil]); first | done | rfl | (simp only [List.length_drop, List.length_take]; rfl)) ?_; (with_reducible refine (api_Feature_55.calls _ _ ((rd_T94 ((rd_T88 l0_3 x37_2).f1) x47_3).f4) t239 _ ?s1 ?s2 A56.out).mono ?_); (case s1 => exact Kd.C_below HR237_4.out (tB HB)); (case s2 => exact HC237_4.out); rintro e w66 ⟨v240, rfl, ho0, hb⟩; refine ⟨_, rfl, ?_⟩; have n0_ := Aside0.mk (Kd.N_elder' (dN HO_224001) (Kd.R_base ho0) hb); have n1_ := Aside0.mk (Kd.V_elder' (dV HO_224002) (Kd.R_base ho0) hb); have n2_ := Aside0.mk (Kd.N_elder' (dN HO_224003) (Kd.R_base ho0) hb); have n3_ := Aside0.mk (Kd.N_elder' (dN HO_237001) (Kd.R_base ho0) hb); have n4_ := Aside0.mk (Kd.R_lower (Kd.R_newM (M := fun k_ => (w.heap.size ≤ k_)) ho0 (tS HB) (fun k_ h_ => h_)) (tS HB)); have n5_ := Aside0.mk (blk_below (tK BK215) hb); have n6_ := Aside0.mk (blk_below (tK BK216) hb); have n7_ := Aside0.mk (blk_below (tK BK223) hb); have n8_ := Aside0.mk (blk_below (tK BK235) hb); have n9_ := Aside0.mk (blk_below (tK BK236) hb); have n10_ := Aside0.mk (blk_below (g := gb238) (o := .cells #[.int .i64 ((rd_T94 ((rd_T88 l0_3 x37_2).f1) x47_3).f0), .string ((rd_T94 ((rd_T88 l0_3 x37_2).f1) x47_3).f1), .int .i64 ((rd_T94 ((rd_T88 l0_3 x37_2).f1) x47_3).f2), .string ((rd_T94 ((rd_T88 l0_3 x37_2).f1) x47_3).f3), .slice A237_4 ((rd_T94 ((rd_T88 l0_3 x37_2).f1) x47_3).f4).length c237_4] 94 (0, 0)) (tKp BK238) hb); have n11_ := Aside0.mk (below_step (tB HB) hb); revert n0_ n1_ n2_ n3_ n4_ n5_ n6_ n7_ n8_ n9_ n10_ n11_; clear HO_224001 HO_224002 HO_224003 HO_237001 BK215 BK216 BK223 BK235 BK236 BK238 HB; intro HO_224001 HO_224002 HO_224003 HO_237001 HO241 BK215 BK216 BK223 BK235 BK236 BK238 HB; (try clear hb); (try clear hb2); (try clear hk); (try clear hi); (try clear ho0); obtain ⟨Ao67, co67, eo67⟩ := Kd.R_slice HO241.out; subst eo67) | ((with_reducible refine gate_callee (f := 54) rfl ?_); refine goesL_ (some 54) rfl rfl Try.func54 (by kernel_rfl) rfl #[.slice Ao67 t239.length co67] rfl (by (try simp only [List.map_toArray, List.map_cons, List.map_nil]); first | done | rfl | (simp only [List.length_drop, List.length_take]; rfl)) ?_; (with_reducible refine (api_Feature_54.calls (fun k_ => some k_ = (.slice Ao67 t239.length co67 : Value).ownBlock) _ _ t239 t242 _ ?s1 A57.out).mono ?_); (case s1 => exact Kd.R_V (Kd.R_tight rfl (Kd.R_types (Kd.R_types (Kd.R_types (Kd.R_types (Kd.R_types (Kd.R_types (Kd.R_apart' (Kd.R_apart' (Kd.R_apart' (HO241.out) (Kd.N_typed HO_224001.out) (by decide)) (Kd.N_typed HO_224003.out) (by decide)) (Kd.N_typed HO_237001.out) (by decide)) BK215.out (by decide)) BK216.out (by decide)) BK223.out (by decide)) BK235.out (by decide)) BK236.out (by decide)) BK238.out (by decide)))); rintro e w68 ⟨v243, rfl, ho0, hb⟩; refine ⟨_, rfl, ?_⟩; have n0_ := Aside0.mk (Kd.N_below (dN HO_224001) hb); have n1_ := Aside0.mk (Kd.V_below (dV HO_224002) hb); have n2_ := Aside0.mk (Kd.N_below (dN HO_224003) hb); have n3_ := Aside0.mk (Kd.N_below (dN HO_237001) hb); have n4_ := Aside0.mk (Kd.R_below (dR HO241) hb); have n5_ := Aside0.mk (Kd.V_lower (Kd.V_mono (ok' := fun k_ => (w.heap.size ≤ k_) ∧ some k_ ≠ (u224001 : Value).ownBlock ∧ some k_ ≠ (u224003 : Value).ownBlock ∧ some k_ ≠ (u237001 : Value).ownBlock ∧ k_ ≠ gb215 ∧ k_ ≠ gb216 ∧ k_ ≠ gb223 ∧ k_ ≠ gb235 ∧ k_ ≠ gb236 ∧ k_ ≠ gb238) ho0 (fun k_ hk_ => ⟨Or.elim hk_ (fun hs_ => ((Kd.R_types (Kd.R_types (Kd.R_types (Kd.R_types (Kd.R_types (Kd.R_types (Kd.R_apart' (Kd.R_apart' (Kd.R_apart' (HO241.out) (Kd.N_typed HO_224001.out) (by decide)) (Kd.N_typed HO_224003.out) (by decide)) (Kd.N_typed HO_237001.out) (by decide)) BK215.out (by decide)) BK216.out (by decide)) BK223.out (by decide)) BK235.out (by decide)) BK236.out (by decide)) BK238.out (by decide)).1 k_ hs_.symm).1.1.1.1.1.1.1.1.1.1) (fun hn_ => (Nat.le_trans (tS HB) hn_)), Or.elim hk_ (fun hs_ => ((Kd.R_types (Kd.R_types (Kd.R_types (Kd.R_types (Kd.R_types (Kd.R_types (Kd.R_apart' (Kd.R_apart' (Kd.R_apart' (HO241.out) (Kd.N_typed HO_224001.out) (by decide)) (Kd.N_typed HO_224003.out) (by decide)) (Kd.N_typed HO_237001.out) (by decide)) BK215.out (by decide)) BK216.out (by decide)) BK223.out (by decide)) BK235.out (by decide)) BK236.out (by decide)) BK238.out (by decide)).1 k_ hs_.symm).1.1.1.1.1.1.1.1.2) (fun hn_ => (Kd.fresh' (Kd.N_lt (dN HO_224001)) k_ hn_)), Or.elim hk_ (fun hs_ => ((Kd.R_types (Kd.R_types (Kd.R_types (Kd.R_types (Kd.R_types (Kd.R_types (Kd.R_apart' (Kd.R_apart' (Kd.R_apart' (HO241.out) (Kd.N_typed HO_224001.out) (by decide)) (Kd.N_typed HO_224003.out) (by decide)) (Kd.N_typed HO_237001.out) (by decide)) BK215.out (by decide)) BK216.out (by decide)) BK223.out (by decide)) BK235.out (by decide)) BK236.out (by decide)) BK238.out (by decide)).1 k_ hs_.symm).1.1.1.1.1.1.1.2) (fun hn_ => (Kd.fresh' (Kd.N_lt (dN HO_224003)) k_ hn_)), Or.elim hk_ (fun hs_ => ((Kd.R_types (Kd.R_types (Kd.R_types (Kd.R_types (Kd.R_types (Kd.R_types (Kd.R_apart' (Kd.R_apart' (Kd.R_apart' (HO241.out) (Kd.N_typed HO_224001.out) (by decide)) (Kd.N_typed HO_224003.out) (by decide)) (Kd.N_typed HO_237001.out) (by decide)) BK215.out (by decide)) BK216.out (by decide)) BK223.out (by decide)) BK235.out (by decide)) BK236.out (by decide)) BK238.out (by decide)).1 k_ hs_.symm).1.1.1.1.1.1.2) (fun hn_ => (Kd.fresh' (Kd.N_lt (dN HO_237001)) k_ hn_)), Or.elim hk_ (fun hs_ => ((Kd.R_types (Kd.R_types (Kd.R_types (Kd.R_types (Kd.R_types (Kd.R_types (Kd.R_apart' (Kd.R_apart' (Kd.R_apart' (HO241.out) (Kd.N_typed HO_224001.out) (by decide)) (Kd.N_typed HO_224003.out) (by decide)) (Kd.N_typed HO_237001.out) (by decide)) BK215.out (by decide)) BK216.out (by decide)) BK223.out (by decide)) BK235.out (by decide)) BK236.out (by decide)) BK238.out (by decide)).1 k_ hs_.symm).1.1.1.1.1.2) (fun hn_ => (Kd.freshB (tK BK215) k_ hn_)), Or.elim hk_ (fun hs_ => ((Kd.R_types (Kd.R_types (Kd.R_types (Kd.R_types (Kd.R_types (Kd.R_types (Kd.R_apart' (Kd.R_apart' (Kd.R_apart' (HO241.out) (Kd.N_typed HO_224001.out) (by decide)) (Kd.N_typed HO_224003.out) (by decide)) (Kd.N_typed HO_237001.out) (by decide)) BK215.out (by decide)) BK216.out (by decide)) BK223.out (by decide)) BK235.out (by decide)) BK236.out (by decide)) BK238.out (by decide)).1 k_ hs_.symm).1.1.1.1.2) (fun hn_ => (Kd.freshB (tK BK216) k_ hn_)), Or.elim hk_ (fun hs_ => ((Kd.R_types (Kd.R_types (Kd.R_types (Kd.R_types (Kd.R_types (Kd.R_types (Kd.R_apart' (Kd.R_apart' (Kd.R_apart' (HO241.out) (Kd.N_typed HO_224001.out) (by decide)) (Kd.N_typed HO_224003.out) (by decide)) (Kd.N_typed HO_237001.out) (by decide)) BK215.out (by decide)) BK216.out (by decide)) BK223.out (by decide)) BK235.out (by decide)) BK236.out (by decide)) BK238.out (by decide)).1 k_ hs_.symm).1.1.1.2) (fun hn_ => (Kd.freshB (tK BK223) k_ hn_)), Or.elim hk_ (fun hs_ => ((Kd.R_types (Kd.R_types (Kd.R_types (Kd.R_types (Kd.R_types (Kd.R_types (Kd.R_apart' (Kd.R_apart' (Kd.R_apart' (HO241.out) (Kd.N_typed HO_224001.out) (by decide)) (Kd.N_typed HO_224003.out) (by decide)) (Kd.N_typed HO_237001.out) (by decide)) BK215.out (by decide)) BK216.out (by decide)) BK223.out (by decide)) BK235.out (by decide)) BK236.out (by decide)) BK238.out (by decide)).1 k_ hs_.symm).1.1.2) (fun hn_ => (Kd.freshB (tK BK235) k_ hn_)), Or.elim hk_ (fun hs_ => ((Kd.R_types (Kd.R_types (Kd.R_types (Kd.R_types (Kd.R_types (Kd.R_types (Kd.R_apart' (Kd.R_apart' (Kd.R_apart' (HO241.out) (Kd.N_typed HO_224001.out) (by decide)) (Kd.N_typed HO_224003.out) (by decide)) (Kd.N_typed HO_237001.out) (by decide)) BK215.out (by decide)) BK216.out (by decide)) BK223.out (by decide)) BK235.out (by decide)) BK236.out (by decide)) BK238.out (by decide)).1 k_ hs_.symm).1.2) (fun hn_ => (Kd.freshB (tK BK236) k_ hn_)), Or.elim hk_ (fun hs_ => ((Kd.R_types (Kd.R_types (Kd.R_types (Kd.R_types (Kd.R_types (Kd.R_types (Kd.R_apart' (Kd.R_apart' (Kd.R_apart' (HO241.out) (Kd.N_typed HO_224001.out) (by decide)) (Kd.N_typed HO_224003.out) (by decide)) (Kd.N_typed HO_237001.out) (by decide)) BK215.out (by decide)) BK216.out (by decide)) BK223.out (by decide)) BK235.out (by decide)) BK236.out (by decide)) BK238.out (by decide)).1 k_ hs_.symm).2) (fun hn_ => (Kd.freshB (tK BK238) k_ hn_))⟩)) (tS HB)); have n6_ := Aside0.mk (blk_below (tK BK215) hb); have n7_ := Aside0.mk (blk_below (tK BK216) hb); have n8_ := Aside0.mk (blk_below (tK BK223) hb); have n9_ := Aside0.mk (blk_below (tK BK235) hb); have n10_ := Aside0.mk (blk_below (tK BK236) hb); have n11_ := Aside0.mk (blk_below (tK BK238) hb); have n12_ := Aside0.mk (below_step (tB HB) hb); revert n0_ n1_ n2_ n3_ n4_ n5_ n6_ n7_ n8_ n9_ n10_ n11_ n12_; clear HO_224001 HO_224002 HO_224003 HO_237001 HO241 BK215 BK216 BK223 BK235 BK236 BK238 HB; intro HO_224001 HO_224002 HO_224003 HO_237001 HO241 HO244 BK215 BK216 BK223 BK235 BK236 BK238 HB; (try clear hb); (try clear hb2); (try clear hk); (try clear hi); (try clear ho0); obtain ⟨Ao69, co69, eo69⟩ := Kd.V_slice HO244.out; subst eo69; have hcz70_0 := cel2 BK238 0 rfl; have hcz70_1 := cel2 BK238 1 rfl; have hcz70_2 := cel2 BK238 2 rfl; have hcz70_3 := cel2 BK238 3 rfl; have hcz70_4 := cel2 BK238 4 rfl; have hfz70_0 := blk_frozen BK238.out 0; have hfz70_1 := blk_frozen BK238.out 1; have hfz70_2 := blk_frozen BK238.out 2; have hfz70_3 := blk_frozen BK238.out 3; have hfz70_4 := blk_frozen BK238.out 4) | ((with_reducible refine gate_store (t := 30) (p := 55) rfl ?_); refine store_event (t := 30) (p := 55) (v := ?vo_w71) (w1 := (w68.setCell ⟨gb238, 4, none⟩ (.slice Ao69 t242.length co69))) ?hg ?ho ?hn ?hr ?_; (case ho => rfl); (case hg => rfl); (case hn => rfl); (case hr => first | (go_simp; done) | (go_simp; rfl)); intro w71 hw; have n0_ : Aside0 (Kd.N (Kd.slice 37 k37) 30 w71 w.heap.size (fun k_ => (w.heap.size ≤ k_) ∧ some k_ ≠ (u224003 : Value).ownBlock ∧ some k_ ≠ (u237001 : Value).ownBlock ∧ some k_ ≠ (.slice Ao67 t239.length co67 : Value).ownBlock ∧ k_ ≠ gb215 ∧ k_ ≠ gb216 ∧ k_ ≠ gb223 ∧ k_ ≠ gb235 ∧ k_ ≠ gb236 ∧ k_ ≠ gb238) u224001 x224001_1) := ⟨(by rw [hw]; exact (dN HO_224001))⟩; have n1_ : Aside0 (Kd.V k37 37 w71 w.heap.size (fun k_ => (w.heap.size ≤ k_) ∧ some k_ ≠ (u224001 : Value).ownBlock ∧ some k_ ≠ (u224003 : Value).ownBlock ∧ some k_ ≠ (u237001 : Value).ownBlock ∧ some k_ ≠ (.slice Ao67 t239.length co67 : Value).ownBlock ∧ k_ ≠ gb215 ∧ k_ ≠ gb216 ∧ k_ ≠ gb223 ∧ k_ ≠ gb235 ∧ k_ ≠ gb236 ∧ k_ ≠ gb238) (.slice Ao13 t220.length co13) t220) := ⟨(by rw [hw]; exact (dV HO_224002))⟩; have n2_ : Aside0 (Kd.N k88 88 w71 w.heap.size (fun k_ => (w.heap.size ≤ k_) ∧ some k_ ≠ (u224001 : Value).ownBlock ∧ some k_ ≠ (u237001 : Value).ownBlock ∧ some k_ ≠ (.slice Ao67 t239.length co67 : Value).ownBlock ∧ k_ ≠ gb215 ∧ k_ ≠ gb216 ∧ k_ ≠ gb223 ∧ k_ ≠ gb235 ∧ k_ ≠ gb236 ∧ k_ ≠ gb238) u224003 x224003_2) := ⟨(by rw [hw]; exact (dN HO_224003))⟩; have n3_ : Aside0 (Kd.N k94 94 w71 w.heap.size (fun k_ => (w.heap.size ≤ k_) ∧ some k_ ≠ (u224001 : Value).ownBlock ∧ some k_ ≠ (u224003 : Value).ownBlock ∧ some k_ ≠ (.slice Ao67 t239.length co67 : Value).ownBlock ∧ k_ ≠ gb215 ∧ k_ ≠ gb216 ∧ k_ ≠ gb223 ∧ k_ ≠ gb235 ∧ k_ ≠ gb236 ∧ k_ ≠ gb238) u237001 x237001_3) := ⟨(by rw [hw]; exact (dN HO_237001))⟩; have n4_ : Aside0 (Kd.R k37 37 w71 w.heap.size (fun k_ => (w.heap.size ≤ k_)) (.slice Ao67 t239.length co67) t239) := ⟨(by rw [hw]; exact (by (with_reducible repeat (first | apply Kd.R_alloc | apply Kd.R_drewN | apply Kd.R_drew)); exact Kd.R_mono (Kd.R_far (p := ⟨gb238, 4, none⟩) (Kd.R_types HO241.out BK238.out (by decide)) (fun _ hk => hk.2) (.slice Ao69 t242.length co69)) (fun _ hk => hk.1.1)))⟩; have n5_ : Aside0 (Kd.V k37 37 w71 w.heap.size (fun k_ => (w.heap.size ≤ k_) ∧ some k_ ≠ (u224001 : Value).ownBlock ∧ some k_ ≠ (u224003 : Value).ownBlock ∧ some k_ ≠ (u237001 : Value).ownBlock ∧ k_ ≠ gb215 ∧ k_ ≠ gb216 ∧ k_ ≠ gb223 ∧ k_ ≠ gb235 ∧ k_ ≠ gb236 ∧ k_ ≠ gb238) (.slice Ao69 t242.length co69) t242) := ⟨(by rw [hw]; exact (dV HO244))⟩; have n6_ : Aside0 (w71.heap[gb215]? = some (.cells #[.string a0_0, .slice A0_1 l0_1.length c0_1, .slice A0_2 l0_2.length c0_2, .slice (some ad234) l0_3.length c0_3] 33 (0, 0))) := ⟨(by rw [hw]; exact (tK BK215))⟩; have n7_ : Aside0 (w71.heap[gb216]? = some (.cells #[.string (⟨#[]⟩ : ByteArray), .slice none 0 0, .slice none 0 0, .slice none 0 0] 33 (0, 0))) := ⟨(by rw [hw]; exact (tK BK216))⟩; have n8_ : Aside0 (w71.heap[gb223]? = some (.cells #[.string a0_0, u224001, .slice Ao13 t220.length co13, u224003] 33 (0, 0))) := ⟨(by rw [hw]; exact (tK BK223))⟩; have n9_ : Aside0 (w71.heap[gb235]? = some (.cells #[.string ((rd_T88 l0_3 x37_2).f0), .slice (some ad237) ((rd_T88 l0_3 x37_2).f1).length c234_1] 88 (0, 0))) := ⟨(by rw [hw]; exact (tK BK235))⟩; have n10_ : Aside0 (w71.heap[gb236]? = some (.cells #[.string ((rd_T88 l0_3 x37_2).f0), u237001] 88 (0, 0))) := ⟨(by rw [hw]; exact (tK BK236))⟩; have n11_ : Aside0 (w71.heap[gb238]? = some (.cells #[.int .i64 ((rd_T94 ((rd_T88 l0_3 x37_2).f1) x47_3).f0), .string ((rd_T94 ((rd_T88 l0_3 x37_2).f1) x47_3).f1), .int .i64 ((rd_T94 ((rd_T88 l0_3 x37_2).f1) x47_3).f2), .string ((rd_T94 ((rd_T88 l0_3 x37_2).f1) x47_3).f3), .slice Ao69 t242.length co69] 94 (0, 0))) := ⟨(by rw [hw]; exact (tKp BK238))⟩; have n12_ : Aside0 (Below w.heap.size w w71) := ⟨(by rw [hw]; exact (tB HB))⟩; revert n0_ n1_ n2_ n3_ n4_ n5_ n6_ n7_ n8_ n9_ n10_ n11_ n12_; clear hw HO_224001 HO_224002 HO_224003 HO_237001 HO241 HO244 BK215 BK216 BK223 BK235 BK236 BK238 HB; intro HO_224001 HO_224002 HO_224003 HO_237001 HO241 HO244 BK215 BK216 BK223 BK235 BK236 BK238 HB; have hnb72 := NB236_215.out; have hnc72 := NB215_236.out; have hnb73 := NB236_216.out; have hnc73 := NB216_236.out; have hnb74 := NB236_223.out; have hnc74 := NB223_236.out; have hnb75 := NB236_235.out; have hnc75 := NB235_236.out; have hcz76_0 := cel2 BK236 0 rfl; have hcz76_1 := cel2 BK236 1 rfl; have hfz76_0 := blk_frozen BK236.out 0; have hfz76_1 := blk_frozen BK236.out 1; have hcz77_0 := cel2 BK238 0 rfl; have hcz77_1 := cel2 BK238 1 rfl; have hcz77_2 := cel2 BK238 2 rfl; have hcz77_3 := cel2 BK238 3 rfl; have hcz77_4 := cel2 BK238 4 rfl; have hfz77_0 := blk_frozen BK238.out 0; have hfz77_1 := blk_frozen BK238.out 1; have hfz77_2 := blk_frozen BK238.out 2; have hfz77_3 := blk_frozen BK238.out 3; have hfz77_4 := blk_frozen BK238.out 4) | ((with_reducible refine gate_builtin (b := .append) (xs := #[.tmp 57, .tmp 59]) rfl ?_); at_builtin; refine Kd.N_append k94 (w0 := w) w.heap.size rfl (.tmp 57) (.tmp 59) 86 94 (.agg #[(.int .i64 0), (.string ⟨#[]⟩), (.int .i64 0), (.string ⟨#[]⟩), (.slice none 0 0)]) 72 rfl Try.underlying86 info94 rfl (by decide) (by omega) u237001 x237001_3 (⟨(rd_T94 ((rd_T88 l0_3 x37_2).f1) x47_3).f0, (rd_T94 ((rd_T88 l0_3 x37_2).f1) x47_3).f1, (rd_T94 ((rd_T88 l0_3 x37_2).f1) x47_3).f2, (rd_T94 ((rd_T88 l0_3 x37_2).f1) x47_3).f3, t242⟩ : S94) [.int .i64 ((rd_T94 ((rd_T88 l0_3 x37_2).f1) x47_3).f0), .string ((rd_T94 ((rd_T88 l0_3 x37_2).f1) x47_3).f1), .int .i64 ((rd_T94 ((rd_T88 l0_3 x37_2).f1) x47_3).f2), .string ((rd_T94 ((rd_T88 l0_3 x37_2).f1) x47_3).f3), .slice Ao69 t242.length co69] (fun k_ => (w.heap.size ≤ k_) ∧ some k_ ≠ (u224001 : Value).ownBlock ∧ some k_ ≠ (u224003 : Value).ownBlock ∧ k_ ≠ gb215 ∧ k_ ≠ gb216 ∧ k_ ≠ gb223 ∧ k_ ≠ gb235 ∧ k_ ≠ gb236 ∧ k_ ≠ gb238) (fun k_ => ((fun k_ => (w.heap.size ≤ k_) ∧ some k_ ≠ (u224001 : Value).ownBlock ∧ some k_ ≠ (u224003 : Value).ownBlock ∧ k_ ≠ gb215 ∧ k_ ≠ gb216 ∧ k_ ≠ gb223 ∧ k_ ≠ gb235 ∧ k_ ≠ gb236 ∧ k_ ≠ gb238)) k_ ∧ some k_ ≠ (u237001 : Value).ownBlock) rfl rfl ?aP (fun _ hk => hk) ?aF ?aO ?aB ?aS ?aL ?_; (case aP => exact (k94_mkF _ _ (⟨(rd_T94 ((rd_T88 l0_3 x37_2).f1) x47_3).f0, (rd_T94 ((rd_T88 l0_3 x37_2).f1) x47_3).f1, (rd_T94 ((rd_T88 l0_3 x37_2).f1) x47_3).f2, (rd_T94 ((rd_T88 l0_3 x37_2).f1) x47_3).f3, t242⟩ : S94) (Kd.V_reads' (Kd.V_mono (ok' := (fun k_ => ((fun k_ => (w.heap.size ≤ k_) ∧ some k_ ≠ (u224001 : Value).ownBlock ∧ some k_ ≠ (u224003 : Value).ownBlock ∧ k_ ≠ gb215 ∧ k_ ≠ gb216 ∧ k_ ≠ gb223 ∧ k_ ≠ gb235 ∧ k_ ≠ gb236 ∧ k_ ≠ gb238)) k_ ∧ some k_ ≠ (u237001 : Value).ownBlock)) (HO244.out) (fun k_ hk => ⟨⟨hk.1, ⟨hk.2.1, ⟨hk.2.2.1, ⟨hk.2.2.2.2.1, ⟨hk.2.2.2.2.2.1, ⟨hk.2.2.2.2.2.2.1, ⟨hk.2.2.2.2.2.2.2.1, ⟨hk.2.2.2.2.2.2.2.2.1, hk.2.2.2.2.2.2.2.2.2⟩⟩⟩⟩⟩⟩⟩⟩, hk.2.2.2.1⟩))).2.1 (Kd.V_F (Kd.V_mono (ok' := (fun k_ => ((fun k_ => (w.heap.size ≤ k_) ∧ some k_ ≠ (u224001 : Value).ownBlock ∧ some k_ ≠ (u224003 : Value).ownBlock ∧ k_ ≠ gb215 ∧ k_ ≠ gb216 ∧ k_ ≠ gb223 ∧ k_ ≠ gb235 ∧ k_ ≠ gb236 ∧ k_ ≠ gb238)) k_ ∧ some k_ ≠ (u237001 : Value).ownBlock)) (HO244.out) (fun k_ hk => ⟨⟨hk.1, ⟨hk.2.1, ⟨hk.2.2.1, ⟨hk.2.2.2.2.1, ⟨hk.2.2.2.2.2.1, ⟨hk.2.2.2.2.2.2.1, ⟨hk.2.2.2.2.2.2.2.1, ⟨hk.2.2.2.2.2.2.2.2.1, hk.2.2.2.2.2.2.2.2.2⟩⟩⟩⟩⟩⟩⟩⟩, hk.2.2.2.1⟩))))); (case aB => exact (tB HB)); (case aF => exact (fun k_ hk => ⟨(Nat.le_trans (tS HB) hk), Kd.fresh' (Kd.N_lt (dN HO_224001)) k_ hk, Kd.fresh' (Kd.N_lt (dN HO_224003)) k_ hk, Kd.freshB (tK BK215) k_ hk, Kd.freshB (tK BK216) k_ hk, Kd.freshB (tK BK223) k_ hk, Kd.freshB (tK BK235) k_ hk, Kd.freshB (tK BK236) k_ hk, Kd.freshB (tK BK238) k_ hk⟩)); (case aO => exact (dN HO_237001)); (case aS => exact (tS HB)); (case aL => have := LMc58.out; omega); intro v246 w78 ho hb hg hat; rw [← Ny245.out] at ho; have n0_ := Aside0.mk (Kd.N_afterv (ok := (fun k_ => (w.heap.size ≤ k_) ∧ some k_ ≠ (u224003 : Value).ownBlock ∧ some k_ ≠ (.slice Ao67 t239.length co67 : Value).ownBlock ∧ k_ ≠ gb215 ∧ k_ ≠ gb216 ∧ k_ ≠ gb223 ∧ k_ ≠ gb235 ∧ k_ ≠ gb236 ∧ k_ ≠ gb238)) (dN HO_224001) hg hat); have n1_ := Aside0.mk (Kd.V_afterv (ok := (fun k_ => (w.heap.size ≤ k_) ∧ some k_ ≠ (u224001 : Value).ownBlock ∧ some k_ ≠ (u224003 : Value).ownBlock ∧ some k_ ≠ (.slice Ao67 t239.length co67 : Value).ownBlock ∧ k_ ≠ gb215 ∧ k_ ≠ gb216 ∧ k_ ≠ gb223 ∧ k_ ≠ gb235 ∧ k_ ≠ gb236 ∧ k_ ≠ gb238)) (dV HO_224002) hg hat); have n2_ := Aside0.mk (Kd.N_afterv (ok := (fun k_ => (w.heap.size ≤ k_) ∧ some k_ ≠ (u224001 : Value).ownBlock ∧ some k_ ≠ (.slice Ao67 t239.length co67 : Value).ownBlock ∧ k_ ≠ gb215 ∧ k_ ≠ gb216 ∧ k_ ≠ gb223 ∧ k_ ≠ gb235 ∧ k_ ≠ gb236 ∧ k_ ≠ gb238)) (dN HO_224003) hg hat); have n3_ := Aside0.mk (blk_grown (tK BK215) hg (Kd.N_ne HO_237001.out BK215.out (by decide))); have n4_ := Aside0.mk (blk_grown (tK BK216) hg (Kd.N_ne HO_237001.out BK216.out (by decide))); have n5_ := Aside0.mk (blk_grown (tK BK223) hg (Kd.N_ne HO_237001.out BK223.out (by decide))); have n6_ := Aside0.mk (blk_grown (tK BK235) hg (Kd.N_ne HO_237001.out BK235.out (by decide))); have n7_ := Aside0.mk (blk_grown (tK BK236) hg (Kd.N_ne HO_237001.out BK236.out (by decide))); have n8_ := Aside0.mk (blk_grown (tK BK238) hg (Kd.N_away HO_237001.out (fun _ hk => hk.2.2.2.2.2.2.2.2.2))); have n9_ := Aside0.mk (Kd.R_over' (dR HO241) (Kd.N_typed (dN HO_237001)) (by decide) hg); have n10_ := Aside0.mk (Kd.V_afterv (ok := (fun k_ => (w.heap.size ≤ k_) ∧ some k_ ≠ (u224001 : Value).ownBlock ∧ some k_ ≠ (u224003 : Value).ownBlock ∧ k_ ≠ gb215 ∧ k_ ≠ gb216 ∧ k_ ≠ gb223 ∧ k_ ≠ gb235 ∧ k_ ≠ gb236 ∧ k_ ≠ gb238)) (dV HO244) hg hat); have n11_ := Aside0.mk (hb); have n12_ := Aside0.mk (ho); revert n0_ n1_ n2_ n3_ n4_ n5_ n6_ n7_ n8_ n9_ n10_ n11_ n12_; clear HO_224001 HO_224002 HO_224003 BK215 BK216 BK223 BK235 BK236 BK238 HO241 HO244 HB HO_237001; intro HO_224001 HO_224002 HO_224003 BK215 BK216 BK223 BK235 BK236 BK238 HO241 HO244 HB HO247; clear ho hb hg hat; obtain ⟨Ao79, co79, eo79⟩ := Kd.N_slice HO247.out; subst eo79; have hcz80_0 := cel2 BK236 0 rfl; have hcz80_1 := cel2 BK236 1 rfl; have hfz80_0 := blk_frozen BK236.out 0; have hfz80_1 := blk_frozen BK236.out 1))
               go_roundg k3
               case measure => have := HK1.out; have := HK2.out; have := HK3.out; omega
               case rel => exact ⟨(wrap64 (x47_3 + 1)), (y245), (.slice Ao79 y245.length co79), tV1, H', ⟨by have := HK1.out; have := HK2.out; have := HK3.out; omega⟩, ⟨dN HO_224001⟩, ⟨dV HO_224002⟩, ⟨dN HO_224003⟩, ⟨dN HO247⟩, ⟨tK BK215⟩, ⟨tK BK216⟩, ⟨tK BK223⟩, ⟨tK BK235⟩, ⟨tKp BK236⟩, ⟨tB HB⟩⟩
              ·
               rw [if_neg c58] at H
               exact absurd H (by simp)
             ·
              rw [if_neg c55] at H
              exact absurd H (by simp)
            ·
             rw [if_neg c54] at H
             exact absurd H (by simp)
           ·
            rw [if_neg c53] at H
            have c53b0 : decide (x47_3 < (((rd_T88 l0_3 x37_2).f1).length : Int)) = false := decide_eq_false c53
            clear c53
            by_cases c81 : x224003_2.length < 3518437208883
            ·
             rw [if_pos c81] at H
             have LMc81 := Aside0.mk c81
             clear c81
             obtain ⟨y248, hy248⟩ : ∃ y_ : List (S88), y_ = (x224003_2 ++ [(⟨((rd_T88 l0_3 x37_2).f0), x237001_3⟩ : S88)]) := ⟨_, rfl⟩
             replace H : (concrete_copiedRule.l1 k3 l0_3 (l0_3.length : Int) (wrap64 (x37_2 + 1)) a0_0 x224001_1 t220 y248) = some (r1, r2, r3, r4) := by first | (rw [hy248]; with_reducible exact H) | (have H2_ := (Option.bind_some _ _).symm.trans H; rw [hy248]; with_reducible exact H2_) | (have H2_ := (Option.bind_some _ _).symm.trans H; with_reducible exact H2_) | with_reducible exact H | (rw [hy248]; exact H) | exact H
             have Ny248 := Aside0.mk hy248
             clear hy248
             have H' := Aside0.mk H
             clear H
             have hnb82 := NB223_215.out
             have hnc82 := NB215_223.out
             have hnb83 := NB223_216.out
             have hnc83 := NB216_223.out
             have hnb84 := NB223_235.out
             have hnc84 := NB235_223.out
             have hnb85 := NB223_236.out
             have hnc85 := NB236_223.out
             obtain ⟨hcz86_0, hcz86_1, hcz86_2, hcz86_3, hfz86_0, hfz86_1, hfz86_2, hfz86_3⟩ := bx4 BK223
             have hnb87 := NB236_215.out
             have hnc87 := NB215_236.out
             have hnb88 := NB236_216.out
             have hnc88 := NB216_236.out
             have hnb89 := NB236_235.out
             have hnc89 := NB235_236.out
             obtain ⟨hcz90_0, hcz90_1, hfz90_0, hfz90_1⟩ := bx2 BK236
             obtain ⟨Ao92, co92, eo92⟩ := Kd.N_slice HO_237001.out
             subst eo92
             go_wp2_with (first | ((with_reducible refine gate_builtin (b := .append) (xs := #[.tmp 64, .tmp 66]) rfl ?_); at_builtin; refine Kd.N_append k88 (w0 := w) w.heap.size rfl (.tmp 64) (.tmp 66) 31 88 (.agg #[(.string ⟨#[]⟩), (.slice none 0 0)]) 40 rfl Try.underlying31 info88 rfl (by decide) (by omega) u224003 x224003_2 (⟨((rd_T88 l0_3 x37_2).f0), x237001_3⟩ : S88) [.string ((rd_T88 l0_3 x37_2).f0), .slice Ao92 x237001_3.length co92] (fun k_ => (w.heap.size ≤ k_) ∧ some k_ ≠ (u224001 : Value).ownBlock ∧ k_ ≠ gb215 ∧ k_ ≠ gb216 ∧ k_ ≠ gb223 ∧ k_ ≠ gb235 ∧ k_ ≠ gb236) (fun k_ => ((fun k_ => (w.heap.size ≤ k_) ∧ some k_ ≠ (u224001 : Value).ownBlock ∧ k_ ≠ gb215 ∧ k_ ≠ gb216 ∧ k_ ≠ gb223 ∧ k_ ≠ gb235 ∧ k_ ≠ gb236)) k_ ∧ some k_ ≠ (u224003 : Value).ownBlock) rfl rfl ?aP (fun _ hk => hk) ?aF ?aO ?aB ?aS ?aL ?_; (case aP => exact (k88_mkF _ _ (⟨((rd_T88 l0_3 x37_2).f0), x237001_3⟩ : S88) (Kd.N_reads' (Kd.N_mono (ok' := (fun k_ => ((fun k_ => (w.heap.size ≤ k_) ∧ some k_ ≠ (u224001 : Value).ownBlock ∧ k_ ≠ gb215 ∧ k_ ≠ gb216 ∧ k_ ≠ gb223 ∧ k_ ≠ gb235 ∧ k_ ≠ gb236)) k_ ∧ some k_ ≠ (u224003 : Value).ownBlock)) (HO_237001.out) (fun k_ hk => ⟨⟨hk.1, ⟨hk.2.1, ⟨hk.2.2.2.1, ⟨hk.2.2.2.2.1, ⟨hk.2.2.2.2.2.1, ⟨hk.2.2.2.2.2.2.1, hk.2.2.2.2.2.2.2⟩⟩⟩⟩⟩⟩, hk.2.2.1⟩))).2.1 (Kd.N_F (Kd.N_mono (ok' := (fun k_ => ((fun k_ => (w.heap.size ≤ k_) ∧ some k_ ≠ (u224001 : Value).ownBlock ∧ k_ ≠ gb215 ∧ k_ ≠ gb216 ∧ k_ ≠ gb223 ∧ k_ ≠ gb235 ∧ k_ ≠ gb236)) k_ ∧ some k_ ≠ (u224003 : Value).ownBlock)) (HO_237001.out) (fun k_ hk => ⟨⟨hk.1, ⟨hk.2.1, ⟨hk.2.2.2.1, ⟨hk.2.2.2.2.1, ⟨hk.2.2.2.2.2.1, ⟨hk.2.2.2.2.2.2.1, hk.2.2.2.2.2.2.2⟩⟩⟩⟩⟩⟩, hk.2.2.1⟩))))); (case aB => exact (tB HB)); (case aF => exact (fun k_ hk => ⟨(Nat.le_trans (tS HB) hk), Kd.fresh' (Kd.N_lt (dN HO_224001)) k_ hk, Kd.freshB (tK BK215) k_ hk, Kd.freshB (tK BK216) k_ hk, Kd.freshB (tK BK223) k_ hk, Kd.freshB (tK BK235) k_ hk, Kd.freshB (tK BK236) k_ hk⟩)); (case aO => exact (dN HO_224003)); (case aS => exact (tS HB)); (case aL => have := LMc81.out; omega); intro v249 w91 ho hb hg hat; rw [← Ny248.out] at ho; have n0_ := Aside0.mk (Kd.N_afterv (ok := (fun k_ => (w.heap.size ≤ k_) ∧ some k_ ≠ (.slice Ao92 x237001_3.length co92 : Value).ownBlock ∧ k_ ≠ gb215 ∧ k_ ≠ gb216 ∧ k_ ≠ gb223 ∧ k_ ≠ gb235 ∧ k_ ≠ gb236)) (dN HO_224001) hg hat); have n1_ := Aside0.mk (Kd.V_afterv (ok := (fun k_ => (w.heap.size ≤ k_) ∧ some k_ ≠ (u224001 : Value).ownBlock ∧ some k_ ≠ (.slice Ao92 x237001_3.length co92 : Value).ownBlock ∧ k_ ≠ gb215 ∧ k_ ≠ gb216 ∧ k_ ≠ gb223 ∧ k_ ≠ gb235 ∧ k_ ≠ gb236)) (dV HO_224002) hg hat); have n2_ := Aside0.mk (blk_grown (tK BK215) hg (Kd.N_ne HO_224003.out BK215.out (by decide))); have n3_ := Aside0.mk (blk_grown (tK BK216) hg (Kd.N_ne HO_224003.out BK216.out (by decide))); have n4_ := Aside0.mk (blk_grown (tK BK223) hg (Kd.N_ne HO_224003.out BK223.out (by decide))); have n5_ := Aside0.mk (blk_grown (tK BK235) hg (Kd.N_away HO_224003.out (fun _ hk => hk.2.2.2.2.2.2.1))); have n6_ := Aside0.mk (blk_grown (tK BK236) hg (Kd.N_away HO_224003.out (fun _ hk => hk.2.2.2.2.2.2.2))); have n7_ := Aside0.mk (hb); have n8_ := Aside0.mk (ho); revert n0_ n1_ n2_ n3_ n4_ n5_ n6_ n7_ n8_; clear HO_224001 HO_224002 BK215 BK216 BK223 BK235 BK236 HB HO_224003 HO_237001; intro HO_224001 HO_224002 BK215 BK216 BK223 BK235 BK236 HB HO250; clear ho hb hg hat; obtain ⟨Ao93, co93, eo93⟩ := Kd.N_slice HO250.out; subst eo93; have hcz94_0 := cel2 BK223 0 rfl; have hcz94_1 := cel2 BK223 1 rfl; have hcz94_2 := cel2 BK223 2 rfl; have hcz94_3 := cel2 BK223 3 rfl; have hfz94_0 := blk_frozen BK223.out 0; have hfz94_1 := blk_frozen BK223.out 1; have hfz94_2 := blk_frozen BK223.out 2; have hfz94_3 := blk_frozen BK223.out 3))
             go_roundg k3
             case measure => have := HK1.out; have := HK2.out; have := HK3.out; omega
             case rel => exact ⟨(wrap64 (x37_2 + 1)), (y248), (.slice Ao93 y248.length co93), tV1, H', ⟨by have := HK1.out; have := HK2.out; have := HK3.out; omega⟩, ⟨dN HO_224001⟩, ⟨dV HO_224002⟩, ⟨dN HO250⟩, ⟨tK BK215⟩, ⟨tK BK216⟩, ⟨tKp BK223⟩, ⟨tB HB⟩⟩
            ·
             rw [if_neg c81] at H
             exact absurd H (by simp)
        ·
         rw [if_neg c40] at H
         exact absurd H (by simp)
       ·
        rw [if_neg c39] at H
        exact absurd H (by simp)
      ·
       rw [if_neg c38] at H
       have c38b0 : decide (x37_2 < (l0_3.length : Int)) = false := decide_eq_false c38
       clear c38
       simp only [Option.some.injEq, Prod.mk.injEq] at H
       obtain ⟨rfl, rfl, rfl, rfl⟩ := H
       have hnb95 := NB223_215.out
       have hnc95 := NB215_223.out
       have hnb96 := NB223_216.out
       have hnc96 := NB216_223.out
       obtain ⟨hcz97_0, hcz97_1, hcz97_2, hcz97_3, hfz97_0, hfz97_1, hfz97_2, hfz97_3⟩ := bx4 BK223
       have hnb98 := NB216_215.out
       have hnc98 := NB215_216.out
       obtain ⟨hcz99_0, hcz99_1, hcz99_2, hcz99_3, hfz99_0, hfz99_1, hfz99_2, hfz99_3⟩ := bx4 BK216
       obtain ⟨Ao100, co100, eo100⟩ := Kd.N_slice HO_224001.out
       subst eo100
       obtain ⟨Ao101, co101, eo101⟩ := Kd.N_slice HO_224003.out
       subst eo101
       go_wp2
       refine bodyPost_ret (results_cell_row rfl _ _ gb216 33 #[.string a0_0, .slice Ao100 x224001_1.length co100, .slice Ao13 t220.length co13, .slice Ao101 x224003_2.length co101] (0, 0) _ rfl (tKp BK216) Try.underlying33 rfl (by kernel_rfl)) rfl ?_
       exact ⟨_, _, _, tE, by (with_reducible repeat (first | apply Kd.N_alloc | apply Kd.N_drewN | apply Kd.N_drew)); exact Kd.N_mono (Kd.N_far (p := ⟨gb216, 3, none⟩) (Kd.N_far (p := ⟨gb216, 2, none⟩) (Kd.N_far (p := ⟨gb216, 1, none⟩) (Kd.N_far (p := ⟨gb216, 0, none⟩) (Kd.N_mono HO_224001.out (fun k_ hk => (⟨hk, hk.2.2.2.1⟩ : _ ∧ k_ ≠ gb216))) (fun _ hk => hk.2) (.string a0_0)) (fun _ hk => hk.2) (.slice Ao100 x224001_1.length co100)) (fun _ hk => hk.2) (.slice Ao13 t220.length co13)) (fun _ hk => hk.2) (.slice Ao101 x224003_2.length co101)) (fun _ hk => ⟨hk.1.1, hk.1.2.1⟩), by (with_reducible repeat (first | apply Kd.V_alloc | apply Kd.V_drewN | apply Kd.V_drew)); exact Kd.V_mono (Kd.V_far (p := ⟨gb216, 3, none⟩) (Kd.V_far (p := ⟨gb216, 2, none⟩) (Kd.V_far (p := ⟨gb216, 1, none⟩) (Kd.V_far (p := ⟨gb216, 0, none⟩) (Kd.V_mono HO_224002.out (fun k_ hk => (⟨hk, hk.2.2.2.2.1⟩ : _ ∧ k_ ≠ gb216))) (fun _ hk => hk.2) (.string a0_0)) (fun _ hk => hk.2) (.slice Ao100 x224001_1.length co100)) (fun _ hk => hk.2) (.slice Ao13 t220.length co13)) (fun _ hk => hk.2) (.slice Ao101 x224003_2.length co101)) (fun _ hk => ⟨hk.1.1, ⟨hk.1.2.1, hk.1.2.2.1⟩⟩), by (with_reducible repeat (first | apply Kd.N_alloc | apply Kd.N_drewN | apply Kd.N_drew)); exact Kd.N_mono (Kd.N_far (p := ⟨gb216, 3, none⟩) (Kd.N_far (p := ⟨gb216, 2, none⟩) (Kd.N_far (p := ⟨gb216, 1, none⟩) (Kd.N_far (p := ⟨gb216, 0, none⟩) (Kd.N_mono HO_224003.out (fun k_ hk => (⟨hk, hk.2.2.2.1⟩ : _ ∧ k_ ≠ gb216))) (fun _ hk => hk.2) (.string a0_0)) (fun _ hk => hk.2) (.slice Ao100 x224001_1.length co100)) (fun _ hk => hk.2) (.slice Ao13 t220.length co13)) (fun _ hk => hk.2) (.slice Ao101 x224003_2.length co101)) (fun _ hk => ⟨hk.1.1, hk.1.2.1⟩), by repeat (first | (with_reducible first | exact HB.out | apply below_alloc | apply pw_below_drewN | apply below_drew1 | refine below_set ?_ GE215.out | refine below_set ?_ GE216.out | refine below_set ?_ GE223.out) | exact HB.out)⟩

end Go.Proofs.Ytfbfopfhfeijdaa.Pr
