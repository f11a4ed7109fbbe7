/- Several texts in one: PrF30, Bld, Att, PrF32, PrF16, PrF45, PrF28. -/
import Derived.Test.YtfbhdjflkaldgaaDoorMg1
import Derived.Test.YtfbhdjflkaldgaaDoorCt
import Derived.Test.YtfbhdjflkaldgaaDoorMg3
import Derived.Test.YtfbhdjflkaldgaaDoorMg2
import Derived.WalkKit
import Derived.BigCall
import Derived.Lib.OthersKept
import Derived.Shelf.Strings.Builder1
import Derived.Shelf.Strings.BuilderF
import Derived.Test.YtfbhdjflkaldgaaDoorMg15
import Derived.Test.YtfbhdjflkaldgaaDoorMg13
import Derived.Test.YtfbhdjflkaldgaaDoorWRepsOne
/- The contracts of strings.Builder's copyCheck and WriteRune at this translation's own numbers: of a builder that the call itself has made and only written. -/
/- clitic's joint.attach. -/
namespace Go.Proofs.YtfbhdjflkaldgaaDoor.Pr
open Go.Proofs.YtfbhdjflkaldgaaDoor.Ct Go.RowKit Go.Proofs.YtfbhdjflkaldgaaDoorW.PrintWords Go.Proofs.YtfbhdjflkaldgaaDoorW.PrintLast Go.Proofs.YtfbhdjflkaldgaaDoorW.PrintMore
attribute [local go_sem] max2_int min2_int max_two min_two max_three min_three max_four min_four
set_option linter.unusedVariables false
set_option linter.unusedSimpArgs false
def clitic_words.l0 : Nat → List (S80) → List ByteArray → Int → Int → Option (Bool)
 | 0, _, _, _, _ => none
 | k + 1, x0, x7, x8, x9 => if x9 < x8 then (if 0 ≤ x9 then (if x9 < (x7.length : Int) then ((alphabet_IsWord.f x0 (rdOf ByteArray.empty x7 x9)).bind fun t135 => (if t135 = true then (clitic_words.l0 k x0 x7 x8 (wrap64 (x9 + 1))) else (some false))) else (none)) else (none)) else (some true)
def clitic_words.f (k : Nat) (l0 : List (S80)) (l1 : List ByteArray) : Option (Bool) := clitic_words.l0 k l0 l1 (l1.length : Int) 0
set_option maxHeartbeats 8000000 in
set_option maxRecDepth 100000 in
theorem clitic_words.calls (k : Nat) (A0 : Option Addr) (c0 : Nat) (l0 : List (S80)) (A1 : Option Addr) (c1 : Nat) (l1 : List ByteArray) (r : Bool) (w : World) (hT : Tabs w) (hr0 : Kd.C k80 w A0 l0.length l0) (hc0 : l0.length ≤ c0) (hr1 : Kd.C Kd.string w A1 l1.length l1) (hc1 : l1.length ≤ c1) (h : clitic_words.f k l0 l1 = some r) :
 Calls Tryd.prog 30 #[.slice A0 l0.length c0, .slice A1 l1.length c1] w fun e w' => e = .returned (.bool r) ∧ Below w.heap.size w w' := by
 have HT := Aside0.mk hT
 clear hT
 have HR0 := Aside0.mk hr0
 have HC0 := Aside0.mk hc0
 clear hr0 hc0
 have HR1 := Aside0.mk hr1
 have HC1 := Aside0.mk hc1
 clear hr1 hc1
 have HB := Aside0.mk (Below.refl w.heap.size w)
 have H : (clitic_words.l0 k l0 l1 (l1.length : Int) 0) = some r := h
 clear h
 have H' := Aside0.mk H
 clear H
 go_enter Tryd.func30, Tryd.ntmps30
 go_wp2
 go_loopg [9] k (fun kq v9 w' => ∃ (x9_1 : Int), v9 = .int .i64 x9_1 ∧ Aside0 (clitic_words.l0 kq l0 l1 (l1.length : Int) x9_1 = some r) ∧ Aside0 (kq ≤ k) ∧ Aside0 (Below w.heap.size w w'))
 case atStart => exact ⟨(0), tV1, H', ⟨Nat.le_refl _⟩, ⟨tB HB⟩⟩
 case round =>
  clear H'
  obtain ⟨x9_1, rfl, HA, HK1, HB⟩ := hrel
  cases gk with
  | zero => exact absurd HA.out (by simp [clitic_words.l0])
  | succ k1 =>
   have H := HA.out
   clear HA
   simp only [clitic_words.l0] at H
   replace H := iF H; obtain ⟨c3, H⟩ | ⟨c3, H⟩ := H
   ·
    have c3b0 : decide (x9_1 < (l1.length : Int)) = true := decide_eq_true c3
    clear c3
    replace H := iF H; obtain ⟨c4, H⟩ | ⟨c4, H⟩ := H
    ·
     have c4b0 : decide (0 ≤ x9_1) = true := decide_eq_true c4
     clear c4
     replace H := iF H; obtain ⟨c5, H⟩ | ⟨c5, H⟩ := H
     ·
      have c5b0 : decide (x9_1 < (l1.length : Int)) = true := decide_eq_true c5
      clear c5
      replace H := bI H; obtain ⟨t135, A6, H⟩ := H; (try dsimp only at H)
      replace H := iT H; obtain ⟨rfl, H⟩ | ⟨rfl, H⟩ := H
      ·
       have H' := Aside0.mk H
       clear H
       have p134 : 0 ≤ (x9_1 : Int) := oD
       have q134 : x9_1 < (l1.length : Int) := oD
       obtain ⟨ad134, e134, hx134_0⟩ := Kd.at_string HR1.out x9_1 p134 q134
       cases e134
       replace hx134_0 := celB HB hx134_0
       replace p134 := eq_true p134
       replace q134 := eq_true q134
       go_wp2_with (first | ((with_reducible refine gate_callee (f := 49) rfl ?_); refine goesL_ (some 15) rfl rfl Tryd.func49 (by kernel_rfl) rfl #[.slice A0 l0.length c0, .string (rdOf ByteArray.empty l1 x9_1)] rfl Gc2 ?_; (with_reducible refine (alphabet_IsWord.calls _ _ l0 (rdOf ByteArray.empty l1 x9_1) true _ ?sT (tC HR0 HB) HC0.out A6.out).mono ?_); (case sT => exact Gc1); rintro e w8 ⟨rfl, hb⟩; refine ⟨_, rfl, ?_⟩; have n0_ := Aside0.mk (below_step (tB HB) hb); revert n0_; clear HB; intro HB; (try clear hb); (try clear hb2); (try clear hk); (try clear hi)))
       go_roundg k1
       case measure => have := HK1.out; omega
       case rel => exact ⟨(wrap64 (x9_1 + 1)), tV1, H', ⟨by have := HK1.out; omega⟩, ⟨tB HB⟩⟩
      ·
       obtain rfl := Option.some.inj H
       have p134 : 0 ≤ (x9_1 : Int) := oD
       have q134 : x9_1 < (l1.length : Int) := oD
       obtain ⟨ad134, e134, hx134_0⟩ := Kd.at_string HR1.out x9_1 p134 q134
       cases e134
       replace hx134_0 := celB HB hx134_0
       replace p134 := eq_true p134
       replace q134 := eq_true q134
       go_wp2_with (first | ((with_reducible refine gate_callee (f := 49) rfl ?_); refine goesL_ (some 15) rfl rfl Tryd.func49 (by kernel_rfl) rfl #[.slice A0 l0.length c0, .string (rdOf ByteArray.empty l1 x9_1)] rfl Gc2 ?_; (with_reducible refine (alphabet_IsWord.calls _ _ l0 (rdOf ByteArray.empty l1 x9_1) false _ ?sT (tC HR0 HB) HC0.out A6.out).mono ?_); (case sT => exact Gc1); rintro e w9 ⟨rfl, hb⟩; refine ⟨_, rfl, ?_⟩; have n0_ := Aside0.mk (below_step (tB HB) hb); revert n0_; clear HB; intro HB; (try clear hb); (try clear hb2); (try clear hk); (try clear hi)))
       go_ret
       exact ⟨tE, by repeat (first | (with_reducible first | exact HB.out | apply below_alloc | apply pw_below_drewN | apply below_drew1) | exact HB.out)⟩
     ·
      exact absurd H (by simp)
    ·
     exact absurd H (by simp)
   ·
    have c3b0 : decide (x9_1 < (l1.length : Int)) = false := decide_eq_false c3
    clear c3
    obtain rfl := Option.some.inj H
    go_wp2
    go_ret
    exact ⟨tE, by repeat (first | (with_reducible first | exact HB.out | apply below_alloc | apply pw_below_drewN | apply below_drew1) | exact HB.out)⟩
end Go.Proofs.YtfbhdjflkaldgaaDoor.Pr

namespace Go.Proofs.YtfbhdjflkaldgaaDoor.Bld
open Go.RowKit
set_option linter.unusedVariables false
theorem sizeBuilder : (Tryd.prog.info? 99).map (·.size) = some 2 := by kernel_rfl
theorem liesBuilder : liesAt Tryd.prog Tryd.prog.depth 99 (2 / Tryd.prog.cellsOf 99) 0 99 1 = true := by kernel_rfl
set_option maxRecDepth 100000 in
theorem copyCheck_used (b : Nat) (w : World) (h0 : w.cell? ⟨b, 0, none⟩ = some (.pointer (some ⟨b, 0, none⟩))) :
    Calls Tryd.prog 55 #[.pointer (some ⟨b, 0, none⟩)] w fun e w' => e = .returned (.tuple #[]) ∧ w' = w := by
  obtain ⟨j, hj, hjs⟩ := Option.map_eq_some_iff.1 sizeBuilder
  have hn : ∀ w, (binOp .neq 96 (.pointer (some ⟨b, 0, none⟩)) (.pointer (some ⟨b, 0, none⟩))).run Tryd.prog w = .ok (.bool false) w := fun w => Lib.run_neq_ptr_same w ⟨b, 0, none⟩ Tryd.underlying96 hj
  go_enter Tryd.func55, Tryd.ntmps55
  go_wp2
  go_end0
  exact ⟨rfl, rfl⟩
set_option maxRecDepth 100000 in
theorem copyCheck_fresh (b : Nat) (w : World) (h0 : w.cell? ⟨b, 0, none⟩ = some (.pointer none)) (hsh : w.shape? b = some (99, 2)) (hfz : w.frozen? ⟨b, 0, none⟩ = false) :
    Calls Tryd.prog 55 #[.pointer (some ⟨b, 0, none⟩)] w fun e w' => e = .returned (.tuple #[]) ∧ w' = w.setCell ⟨b, 0, none⟩ (.pointer (some ⟨b, 0, none⟩)) := by
  obtain ⟨j, hj, hjs⟩ := Option.map_eq_some_iff.1 sizeBuilder
  have hn : ∀ w, (binOp .neq 96 (.pointer (some ⟨b, 0, none⟩)) (.pointer (some ⟨b, 0, none⟩))).run Tryd.prog w = .ok (.bool false) w := fun w => Lib.run_neq_ptr_same w ⟨b, 0, none⟩ Tryd.underlying96 hj
  go_enter Tryd.func55, Tryd.ntmps55
  go_wp2
  rw [Lib.run_to_unsafe w ⟨b, 0, none⟩ Tryd.underlying96 Tryd.underlying135 hj (by rw [hjs]; decide) hsh (Nat.zero_lt_succ 1)]
  simp only [Result.andThen]
  rw [Oper.upon_value]
  go_wp2
  rw [run_callFunc_extern Tryd.func72 (by kernel_rfl) (by kernel_rfl) (by kernel_rfl) (e := Extern.AbiNoEscape.same) (by kernel_rfl)]
  rw [Lib.run_noEscape]
  simp only [Result.andThen]
  rw [Oper.upon_value]
  go_wp2
  rw [Lib.run_from_unsafe w ⟨b, 0, none⟩ Tryd.underlying135 Tryd.underlying96 hj hsh liesBuilder]
  simp only [Result.andThen]
  rw [Oper.upon_value]
  go_wp2
  go_end0
  exact ⟨rfl, rfl⟩
theorem copyCheck (B b : Nat) (bs : List Value) (w : World) (h : Lib.IsBuilderF 99 5 B b bs w) :
    Calls Tryd.prog 55 #[.pointer (some ⟨b, 0, none⟩)] w fun e w' => e = .returned (.tuple #[]) ∧ (Lib.BuilderAtF 99 5 B b (.pointer (some ⟨b, 0, none⟩)) bs w' ∧ Below B w w' ∧ Lib.OthersKept 5 (some b) w w') := by
  rcases h with h | h
  · refine (copyCheck_fresh b w h.cell0 h.shape h.frozen0).mono ?_
    rintro e w' ⟨rfl, rfl⟩
    exact ⟨rfl, h.used _, (Below.refl B w).setCell (p := ⟨b, 0, none⟩) h.1 _, (Lib.OthersKept.refl _ _ w).setCell ⟨b, 0, none⟩ rfl _⟩
  · refine (copyCheck_used b w h.cell0).mono ?_
    rintro e w' ⟨rfl, rfl⟩
    exact ⟨rfl, h, Below.refl B _, Lib.OthersKept.refl _ _ _⟩
set_option maxHeartbeats 2000000 in
set_option maxRecDepth 100000 in
theorem writeRune (B b : Nat) (bs : List Value) (r : Int) (hr0 : -2147483648 ≤ r) (hr1 : r ≤ 2147483647) (w : World) (h : Lib.IsBuilderF 99 5 B b bs w) (hlen : bs.length + 4 ≤ 140737488355328) (hBw : B ≤ w.heap.size) :
    Calls Tryd.prog 71 #[.pointer (some ⟨b, 0, none⟩), .int .i32 r] w fun e w' => ∃ v, e = .returned v ∧ (Lib.BuilderAtF 99 5 B b (.pointer (some ⟨b, 0, none⟩)) (bs ++ Lib.runeCells r) w' ∧ Below B w w' ∧ Lib.OthersKept 5 (some b) w w') := by
  have hk4 := Lib.runeCells_le r
  go_enter Tryd.func71, Tryd.ntmps71
  go_wp2_with (go_at_call 55; refine (copyCheck B b bs _ h).mono ?_)
  rintro e w1 ⟨rfl, h1, hb1, hk1⟩
  obtain ⟨hB, v, hbk, hown, hne⟩ := h1
  obtain ⟨ao, cap, rfl⟩ : ∃ ao cap, v = .slice ao bs.length cap := by
    rcases hown.2 with ⟨hv, h0⟩ | ⟨g, cap, cur, fz, hv, _⟩
    · exact ⟨none, 0, by rw [hv, h0]⟩
    · exact ⟨_, _, hv⟩
  have c0 : w1.cell? ⟨b, 0, none⟩ = some (.pointer (some ⟨b, 0, none⟩)) := by rw [Lib.cell_of_heap hbk]; rfl
  have c1 : w1.cell? ⟨b, 1, none⟩ = some (.slice ao bs.length cap) := by rw [Lib.cell_of_heap hbk]; rfl
  go_wp2_with (go_at_call 83; refine (Tryd.utf8_AppendRune_row B _ bs.length bs r hr0 hr1 _ hown hlen (by have := hb1.size; omega)).mono ?_)
  rintro e w2 ⟨v', rfl, hown', o, hgrow⟩
  have hlt : b < w1.heap.size := by
    rcases Nat.lt_or_ge b w1.heap.size with h' | h'
    · exact h'
    · simp [Array.getElem?_eq_none h'] at hbk
  have hb2 : w2.heap[b]? = some (.cells #[.pointer (some ⟨b, 0, none⟩), .slice ao bs.length cap] 99 (0, 0)) := by
    rw [hgrow.block b (by simp; omega) (fun e => hne e.symm), Lib.alloc_old w1 _ b hlt]
    exact hbk
  have d0 : w2.cell? ⟨b, 0, none⟩ = some (.pointer (some ⟨b, 0, none⟩)) := by rw [Lib.cell_of_heap hb2]; rfl
  have d1 : w2.cell? ⟨b, 1, none⟩ = some (.slice ao bs.length cap) := by rw [Lib.cell_of_heap hb2]; rfl
  have f1 : w2.frozen? ⟨b, 1, none⟩ = false := Lib.frozen_of_heap hb2 1
  obtain ⟨g, cap', rfl⟩ : ∃ g cap', v' = .slice (some ⟨g, 0, none⟩) (bs.length + (Lib.runeCells r).length) cap' := by
    rcases hown'.2 with ⟨_, h0⟩ | ⟨g, cap', cur, fz, hv, _⟩
    · omega
    · exact ⟨g, cap', hv⟩
  go_wp2
  go_ret2
  refine ⟨_, rfl, ?_, ?_, ((hk1.alloc _).grown hgrow (Lib.ownsRowF_kind (hown.alloc _))).setCell ⟨b, 1, none⟩ rfl _⟩
  · exact Lib.BuilderAtF.put (T := 99) (e := 5) hB hb2 (bs' := bs ++ Lib.runeCells r) (by simpa using hown') (by decide)
  · exact ((hb1.alloc (by have := hb1.size; omega) _).grown hgrow (by have := hb1.size; simp; omega) (fun k hk => (hown.lt k hk).1)).setCell (p := ⟨b, 1, none⟩) hB _
end Go.Proofs.YtfbhdjflkaldgaaDoor.Bld

namespace Go.Proofs.YtfbhdjflkaldgaaDoor.Pr
open Go.Proofs.YtfbhdjflkaldgaaDoor.Ct Go.RowKit Go.Maps Go.Lib Go.Proofs.YtfbhdjflkaldgaaDoorW.PrintWords Go.Proofs.YtfbhdjflkaldgaaDoorW.PrintLast Go.Proofs.YtfbhdjflkaldgaaDoorW.PrintMore
set_option linter.unusedVariables false
set_option linter.unusedSimpArgs false
def jointS (h c : ByteArray) : ByteArray := h ++ ⟨#[61]⟩ ++ c
def attachP (l : List S80) (rules : List S85) (h c : ByteArray) : ByteArray × Int := if 40 < (runesS h).length + 1 + (runesS c).length then ((⟨#[]⟩ : ByteArray), 2) else if (cascadeP l rules (jointS h c)).2 = 0 then (encS ((runesS (cascadeP l rules (jointS h c)).1).filter fun r => r != 61), 0) else ((⟨#[]⟩ : ByteArray), (cascadeP l rules (jointS h c)).2)
def clitic_joint_attach.f (l0 : List S80) (l1 : List S85) (a1 a2 : ByteArray) : Option (ByteArray × Int) := if (runesOk l0 = true ∧ l1.all smallR = true) ∧ a1.size ≤ 274877906944 ∧ a2.size ≤ 274877906944 then some (attachP l0 l1 a1 a2) else none
theorem joint_size (h c : ByteArray) : (jointS h c).size = h.size + 1 + c.size := by
  unfold jointS
  rw [ByteArray.size_append, ByteArray.size_append]; rfl
theorem encL_len (rs : List Int) : (encL rs).length ≤ 4 * rs.length := by
  have h := encS_size rs
  rw [← sizeL, encS_list] at h
  exact h
theorem encL_snoc (a : List Int) (r : Int) : encL (a ++ [r]) = encL a ++ encodeRune r := by simp [encL]
theorem wrap_add {n1 n2 m1 m2 : Nat} (h1 : n1 ≤ m1) (h2 : n2 ≤ m2) (h3 : m1 ≤ 274877906944) (h4 : m2 ≤ 274877906944) : wrap64 (((n1 + 1 : Nat) : Int) + (n2 : Int)) = ((n1 + 1 + n2 : Nat) : Int) := by
  rw [wrapIn _ ⟨by omega, by omega⟩]; omega
theorem rc_f (s : ByteArray) (hs : s.size ≤ 274877906944) : utf8_RuneCountInString.f s = some (((runesS s).length : Nat) : Int) := by
  unfold utf8_RuneCountInString.f
  rw [if_pos (by omega), runeCount_runes]
theorem rc_calls (s : ByteArray) (hs : s.size ≤ 274877906944) (n : Nat) (hn : (runesS s).length = n) (w : World) : Calls Tryd.prog 69 #[.string s] w fun e w' => e = .returned (.int .i64 (n : Int)) ∧ Below w.heap.size w w' := by
  subst hn
  exact utf8_RuneCountInString.calls s _ w (rc_f s hs)
set_option maxRecDepth 1000000 in
theorem LAttxh1 {p : Prop} (h : p := by
  go_enter Tryd.func51, Tryd.ntmps51
  go_wp2_with (first | (go_at_call 69; (first | (with_reducible refine (hrc1'.out _).mono ?_) | (with_reducible refine (hrc2'.out _).mono ?_)); rintro e z1_ ⟨rfl, hBx⟩; have HBn := HBc.trans (hBx.mono HBc.size); clear HBc hBx; have HBc := HBn; clear HBn; obtain ⟨z2_, z3_⟩ := hcell'.out _ HBc) | (go_at_call 70; with_reducible refine (hca'.out _ HBc).mono ?_; rintro e z4_ ⟨rfl, hBx⟩; have HBn := HBc.trans (hBx.mono HBc.size); clear HBc hBx; have HBc := HBn; clear HBn))
  first
  | (have mk_ := mk0_
     obtain ⟨b, hb⟩ : ∃ b, z4_.heap.size = b := ⟨_, rfl⟩
     have z5_ := (Lib.IsBuilderF.of (Lib.fresh_isBuilder 99 5 z4_)).alloc (.stringIter q1 0)
     have z6_ := World.iter_heap (z4_.alloc (.cells #[.pointer none, .slice none 0 0] 99)) q1 0
     have hBi : Below z4_.heap.size z4_ ((z4_.alloc (.cells #[.pointer none, .slice none 0 0] 99)).iter q1 0) := ((Below.refl _ z4_).alloc (Nat.le_refl _) _).alloc (by simp) _
     rw [show (z4_.alloc (.cells #[.pointer none, .slice none 0 0] 99)).heap.size = z4_.heap.size + 1 by simp] at z6_
     rw [hb] at z5_ z6_ hBi ⊢
     have z7_ := Aside0.mk z5_
     have z8_ := Aside0.mk z6_
     have hBi' := Aside0.mk hBi
     have hb' := Aside0.mk hb
     clear z5_ z6_ hBi hb
     have hzf : (q2 != 0) = false := by unfold bne; rw [czb]; rfl
     rw [hzf]
     go_loopg [12] q1.size (fun kq z9_ w' => ∃ (pos : Nat) (done : List Int), Aside0 (w'.heap[b + 1]? = some (.stringIter q1 pos)) ∧ Aside0 (q1.size - pos ≤ kq) ∧ Aside0 (done ++ runesAt q1 pos = runesS q1) ∧ Aside0 (Lib.IsBuilderF 99 5 b b (Lib.byteCells (encL (done.filter fun r => r != 61))) w') ∧ Aside0 (Below b z4_ w'))
     case atStart => exact ⟨0, [], z8_, ⟨by omega⟩, ⟨by rw [runesAt_zero]; rfl⟩, z7_, hBi'⟩
     case round =>
       obtain ⟨pos, done, hit, hq, hdone, hI, HB⟩ := hrel
       by_cases hp : pos < q1.size
       · obtain ⟨z10_, rfl⟩ : ∃ z10_, gk = z10_ + 1 := ⟨gk - 1, by have := hq.out; omega⟩
         have hnx : ∀ ty, (Instr.next (.pointer (some ⟨b + 1, 0, none⟩)) true ty).run Tryd.prog wr = _ := fun ty => run_next_any_at wr (b + 1) q1 pos ty hit.out hp
         have hst := runesAt_step hp
         have hwd := width_at hp
         have hsc := scalar_at q1 pos
         obtain ⟨R, hRR⟩ : ∃ R : Int, ((Utf8.decode q1 pos).1 : Int) = R := ⟨_, rfl⟩
         rw [hRR] at hst hsc
         simp only [hRR] at hnx
         obtain ⟨z11_, z12_⟩ : ∃ p2, pos + (Utf8.decode q1 pos).2 = p2 := ⟨_, rfl⟩
         rw [z12_] at hst hnx
         obtain ⟨z13_, z14_⟩ : ∃ z13_, wr.iterAt (b + 1) q1 z11_ = z13_ := ⟨_, rfl⟩
         have z15_ : Below b z4_ z13_ := by rw [← z14_]; exact below_iterAt HB.out (by omega) _ _
         have z16_ : z13_.heap[b + 1]? = some (.stringIter q1 z11_) := by rw [← z14_]; exact iterAt_heap _ _ _ _ _ hit.out
         have z17_ : Lib.IsBuilderF 99 5 b b (Lib.byteCells (encL (done.filter fun r => r != 61))) z13_ := by rw [← z14_]; exact hI.out.iterAt hit.out _
         simp only [z14_] at hnx
         have hdl : done.length ≤ q1.size := by
           have z18_ := congrArg List.length hdone.out
           have z19_ := runesS_length q1
           rw [List.length_append] at z18_
           omega
         have hlen : Aside0 ((Lib.byteCells (encL (done.filter fun r => r != 61))).length + 4 ≤ 140737488355328) := ⟨by
           rw [Lib.byteCells_length]
           have z18_ := encL_len (done.filter fun r => r != 61)
           have z19_ := List.length_filter_le (fun r : Int => r != 61) done
           have := hcs'.out
           omega⟩
         have hst' := Aside0.mk hst
         have hw' : Aside0 (pos < z11_) := ⟨by omega⟩
         have z20_ := Aside0.mk z15_
         have z21_ := Aside0.mk z16_
         have z22_ := Aside0.mk z17_
         have hsc' := Aside0.mk hsc
         clear hst hwd hp z15_ z16_ z17_ z14_ z12_ hRR hdl hsc
         by_cases z23_ : R = 61
         · have z24_ : (R == 61) = true := beq_iff_eq.2 z23_
           have hfl : Aside0 ((done ++ [R]).filter (fun r => r != 61) = done.filter fun r => r != 61) := ⟨by rw [List.filter_append, z23_]; simp⟩
           clear z23_
           go_wp2
           go_roundg z10_
           case measure => omega
           case rel => exact ⟨z11_, done ++ [R], z21_, ⟨by have := hq.out; have := hw'.out; omega⟩, ⟨by rw [List.append_assoc, List.singleton_append, ← hst'.out]; exact hdone.out⟩, ⟨by rw [hfl.out]; exact z22_.out⟩, z20_⟩
         · have z24_ : (R == 61) = false := beq_eq_false_iff_ne.2 z23_
           have hfl : Aside0 ((done ++ [R]).filter (fun r => r != 61) = (done.filter fun r => r != 61) ++ [R]) := ⟨by rw [List.filter_append]; simp [z23_]⟩
           have hwrite := Bld.writeRune b b (Lib.byteCells (encL (done.filter fun r => r != 61))) R (by have := hsc'.out.1; omega) (by have := hsc'.out.2; omega) z13_ z22_.out hlen.out (by have := z20_.out.size; have := hb'.out; omega)
           clear z23_
           go_wp2_with (go_at_call 71; refine hwrite.mono ?_; clear hwrite; rintro e z25_ ⟨z26_, rfl, z27_, z28_, z29_⟩)
           go_roundg z10_
           case measure => omega
           case rel => exact ⟨z11_, done ++ [R], ⟨z29_.iter z21_.out (by omega)⟩, ⟨by have := hq.out; have := hw'.out; omega⟩, ⟨by rw [List.append_assoc, List.singleton_append, ← hst'.out]; exact hdone.out⟩, ⟨by rw [hfl.out, encL_snoc, Lib.byteCells_append, Lib.byteCells_encodeRune]; exact .inr z27_⟩, ⟨z20_.out.trans z28_⟩⟩
       · have hnx : ∀ ty, (Instr.next (.pointer (some ⟨b + 1, 0, none⟩)) true ty).run Tryd.prog wr = _ := fun ty => run_next_end_at wr (b + 1) q1 pos ty hit.out hp
         have hre := runesAt_end hp
         have hd : done = runesS q1 := by rw [← hdone.out, hre, List.append_nil]
         have hstr := Tryd.Builder_String_any_f b b (encL (done.filter fun r => r != 61)) wr hI.out (by have := HB.out.size; have := hb'.out; omega)
         have hfin : Aside0 ((⟨(encL (done.filter fun r => r != 61)).toArray⟩ : ByteArray) = r1) := ⟨by rw [← hr4.out, ← hd]; rfl⟩
         rw [hfin.out] at hstr
         clear hre hp hd
         go_wp2_with (go_at_call 39; refine hstr.mono ?_; clear hstr; rintro e z30_ ⟨rfl, z31_, z32_⟩)
         go_ret2
         exact ⟨rfl, hB0'.out.trans ((HBc.trans (((hb'.out ▸ (HB.out.trans z32_)) : Below z4_.heap.size z4_ z30_).mono HBc.size)).mono hB0'.out.size)⟩)
  | (have mk_ := mk1_
     go_ret2
     exact ⟨rfl, hB0'.out.trans (HBc.mono hB0'.out.size)⟩)) : p := h
set_option maxRecDepth 100000 in
set_option maxHeartbeats 2000000 in
theorem clitic_joint_attach.calls (A0 : Option Addr) (c0 : Nat) (l0 : List S80) (A1 : Option Addr) (c1 : Nat) (l1 : List S85) (a1 a2 : ByteArray) (r1 : ByteArray) (r2 : Int) (w : World) (hT : Tabs w) (hr0 : Kd.C k80 w A0 l0.length l0) (hc0 : l0.length ≤ c0) (hr1 : Kd.C k85 w A1 l1.length l1) (hc1 : l1.length ≤ c1) (h : clitic_joint_attach.f l0 l1 a1 a2 = some (r1, r2)) :
    Calls Tryd.prog 51 #[.agg #[.slice A0 l0.length c0, .slice A1 l1.length c1], .string a1, .string a2] w fun e w' => e = .returned (.tuple #[.string r1, .int .i64 r2]) ∧ Below w.heap.size w w' := by
  unfold clitic_joint_attach.f at h
  by_cases hg : (runesOk l0 = true ∧ l1.all smallR = true) ∧ a1.size ≤ 274877906944 ∧ a2.size ≤ 274877906944
  · rw [if_pos hg] at h
    have hr := Option.some.inj h
    clear h
    have hu := Tryd.underlying76
    obtain ⟨W0, hW0⟩ : ∃ W0, w.alloc (.cells #[.slice A0 l0.length c0, .slice A1 l1.length c1] 76) = W0 := ⟨_, rfl⟩
    have hB0 : Below w.heap.size w W0 := by rw [← hW0]; exact (Below.refl _ w).alloc (Nat.le_refl _) _
    have hcell : ∀ w1, Below W0.heap.size W0 w1 → w1.cell? ⟨w.heap.size, 0, none⟩ = some (.slice A0 l0.length c0) ∧ w1.cell? ⟨w.heap.size, 1, none⟩ = some (.slice A1 l1.length c1) := by
      intro w1 hB
      have hlt : w.heap.size < W0.heap.size := by rw [← hW0]; simp
      refine ⟨(hB.cell hlt).trans ?_, (hB.cell hlt).trans ?_⟩
      · rw [← hW0]; exact cell_new _ _ _ 0 _ rfl
      · rw [← hW0]; exact cell_new _ _ _ 1 _ rfl
    have hjs := joint_size a1 a2
    obtain ⟨J, hJ⟩ : ∃ J, jointS a1 a2 = J := ⟨_, rfl⟩
    rw [hJ] at hjs
    have hJ2 : a1 ++ ⟨#[61]⟩ ++ a2 = J := hJ
    have hca := fun (w1 : World) (hB : Below W0.heap.size W0 w1) => cascade_calls A0 c0 l0 A1 c1 l1 J w1 (tabs_below hT (hB0.trans (hB.mono hB0.size))) (Kd.C_below hr0 (hB0.trans (hB.mono hB0.size))) hc0 (Kd.C_below hr1 (hB0.trans (hB.mono hB0.size))) hc1 hg.1.1 hg.1.2 (by have := hg.2; omega)
    have hcs := cascade_size l0 l1 J 1099511627776 (by decide) (by have := hg.2; omega)
    obtain ⟨q1, hq1⟩ : ∃ q, (cascadeP l0 l1 J).1 = q := ⟨_, rfl⟩
    obtain ⟨q2, hq2⟩ : ∃ q, (cascadeP l0 l1 J).2 = q := ⟨_, rfl⟩
    rw [hq1] at hcs
    rw [hq1, hq2] at hca
    obtain ⟨n1, hn1⟩ : ∃ n, (runesS a1).length = n := ⟨_, rfl⟩
    obtain ⟨n2, hn2⟩ : ∃ n, (runesS a2).length = n := ⟨_, rfl⟩
    have hl1 := runesS_length a1
    have hl2 := runesS_length a2
    rw [hn1] at hl1
    rw [hn2] at hl2
    have hr' : (if 40 < n1 + 1 + n2 then ((⟨#[]⟩ : ByteArray), (2 : Int)) else if q2 = 0 then (encS ((runesS q1).filter fun r => r != 61), 0) else ((⟨#[]⟩ : ByteArray), q2)) = (r1, r2) := by
      rw [← hr]; unfold attachP; rw [hJ, hq1, hq2, hn1, hn2]
    have hrc1 := rc_calls a1 hg.2.1 n1 hn1
    have hrc2 := rc_calls a2 hg.2.2 n2 hn2
    have hw1 : wrap64 ((n1 : Int) + 1) = ((n1 + 1 : Nat) : Int) := idx_next (i := n1) (n := n1 + 1) (by omega) (by have := hg.2; omega)
    have hw2 : wrap64 (((n1 + 1 : Nat) : Int) + (n2 : Int)) = ((n1 + 1 + n2 : Nat) : Int) := wrap_add hl1 hl2 hg.2.1 hg.2.2
    have hw1' := Aside0.mk hw1
    have hw2' := Aside0.mk hw2
    clear hw1 hw2
    have hd1 : ¬ 9223372036854775807 < a1.size + (⟨#[61]⟩ : ByteArray).size := by have : (⟨#[61]⟩ : ByteArray).size = 1 := rfl; have := hg.2; omega
    have hd2 : ¬ 9223372036854775807 < (a1 ++ (⟨#[61]⟩ : ByteArray)).size + a2.size := by rw [ByteArray.size_append]; have : (⟨#[61]⟩ : ByteArray).size = 1 := rfl; have := hg.2; omega
    obtain ⟨m, hm⟩ : ∃ m, n1 + 1 + n2 = m := ⟨_, rfl⟩
    obtain ⟨m1, hm1⟩ : ∃ m1, n1 + 1 = m1 := ⟨_, rfl⟩
    have hw1 := hw1'.out
    have hw2 := hw2'.out
    rw [hm] at hr' hw2
    rw [hm1] at hw1 hw2
    clear hw1' hw2'
    have hca' := Aside0.mk hca
    have hrc1' := Aside0.mk hrc1
    have hrc2' := Aside0.mk hrc2
    have hr2 := Aside0.mk hr'
    have hcs' := Aside0.mk hcs
    have hcell' := Aside0.mk hcell
    have hB0' := Aside0.mk hB0
    clear hT hr0 hc0 hr1 hc1 hg hr hr' hB0 hcell hjs hJ hca hcs hq1 hq2 hn1 hn2 hl1 hl2 hrc1 hrc2 hm hm1
    have HBc : Below W0.heap.size W0 W0 := Below.refl _ _
    by_cases c40 : 40 < m
    · have c40' : (40 : Int) < (m : Int) := by omega
      obtain ⟨rfl, rfl⟩ : r1 = (⟨#[]⟩ : ByteArray) ∧ r2 = 2 := by have := hr2.out; rw [if_pos c40] at this; exact ⟨(Prod.mk.inj this).1.symm, (Prod.mk.inj this).2.symm⟩
      clear c40
      go_enter Tryd.func51, Tryd.ntmps51
      go_wp2_with (go_at_call 69; (first | (with_reducible refine (hrc1'.out _).mono ?_) | (with_reducible refine (hrc2'.out _).mono ?_)); rintro e w2 ⟨rfl, hBx⟩; have HBn := HBc.trans (hBx.mono HBc.size); clear HBc hBx; have HBc := HBn; clear HBn)
      go_ret2
      exact ⟨rfl, hB0'.out.trans (HBc.mono hB0'.out.size)⟩
    · have c40' : ¬ (40 : Int) < (m : Int) := by omega
      have hr3 : (if q2 = 0 then (encS ((runesS q1).filter fun r => r != 61), 0) else ((⟨#[]⟩ : ByteArray), q2)) = (r1, r2) := by have := hr2.out; rw [if_neg c40] at this; exact this
      clear c40
      by_cases cz : q2 = 0
      · rw [if_pos cz] at hr3
        obtain ⟨e1, e2⟩ := Prod.mk.inj hr3
        subst e2
        have czb : (q2 == 0) = true := beq_iff_eq.2 cz
        have hr4 := Aside0.mk e1
        clear hr3 cz e1
        have mk0_ := trivial
        exact LAttxh1
      · rw [if_neg cz] at hr3
        obtain ⟨e1, e2⟩ := Prod.mk.inj hr3
        subst e1 e2
        have czb : (q2 == 0) = false := beq_eq_false_iff_ne.2 cz
        clear hr3 cz
        have mk1_ := trivial
        exact LAttxh1
  · rw [if_neg hg] at h; cases h
end Go.Proofs.YtfbhdjflkaldgaaDoor.Pr

namespace Go.Proofs.YtfbhdjflkaldgaaDoor.Pr
open Go.Proofs.YtfbhdjflkaldgaaDoor.Ct Go.RowKit Go.Proofs.YtfbhdjflkaldgaaDoorW.PrintWords Go.Proofs.YtfbhdjflkaldgaaDoorW.PrintLast Go.Proofs.YtfbhdjflkaldgaaDoorW.PrintMore
attribute [local go_sem] max2_int min2_int max_two min_two max_three min_three max_four min_four
set_option linter.unusedVariables false
set_option linter.unusedSimpArgs false
def clitic_joint_all.l0 : Nat → ByteArray → List ByteArray → Int → Int → List (S80) → List (S85) → Option (ByteArray × Int)
 | 0, _, _, _, _, _, _ => none
 | k + 1, x6, x14, x15, x16, x251000, x251001 => if x16 < x15 then (if 0 ≤ x16 then (if x16 < (x14.length : Int) then ((clitic_joint_attach.f x251000 x251001 x6 (rdOf ByteArray.empty x14 x16)).bind fun bt253 => (if bt253.2 = 0 then (clitic_joint_all.l0 k bt253.1 x14 x15 (wrap64 (x16 + 1)) x251000 x251001) else (some ((⟨#[]⟩ : ByteArray), bt253.2)))) else (none)) else (none)) else (some (x6, 0))
def clitic_joint_all.f (k : Nat) (l_0 : List (S80)) (l_1 : List (S85)) (a1_0 : ByteArray) (l1_1 : List ByteArray) : Option (ByteArray × Int) := clitic_joint_all.l0 k a1_0 l1_1 (l1_1.length : Int) 0 l_0 l_1
theorem LPrF32x1 {p : Prop} (h : p := by
  go_ret2
  exact ⟨tE, by repeat (first | (with_reducible first | exact HB.out | apply below_alloc | apply pw_below_drewN | apply below_drew1 | refine below_set ?_ GE250.out | refine below_set ?_ GE251.out) | exact HB.out)⟩) : p := h
theorem LPrF32xh1 {p : Prop} (h : p := by
  have z1_ : 0 ≤ (x16_1 : Int) := oD
  have z2_ : x16_1 < (l1_1.length : Int) := oD
  obtain ⟨z3_, z4_, z5_⟩ := Kd.at_string HR1_1.out x16_1 z1_ z2_
  cases z4_
  replace z5_ := celB HB z5_
  replace z1_ := eq_true z1_
  replace z2_ := eq_true z2_
  have z6_ := NB250_251.out
  have z7_ := NB251_250.out
  obtain ⟨z8_, z9_, z10_, z11_⟩ := bx2 BK250
  go_wp2_with (first | ((with_reducible refine gate_callee (f := 51) rfl ?_); refine goesL_ (some 24) rfl rfl Tryd.func51 (by kernel_rfl) rfl #[.agg #[.slice A_0 l_0.length c_0, .slice A_1 l_1.length c_1], .string x6_1, .string (rdOf ByteArray.empty l1_1 x16_1)] rfl Gc2 ?_; (with_reducible refine (clitic_joint_attach.calls _ _ l_0 _ _ l_1 x6_1 (rdOf ByteArray.empty l1_1 x16_1) t253 t254 _ ?sT (tC HR_0 HB) HC_0.out (tC HR_1 HB) HC_1.out A10.out).mono ?_); (case sT => exact Gc1); rintro e z12_ ⟨rfl, hb⟩; refine ⟨_, rfl, ?_⟩; have z13_ := Aside0.mk (blk_below (tK BK250) hb); have z14_ := Aside0.mk (blk_below (tK BK251) hb); have z15_ := Aside0.mk (below_step (tB HB) hb); revert z13_ z14_ z15_; clear BK250 BK251 HB; intro BK250 BK251 HB; (try clear hb); (try clear hb2); (try clear hk); (try clear hi)))
  first
  | (have mk_ := mk0_
     go_roundg k1
     case measure => have := HK1.out; omega
     case rel => exact ⟨(t253), (wrap64 (x16_1 + 1)), tV1, tV1, H', ⟨by have := HK1.out; omega⟩, ⟨tK BK250⟩, ⟨tK BK251⟩, ⟨tB HB⟩⟩)
  | (have mk_ := mk1_
     exact LPrF32x1)) : p := h
set_option maxHeartbeats 8000000 in
set_option maxRecDepth 100000 in
theorem clitic_joint_all.calls (k : Nat) (A_0 : Option Addr) (c_0 : Nat) (l_0 : List (S80)) (A_1 : Option Addr) (c_1 : Nat) (l_1 : List (S85)) (a1_0 : ByteArray) (A1_1 : Option Addr) (c1_1 : Nat) (l1_1 : List ByteArray) (r1 : ByteArray) (r2 : Int) (w : World) (hT : Tabs w) (hr_0 : Kd.C k80 w A_0 l_0.length l_0) (hc_0 : l_0.length ≤ c_0) (hr_1 : Kd.C k85 w A_1 l_1.length l_1) (hc_1 : l_1.length ≤ c_1) (hr1_1 : Kd.C Kd.string w A1_1 l1_1.length l1_1) (hc1_1 : l1_1.length ≤ c1_1) (h : clitic_joint_all.f k l_0 l_1 a1_0 l1_1 = some (r1, r2)) :
 Calls Tryd.prog 32 #[.agg #[.slice A_0 l_0.length c_0, .slice A_1 l_1.length c_1], .agg #[.string a1_0, .slice A1_1 l1_1.length c1_1]] w fun e w' => e = .returned (.tuple #[.string r1, .int .i64 r2]) ∧ Below w.heap.size w w' := by
 have HT := Aside0.mk hT
 clear hT
 have hu76 := Tryd.underlying76
 have hu57 := Tryd.underlying57
 have HR_0 := Aside0.mk hr_0
 have HC_0 := Aside0.mk hc_0
 clear hr_0 hc_0
 have HR_1 := Aside0.mk hr_1
 have HC_1 := Aside0.mk hc_1
 clear hr_1 hc_1
 have HR1_1 := Aside0.mk hr1_1
 have HC1_1 := Aside0.mk hc1_1
 clear hr1_1 hc1_1
 have HB := Aside0.mk (Below.refl w.heap.size w)
 have H : (clitic_joint_all.l0 k a1_0 l1_1 (l1_1.length : Int) 0 l_0 l_1) = some (r1, r2) := h
 clear h
 have H' := Aside0.mk H
 clear H
 go_enter Tryd.func32, Tryd.ntmps32
 go_wp2_with (first | ((with_reducible refine gate_dst (N := 2) rfl ?_); refine box_event ?hg (N := 2) ?hd (cs := #[.slice A_0 l_0.length c_0, .slice A_1 l_1.length c_1]) (t := 76) ?hr ?_; (case hd => rfl); (case hg => rfl); (case hr => exact Gc6); intro gb250 hg w3 hbox hb; have n0_ := Aside0.mk (below_step (tB HB) hb); have n1_ := Aside0.mk (hbox); have n2_ := tZ hg (tS HB); have n3_ := tZ hg (tS HB); revert n0_ n1_ n2_ n3_; clear HB; intro HB BK250 GW250 GE250; clear hb hbox hg) | ((with_reducible refine gate_dst (N := 3) rfl ?_); refine box_event ?hg (N := 3) ?hd (cs := #[.string a1_0, .slice A1_1 l1_1.length c1_1]) (t := 57) ?hr ?_; (case hd => rfl); (case hg => rfl); (case hr => exact Gc6); intro gb251 hg w4 hbox hb; have n0_ := Aside0.mk (blk_below (tK BK250) hb); have n1_ := Aside0.mk (below_step (tB HB) hb); have n2_ := Aside0.mk (hbox); have n3_ := tZ hg (tS HB); have n4_ := tZ hg (tS HB); have n5_ := tL hg (tK BK250); have n6_ := tG hg (tK BK250); revert n0_ n1_ n2_ n3_ n4_ n5_ n6_; clear BK250 HB; intro BK250 HB BK251 GW251 GE251 NB250_251 NB251_250; clear hb hbox hg; have hnb5 := NB251_250.out; have hnc5 := NB250_251.out; have hcz6_0 := cel2 BK251 0 rfl; have hcz6_1 := cel2 BK251 1 rfl; have hfz6_0 := blk_frozen BK251.out 0; have hfz6_1 := blk_frozen BK251.out 1))
 go_loopg [6, 16] k (fun kq v6 v16 w' => ∃ (x6_1 : ByteArray) (x16_1 : Int), v6 = .string x6_1 ∧ v16 = .int .i64 x16_1 ∧ Aside0 (clitic_joint_all.l0 kq x6_1 l1_1 (l1_1.length : Int) x16_1 l_0 l_1 = some (r1, r2)) ∧ Aside0 (kq ≤ k) ∧ Aside0 (w'.heap[gb250]? = some (.cells #[(.slice A_0 l_0.length c_0), (.slice A_1 l_1.length c_1)] 76 (0, 0))) ∧ Aside0 (w'.heap[gb251]? = some (.cells #[.string a1_0, (.slice A1_1 l1_1.length c1_1)] 57 (0, 0))) ∧ Aside0 (Below w.heap.size w w'))
 case atStart => exact ⟨(a1_0), (0), tV1, tV1, H', ⟨Nat.le_refl _⟩, ⟨tK BK250⟩, ⟨tK BK251⟩, ⟨tB HB⟩⟩
 case round =>
  clear H'; (try clear hcz6_0); (try clear hcz6_1); (try clear hfz6_0); (try clear hfz6_1)
  obtain ⟨x6_1, x16_1, rfl, rfl, HA, HK1, BK250, BK251, HB⟩ := hrel
  cases gk with
  | zero => exact absurd HA.out (by simp [clitic_joint_all.l0])
  | succ k1 =>
   have H := HA.out
   clear HA
   simp only [clitic_joint_all.l0] at H
   replace H := iF H; obtain ⟨c7, H⟩ | ⟨c7, H⟩ := H
   ·
    have c7b0 : decide (x16_1 < (l1_1.length : Int)) = true := decide_eq_true c7
    clear c7
    replace H := iF H; obtain ⟨c8, H⟩ | ⟨c8, H⟩ := H
    ·
     have c8b0 : decide (0 ≤ x16_1) = true := decide_eq_true c8
     clear c8
     replace H := iF H; obtain ⟨c9, H⟩ | ⟨c9, H⟩ := H
     ·
      have c9b0 : decide (x16_1 < (l1_1.length : Int)) = true := decide_eq_true c9
      clear c9
      replace H := bI H; obtain ⟨⟨t253, t254⟩, A10, H⟩ := H; (try dsimp only at H)
      replace H := iE H; obtain ⟨-, c11b0, c11b1, H⟩ | ⟨c11, c11b0, c11b1, H⟩ := H
      ·
       have H' := Aside0.mk H
       clear H
       have mk0_ := trivial
       exact LPrF32xh1
      ·
       simp only [Option.some.injEq, Prod.mk.injEq] at H
       obtain ⟨rfl, rfl⟩ := H
       have mk1_ := trivial
       exact LPrF32xh1
     ·
      exact absurd H (by simp)
    ·
     exact absurd H (by simp)
   ·
    have c7b0 : decide (x16_1 < (l1_1.length : Int)) = false := decide_eq_false c7
    clear c7
    simp only [Option.some.injEq, Prod.mk.injEq] at H
    obtain ⟨rfl, rfl⟩ := H
    go_wp2
    exact LPrF32x1
def clitic_AttachAll.j0 : Nat → List (S80) → List (S85) → Bool → ByteArray → List ByteArray → Option (ByteArray × Int)
 | 0, _, _, _, _, _ => none
 | k + 1, x0, x1, x26, x256000, x256001 => if x26 = true then (some ((⟨#[]⟩ : ByteArray), 1)) else ((clitic_Extended.f x0).bind fun t262 => ((clitic_joint_all.f k t262 x1 x256000 x256001).bind fun bt265 => (some (bt265.1, bt265.2))))
def clitic_AttachAll.f (k : Nat) (l0 : List (S80)) (l1 : List (S85)) (a2_0 : ByteArray) (l2_1 : List ByteArray) : Option (ByteArray × Int) := (clitic_Valid.f k l0 l1).bind fun t256 => (if t256 = true then ((clitic_words.f k l0 (([a2_0] : List ByteArray))).bind fun t260 => (if t260 = true then ((clitic_words.f k l0 l2_1).bind fun t261 => (clitic_AttachAll.j0 k l0 l1 (!t261) a2_0 l2_1)) else (clitic_AttachAll.j0 k l0 l1 true a2_0 l2_1))) else (clitic_AttachAll.j0 k l0 l1 true a2_0 l2_1))
def clitic_AttachAll.T3 : Bool × List (List Nat × List Nat) := (true, [([], []), ([0], [0]), ([], []), ([1, 2], [1, 2]), ([], []), ([3, 4, 1], [3, 4]), ([5], [5]), ([5], [5]), ([6, 5, 0, 1, 2, 3, 4, 5, 6, 7], [6]), ([7, 8, 0, 1, 2, 3, 4, 5, 6, 7, 8], [7])])
def clitic_AttachAll.B3 : List Nat := [0, 1, 0, 7, 0, 31, 63, 63, 255, 511]
theorem clitic_AttachAll.tab3 : rtab .any (opsOf Tryd.f16 3) = clitic_AttachAll.T3 := by kernel_rfl
theorem clitic_AttachAll.bits3 : waitsOk clitic_AttachAll.T3.2 clitic_AttachAll.B3 = true := by kernel_rfl
theorem LPrF16x1 {p : Prop} (h : p := by
  go_ret2
  exact ⟨tE, by repeat (first | (with_reducible first | exact HB.out | apply below_alloc | apply pw_below_drewN | apply below_drew1 | refine below_set ?_ GE255.out) | exact HB.out)⟩) : p := h
set_option maxHeartbeats 8000000 in
set_option maxRecDepth 100000 in
theorem clitic_AttachAll.calls (k : Nat) (A0 : Option Addr) (c0 : Nat) (l0 : List (S80)) (A1 : Option Addr) (c1 : Nat) (l1 : List (S85)) (a2_0 : ByteArray) (A2_1 : Option Addr) (c2_1 : Nat) (l2_1 : List ByteArray) (r1 : ByteArray) (r2 : Int) (w : World) (hT : Tabs w) (hr0 : Kd.C k80 w A0 l0.length l0) (hc0 : l0.length ≤ c0) (hr1 : Kd.C k85 w A1 l1.length l1) (hc1 : l1.length ≤ c1) (hr2_1 : Kd.C Kd.string w A2_1 l2_1.length l2_1) (hc2_1 : l2_1.length ≤ c2_1) (h : clitic_AttachAll.f k l0 l1 a2_0 l2_1 = some (r1, r2)) :
 Calls Tryd.prog 16 #[.slice A0 l0.length c0, .slice A1 l1.length c1, .agg #[.string a2_0, .slice A2_1 l2_1.length c2_1]] w fun e w' => e = .returned (.tuple #[.string r1, .int .i64 r2]) ∧ Below w.heap.size w w' := by
 have HT := Aside0.mk hT
 clear hT
 have hu57 := Tryd.underlying57
 have hu76 := Tryd.underlying76
 have HR0 := Aside0.mk hr0
 have HC0 := Aside0.mk hc0
 clear hr0 hc0
 have HR1 := Aside0.mk hr1
 have HC1 := Aside0.mk hc1
 clear hr1 hc1
 have HR2_1 := Aside0.mk hr2_1
 have HC2_1 := Aside0.mk hc2_1
 clear hr2_1 hc2_1
 have HB := Aside0.mk (Below.refl w.heap.size w)
 have H : ((clitic_Valid.f k l0 l1).bind fun t256 => (if t256 = true then ((clitic_words.f k l0 (([a2_0] : List ByteArray))).bind fun t260 => (if t260 = true then ((clitic_words.f k l0 l2_1).bind fun t261 => (clitic_AttachAll.j0 k l0 l1 (!t261) a2_0 l2_1)) else (clitic_AttachAll.j0 k l0 l1 true a2_0 l2_1))) else (clitic_AttachAll.j0 k l0 l1 true a2_0 l2_1))) = some (r1, r2) := h
 clear h
 have HC4 := Aside0.mk H
 clear H
 go_enter Tryd.func16, Tryd.ntmps16
 go_upto_region 1 with (first | ((with_reducible refine gate_dst (N := 5) rfl ?_); (try (refine gate_guard (by rfl) ?_; dsimp only)); refine box_event ?hg (N := 5) ?hd (cs := #[.string a2_0, .slice A2_1 l2_1.length c2_1]) (t := 57) ?hr ?_; (case hd => rfl); (case hg => rfl); (case hr => exact Gc6); intro gb255 hg w5 hbox hb; have n0_ := Aside0.mk (below_step (tB HB) hb); have n1_ := Aside0.mk (hbox); have n2_ := tZ hg (tS HB); have n3_ := tZ hg (tS HB); revert n0_ n1_ n2_ n3_; clear HB; intro HB BK255 GW255 GE255; clear hb hbox hg))
 (try simp only [Act.put, List.setIfInBounds_toArray, List.set_cons_zero, List.set_cons_succ])
 go_cut [26] (fun v26 wc => ∃ (kq : Nat) (x26_3 : Bool), v26 = .bool x26_3 ∧ Aside0 (clitic_AttachAll.j0 kq l0 l1 x26_3 a2_0 l2_1 = some (r1, r2)) ∧ Aside0 (kq ≤ k) ∧ Aside0 (wc.heap[gb255]? = some (.cells #[.string a2_0, (.slice A2_1 l2_1.length c2_1)] 57 (0, 0))) ∧ Aside0 (Below w.heap.size w wc))
 case first =>
  have H := HC4.out
  clear HC4
  replace H := bI H; obtain ⟨t256, A6, H⟩ := H; (try dsimp only at H)
  replace H := iT H; obtain ⟨rfl, H⟩ | ⟨rfl, H⟩ := H
  ·
   obtain ⟨y257, hy257⟩ : ∃ y_ : List ByteArray, y_ = (([a2_0] : List ByteArray)) := ⟨_, rfl⟩
   replace H : ((clitic_words.f k l0 y257).bind fun t260 => (if t260 = true then ((clitic_words.f k l0 l2_1).bind fun t261 => (clitic_AttachAll.j0 k l0 l1 (!t261) a2_0 l2_1)) else (clitic_AttachAll.j0 k l0 l1 true a2_0 l2_1))) = some (r1, r2) := by first | (rw [hy257]; with_reducible exact H) | (have H2_ := (Option.bind_some _ _).symm.trans H; rw [hy257]; with_reducible exact H2_) | (have H2_ := (Option.bind_some _ _).symm.trans H; with_reducible exact H2_) | with_reducible exact H | (rw [hy257]; exact H) | exact H
   have Ny257 := Aside0.mk hy257
   clear hy257
   replace H := bI H; obtain ⟨t260, A8, H⟩ := H; (try dsimp only at H)
   replace H := iT H; obtain ⟨rfl, H⟩ | ⟨rfl, H⟩ := H
   ·
    replace H := bI H; obtain ⟨t261, A10, H⟩ := H; (try dsimp only at H)
    have H' := Aside0.mk H
    clear H
    go_wp2_with (first | ((with_reducible refine gate_callee (f := 29) rfl ?_); refine goesL_ (some 10) rfl rfl Tryd.func29 (by kernel_rfl) rfl #[.slice A0 l0.length c0, .slice A1 l1.length c1] rfl Gc2 ?_; (with_reducible refine (clitic_Valid.calls k _ _ l0 _ _ l1 true _ ?sT (tC HR0 HB) HC0.out (tC HR1 HB) HC1.out A6.out).mono ?_); (case sT => exact Gc1); rintro e w11 ⟨rfl, hb⟩; refine ⟨_, rfl, ?_⟩; have n0_ := Aside0.mk (blk_below (tK BK255) hb); have n1_ := Aside0.mk (below_step (tB HB) hb); revert n0_ n1_; clear BK255 HB; intro BK255 HB; (try clear hb); (try clear hb2); (try clear hk); (try clear hi); have hcz12_0 := cel2 BK255 0 rfl; have hcz12_1 := cel2 BK255 1 rfl; have hfz12_0 := blk_frozen BK255.out 0; have hfz12_1 := blk_frozen BK255.out 1) | ((with_reducible refine gate_dst (N := 16) rfl ?_); (try (refine gate_guard (by rfl) ?_; dsimp only)); refine Kd.R_lit Kd.string _ 9 ?hg (N := 16) ?hd (xs := ([a2_0] : List ByteArray)) (inner := [.string a2_0]) (ok := fun _ => True) (okp := fun _ => True) ?hr ?hp (fun _ hk => hk) trivial (Below.refl _ _) (Nat.le_refl _) (by simp) ?_; (case hd => rfl); (case hg => rfl); (case hr => exact Gc6); (case hp => exact (Reps.one (show Kd.M Kd.string _ _ _ a2_0 [.string a2_0] from rfl) (Reps.none _ _))); intro v258 w13 ho14 hb hg_ hnew_; clear hg_ hnew_; (first | rw [← Ny257.out] at ho14 | (simp only [Int.reduceToNat] at ho14; rw [← Ny257.out] at ho14)); have n0_ := Aside0.mk (Kd.R_lower ho14 (tS HB)); have n1_ := Aside0.mk (blk_below (tK BK255) hb); have n2_ := Aside0.mk (below_step (tB HB) hb); revert n0_ n1_ n2_; clear BK255 HB; intro HO259 BK255 HB; clear hb ho14; obtain ⟨Ao15, co15, eo15⟩ := Kd.R_slice HO259.out; subst eo15) | (go_at_call 30; (with_reducible refine (clitic_words.calls k _ _ l0 _ _ y257 true _ ?sT (tC HR0 HB) HC0.out ?s3 ?s4 A8.out).mono ?_); (case sT => exact Gc1); (case s3 => repeat (first | exact (Kd.R_reads' HO259.out).2.2 | (with_reducible refine Kd.C_alloc ?_ _) | (with_reducible refine Kd.C_drewN ?_ _) | (with_reducible refine Kd.C_drew ?_))); (case s4 => exact (Kd.R_reads' HO259.out).2.1); rintro e w16 ⟨rfl, hb⟩; have n0_ := Aside0.mk (Kd.R_below (dR HO259) hb); have n1_ := Aside0.mk (blk_below (tK BK255) hb); have n2_ := Aside0.mk (below_step (tB HB) hb); revert n0_ n1_ n2_; clear HO259 BK255 HB; intro HO259 BK255 HB; (try clear hb); (try clear hb2); (try clear hk); (try clear hi); have hcz17_0 := cel2 BK255 0 rfl; have hcz17_1 := cel2 BK255 1 rfl; have hfz17_0 := blk_frozen BK255.out 0; have hfz17_1 := blk_frozen BK255.out 1) | (go_at_call 30; (with_reducible refine (clitic_words.calls k _ _ l0 _ _ l2_1 t261 _ ?sT (tC HR0 HB) HC0.out (tC HR2_1 HB) HC2_1.out A10.out).mono ?_); (case sT => exact Gc1); rintro e w18 ⟨rfl, hb⟩; have n0_ := Aside0.mk (Kd.R_below (dR HO259) hb); have n1_ := Aside0.mk (blk_below (tK BK255) hb); have n2_ := Aside0.mk (below_step (tB HB) hb); revert n0_ n1_ n2_; clear HO259 BK255 HB; intro HO259 BK255 HB; (try clear hb); (try clear hb2); (try clear hk); (try clear hi)))
    go_meet
    case rel => exact ⟨_, (!t261), tV1, H', ⟨tU⟩, ⟨tK BK255⟩, ⟨tB HB⟩⟩
   ·
    have H' := Aside0.mk H
    clear H
    go_wp2_with (first | ((with_reducible refine gate_callee (f := 29) rfl ?_); refine goesL_ (some 10) rfl rfl Tryd.func29 (by kernel_rfl) rfl #[.slice A0 l0.length c0, .slice A1 l1.length c1] rfl Gc2 ?_; (with_reducible refine (clitic_Valid.calls k _ _ l0 _ _ l1 true _ ?sT (tC HR0 HB) HC0.out (tC HR1 HB) HC1.out A6.out).mono ?_); (case sT => exact Gc1); rintro e w19 ⟨rfl, hb⟩; refine ⟨_, rfl, ?_⟩; have n0_ := Aside0.mk (blk_below (tK BK255) hb); have n1_ := Aside0.mk (below_step (tB HB) hb); revert n0_ n1_; clear BK255 HB; intro BK255 HB; (try clear hb); (try clear hb2); (try clear hk); (try clear hi); have hcz20_0 := cel2 BK255 0 rfl; have hcz20_1 := cel2 BK255 1 rfl; have hfz20_0 := blk_frozen BK255.out 0; have hfz20_1 := blk_frozen BK255.out 1) | ((with_reducible refine gate_dst (N := 16) rfl ?_); (try (refine gate_guard (by rfl) ?_; dsimp only)); refine Kd.R_lit Kd.string _ 9 ?hg (N := 16) ?hd (xs := ([a2_0] : List ByteArray)) (inner := [.string a2_0]) (ok := fun _ => True) (okp := fun _ => True) ?hr ?hp (fun _ hk => hk) trivial (Below.refl _ _) (Nat.le_refl _) (by simp) ?_; (case hd => rfl); (case hg => rfl); (case hr => exact Gc6); (case hp => exact (Reps.one (show Kd.M Kd.string _ _ _ a2_0 [.string a2_0] from rfl) (Reps.none _ _))); intro v258 w21 ho22 hb hg_ hnew_; clear hg_ hnew_; (first | rw [← Ny257.out] at ho22 | (simp only [Int.reduceToNat] at ho22; rw [← Ny257.out] at ho22)); have n0_ := Aside0.mk (Kd.R_lower ho22 (tS HB)); have n1_ := Aside0.mk (blk_below (tK BK255) hb); have n2_ := Aside0.mk (below_step (tB HB) hb); revert n0_ n1_ n2_; clear BK255 HB; intro HO259 BK255 HB; clear hb ho22; obtain ⟨Ao23, co23, eo23⟩ := Kd.R_slice HO259.out; subst eo23) | (go_at_call 30; (with_reducible refine (clitic_words.calls k _ _ l0 _ _ y257 false _ ?sT (tC HR0 HB) HC0.out ?s3 ?s4 A8.out).mono ?_); (case sT => exact Gc1); (case s3 => repeat (first | exact (Kd.R_reads' HO259.out).2.2 | (with_reducible refine Kd.C_alloc ?_ _) | (with_reducible refine Kd.C_drewN ?_ _) | (with_reducible refine Kd.C_drew ?_))); (case s4 => exact (Kd.R_reads' HO259.out).2.1); rintro e w24 ⟨rfl, hb⟩; have n0_ := Aside0.mk (Kd.R_below (dR HO259) hb); have n1_ := Aside0.mk (blk_below (tK BK255) hb); have n2_ := Aside0.mk (below_step (tB HB) hb); revert n0_ n1_ n2_; clear HO259 BK255 HB; intro HO259 BK255 HB; (try clear hb); (try clear hb2); (try clear hk); (try clear hi)))
    go_meet
    case rel => exact ⟨_, (true), tV1, H', ⟨tU⟩, ⟨tK BK255⟩, ⟨tB HB⟩⟩
  ·
   have H' := Aside0.mk H
   clear H
   go_wp2_with (first | ((with_reducible refine gate_callee (f := 29) rfl ?_); refine goesL_ (some 10) rfl rfl Tryd.func29 (by kernel_rfl) rfl #[.slice A0 l0.length c0, .slice A1 l1.length c1] rfl Gc2 ?_; (with_reducible refine (clitic_Valid.calls k _ _ l0 _ _ l1 false _ ?sT (tC HR0 HB) HC0.out (tC HR1 HB) HC1.out A6.out).mono ?_); (case sT => exact Gc1); rintro e w25 ⟨rfl, hb⟩; refine ⟨_, rfl, ?_⟩; have n0_ := Aside0.mk (blk_below (tK BK255) hb); have n1_ := Aside0.mk (below_step (tB HB) hb); revert n0_ n1_; clear BK255 HB; intro BK255 HB; (try clear hb); (try clear hb2); (try clear hk); (try clear hi)))
   go_meet
   case rel => exact ⟨_, (true), tV1, H', ⟨tU⟩, ⟨tK BK255⟩, ⟨tB HB⟩⟩
 case rest =>
  clear HC4
  obtain ⟨kq, x26_3, rfl, HA, HJ3, BK255, HB⟩ := hcut
  cases kq with
  | zero => exact absurd HA.out (by simp [clitic_AttachAll.j0])
  | succ kj3 =>
   have H := HA.out
   clear HA
   simp only [clitic_AttachAll.j0] at H
   replace H := iT H; obtain ⟨rfl, H⟩ | ⟨rfl, H⟩ := H
   ·
    simp only [Option.some.injEq, Prod.mk.injEq] at H
    obtain ⟨rfl, rfl⟩ := H
    go_wp2
    exact LPrF16x1
   ·
    replace H := bI H; obtain ⟨t262, A27, H⟩ := H; (try dsimp only at H)
    replace H := bI H; obtain ⟨⟨t265, t266⟩, A28, H⟩ := H; (try dsimp only at H)
    simp only [Option.some.injEq, Prod.mk.injEq] at H
    obtain ⟨rfl, rfl⟩ := H
    try go_wp2
    have n0_ := Aside0.mk (blk_drew BK255.out)
    have n1_ := Aside0.mk (below_drew1 HB.out)
    revert n0_ n1_
    clear BK255 HB
    intro BK255 HB
    refine start_ (n := 10) (S := fun w' => w'.cell? ⟨gb255, 0, none⟩ = some (.string a2_0) ∧ w'.cell? ⟨gb255, 1, none⟩ = some (.slice A2_1 l2_1.length c2_1)) (ds := []) #[false, false, false, false, false, false, false, false, false, false] (by kernel_rfl) rfl rfl ⟨(blk_cell BK255.out 0).trans rfl, (blk_cell BK255.out 1).trans rfl⟩ (fun hHeld => ?_); refine with_tabW clitic_AttachAll.tab3 clitic_AttachAll.bits3 (fun HT_ HW_ => ?_)
    generalize wc.drew = w29 at BK255 HB hHeld ⊢
    refine pT 0 27 ?_
    refine pT 2 29 ?_
    refine tTt 4 31 hHeld ?_
    refine one_ (i := 1) (N := some 28) #[true, true, true, false, true, false, false, false, false, false] rfl rfl (one_of HT_.out (by kernel_rfl)) (by decide) (fun K hK => ?_)
    refine goes_ Tryd.func31 (by kernel_rfl) rfl #[.slice A0 l0.length c0] (by rfl) rfl rfl Gc2 ?_
    with_reducible refine (clitic_Extended.calls _ _ l0 t262 _ (tC HR0 HB) HC0.out A27.out).mono ?_
    rintro e w30 ⟨v263, rfl, ho0, hb⟩
    refine ⟨_, rfl, ?_⟩
    have n0_ := Aside0.mk (Kd.R_lower ho0 (tS HB))
    have n1_ := Aside0.mk (blk_below (tK BK255) hb)
    have n2_ := Aside0.mk (below_step (tB HB) hb)
    revert n0_ n1_ n2_
    clear BK255 HB
    intro HO264 BK255 HB
    (try clear hb); (try clear ho0)
    obtain ⟨Ao31, co31, eo31⟩ := Kd.R_slice HO264.out
    (first | subst eo31 | (injection eo31 with f1_ f2_ f3_; have f4_ := f1_.symm; have f5_ := f3_.symm; clear f1_ f2_ f3_; subst f4_; subst f5_))
    refine hK.out _ _ ⟨(blk_cell BK255.out 0).trans rfl, (blk_cell BK255.out 1).trans rfl⟩ (fun hHeld => ?_)
    clear hK K
    refine nR 28 ?_
    refine pT 3 30 ?_
    refine one_ (i := 5) (N := some 32) #[true, true, true, true, true, true, false, false, false, false] rfl rfl (one_of HT_.out (by kernel_rfl)) (by decide) (fun K hK => ?_)
    refine goes_ Tryd.func32 (by kernel_rfl) rfl #[.agg #[.slice Ao31 t262.length co31, .slice A1 l1.length c1], .agg #[.string a2_0, .slice A2_1 l2_1.length c2_1]] (by rfl) rfl rfl Gc2 ?_
    with_reducible refine (clitic_joint_all.calls kj3 _ _ t262 _ _ l1 a2_0 _ _ l2_1 t265 t266 _ ?sT ?s1 ?s2 ?s3 ?s4 ?s5 ?s6 A28.out).mono ?_
    (case sT => exact Gc1)
    (case s1 => repeat (first | exact (Kd.R_reads' HO264.out).2.2 | (with_reducible refine Kd.C_alloc ?_ _) | (with_reducible refine Kd.C_drewN ?_ _) | (with_reducible refine Kd.C_drew ?_)))
    (case s2 => exact (Kd.R_reads' HO264.out).2.1)
    (case s3 => exact tC HR1 HB)
    (case s4 => exact HC1.out)
    (case s5 => exact tC HR2_1 HB)
    (case s6 => exact HC2_1.out)
    rintro e w32 ⟨rfl, hb⟩
    refine ⟨_, rfl, ?_⟩
    have n0_ := Aside0.mk (Kd.R_below (dR HO264) hb)
    have n1_ := Aside0.mk (blk_below (tK BK255) hb)
    have n2_ := Aside0.mk (below_step (tB HB) hb)
    revert n0_ n1_ n2_
    clear HO264 BK255 HB
    intro HO264 BK255 HB
    (try clear hb)
    refine hK.out _ _ ⟨(blk_cell BK255.out 0).trans rfl, (blk_cell BK255.out 1).trans rfl⟩ (fun hHeld => ?_)
    clear hK K
    refine nR 32 ?_
    refine pT 6 33 ?_
    refine pT 7 34 ?_
    refine pT 8 6 ?_
    refine pT 9 7 ?_
    refine done_ (done_of HT_.out (by kernel_rfl)) ?_
    try go_wp2
    exact LPrF16x1
def slices_Index_string_string.l0 : Nat → List ByteArray → ByteArray → Int → Int → Option (Int)
 | 0, _, _, _, _ => none
 | k + 1, x0, x1, x7, x8 => if x8 < x7 then (if 0 ≤ x8 then (if x8 < (x0.length : Int) then (if x1.toList = (rdOf ByteArray.empty x0 x8).toList then (some x8) else (slices_Index_string_string.l0 k x0 x1 x7 (wrap64 (x8 + 1)))) else (none)) else (none)) else (some (-1))
def slices_Index_string_string.f (k : Nat) (l0 : List ByteArray) (a1 : ByteArray) : Option (Int) := slices_Index_string_string.l0 k l0 a1 (l0.length : Int) 0
set_option maxHeartbeats 8000000 in
set_option maxRecDepth 100000 in
theorem slices_Index_string_string.calls (k : Nat) (A0 : Option Addr) (c0 : Nat) (l0 : List ByteArray) (a1 : ByteArray) (r : Int) (w : World) (hr0 : Kd.C Kd.string w A0 l0.length l0) (hc0 : l0.length ≤ c0) (h : slices_Index_string_string.f k l0 a1 = some r) :
 Calls Tryd.prog 45 #[.slice A0 l0.length c0, .string a1] w fun e w' => e = .returned (.int .i64 r) ∧ Drawn0 w w' := by
 have HR0 := Aside0.mk hr0
 have HC0 := Aside0.mk hc0
 clear hr0 hc0
 have H : (slices_Index_string_string.l0 k l0 a1 (l0.length : Int) 0) = some r := h
 clear h
 have H' := Aside0.mk H
 clear H
 go_enter Tryd.func45, Tryd.ntmps45
 go_wp2
 go_loopg [8] k (fun kq v8 w' => ∃ (x8_1 : Int), v8 = .int .i64 x8_1 ∧ Aside0 (slices_Index_string_string.l0 kq l0 a1 (l0.length : Int) x8_1 = some r) ∧ Aside0 (kq ≤ k) ∧ Drawn0 w w')
 case atStart => exact ⟨(0), tV1, H', ⟨Nat.le_refl _⟩, by repeat (first | exact Drawn0.refl _ | apply Drawn0.step)⟩
 case round =>
  clear H'
  obtain ⟨x8_1, rfl, HA, HK1, ⟨m1, rfl⟩⟩ := hrel
  cases gk with
  | zero => exact absurd HA.out (by simp [slices_Index_string_string.l0])
  | succ k1 =>
   have H := HA.out
   clear HA
   simp only [slices_Index_string_string.l0] at H
   replace H := iF H; obtain ⟨c3, H⟩ | ⟨c3, H⟩ := H
   ·
    have c3b0 : decide (x8_1 < (l0.length : Int)) = true := decide_eq_true c3
    clear c3
    replace H := iF H; obtain ⟨c4, H⟩ | ⟨c4, H⟩ := H
    ·
     have c4b0 : decide (0 ≤ x8_1) = true := decide_eq_true c4
     clear c4
     replace H := iF H; obtain ⟨c5, H⟩ | ⟨c5, H⟩ := H
     ·
      have c5b0 : decide (x8_1 < (l0.length : Int)) = true := decide_eq_true c5
      clear c5
      replace H := iE H; obtain ⟨-, c6b0, c6b1, H⟩ | ⟨c6, c6b0, c6b1, H⟩ := H
      ·
       obtain rfl := Option.some.inj H
       have p272 : 0 ≤ (x8_1 : Int) := oD
       have q272 : x8_1 < (l0.length : Int) := oD
       obtain ⟨ad272, e272, hx272_0⟩ := Kd.at_string HR0.out x8_1 p272 q272
       cases e272
       replace p272 := eq_true p272
       replace q272 := eq_true q272
       go_wp2
       go_ret
       exact ⟨by first | rfl | (simp; done) | (simp [*]; done), by repeat (first | exact Drawn0.refl _ | apply Drawn0.step)⟩
      ·
       have H' := Aside0.mk H
       clear H
       have p272 : 0 ≤ (x8_1 : Int) := oD
       have q272 : x8_1 < (l0.length : Int) := oD
       obtain ⟨ad272, e272, hx272_0⟩ := Kd.at_string HR0.out x8_1 p272 q272
       cases e272
       replace p272 := eq_true p272
       replace q272 := eq_true q272
       go_wp2
       go_roundg k1
       case measure => have := HK1.out; omega
       case rel => exact ⟨(wrap64 (x8_1 + 1)), tV1, H', ⟨by have := HK1.out; omega⟩, by repeat (first | exact Drawn0.refl _ | apply Drawn0.step)⟩
     ·
      exact absurd H (by simp)
    ·
     exact absurd H (by simp)
   ·
    have c3b0 : decide (x8_1 < (l0.length : Int)) = false := decide_eq_false c3
    clear c3
    obtain rfl := Option.some.inj H
    go_wp2
    go_ret
    exact ⟨by first | rfl | (simp; done) | (simp [*]; done), by repeat (first | exact Drawn0.refl _ | apply Drawn0.step)⟩
def slices_Contains_string_string.f (k : Nat) (l0 : List ByteArray) (a1 : ByteArray) : Option (Bool) := (slices_Index_string_string.f k l0 a1).bind fun t273 => (some (decide (t273 ≥ 0)))
set_option maxHeartbeats 8000000 in
set_option maxRecDepth 100000 in
theorem slices_Contains_string_string.calls (k : Nat) (A0 : Option Addr) (c0 : Nat) (l0 : List ByteArray) (a1 : ByteArray) (r : Bool) (w : World) (hr0 : Kd.C Kd.string w A0 l0.length l0) (hc0 : l0.length ≤ c0) (h : slices_Contains_string_string.f k l0 a1 = some r) :
 Calls Tryd.prog 28 #[.slice A0 l0.length c0, .string a1] w fun e w' => e = .returned (.bool r) ∧ Drawn0 w w' := by
 have HR0 := Aside0.mk hr0
 have HC0 := Aside0.mk hc0
 clear hr0 hc0
 have H : ((slices_Index_string_string.f k l0 a1).bind fun t273 => (some (decide (t273 ≥ 0)))) = some r := h
 clear h
 replace H := bI H; obtain ⟨t273, A3, H⟩ := H; (try dsimp only at H)
 obtain rfl := Option.some.inj H
 go_enter Tryd.func28, Tryd.ntmps28
 go_wp2_with (first | ((with_reducible refine gate_callee (f := 45) rfl ?_); refine goesL_ (some 7) rfl rfl Tryd.func45 (by kernel_rfl) rfl #[.slice A0 l0.length c0, .string a1] rfl Gc2 ?_; (with_reducible refine (slices_Index_string_string.calls k _ _ l0 a1 t273 _ ?s1 HC0.out A3.out).mono ?_); (case s1 => exact Gc5); rintro e w' ⟨rfl, ⟨nd, rfl⟩⟩; refine ⟨_, rfl, ?_⟩))
 go_ret
 exact ⟨by first | rfl | (simp; done) | (simp [*]; done), by repeat (first | exact Drawn0.refl _ | apply Drawn0.step)⟩
end Go.Proofs.YtfbhdjflkaldgaaDoor.Pr
