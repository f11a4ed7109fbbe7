/- concrete.Params: what it computes. -/
import Derived.Test.YtfbfopfhfeijdaaMg6
import Derived.Test.YtfbfopfhfeijdaaCt
namespace Go.Proofs.Ytfbfopfhfeijdaa.Pr
open Go.Proofs.Ytfbfopfhfeijdaa.Ct Go.RowKit Go.Proofs.YtfbfopfhfeijdaaW.PrintWords Go.Proofs.YtfbfopfhfeijdaaW.PrintLast Go.Proofs.YtfbfopfhfeijdaaW.PrintMore
set_option linter.unusedVariables false
set_option linter.unusedSimpArgs false
instance (l : List S90) : Decidable (goodD l) := by unfold goodD; infer_instance
/-- All records of some dimensions, each in the order of its names. -/
def allTail (k : Nat) (l : List S90) : Option (List (List S37)) := (feature_dimensions.f k l).bind fun b => if b = true then (if goodD l then some ((tup l []).map sortRec) else none) else some []
def concrete_Params.l0 : Nat → Int → List (S90) → Int → Int → ByteArray → List (S90) → List ByteArray → Option ((List (List (S37))))
 | 0, _, _, _, _, _, _, _ => none
 | k + 1, x3, x7, x8, x9, y0, y1, y2 => if x9 < x8 then (if 0 ≤ x9 then (if x9 < (x7.length : Int) then (if wrap64 (x3 * (((rd_T90 x7 x9).f1).length : Int)) > 64 then some [] else concrete_Params.l0 k (wrap64 (x3 * (((rd_T90 x7 x9).f1).length : Int))) x7 x8 (wrap64 (x9 + 1)) y0 y1 y2) else none) else none) else allTail k y1
def concrete_Params.f (k : Nat) (a0_0 : ByteArray) (l0_1 : List (S90)) (l0_2 : List ByteArray) : Option ((List (List (S37)))) := concrete_Params.l0 k 1 l0_1 (l0_1.length : Int) 0 a0_0 l0_1 l0_2
theorem sortsAll_eq {ps rs : List (List S37)} (h : SortsAll ps rs) (hn : ∀ p ∈ ps, (p.map (fun f => f.f0.toList)).Nodup) : rs = ps.map sortRec := by
  induction h with
  | nil => rfl
  | cons h _ ih => rw [List.map_cons, sorts_eq h (hn _ (by simp)), ih (fun p hp => hn p (by simp [hp]))]
set_option maxHeartbeats 8000000 in
set_option maxRecDepth 100000 in
theorem concrete_Params.calls (k : Nat) (a0_0 : ByteArray) (A0_1 : Option Addr) (c0_1 : Nat) (l0_1 : List (S90)) (A0_2 : Option Addr) (c0_2 : Nat) (l0_2 : List ByteArray) (r : List (List (S37))) (w : World) (hr0_1 : Kd.C k90 w A0_1 l0_1.length l0_1) (hc0_1 : l0_1.length ≤ c0_1) (hr0_2 : Kd.C Kd.string w A0_2 l0_2.length l0_2) (hc0_2 : l0_2.length ≤ c0_2) (h : concrete_Params.f k a0_0 l0_1 l0_2 = some r) :
 Calls Try.prog 30 #[.agg #[.string a0_0, .slice A0_1 l0_1.length c0_1, .slice A0_2 l0_2.length c0_2]] w fun e w' => ∃ v0_ : Value, e = .returned (v0_) ∧ Kd.N (Kd.slice 37 k37) 30 w' w.heap.size (fun k_ => (w.heap.size ≤ k_)) v0_ r ∧ Below w.heap.size w w' := by
 have hu68 := Try.underlying68
 have hu90 := Try.underlying90
 have HR0_1 := Aside0.mk hr0_1
 have HC0_1 := Aside0.mk hc0_1
 clear hr0_1 hc0_1
 have HR0_2 := Aside0.mk hr0_2
 have HC0_2 := Aside0.mk hc0_2
 clear hr0_2 hc0_2
 have HB := Aside0.mk (Below.refl w.heap.size w)
 have H : (concrete_Params.l0 k 1 l0_1 (l0_1.length : Int) 0 a0_0 l0_1 l0_2) = some r := h
 clear h
 have H' := Aside0.mk H
 clear H
 go_enter Try.func30, Try.ntmps30
 go_wp2_with (first | ((with_reducible refine gate_dst (N := 1) rfl ?_); refine box_event ?hg (N := 1) ?hd (cs := #[.string a0_0, .slice A0_1 l0_1.length c0_1, .slice A0_2 l0_2.length c0_2]) (t := 68) ?hr ?_; (case hd => rfl); (case hg => rfl); (case hr => first | (go_simp; done) | (go_simp; rfl)); intro gb484 hg w2 hbox hb; have n0_ := Aside0.mk (below_step (tB HB) hb); have n1_ := Aside0.mk (hbox); have n2_ := tZ hg (tS HB); have n3_ := tZ hg (tS HB); revert n0_ n1_ n2_ n3_; clear HB; intro HB BK484 GW484 GE484; clear hb hbox hg; have hcz3_0 := cel2 BK484 0 rfl; have hcz3_1 := cel2 BK484 1 rfl; have hcz3_2 := cel2 BK484 2 rfl; have hfz3_0 := blk_frozen BK484.out 0; have hfz3_1 := blk_frozen BK484.out 1; have hfz3_2 := blk_frozen BK484.out 2))
 go_loopg [3, 9] k (fun kq v3 v9 w' => ∃ (x3_1 : Int) (x9_1 : Int), v3 = .int .i64 x3_1 ∧ v9 = .int .i64 x9_1 ∧ Aside0 (concrete_Params.l0 kq x3_1 l0_1 (l0_1.length : Int) x9_1 a0_0 l0_1 l0_2 = some r) ∧ Aside0 (kq ≤ k) ∧ Aside0 (w'.heap[gb484]? = some (.cells #[.string a0_0, (.slice A0_1 l0_1.length c0_1), (.slice A0_2 l0_2.length c0_2)] 68 (0, 0))) ∧ Aside0 (Below w.heap.size w w'))
 case atStart => exact ⟨(1), (0), tV1, tV1, H', ⟨Nat.le_refl _⟩, ⟨tK BK484⟩, ⟨tB HB⟩⟩
 case round =>
  clear H'; (try clear hcz3_0); (try clear hcz3_1); (try clear hcz3_2); (try clear hfz3_0); (try clear hfz3_1); (try clear hfz3_2)
  obtain ⟨x3_1, x9_1, rfl, rfl, HA, HK1, BK484, HB⟩ := hrel
  cases gk with
  | zero => exact absurd HA.out (by simp [concrete_Params.l0])
  | succ k1 =>
   have H := HA.out
   clear HA
   simp only [concrete_Params.l0] at H
   by_cases c4 : x9_1 < (l0_1.length : Int)
   ·
    rw [if_pos c4] at H
    have c4b0 : decide (x9_1 < (l0_1.length : Int)) = true := decide_eq_true c4
    clear c4
    by_cases c5 : 0 ≤ x9_1
    ·
     rw [if_pos c5] at H
     have c5b0 : decide (0 ≤ x9_1) = true := decide_eq_true c5
     clear c5
     by_cases c6 : x9_1 < (l0_1.length : Int)
     ·
      rw [if_pos c6] at H
      have c6b0 : decide (x9_1 < (l0_1.length : Int)) = true := decide_eq_true c6
      clear c6
      obtain ⟨ji7, hji7⟩ : ∃ j_ : Int, (wrap64 (x3_1 * (((rd_T90 l0_1 x9_1).f1).length : Int))) = j_ := ⟨_, rfl⟩
      simp only [hji7] at H
      have p485 : 0 ≤ (x9_1 : Int) := oD
      have q485 : x9_1 < (l0_1.length : Int) := oD
      obtain ⟨ad485, A485_1, c485_1, e485, hx485_0, hx485_1, hl485_1, hi485_1⟩ := at_T90 HR0_1.out x9_1 p485 q485
      cases e485
      replace hx485_0 := celB HB hx485_0
      replace hx485_1 := celB HB hx485_1
      have HR485_1 := Aside0.mk hi485_1
      have HC485_1 := Aside0.mk hl485_1
      clear hi485_1 hl485_1
      replace p485 := eq_true p485
      replace q485 := eq_true q485
      by_cases c7 : ji7 > 64
      ·
       rw [if_pos c7] at H
       have c7b0 : decide (64 < ji7) = true := decide_eq_true c7
       clear c7
       obtain rfl := Option.some.inj H
       go_wp2_with (first | ((with_reducible refine gate_dst (N := 5) rfl ?_); refine box_event ?hg (N := 5) ?hd (cs := #[.string (⟨#[]⟩ : ByteArray), .slice none 0 0]) (t := 90) ?hr ?_; (case hd => rfl); (case hg => rfl); (case hr => first | (go_simp; done) | (go_simp; rfl)); intro gb486 hg w8 hbox hb; have n0_ := Aside0.mk (blk_below (tK BK484) hb); have n1_ := Aside0.mk (below_step (tB HB) hb); have n2_ := Aside0.mk (hbox); have n3_ := tZ hg (tS HB); have n4_ := tZ hg (tS HB); have n5_ := tL hg (tK BK484); have n6_ := tG hg (tK BK484); revert n0_ n1_ n2_ n3_ n4_ n5_ n6_; clear BK484 HB; intro BK484 HB BK486 GW486 GE486 NB484_486 NB486_484; clear hb hbox hg; have hnb9 := NB486_484.out; have hnc9 := NB484_486.out; have hcz10_0 := cel2 BK486 0 rfl; have hcz10_1 := cel2 BK486 1 rfl; have hfz10_0 := blk_frozen BK486.out 0; have hfz10_1 := blk_frozen BK486.out 1))
       go_ret
       exact ⟨_, tE, Kd.N_nil _ _ _ _ _, by repeat (first | (with_reducible first | exact HB.out | apply below_alloc | apply pw_below_drewN | apply below_drew1 | refine below_set ?_ GE486.out) | exact HB.out)⟩
      ·
       rw [if_neg c7] at H
       have c7b0 : decide (64 < ji7) = false := decide_eq_false c7
       clear c7
       have H' := Aside0.mk H
       clear H
       go_wp2_with (first | ((with_reducible refine gate_dst (N := 5) rfl ?_); refine box_event ?hg (N := 5) ?hd (cs := #[.string (⟨#[]⟩ : ByteArray), .slice none 0 0]) (t := 90) ?hr ?_; (case hd => rfl); (case hg => rfl); (case hr => first | (go_simp; done) | (go_simp; rfl)); intro gb486 hg w8 hbox hb; have n0_ := Aside0.mk (blk_below (tK BK484) hb); have n1_ := Aside0.mk (below_step (tB HB) hb); have n2_ := Aside0.mk (hbox); have n3_ := tZ hg (tS HB); have n4_ := tZ hg (tS HB); have n5_ := tL hg (tK BK484); have n6_ := tG hg (tK BK484); revert n0_ n1_ n2_ n3_ n4_ n5_ n6_; clear BK484 HB; intro BK484 HB BK486 GW486 GE486 NB484_486 NB486_484; clear hb hbox hg; have hnb9 := NB486_484.out; have hnc9 := NB484_486.out; have hcz10_0 := cel2 BK486 0 rfl; have hcz10_1 := cel2 BK486 1 rfl; have hfz10_0 := blk_frozen BK486.out 0; have hfz10_1 := blk_frozen BK486.out 1))
       go_roundg k1
       case measure => have := HK1.out; omega
       case rel => exact ⟨(ji7), (wrap64 (x9_1 + 1)), (by first | rfl | (simp; done) | (simp only [← hji7] <;> (first | rfl | simp)) | (simp [*]; done)), tV1, H', ⟨by have := HK1.out; omega⟩, ⟨tK BK484⟩, ⟨tB HB⟩⟩
     ·
      rw [if_neg c6] at H
      exact absurd H (by simp)
    ·
     rw [if_neg c5] at H
     exact absurd H (by simp)
   ·
    rw [if_neg c4] at H
    have c4b0 : decide (x9_1 < (l0_1.length : Int)) = false := decide_eq_false c4
    clear c4
    unfold allTail at H
    replace H := Option.bind_eq_some_iff.mp H
    obtain ⟨b, hb, H⟩ := H
    have hsm : b = true → goodD l0_1 ∧ r = (tup l0_1 []).map sortRec := by
      intro e
      subst e
      rw [if_pos rfl] at H
      by_cases hg : goodD l0_1
      · rw [if_pos hg] at H; exact ⟨hg, (Option.some.inj H).symm⟩
      · rw [if_neg hg] at H; exact absurd H (by simp)
    have hfl : b = false → r = [] := by
      intro e
      subst e
      rw [if_neg (by decide)] at H
      exact (Option.some.inj H).symm
    clear H
    obtain ⟨hcz15_0, hcz15_1, hcz15_2, hfz15_0, hfz15_1, hfz15_2⟩ := bx3 BK484
    have hcol := fun w' (hw' : Below w.heap.size w w') => collected k1 1000000 A0_1 c0_1 l0_1 b w' (tC HR0_1 ⟨hw'⟩) HC0_1.out hb (fun e => ⟨(hsm e).1.1, (hsm e).1.2.1, (hsm e).1.2.2.1⟩) w.heap.size hw'.size
    have hsm' := Aside0.mk hsm
    have hfl' := Aside0.mk hfl
    clear hsm hfl hb
    go_wp2_with (first | (go_at_call 46; refine (all_calls _ _ _ _).mono ?_; rintro e w9 ⟨rfl, rfl⟩) | (go_at_call 45; refine (hcol _ HB.out).mono ?_; clear hcol; rintro e w10 ⟨v, rs, rfl, h1, h2, h3⟩))
    go_ret
    have hrs : rs = r := by
      rcases h3 with ⟨hbt, hs⟩ | ⟨hbf, hs⟩
      · obtain ⟨hg, hr⟩ := hsm'.out hbt
        rw [hr]
        exact sortsAll_eq hs (fun p hp => by rw [tup_names l0_1 [] p hp]; simpa using hg.2.2.2)
      · rw [hs, hfl'.out hbf]
    subst hrs
    exact ⟨v, rfl, h1, HB.out.trans (h2.mono HB.out.size)⟩
#print axioms concrete_Params.calls
end Go.Proofs.Ytfbfopfhfeijdaa.Pr
