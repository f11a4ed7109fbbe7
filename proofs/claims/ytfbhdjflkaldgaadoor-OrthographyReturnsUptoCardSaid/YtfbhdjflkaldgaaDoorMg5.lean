/- Several texts in one: PatV, PatR, PrF101. -/
import Derived.Test.YtfbhdjflkaldgaaDoorMg4
import Derived.Test.YtfbhdjflkaldgaaDoorMg3
import Derived.Test.YtfbhdjflkaldgaaDoorMg1
import Derived.Test.YtfbhdjflkaldgaaDoorCt
/- pattern.proper, pattern.over, pattern.Valid. -/
/- pattern.read. -/
namespace Go.Proofs.YtfbhdjflkaldgaaDoor.Pr
open Go.Proofs.YtfbhdjflkaldgaaDoor.Ct Go.RowKit Go.Maps Go.Lib Go.Proofs.YtfbhdjflkaldgaaDoorW.PrintWords Go.Proofs.YtfbhdjflkaldgaaDoorW.PrintLast Go.Proofs.YtfbhdjflkaldgaaDoorW.PrintMore
set_option linter.unusedVariables false
set_option linter.unusedSimpArgs false
def properP (l : List S80) : Bool := (l.all fun x => goodR x.f0) && (onceI l l.length && decide (l.length ≤ 65))
theorem once_step (l : List S80) (i : Nat) : onceI l (i + 1) = (onceI l i && (look l i (rd_T80 l (i : Int)).f0).isNone) := by
  unfold onceI; rw [List.range_succ, List.all_append]; simp
theorem once_mono (l : List S80) (i : Nat) (h : onceI l i = false) : ∀ n, i ≤ n → onceI l n = false := by
  intro n
  induction n with
  | zero => intro hi; obtain rfl : i = 0 := by omega
            exact h
  | succ n ih =>
    intro hi
    by_cases e : i = n + 1
    · subst e; exact h
    · rw [once_step, ih (by omega)]; rfl
theorem LPatVx1 {p : Prop} (h : p := by
  go_wp2_with (at_lookup; refine wpList_lookup_own_ok_int _ rfl _ _ 115 rfl 21 3 .i64 keyR Tryd.underlying115 Tryd.underlying3 (zeroI _) w.heap.size i (mapI l0 i) rfl (HO.out.alloc _) _ _ rfl hkey ?_; intro cc hat hwc)
  go_ret2
  exact ⟨⟨_, rfl, fun h => by cases h⟩, hB1'.out⟩) : p := h
set_option maxRecDepth 100000 in
set_option maxHeartbeats 1000000 in
theorem proper_calls (A0 : Option Addr) (c0 : Nat) (l0 : List S80) (w : World) (hr0 : Kd.C k80 w A0 l0.length l0) (hc0 : l0.length ≤ c0) (hwf : ∀ x ∈ l0, (Lit.int .i32 x.f0).wf = true) :
    Calls Tryd.prog 80 #[.slice A0 l0.length c0] w fun e w' => (∃ v, e = .returned (.tuple #[v, .bool (properP l0)]) ∧ (properP l0 = true → v = .map (some w.heap.size) ∧ w'.ownsMap Tryd.prog 21 (plainElem (H := Unit) Tryd.prog 3) w.heap.size l0.length (mapI l0 l0.length))) ∧ Below w.heap.size w w' := by
  have hmm := @run_makeMap_hint Tryd.prog 115 _ _ Tryd.underlying115
  have hL : l0.length ≤ 9223372036854775807 := hr0.2.1
  have HR := Aside0.mk hr0
  have HC := Aside0.mk hc0
  have HW := Aside0.mk hwf
  have HL := Aside0.mk hL
  obtain ⟨r, hr⟩ : ∃ r, properP l0 = r := ⟨_, rfl⟩
  rw [hr]
  have hr' := Aside0.mk hr
  clear hr0 hc0 hwf hL hr
  go_enter Tryd.func80, Tryd.ntmps80
  go_wp2
  go_loopg [14] l0.length (fun kq v14 w' => ∃ i : Nat, v14 = .int .i64 (i : Int) ∧ Aside0 (i + kq = l0.length) ∧ Aside0 (r = (((l0.drop i).all fun x => goodR x.f0) && (onceI l0 l0.length && decide (l0.length ≤ 65)))) ∧ Aside0 (w'.ownsMap Tryd.prog 21 (plainElem (H := Unit) Tryd.prog 3) w.heap.size i (mapI l0 i)) ∧ Aside0 (onceI l0 i = true) ∧ Aside0 (Below w.heap.size w w'))
  case atStart => exact ⟨0, rfl, ⟨by omega⟩, ⟨by rw [List.drop_zero]; exact hr'.out.symm⟩, ⟨World.ownsMap_made _ _ _ _⟩, ⟨rfl⟩, ⟨(Below.refl _ _).alloc (Nat.le_refl _) _⟩⟩
  case round =>
    obtain ⟨i, rfl, hik, hri, HO, HU, HB⟩ := hrel
    cases gk with
    | zero =>
      have h3 : ¬ ((i : Int) < (l0.length : Int)) := by have := hik.out; omega
      have hrv : r = decide ((l0.length : Int) ≤ 65) := by
        have hu := HU.out
        rw [show i = l0.length from by have := hik.out; omega] at hu
        rw [hri.out, List.drop_eq_nil_of_le (by have := hik.out; omega), List.all_nil, Bool.true_and, hu, Bool.true_and]
        exact decide_eq_decide.2 (by omega)
      have hrv' := Aside0.mk hrv
      clear hrv
      go_wp2
      go_ret2
      obtain rfl : i = l0.length := by have := hik.out; omega
      exact ⟨⟨.map (some w.heap.size), by rw [hrv'.out]; first | rfl | done, fun _ => ⟨rfl, HO.out⟩⟩, HB.out⟩
    | succ g1 =>
      have h3 : (i : Int) < (l0.length : Int) := by have := hik.out; omega
      have h4 : 0 ≤ (i : Int) := by omega
      obtain ⟨ad, hA, hx0, hx1⟩ := at_T80 HR.out (i : Int) h4 h3
      subst hA
      rw [Int.toNat_natCast] at hx0 hx1
      replace hx0 := (HB.out.cell (World.block_lt_of_cell? _ _ hx0)).trans hx0
      replace hx1 := (HB.out.cell (World.block_lt_of_cell? _ _ hx1)).trans hx1
      have hwx := HW.out _ (mem_rd l0 i (by have := hik.out; omega))
      have hlt : i < l0.length := by have := hik.out; omega
      have hdr := drop_rd l0 i hlt
      have hst := once_step l0 i
      have hms : mapI l0 (i + 1) = if Maps.has (mapI l0 i) (rkey (rd_T80 l0 (i : Int)).f0) = true then mapI l0 i else (mapI l0 i).put (rkey (rd_T80 l0 (i : Int)).f0) (.lit (.int .i64 (i : Int))) := rfl
      obtain ⟨R, hRR⟩ : ∃ R, (rd_T80 l0 (i : Int)).f0 = R := ⟨_, rfl⟩
      obtain ⟨R1, hR1⟩ : ∃ R1, (rd_T80 l0 (i : Int)).f1 = R1 := ⟨_, rfl⟩
      rw [hRR] at hx0 hwx hms hst
      rw [hR1] at hx1
      have hkey : keyOf Tryd.prog 21 (.int .i32 R) = some (rkey R) := keyOf_int_mk Tryd.underlying21 hwx
      have hi64 : (Lit.int .i64 (i : Int)).wf = true := by
        have := HL.out
        exact WalkArith.wf_i64 (by omega)
      have hri2 : r = ((goodR R && ((l0.drop (i + 1)).all fun x => goodR x.f0)) && (onceI l0 l0.length && decide (l0.length ≤ 65))) := by rw [hri.out, hdr, List.all_cons, hRR]
      have hB1 : Below w.heap.size w (wr.alloc (.cells #[.int .i32 R, .int .u32 R1] 80)) := HB.out.alloc HB.out.size _
      have hmx : i < maxLen := by have := HL.out; simp only [maxLen]; omega
      have hfin : wrap64 ((i : Int) + 1) = ((i + 1 : Nat) : Int) := idx_next hlt HL.out
      have hz := has_mapI l0 R i
      have hfin' := Aside0.mk hfin
      have hmx' := Aside0.mk hmx
      have hi' := Aside0.mk hi64
      have hB1' := Aside0.mk hB1
      have hlt' := Aside0.mk hlt
      have hri2' := Aside0.mk hri2
      have hms' := Aside0.mk hms
      have hst' := Aside0.mk hst
      clear hfin hmx hi64 hB1 hlt hri2 hdr hRR hR1 hms hst hwx
      by_cases hh : Maps.has (mapI l0 i) (rkey R) = true
      · have hno : onceI l0 (i + 1) = false := by
          rw [hst'.out, HU.out, Bool.true_and]
          rw [hz] at hh
          cases e : look l0 i R with
          | none => rw [e] at hh; cases hh
          | some j => rfl
        obtain rfl : r = false := by rw [hri2'.out, once_mono l0 _ hno _ (by have := hlt'.out; omega)]; simp
        have hh' := Aside0.mk hh
        clear hz hno
        exact LPatVx1
      · have hhf : Maps.has (mapI l0 i) (rkey R) = false := by simpa using hh
        have hu2 : onceI l0 (i + 1) = true := by
          rw [hst'.out, HU.out, Bool.true_and]
          rw [hz] at hh
          cases e : look l0 i R with
          | none => rfl
          | some j => rw [e] at hh; exact absurd rfl hh
        have hu2' := Aside0.mk hu2
        have hh' := Aside0.mk hh
        clear hz hu2 hh
        by_cases c1 : R ≤ 32
        · obtain rfl : r = false := by rw [hri2'.out]; unfold goodR; rw [decide_eq_false (show ¬ 32 < R by omega)]; rfl
          exact LPatVx1
        · cases c2 : Lib.validRune R with
          | false =>
            obtain rfl : r = false := by rw [hri2'.out]; unfold goodR; rw [c2]; simp
            have hvr := fun w => Tryd.utf8_ValidRune R w
            rw [c2] at hvr
            go_wp2_with (first | (at_lookup; refine wpList_lookup_own_ok_int _ rfl _ _ 115 rfl 21 3 .i64 keyR Tryd.underlying115 Tryd.underlying3 (zeroI _) w.heap.size i (mapI l0 i) rfl (HO.out.alloc _) _ _ rfl hkey ?_; intro cc hat hwc) | (go_at_call 63; refine (hvr _).mono ?_; rintro e w9 ⟨rfl, rfl⟩))
            go_ret2
            exact ⟨⟨_, rfl, fun h => by cases h⟩, hB1'.out⟩
          | true =>
            have hvr := fun w => Tryd.utf8_ValidRune R w
            rw [c2] at hvr
            have hg : goodR R = true := by unfold goodR; rw [c2, decide_eq_true (show 32 < R by omega)]; rfl
            have hg' := Aside0.mk hg
            clear hg
            go_wp2_with (first | (at_lookup; refine wpList_lookup_own_ok_int _ rfl _ _ 115 rfl 21 3 .i64 keyR Tryd.underlying115 Tryd.underlying3 (zeroI _) w.heap.size i (mapI l0 i) rfl (HO.out.alloc _) _ _ rfl hkey ?_; intro cc hat hwc) | (go_at_call 63; refine (hvr _).mono ?_; rintro e w9 ⟨rfl, rfl⟩) | (at_mapUpdate; refine wpList_mapUpdate_own _ rfl _ _ _ 115 rfl 21 3 keyR Tryd.underlying115 _ w.heap.size i (mapI l0 i) rfl (HO.out.alloc _) hmx'.out _ _ _ rfl rfl hkey _ [] (plainElem_int Tryd.underlying3 hi'.out) ?_; intro w1 hown1 hgrow1))
            go_roundg g1
            case measure => omega
            case rel =>
              refine ⟨i + 1, by rw [hfin'.out], ⟨by have := hik.out; omega⟩, ⟨by rw [hri2'.out, hg'.out, Bool.true_and]⟩, ⟨?_⟩, hu2', ⟨hB1'.out.grown hgrow1 hB1'.out.size (fun j hj => by cases hj; exact Nat.le_refl _)⟩⟩
              rw [hms'.out, if_neg hh'.out]
              exact hown1
def overQ (l : List S80) (s : ByteArray) : List Int × Bool := if validD s.data.toList = true ∧ (runesS s).all (isL l) = true then ((runesS s).map (idxI l), true) else ([], false)
set_option maxRecDepth 100000 in
set_option maxHeartbeats 1000000 in
theorem over_calls (l : List S80) (a1 : ByteArray) (w : World) (b : Nat) (hT : Tabs w) (hsz : a1.size ≤ 1099511627776) (hlb : b < w.heap.size)
    (HO : w.ownsMap Tryd.prog 21 (plainElem (H := Unit) Tryd.prog 3) b l.length (mapI l l.length)) :
    Calls Tryd.prog 81 #[.map (some b), .string a1] w fun e w' => ∃ v : Value, e = .returned (.tuple #[v, .bool (overQ l a1).2]) ∧ Kd.R (Kd.int .i64) 3 w' w.heap.size (fun _ => True) v (overQ l a1).1 ∧ Below w.heap.size w w' := by
  have hv := utf8_ValidString.calls a1 (validD a1.data.toList) w hT Gc21
  obtain ⟨i0, hi0, hz0, hz1, hz2⟩ := info_parts info3
  have hG := Aside0.mk hsz
  have hLb := Aside0.mk hlb
  have HO' := Aside0.mk HO
  clear hsz hlb hT HO
  cases hvd : validD a1.data.toList with
  | false =>
    have hov : overQ l a1 = ([], false) := by unfold overQ; rw [if_neg]; rintro ⟨h, _⟩; rw [hvd] at h; cases h
    rw [hov]
    rw [hvd] at hv
    clear hvd
    go_enter Tryd.func81, Tryd.ntmps81
    go_wp2_with (first | (go_at_call 36; refine hv.mono ?_; clear hv; rintro e w1 ⟨rfl, hB1⟩))
    go_ret2
    exact ⟨_, rfl, Kd.R_nil _ _ _ _ _, hB1⟩
  | true =>
    have hov : overQ l a1 = if (runesS a1).all (isL l) = true then ((runesS a1).map (idxI l), true) else ([], false) := by unfold overQ; simp [hvd]
    obtain ⟨q, hq0⟩ : ∃ q, overQ l a1 = q := ⟨_, rfl⟩
    rw [hq0] at hov ⊢
    have hov' := Aside0.mk hov
    obtain ⟨q1, q2⟩ := q
    rw [hvd] at hv
    clear hvd hov hq0
    go_enter Tryd.func81, Tryd.ntmps81
    go_wp2_with (first | (go_at_call 36; refine hv.mono ?_; clear hv; rintro e w1 ⟨rfl, hB1⟩))
    have hBK : Below w.heap.size w (w1.iter a1 0) := hB1.alloc hB1.size _
    have hBK' := Aside0.mk hBK
    have hs1 := Aside0.mk hB1.size
    have HO1 := Aside0.mk ((ownsMap_block HO'.out hB1).alloc (.stringIter a1 0))
    clear hBK hB1
    go_loopg [6] a1.size (fun kq v6 w' => ∃ (pos : Nat) (done : List Int), Aside0 (w'.heap[w1.heap.size]? = some (.stringIter a1 pos)) ∧ Aside0 (a1.size - pos ≤ kq) ∧ Aside0 (done ++ runesAt a1 pos = runesS a1) ∧ Aside0 (done.all (isL l) = true) ∧ Aside0 (w'.ownsRow w.heap.size 3 1 v6 done.length ((done.map (idxI l)).map (Value.int .i64))) ∧ Aside0 (w'.ownsMap Tryd.prog 21 (plainElem (H := Unit) Tryd.prog 3) b l.length (mapI l l.length)) ∧ Aside0 (Below w.heap.size w w'))
    case atStart => exact ⟨0, [], ⟨World.iter_heap w1 a1 0⟩, ⟨by omega⟩, ⟨by rw [runesAt_zero]; rfl⟩, ⟨rfl⟩, ⟨World.ownsRow_nil _ _ _ _⟩, HO1, hBK'⟩
    case round =>
      obtain ⟨pos, done, hit, hq, hdone, hall, hO, HM, HB⟩ := hrel
      obtain ⟨ao, cap, hv6⟩ := row_shape hO.out
      subst hv6
      by_cases hp : pos < a1.size
      · obtain ⟨g1, rfl⟩ : ∃ g1, gk = g1 + 1 := ⟨gk - 1, by have := hq.out; omega⟩
        have hnx : ∀ ty, (Instr.next (.pointer (some ⟨w1.heap.size, 0, none⟩)) true ty).run Tryd.prog wr = _ := fun ty => run_next_any_at wr w1.heap.size a1 pos ty hit.out hp
        have hsc := scalar_at a1 pos
        have hst := runesAt_step hp
        have hwd := width_at hp
        obtain ⟨R, hRR⟩ : ∃ R : Int, ((Utf8.decode a1 pos).1 : Int) = R := ⟨_, rfl⟩
        rw [hRR] at hsc hst
        simp only [hRR] at hnx
        obtain ⟨pos2, hp2⟩ : ∃ p2, pos + (Utf8.decode a1 pos).2 = p2 := ⟨_, rfl⟩
        rw [hp2] at hst hnx
        obtain ⟨W1, hW1⟩ : ∃ W1, wr.iterAt w1.heap.size a1 pos2 = W1 := ⟨_, rfl⟩
        have hB1 : Below w.heap.size w W1 := by rw [← hW1]; exact below_iterAt HB.out hs1.out _ _
        have hit1 : W1.heap[w1.heap.size]? = some (.stringIter a1 pos2) := by rw [← hW1]; exact iterAt_heap _ _ _ _ _ hit.out
        have hO1 : W1.ownsRow w.heap.size 3 1 (.slice ao done.length cap) done.length ((done.map (idxI l)).map (Value.int .i64)) := by rw [← hW1]; exact row_iter hO.out hit.out _
        have hM1 : W1.ownsMap Tryd.prog 21 (plainElem (H := Unit) Tryd.prog 3) b l.length (mapI l l.length) := by rw [← hW1]; exact ownsMap_heap HM.out (iterAt_other wr w1.heap.size b a1 pos2 (by have := hLb.out; have := hs1.out; omega))
        simp only [hW1] at hnx
        have hkey : keyOf Tryd.prog 21 (.int .i32 R) = some (rkey R) := keyOf_int_mk Tryd.underlying21 (scalar_wf hsc)
        have hz := has_mapI l R l.length
        have hst' := Aside0.mk hst
        have hw' : Aside0 (pos < pos2) := ⟨by omega⟩
        have hB1' := Aside0.mk hB1
        have hit1' := Aside0.mk hit1
        have hO1' := Aside0.mk hO1
        have hM1' := Aside0.mk hM1
        clear hst hsc hwd hp hB1 hit1 hO1 hW1 hp2 hRR hM1
        cases hLk : look l l.length R with
        | none =>
          have hhas : Maps.has (mapI l l.length) (rkey R) = false := by rw [hz, hLk]; rfl
          have hov : (if (runesS a1).all (isL l) = true then ((runesS a1).map (idxI l), true) else (([] : List Int), false)) = ([], false) := by
            rw [if_neg]
            rw [← hdone.out, List.all_append, hst'.out, List.all_cons]
            unfold isL
            rw [hLk]
            simp
          obtain ⟨e1, e2⟩ := Prod.mk.inj (hov'.out.trans hov)
          subst e1 e2
          clear hov hz hLk
          go_wp2_with (at_lookup; refine wpList_lookup_own_ok_int _ rfl _ _ 115 rfl 21 3 .i64 keyR Tryd.underlying115 Tryd.underlying3 (zeroI _) b l.length (mapI l l.length) rfl hM1'.out _ _ rfl hkey ?_; intro cc hat hwc)
          go_ret2
          exact ⟨_, rfl, Kd.R_nil _ _ _ _ _, hB1'.out⟩
        | some j =>
          have hhas : Maps.has (mapI l l.length) (rkey R) = true := by rw [hz, hLk]; rfl
          have hat0 := Aside0.mk (at_mapI l R (.lit (.int .i64 0)) _ _ hLk)
          have hX : idxI l R = (j : Int) := by unfold idxI; rw [hLk]
          have hL : isL l R = true := by unfold isL; rw [hLk]; rfl
          have hX' := Aside0.mk hX
          have hL' := Aside0.mk hL
          have hdl : done.length ≤ 1099511627776 := by
            have h1 := congrArg List.length hdone.out
            have h2 := runesS_length a1
            have h3 := hG.out
            rw [List.length_append] at h1
            omega
          have hdl' := Aside0.mk hdl
          clear hz hLk hX hL hdl
          go_wp2_with (first | (at_lookup; refine wpList_lookup_own_ok_int _ rfl _ _ 115 rfl 21 3 .i64 keyR Tryd.underlying115 Tryd.underlying3 (zeroI _) b l.length (mapI l l.length) rfl hM1'.out _ _ rfl hkey ?_; intro cc hat hwc; obtain rfl : cc = (j : Int) := (by have := hat0.out.symm.trans hat; injection this with this; injection this with _ this; exact this.symm)) | ((with_reducible refine gate_builtin (b := .append) (xs := #[.tmp 27, .tmp 29]) rfl ?_); at_builtin; refine wpList_append_own _ rfl (.tmp 27) (.tmp 29) 124 rfl w.heap.size 3 i0 (.int .i64 0) 1 8 Tryd.underlying124 hi0 hz0 hz1 hz2 rfl (by decide) (.slice ao done.length cap) done.length ((done.map (idxI l)).map (Value.int .i64)) rfl (World.ownsRow.alloc (show W1.ownsRow _ _ _ _ _ _ from hO1'.out) _) ⟨W1.heap.size, 0, none⟩ 1 1 [.int .i64 (j : Int)] rfl rfl ?aC (by simp [Value.oneCell']) ?aM ?aB ?aS ?_; (case aC => exact cells_one W1 _ _); (case aM => exact Gc24); (case aB => have := hdl'.out; omega); (case aS => have := hB1'.out.size; simp; omega); intro v2 w2 ho2 hg2 hi2))
          have hB2 : Below w.heap.size w w2 := ((hB1'.out.alloc (by have := hB1'.out.size; simpa using this) _)).grown hg2 (by have := hB1'.out.size; simp; omega) (fun k e => row_own_ge hO1'.out k e)
          have hlt : w1.heap.size < W1.heap.size := (Array.getElem?_eq_some_iff.1 hit1'.out).1
          have hit2 : w2.heap[w1.heap.size]? = some (.stringIter a1 pos2) := by
            refine (hg2.block _ (by simp; omega) (row_ne_iter hO1'.out hit1'.out)).trans ?_
            exact (Below.heap_alloc W1 _ _ hlt).trans hit1'.out
          have hM2 : w2.ownsMap Tryd.prog 21 (plainElem (H := Unit) Tryd.prog 3) b l.length (mapI l l.length) := by
            refine ownsMap_heap (hM1'.out.alloc _) (hg2.block _ (by have := hLb.out; have := hs1.out; simp; omega) ?_)
            intro e
            have := row_own_ge hO1'.out b e.symm
            have := hLb.out
            omega
          go_roundg g1
          case measure => omega
          case rel =>
            refine ⟨pos2, done ++ [R], ⟨hit2⟩, ⟨by have := hq.out; have := hw'.out; omega⟩, ⟨by rw [List.append_assoc, List.singleton_append, ← hst'.out]; exact hdone.out⟩, ⟨by rw [List.all_append, hall.out]; simp [hL'.out]⟩, ⟨?_⟩, ⟨hM2⟩, ⟨hB2⟩⟩
            rw [List.length_append, List.map_append, List.map_append]
            simp only [List.map_cons, List.map_nil, hX'.out, List.length_cons, List.length_nil]
            exact ho2
      · have hnx : ∀ ty, (Instr.next (.pointer (some ⟨w1.heap.size, 0, none⟩)) true ty).run Tryd.prog wr = _ := fun ty => run_next_end_at wr w1.heap.size a1 pos ty hit.out hp
        have hre := runesAt_end hp
        have hd : done = runesS a1 := by rw [← hdone.out, hre, List.append_nil]
        have hov : (if (runesS a1).all (isL l) = true then ((runesS a1).map (idxI l), true) else (([] : List Int), false)) = (done.map (idxI l), true) := by
          rw [← hd, if_pos hall.out]
        obtain ⟨e1, e2⟩ := Prod.mk.inj (hov'.out.trans hov)
        subst e1 e2
        clear hre hd hov hp
        go_wp2
        go_ret2
        exact ⟨.slice ao done.length cap, rfl, int_R (by rw [List.length_map]; exact hO.out), HB.out⟩
theorem mem_item (l : List S82) (i : Nat) (h : i < l.length) : rd_T82 l (i : Int) ∈ l := by
  unfold rd_T82
  rw [Int.toNat_natCast, List.getD_eq_getElem?_getD, List.getElem?_eq_getElem h]
  exact List.getElem_mem h
theorem drop_item (l : List S82) (i : Nat) (h : i < l.length) : l.drop i = rd_T82 l (i : Int) :: l.drop (i + 1) := by
  rw [List.drop_eq_getElem_cons h]
  congr 1
  unfold rd_T82
  rw [Int.toNat_natCast, List.getD_eq_getElem?_getD, List.getElem?_eq_getElem h]
  rfl
def itemsP (l : List S80) (p : List S82) : Bool := p.all fun x => (overQ l x.f1).2
def patP (l : List S80) (p : List S82) : Bool := properP l && (decide (p.length ≤ 3) && itemsP l p)
def smallP (p : List S82) : Bool := p.all fun x => decide (x.f1.size ≤ 1099511627776)
def pattern_Valid.f (l0 : List S80) (l1 : List S82) : Option Bool := if runesOk l0 = true ∧ smallP l1 = true then some (patP l0 l1) else none
set_option maxRecDepth 100000 in
set_option maxHeartbeats 1000000 in
theorem pattern_Valid.calls (A0 : Option Addr) (c0 : Nat) (l0 : List S80) (A1 : Option Addr) (c1 : Nat) (l1 : List S82) (r : Bool) (w : World) (hT : Tabs w) (hr0 : Kd.C k80 w A0 l0.length l0) (hc0 : l0.length ≤ c0) (hr1 : Kd.C k82 w A1 l1.length l1) (hc1 : l1.length ≤ c1) (h : pattern_Valid.f l0 l1 = some r) :
    Calls Tryd.prog 68 #[.slice A0 l0.length c0, .slice A1 l1.length c1] w fun e w' => e = .returned (.bool r) ∧ Below w.heap.size w w' := by
  unfold pattern_Valid.f at h
  by_cases hg : runesOk l0 = true ∧ smallP l1 = true
  · rw [if_pos hg] at h
    have hr := Option.some.inj h
    clear h
    have hin := proper_calls A0 c0 l0 w hr0 hc0 (runesOk_mem hg.1)
    have hR := Aside0.mk hr0
    have hC := Aside0.mk hc0
    have hR1 := Aside0.mk hr1
    have hC1 := Aside0.mk hc1
    have hG := Aside0.mk hg
    have hr' := Aside0.mk hr
    have hT' := Aside0.mk hT
    clear hr0 hc0 hr1 hc1 hr hg hT
    cases hpp : properP l0 with
    | false =>
      rw [hpp] at hin
      obtain rfl : r = false := by rw [← hr'.out]; unfold patP; rw [hpp]; rfl
      clear hpp
      go_enter Tryd.func68, Tryd.ntmps68
      go_wp2_with (go_at_call 80; refine hin.mono ?_; clear hin; rintro e w1 ⟨⟨v, rfl, hM⟩, hB1⟩)
      go_ret
      exact ⟨rfl, hB1⟩
    | true =>
      rw [hpp] at hin
      have hrr : r = (decide (l1.length ≤ 3) && itemsP l0 l1) := by rw [← hr'.out]; unfold patP; rw [hpp]; rfl
      have hrr' := Aside0.mk hrr
      clear hpp hrr
      by_cases hl3 : (l1.length : Int) > 3
      · obtain rfl : r = false := by rw [hrr'.out, decide_eq_false (show ¬ l1.length ≤ 3 by omega)]; rfl
        go_enter Tryd.func68, Tryd.ntmps68
        go_wp2_with (go_at_call 80; refine hin.mono ?_; clear hin; rintro e w1 ⟨⟨v, rfl, hM⟩, hB1⟩; obtain ⟨rfl, hM9⟩ := hM rfl; clear hM)
        go_ret
        exact ⟨rfl, hB1⟩
      · have hr2 := Aside0.mk (show r = itemsP l0 l1 by rw [hrr'.out, decide_eq_true (show l1.length ≤ 3 by omega)]; rfl)
        have hl3' := Aside0.mk (show l1.length ≤ 3 by omega)
        go_enter Tryd.func68, Tryd.ntmps68
        go_wp2_with (go_at_call 80; refine hin.mono ?_; clear hin; rintro e w1 ⟨⟨v, rfl, hM⟩, hB1⟩; obtain ⟨rfl, hM9⟩ := hM rfl; clear hM)
        have hlb := Aside0.mk hM9.lt
        have hM' := Aside0.mk hM9
        have hB1' := Aside0.mk hB1
        clear hM9 hB1
        go_loopg [25] l1.length (fun kq v25 w' => ∃ i : Nat, v25 = .int .i64 (i : Int) ∧ Aside0 (i + kq = l1.length) ∧ Aside0 (r = itemsP l0 (l1.drop i)) ∧ Aside0 (Below w1.heap.size w1 w'))
        case atStart => exact ⟨0, rfl, ⟨by omega⟩, ⟨by rw [List.drop_zero]; exact hr2.out⟩, ⟨Below.refl _ _⟩⟩
        case round =>
          obtain ⟨i, rfl, hik, hri, HB⟩ := hrel
          cases gk with
          | zero =>
            have h3 : ¬ ((i : Int) < (l1.length : Int)) := by have := hik.out; omega
            obtain rfl : r = true := by rw [hri.out, List.drop_eq_nil_of_le (by have := hik.out; omega)]; rfl
            go_wp2
            go_ret
            exact ⟨rfl, hB1'.out.trans (HB.out.mono hB1'.out.size)⟩
          | succ g1 =>
            have h3 : (i : Int) < (l1.length : Int) := by have := hik.out; omega
            have h4 : 0 ≤ (i : Int) := by omega
            have HBW : Below w.heap.size w wr := hB1'.out.trans (HB.out.mono hB1'.out.size)
            obtain ⟨ad, hA, hx0, hx1, hx2, hx3⟩ := at_T82 hR1.out (i : Int) h4 h3
            subst hA
            rw [Int.toNat_natCast] at hx0 hx1 hx2 hx3
            replace hx0 := (HBW.cell (World.block_lt_of_cell? _ _ hx0)).trans hx0
            replace hx1 := (HBW.cell (World.block_lt_of_cell? _ _ hx1)).trans hx1
            replace hx2 := (HBW.cell (World.block_lt_of_cell? _ _ hx2)).trans hx2
            replace hx3 := (HBW.cell (World.block_lt_of_cell? _ _ hx3)).trans hx3
            have hdr := drop_item l1 i (by omega)
            have hsz : (rd_T82 l1 (i : Int)).f1.size ≤ 1099511627776 := of_decide_eq_true (List.all_eq_true.1 hG.out.2 _ (mem_item l1 i (by omega)))
            obtain ⟨X, hX⟩ : ∃ X, rd_T82 l1 (i : Int) = X := ⟨_, rfl⟩
            obtain ⟨X0, X1, X2, X3⟩ := X
            rw [hX] at hx0 hx1 hx2 hx3 hdr hsz
            dsimp only at hx0 hx1 hx2 hx3 hsz
            have hri2 : r = ((overQ l0 X1).2 && itemsP l0 (l1.drop (i + 1))) := by rw [hri.out, hdr]; rfl
            have hB2 : Below w.heap.size w (wr.alloc (.cells #[.int .u32 X0, .string X1, .bool X2, .bool X3] 82)) := HBW.alloc HBW.size _
            have hfin : wrap64 ((i : Int) + 1) = ((i + 1 : Nat) : Int) := idx_next (by omega : i < l1.length) (by have := hl3'.out; omega)
            have hMw : (wr.alloc (.cells #[.int .u32 X0, .string X1, .bool X2, .bool X3] 82)).ownsMap Tryd.prog 21 (plainElem (H := Unit) Tryd.prog 3) w.heap.size l0.length (mapI l0 l0.length) := (ownsMap_block hM'.out HB.out).alloc _
            have hov := over_calls l0 X1 (wr.alloc (.cells #[.int .u32 X0, .string X1, .bool X2, .bool X3] 82)) w.heap.size (tabs_below hT'.out hB2) hsz (by have := hlb.out; have := HB.out.size; simp; omega) hMw
            have hfin' := Aside0.mk hfin
            have hri2' := Aside0.mk hri2
            have hB3 := Aside0.mk (HB.out.alloc HB.out.size (.cells #[.int .u32 X0, .string X1, .bool X2, .bool X3] 82))
            clear hX hdr hsz hri2 hB2 hfin HBW hMw
            cases hq : (overQ l0 X1).2 with
            | false =>
              rw [hq] at hov
              obtain rfl : r = false := by rw [hri2'.out, hq]; rfl
              clear hq
              go_wp2_with (go_at_call 81; refine hov.mono ?_; clear hov; rintro e w5 ⟨v5, rfl, _, hB5⟩)
              go_ret
              exact ⟨rfl, hB1'.out.trans ((hB3.out.trans (hB5.mono hB3.out.size)).mono hB1'.out.size)⟩
            | true =>
              rw [hq] at hov
              have hri3 := Aside0.mk (show r = itemsP l0 (l1.drop (i + 1)) by rw [hri2'.out, hq, Bool.true_and])
              clear hq
              go_wp2_with (go_at_call 81; refine hov.mono ?_; clear hov; rintro e w5 ⟨v5, rfl, _, hB5⟩)
              go_roundg g1
              case measure => omega
              case rel => exact ⟨i + 1, by first | rw [hfin'.out] | rfl, ⟨by have := hik.out; omega⟩, hri3, ⟨hB3.out.trans (hB5.mono hB3.out.size)⟩⟩
  · rw [if_neg hg] at h; cases h
def readP (l : List S80) (p : List S82) (s : ByteArray) : List Int × Bool := if patP l p = true then overQ l s else ([], false)
def pattern_read.f (l0 : List S80) (l1 : List S82) (a2 : ByteArray) : Option (List Int × Bool) := if runesOk l0 = true ∧ smallP l1 = true ∧ a2.size ≤ 1099511627776 then some (readP l0 l1 a2) else none
set_option maxRecDepth 100000 in
set_option maxHeartbeats 1000000 in
theorem pattern_read.calls (A0 : Option Addr) (c0 : Nat) (l0 : List S80) (A1 : Option Addr) (c1 : Nat) (l1 : List S82) (a2 : ByteArray) (r1 : List Int) (r2 : Bool) (w : World) (hT : Tabs w) (hr0 : Kd.C k80 w A0 l0.length l0) (hc0 : l0.length ≤ c0) (hr1 : Kd.C k82 w A1 l1.length l1) (hc1 : l1.length ≤ c1) (h : pattern_read.f l0 l1 a2 = some (r1, r2)) :
    Calls Tryd.prog 95 #[.slice A0 l0.length c0, .slice A1 l1.length c1, .string a2] w fun e w' => ∃ v0_ : Value, e = .returned (.tuple #[v0_, .bool r2]) ∧ Kd.R (Kd.int .i64) 3 w' w.heap.size (fun _ => True) v0_ r1 ∧ Below w.heap.size w w' := by
  unfold pattern_read.f at h
  by_cases hg : runesOk l0 = true ∧ smallP l1 = true ∧ a2.size ≤ 1099511627776
  · rw [if_pos hg] at h
    have hr := Option.some.inj h
    clear h
    have hpv := pattern_Valid.calls A0 c0 l0 A1 c1 l1 (patP l0 l1) w hT hr0 hc0 hr1 hc1 (by unfold pattern_Valid.f; rw [if_pos ⟨hg.1, hg.2.1⟩])
    have hin := fun (w1 : World) (hB : Below w.heap.size w w1) => proper_calls A0 c0 l0 w1 (Kd.C_below hr0 hB) hc0 (runesOk_mem hg.1)
    have hT' := Aside0.mk hT
    have hG := Aside0.mk hg
    have hr' := Aside0.mk hr
    clear hr0 hc0 hr1 hc1 hr hg hT
    cases hpp : patP l0 l1 with
    | false =>
      rw [hpp] at hpv
      have hov : readP l0 l1 a2 = ([], false) := by unfold readP; rw [hpp]; rfl
      obtain ⟨e1, e2⟩ := Prod.mk.inj (hr'.out.symm.trans hov)
      subst e1 e2
      clear hpp hov
      go_enter Tryd.func95, Tryd.ntmps95
      go_wp2_with (go_at_call 68; refine hpv.mono ?_; clear hpv; rintro e w1 ⟨rfl, hB1⟩)
      go_ret2
      exact ⟨_, rfl, Kd.R_nil _ _ _ _ _, hB1⟩
    | true =>
      rw [hpp] at hpv
      have hpr : properP l0 = true := by unfold patP at hpp; rw [Bool.and_eq_true] at hpp; exact hpp.1
      rw [hpr] at hin
      have hov : readP l0 l1 a2 = overQ l0 a2 := by unfold readP; rw [hpp]; rfl
      have hq := hr'.out.symm.trans hov
      have hq1 : (overQ l0 a2).1 = r1 := by rw [← hq]
      have hq2 : (overQ l0 a2).2 = r2 := by rw [← hq]
      have hov2 := fun (w1 : World) (b : Nat) (hB : Below w.heap.size w w1) (hb : b < w1.heap.size) HO => over_calls l0 a2 w1 b (tabs_below hT'.out hB) hG.out.2.2 hb HO
      rw [hq1, hq2] at hov2
      have hov2' := Aside0.mk hov2
      have hin' := Aside0.mk hin
      clear hpp hov hpr hq hq1 hq2 hr' hov2 hin
      go_enter Tryd.func95, Tryd.ntmps95
      go_wp2_with (first | (go_at_call 68; refine hpv.mono ?_; clear hpv; rintro e w1 ⟨rfl, hB1⟩) | (go_at_call 80; refine (hin'.out _ hB1).mono ?_; rintro e w2 ⟨⟨v, rfl, hM⟩, hB2⟩; obtain ⟨rfl, hM9⟩ := hM (by first | rfl | trivial); clear hM; have hB21 := hB1.trans (hB2.mono hB1.size); have hM8 := Aside0.mk hM9; clear hM9) | (go_at_call 81; refine (hov2'.out _ _ hB21 hM8.out.lt hM8.out).mono ?_; rintro e w3 ⟨v3, rfl, hR3, hB3⟩))
      go_ret2
      exact ⟨_, rfl, Kd.R_lower hR3 hB21.size, hB21.trans (hB3.mono hB21.size)⟩
  · rw [if_neg hg] at h; cases h
end Go.Proofs.YtfbhdjflkaldgaaDoor.Pr

namespace Go.Proofs.YtfbhdjflkaldgaaDoor.Pr
open Go.Proofs.YtfbhdjflkaldgaaDoor.Ct Go.RowKit Go.Proofs.YtfbhdjflkaldgaaDoorW.PrintWords Go.Proofs.YtfbhdjflkaldgaaDoorW.PrintLast Go.Proofs.YtfbhdjflkaldgaaDoorW.PrintMore
attribute [local go_sem] max2_int min2_int max_two min_two max_three min_three max_four min_four
set_option linter.unusedVariables false
set_option linter.unusedSimpArgs false
def pattern_closed.l0 : Nat → Int → List (S82) → Int → Int → Option (Int)
 | 0, _, _, _, _ => none
 | k + 1, x1, x7, x8, x9 => if x9 < x8 then (if 0 ≤ x9 then (if x9 < (x7.length : Int) then (if (rd_T82 x7 x9).f3 = true then (if (Go.bits .and .u8 (shr .u8 x1 x9) 1) = 1 then (if 0 ≤ (wrap64 (x9 + 1)) then (pattern_closed.l0 k (Go.bits .or .u8 x1 (shl .u8 1 (wrap64 (x9 + 1)))) x7 x8 (wrap64 (x9 + 1))) else (none)) else (pattern_closed.l0 k x1 x7 x8 (wrap64 (x9 + 1)))) else (pattern_closed.l0 k x1 x7 x8 (wrap64 (x9 + 1)))) else (none)) else (none)) else (some x1)
def pattern_closed.f (k : Nat) (l0 : List (S82)) (a1 : Int) : Option (Int) := pattern_closed.l0 k a1 l0 (l0.length : Int) 0
theorem LPrF101x1 {p : Prop} (h : p := by
  have H' := Aside0.mk H
  clear H
  have z1_ : 0 ≤ (x9_1 : Int) := oD
  have z2_ : x9_1 < (l0.length : Int) := oD
  obtain ⟨z3_, z4_, z5_, z6_, z7_, z8_⟩ := at_T82 HR0.out x9_1 z1_ z2_
  (try rw [← Nbq6.out] at z7_)
  (try rw [← Nbq6.out] at z8_)
  cases z4_
  replace z5_ := celB HB z5_
  replace z6_ := celB HB z6_
  replace z7_ := celB HB z7_
  replace z8_ := celB HB z8_
  replace z1_ := eq_true z1_
  replace z2_ := eq_true z2_
  go_wp2_with (first | ((with_reducible refine gate_dst (N := 6) rfl ?_); refine box_event ?hg (N := 6) ?hd (cs := #[.int .u32 0, .string (⟨#[]⟩ : ByteArray), .bool false, .bool false]) (t := 82) ?hr ?_; (case hd => rfl); (case hg => rfl); (case hr => exact Gc6); intro z9_ hg z10_ hbox hb; have z11_ := Aside0.mk (below_step (tB HB) hb); have z12_ := Aside0.mk (hbox); have z13_ := tZ hg (tS HB); have z14_ := tZ hg (tS HB); revert z11_ z12_ z13_ z14_; clear HB; intro HB z15_ z16_ z17_; clear hb hbox hg; have z18_ := cel2 z15_ 0 rfl; have z19_ := cel2 z15_ 1 rfl; have z20_ := cel2 z15_ 2 rfl; have z21_ := cel2 z15_ 3 rfl; have z22_ := blk_frozen z15_.out 0; have z23_ := blk_frozen z15_.out 1; have z24_ := blk_frozen z15_.out 2; have z25_ := blk_frozen z15_.out 3))
  go_roundg k1
  case measure => have := HK1.out; omega
  case rel => exact ⟨(x1_1), (wrap64 (x9_1 + 1)), tV1, tV1, H', ⟨by have := HK1.out; omega⟩, ⟨tB HB⟩⟩) : p := h
set_option maxHeartbeats 8000000 in
set_option maxRecDepth 100000 in
theorem pattern_closed.calls (k : Nat) (A0 : Option Addr) (c0 : Nat) (l0 : List (S82)) (a1 : Int) (r : Int) (w : World) (hr0 : Kd.C k82 w A0 l0.length l0) (hc0 : l0.length ≤ c0) (h : pattern_closed.f k l0 a1 = some r) :
 Calls Tryd.prog 101 #[.slice A0 l0.length c0, .int .u8 a1] w fun e w' => e = .returned (.int .u8 r) ∧ Below w.heap.size w w' := by
 have hu82 := Tryd.underlying82
 have HR0 := Aside0.mk hr0
 have HC0 := Aside0.mk hc0
 clear hr0 hc0
 have HB := Aside0.mk (Below.refl w.heap.size w)
 have H : (pattern_closed.l0 k a1 l0 (l0.length : Int) 0) = some r := h
 clear h
 have H' := Aside0.mk H
 clear H
 go_enter Tryd.func101, Tryd.ntmps101
 go_wp2
 go_loopg [1, 9] k (fun kq v1 v9 w' => ∃ (x1_1 : Int) (x9_1 : Int), v1 = .int .u8 x1_1 ∧ v9 = .int .i64 x9_1 ∧ Aside0 (pattern_closed.l0 kq x1_1 l0 (l0.length : Int) x9_1 = some r) ∧ Aside0 (kq ≤ k) ∧ Aside0 (Below w.heap.size w w'))
 case atStart => exact ⟨(a1), (0), tV1, tV1, H', ⟨Nat.le_refl _⟩, ⟨tB HB⟩⟩
 case round =>
  clear H'
  obtain ⟨x1_1, x9_1, rfl, rfl, HA, HK1, HB⟩ := hrel
  cases gk with
  | zero => exact absurd HA.out (by simp [pattern_closed.l0])
  | succ k1 =>
   have H := HA.out
   clear HA
   simp only [pattern_closed.l0] at H
   replace H := iF H; obtain ⟨c3, H⟩ | ⟨c3, H⟩ := H
   ·
    have c3b0 : decide (x9_1 < (l0.length : Int)) = true := decide_eq_true c3
    clear c3
    replace H := iF H; obtain ⟨c4, H⟩ | ⟨c4, H⟩ := H
    ·
     have c4b0 : decide (0 ≤ x9_1) = true := decide_eq_true c4
     clear c4
     replace H := iF H; obtain ⟨c5, H⟩ | ⟨c5, H⟩ := H
     ·
      have c5b0 : decide (x9_1 < (l0.length : Int)) = true := decide_eq_true c5
      clear c5
      obtain ⟨bq6, hbq6⟩ : ∃ b_ : Bool, b_ = ((rd_T82 l0 x9_1).f3) := ⟨_, rfl⟩
      replace H : (if bq6 = true then (if (Go.bits .and .u8 (shr .u8 x1_1 x9_1) 1) = 1 then (if 0 ≤ (wrap64 (x9_1 + 1)) then (pattern_closed.l0 k1 (Go.bits .or .u8 x1_1 (shl .u8 1 (wrap64 (x9_1 + 1)))) l0 (l0.length : Int) (wrap64 (x9_1 + 1))) else (none)) else (pattern_closed.l0 k1 x1_1 l0 (l0.length : Int) (wrap64 (x9_1 + 1)))) else (pattern_closed.l0 k1 x1_1 l0 (l0.length : Int) (wrap64 (x9_1 + 1)))) = some r := by rw [← hbq6] at H; exact H
      have Nbq6 := Aside0.mk hbq6
      clear hbq6
      replace H := iT H; obtain ⟨rfl, H⟩ | ⟨rfl, H⟩ := H
      ·
       have c8b0 := eq_true (oD : 0 ≤ x9_1)
       obtain ⟨ji9, hji9⟩ : ∃ j_ : Int, (shr .u8 x1_1 x9_1) = j_ := ⟨_, rfl⟩
       replace H : (if (Go.bits .and .u8 (ji9) 1) = 1 then (if 0 ≤ (wrap64 (x9_1 + 1)) then (pattern_closed.l0 k1 (Go.bits .or .u8 x1_1 (shl .u8 1 (wrap64 (x9_1 + 1)))) l0 (l0.length : Int) (wrap64 (x9_1 + 1))) else (none)) else (pattern_closed.l0 k1 x1_1 l0 (l0.length : Int) (wrap64 (x9_1 + 1)))) = some r := by first | (rw [hji9] at H; exact H) | (simp only [hji9] at H ⊢; exact H)
       have hji9_ : (x1_1 / 2 ^ min x9_1.toNat 8) = ji9 := hji9
       have hji9z : x9_1 ≤ 8 → (x1_1 / 2 ^ x9_1.toNat) = ji9 := shr_small hji9
       replace H := iE H; obtain ⟨-, c10b0, c10b1, H⟩ | ⟨c10, c10b0, c10b1, H⟩ := H
       ·
        obtain ⟨ji11, hji11⟩ : ∃ j_ : Int, (wrap64 (x9_1 + 1)) = j_ := ⟨_, rfl⟩
        replace H : (if 0 ≤ (ji11) then (pattern_closed.l0 k1 (Go.bits .or .u8 x1_1 (shl .u8 1 (ji11))) l0 (l0.length : Int) ji11) else (none)) = some r := by first | (rw [hji11] at H; exact H) | (simp only [hji11] at H ⊢; exact H)
        have hji11w : (IntKind.i64.wrap (x9_1 + 1)) = ji11 := (i64_w _).trans hji11
        replace H := iF H; obtain ⟨c12, H⟩ | ⟨c12, H⟩ := H
        ·
         have c12b0 := eq_true c12
         have c12b1 : decide (0 ≤ (ji11)) = true := decide_eq_true c12
         clear c12
         obtain ⟨ji13, hji13⟩ : ∃ j_ : Int, (shl .u8 1 (ji11)) = j_ := ⟨_, rfl⟩
         replace H : (pattern_closed.l0 k1 (Go.bits .or .u8 x1_1 (ji13)) l0 (l0.length : Int) ji11) = some r := by first | (rw [hji13] at H; exact H) | (simp only [hji13] at H ⊢; exact H)
         have hji13_ : (IntKind.u8.wrap (1 * 2 ^ min (ji11).toNat 8)) = ji13 := hji13
         have hji13z : (ji11) ≤ 8 → (IntKind.u8.wrap (1 * 2 ^ (ji11).toNat)) = ji13 := shl_small hji13
         have hji13u : (IntKind.u8.wrap (2 ^ min (ji11).toNat 8)) = ji13 := by have h_ := hji13_; rw [Int.one_mul] at h_; exact h_
         have hji13v : (ji11) ≤ 8 → (IntKind.u8.wrap (2 ^ (ji11).toNat)) = ji13 := fun hle_ => by have h_ := hji13z hle_; rw [Int.one_mul] at h_; exact h_
         have H' := Aside0.mk H
         clear H
         have p138 : 0 ≤ (x9_1 : Int) := oD
         have q138 : x9_1 < (l0.length : Int) := oD
         obtain ⟨ad138, e138, hx138_0, hx138_1, hx138_2, hx138_3⟩ := at_T82 HR0.out x9_1 p138 q138
         (try rw [← Nbq6.out] at hx138_2)
         (try rw [← Nbq6.out] at hx138_3)
         cases e138
         replace hx138_0 := celB HB hx138_0
         replace hx138_1 := celB HB hx138_1
         replace hx138_2 := celB HB hx138_2
         replace hx138_3 := celB HB hx138_3
         replace p138 := eq_true p138
         replace q138 := eq_true q138
         go_wp2_with (first | ((with_reducible refine gate_dst (N := 6) rfl ?_); refine box_event ?hg (N := 6) ?hd (cs := #[.int .u32 0, .string (⟨#[]⟩ : ByteArray), .bool false, .bool false]) (t := 82) ?hr ?_; (case hd => rfl); (case hg => rfl); (case hr => exact Gc6); intro gb139 hg w14 hbox hb; have n0_ := Aside0.mk (below_step (tB HB) hb); have n1_ := Aside0.mk (hbox); have n2_ := tZ hg (tS HB); have n3_ := tZ hg (tS HB); revert n0_ n1_ n2_ n3_; clear HB; intro HB BK139 GW139 GE139; clear hb hbox hg; have hcz15_0 := cel2 BK139 0 rfl; have hcz15_1 := cel2 BK139 1 rfl; have hcz15_2 := cel2 BK139 2 rfl; have hcz15_3 := cel2 BK139 3 rfl; have hfz15_0 := blk_frozen BK139.out 0; have hfz15_1 := blk_frozen BK139.out 1; have hfz15_2 := blk_frozen BK139.out 2; have hfz15_3 := blk_frozen BK139.out 3))
         go_roundg k1
         case measure => have := HK1.out; omega
         case rel => exact ⟨(Go.bits .or .u8 x1_1 (ji13)), (ji11), (by first | rfl | (simp; done) | (simp only [← hji13] <;> (first | rfl | simp)) | (simp [*]; done)), (by first | rfl | (simp; done) | (simp only [← hji11] <;> (first | rfl | simp)) | (simp [*]; done)), H', ⟨by have := HK1.out; omega⟩, ⟨tB HB⟩⟩
        ·
         exact absurd H (by simp)
       ·
        exact LPrF101x1
      ·
       exact LPrF101x1
     ·
      exact absurd H (by simp)
    ·
     exact absurd H (by simp)
   ·
    have c3b0 : decide (x9_1 < (l0.length : Int)) = false := decide_eq_false c3
    clear c3
    obtain rfl := Option.some.inj H
    go_wp2
    go_ret
    exact ⟨tE, by repeat (first | (with_reducible first | exact HB.out | apply below_alloc | apply pw_below_drewN | apply below_drew1) | exact HB.out)⟩
end Go.Proofs.YtfbhdjflkaldgaaDoor.Pr
