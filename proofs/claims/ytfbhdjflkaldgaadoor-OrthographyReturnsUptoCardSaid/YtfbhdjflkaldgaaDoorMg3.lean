/- Several texts in one: Tab, LibU, AlphW, PrF44, PrF78, PrF62, PrF43, OrP. -/
import Derived.Test.YtfbhdjflkaldgaaDoorMg2
import Derived.Below
import Derived.Test.YtfbhdjflkaldgaaDoorMg1
import Derived.Test.YtfbhdjflkaldgaaDoorCt
/- The tables of unicode/utf8 lie in the world. -/
/- unicode/utf8 and strings, in the printer's form: by the shelf's contracts. -/
/- alphabet.IsWord. -/
namespace Go.Proofs.YtfbhdjflkaldgaaDoor.Pr
open Go.RowKit
def Tabs (w : World) : Prop := Lib.Utf8Tabs 0 1 w ∧ 2 ≤ w.heap.size
theorem tabs_keep {w w' : World} (h : Tabs w) (hk : ∀ k, k < 2 → w'.heap[k]? = w.heap[k]?) (hs : 2 ≤ w'.heap.size) : Tabs w' := by
  have hc : ∀ (b c : Nat), b < 2 → w'.cell? ⟨b, c, none⟩ = w.cell? ⟨b, c, none⟩ := fun b c hb => by unfold World.cell?; rw [hk b hb]
  exact ⟨⟨fun c h1 => (hc 0 c (by omega)).trans (h.1.1 c h1), fun i h1 => ⟨(hc 1 _ (by omega)).trans (h.1.2 i h1).1, (hc 1 _ (by omega)).trans (h.1.2 i h1).2⟩⟩, hs⟩
theorem tabs_below {w w' : World} (h : Tabs w) (hb : Below w.heap.size w w') : Tabs w' :=
  tabs_keep h (fun k hk => hb.block k (by have := h.2; omega)) (by have := h.2; have := hb.size; omega)
end Go.Proofs.YtfbhdjflkaldgaaDoor.Pr

namespace Go.Proofs.YtfbhdjflkaldgaaDoor.Pr
open Go.RowKit Go.Lib Go.Proofs.YtfbhdjflkaldgaaDoorW.PrintWords Go.Proofs.YtfbhdjflkaldgaaDoorW.PrintLast Go.Proofs.YtfbhdjflkaldgaaDoorW.PrintMore
set_option linter.unusedVariables false
def utf8_ValidString.f (a0 : ByteArray) : Option Bool := if a0.size ≤ 9223372036854775807 then some (validD a0.data.toList) else none
theorem utf8_ValidString.calls (a0 : ByteArray) (r : Bool) (w : World) (hT : Tabs w) (h : utf8_ValidString.f a0 = some r) :
    Calls Tryd.prog 36 #[.string a0] w fun e w' => e = .returned (.bool r) ∧ Below w.heap.size w w' := by
  unfold utf8_ValidString.f at h
  by_cases hs : a0.size ≤ 9223372036854775807
  · rw [if_pos hs] at h
    obtain rfl := Option.some.inj h
    exact Tryd.utf8_ValidString a0 w hs hT.1
  · rw [if_neg hs] at h; cases h
def utf8_DecodeRuneInString.f (a0 : ByteArray) : Option (Int × Int) := some (((decodeGo a0).1 : Int), ((decodeGo a0).2 : Int))
theorem utf8_DecodeRuneInString.calls (a0 : ByteArray) (r1 r2 : Int) (w : World) (hT : Tabs w) (h : utf8_DecodeRuneInString.f a0 = some (r1, r2)) :
    Calls Tryd.prog 33 #[.string a0] w fun e w' => e = .returned (.tuple #[.int .i32 r1, .int .i64 r2]) ∧ Below w.heap.size w w' := by
  unfold utf8_DecodeRuneInString.f at h
  obtain ⟨rfl, rfl⟩ := Prod.mk.inj (Option.some.inj h)
  exact Tryd.utf8_DecodeRuneInString a0 w hT.1
def utf8_RuneCountInString.f (a0 : ByteArray) : Option Int := if a0.size < 9223372036854775807 then some (runeCount a0 : Int) else none
theorem utf8_RuneCountInString.calls (a0 : ByteArray) (r : Int) (w : World) (h : utf8_RuneCountInString.f a0 = some r) :
    Calls Tryd.prog 69 #[.string a0] w fun e w' => e = .returned (.int .i64 r) ∧ Below w.heap.size w w' := by
  unfold utf8_RuneCountInString.f at h
  by_cases hs : a0.size < 9223372036854775807
  · rw [if_pos hs] at h
    obtain rfl := Option.some.inj h
    refine (Tryd.utf8_RuneCountInString a0 w hs).mono ?_
    rintro e w' ⟨rfl, pos, rfl⟩
    exact ⟨rfl, (Below.refl _ w).alloc (Nat.le_refl _) _⟩
  · rw [if_neg hs] at h; cases h
def strings_IndexByte.f (a0 : ByteArray) (a1 : Int) : Option Int := some (indexByte a0.data.toList a1.toNat.toUInt8)
theorem strings_IndexByte.calls (a0 : ByteArray) (a1 : Int) (r : Int) (w : World) (h : strings_IndexByte.f a0 a1 = some r) :
    Calls Tryd.prog 47 #[.string a0, .int .u8 a1] w fun e w' => e = .returned (.int .i64 r) ∧ Drawn0 w w' := by
  unfold strings_IndexByte.f at h
  obtain rfl := Option.some.inj h
  refine (Tryd.strings_IndexByte a0 a1 w).mono ?_
  rintro e w' ⟨rfl, rfl⟩
  exact ⟨rfl, Drawn0.refl _⟩
def strings_Join.f (l0 : List ByteArray) (a1 : ByteArray) : Option ByteArray := if l0.length ≤ 140737488355328 ∧ (Lib.join (l0.map (·.data.toList)) a1.data.toList).length ≤ 140737488355328 then some ⟨(Lib.join (l0.map (·.data.toList)) a1.data.toList).toArray⟩ else none
theorem strings_Join.calls (A0 : Option Addr) (c0 : Nat) (l0 : List ByteArray) (a1 : ByteArray) (r : ByteArray) (w : World) (hr0 : Kd.C Kd.string w A0 l0.length l0) (hc0 : l0.length ≤ c0) (h : strings_Join.f l0 a1 = some r) :
    Calls Tryd.prog 21 #[.slice A0 l0.length c0, .string a1] w fun e w' => e = .returned (.string r) ∧ Below w.heap.size w w' := by
  unfold strings_Join.f at h
  by_cases hs : l0.length ≤ 140737488355328 ∧ (Lib.join (l0.map (·.data.toList)) a1.data.toList).length ≤ 140737488355328
  · rw [if_pos hs] at h
    obtain rfl := Option.some.inj h
    cases l0 with
    | nil =>
      refine (Tryd.strings_Join_none A0 c0 a1 w).mono ?_
      rintro e w' ⟨rfl, rfl⟩
      exact ⟨rfl, Below.refl _ _⟩
    | cons x xs =>
      obtain ⟨ad, hA, hcell⟩ := hr0.2.2 (by simp)
      subst hA
      have key : ∀ (j : Nat) (y : ByteArray), (x :: xs)[j]? = some y → w.cell? (ad.add j) = some (.string y) := by
        intro j y hj
        obtain ⟨c, hl, hk, hc⟩ := hcell j y hj
        obtain rfl : c = [.string y] := hk
        have := hc 0 (.string y) rfl
        rwa [show j * Kd.string.sz + 0 = j from by show j * 1 + 0 = j; omega] at this
      have hsp : ad.spot = none := by
        have h0 := key 0 x rfl
        unfold Addr.add at h0
        rw [if_pos rfl] at h0
        unfold World.cell? at h0
        cases hs : ad.spot with
        | none => rfl
        | some s =>
          rw [hs] at h0
          split at h0 <;> simp at h0
      obtain ⟨b, o, sp⟩ := ad
      obtain rfl : sp = none := hsp
      have hb : b < w.heap.size := World.block_lt_of_cell? _ _ (key 0 x rfl)
      refine (Tryd.strings_Join b o c0 (x :: xs) a1 w (fun j y hj => ?_) hb hs.1 hc0 hs.2).mono ?_
      · have := key j y hj
        rwa [Addr.add_lit] at this
      · rintro e w' ⟨rfl, hB⟩
        exact ⟨rfl, hB⟩
  · rw [if_neg hs] at h; cases h
end Go.Proofs.YtfbhdjflkaldgaaDoor.Pr

namespace Go.Proofs.YtfbhdjflkaldgaaDoor.Pr
open Go.Proofs.YtfbhdjflkaldgaaDoor.Ct Go.RowKit Go.Maps Go.Lib Go.Proofs.YtfbhdjflkaldgaaDoorW.PrintWords Go.Proofs.YtfbhdjflkaldgaaDoorW.PrintLast Go.Proofs.YtfbhdjflkaldgaaDoorW.PrintMore
set_option linter.unusedVariables false
set_option linter.unusedSimpArgs false
def isL (l : List S80) (r : Int) : Bool := (look l l.length r).isSome
def isWordP (l : List S80) (s : ByteArray) : Bool := validD s.data.toList && ((runesS s).all (isL l) && decide ((runesS s).length ≤ 40))
def alphabet_IsWord.f (l0 : List S80) (a1 : ByteArray) : Option Bool := if runesOk l0 = true ∧ a1.size ≤ 4611686018427387904 then some (isWordP l0 a1) else none
theorem ownsMap_heap {H : Type} {w w' : World} {P : Program} {k : TypeId} {R : Value → Option (DataW H × List MemPlace)} {b n : Nat} {D : DataW H} (h : w.ownsMap P k R b n D) (hb : w'.heap[b]? = w.heap[b]?) : w'.ownsMap P k R b n D := by
  obtain ⟨es, clock, h1, h2⟩ := h
  exact ⟨es, clock, hb.trans h1, h2⟩
set_option maxRecDepth 100000 in
set_option maxHeartbeats 1000000 in
theorem alphabet_IsWord.calls (A0 : Option Addr) (c0 : Nat) (l0 : List S80) (a1 : ByteArray) (r : Bool) (w : World) (hT : Tabs w) (hr0 : Kd.C k80 w A0 l0.length l0) (hc0 : l0.length ≤ c0) (h : alphabet_IsWord.f l0 a1 = some r) :
    Calls Tryd.prog 49 #[.slice A0 l0.length c0, .string a1] w fun e w' => e = .returned (.bool r) ∧ Below w.heap.size w w' := by
  unfold alphabet_IsWord.f at h
  by_cases hg : runesOk l0 = true ∧ a1.size ≤ 4611686018427387904
  · rw [if_pos hg] at h
    have hr := Option.some.inj h
    clear h
    have hv := utf8_ValidString.calls a1 (validD a1.data.toList) w hT Gc21
    have hR := Aside0.mk hr0
    have hC := Aside0.mk hc0
    have hG := Aside0.mk hg
    have hr' := Aside0.mk hr
    clear hr0 hc0 hr hg hT
    cases hvd : validD a1.data.toList with
    | false =>
      rw [hvd] at hv
      obtain rfl : r = false := by rw [← hr'.out]; unfold isWordP; rw [hvd]; rfl
      go_enter Tryd.func49, Tryd.ntmps49
      go_wp2_with (go_at_call 36; refine hv.mono ?_; clear hv; rintro e w1 ⟨rfl, hB1⟩)
      go_ret
      exact ⟨rfl, hB1⟩
    | true =>
      rw [hvd] at hv
      have hrr : r = ((runesS a1).all (isL l0) && decide ((runesS a1).length ≤ 40)) := by rw [← hr'.out]; unfold isWordP; rw [hvd, Bool.true_and]
      have hvd' := Aside0.mk hvd
      have hin : ∀ w1, Below w.heap.size w w1 → _ := fun w1 hB => indices_calls A0 c0 l0 w1 (Kd.C_below hR.out hB) hC.out (runesOk_mem hG.out.1)
      have hrr' := Aside0.mk hrr
      clear hvd hrr
      go_enter Tryd.func49, Tryd.ntmps49
      go_wp2_with (first | (go_at_call 36; refine hv.mono ?_; clear hv; rintro e w1 ⟨rfl, hB1⟩) | (go_at_call 53; refine (hin _ hB1).mono ?_; clear hin; rintro e w2 ⟨rfl, HO, hB2⟩))
      have hBK : Below w.heap.size w (w2.iter a1 0) := (hB1.trans (hB2.mono hB1.size)).alloc (by have := hB2.size; have := hB1.size; omega) _
      have hlt : w1.heap.size < w2.heap.size := HO.lt
      have HOK := Aside0.mk (HO.alloc (.stringIter a1 0))
      have hBK' := Aside0.mk hBK
      have hlt' := Aside0.mk hlt
      have hs2 := Aside0.mk (Nat.le_trans hB1.size hB2.size)
      clear hBK hlt HO hB1 hB2
      go_loopg [6] a1.size (fun kq v6 w' => ∃ pos cnt : Nat, v6 = .int .i64 (cnt : Int) ∧ Aside0 (w'.heap[w2.heap.size]? = some (.stringIter a1 pos)) ∧ Aside0 (a1.size - pos ≤ kq) ∧ Aside0 ((runesS a1).all (isL l0) = (runesAt a1 pos).all (isL l0)) ∧ Aside0 (cnt + (runesAt a1 pos).length = (runesS a1).length) ∧ Aside0 (w'.ownsMap Tryd.prog 21 (plainElem (H := Unit) Tryd.prog 3) w1.heap.size l0.length (mapI l0 l0.length)) ∧ Aside0 (Below w.heap.size w w'))
      case atStart => exact ⟨0, 0, rfl, ⟨World.iter_heap w2 a1 0⟩, ⟨by omega⟩, ⟨by rw [runesAt_zero]⟩, ⟨by rw [runesAt_zero, Nat.zero_add]⟩, HOK, hBK'⟩
      case round =>
        obtain ⟨pos, cnt, rfl, hit, hq, hall, hcnt, HO, HB⟩ := hrel
        by_cases hp : pos < a1.size
        · have hnx : ∀ ty, (Instr.next (.pointer (some ⟨w2.heap.size, 0, none⟩)) true ty).run Tryd.prog wr = _ := fun ty => run_next_any_at wr w2.heap.size a1 pos ty hit.out hp
          have hsc := scalar_at a1 pos
          have hst := runesAt_step hp
          have hwd := width_at hp
          obtain ⟨R, hR⟩ : ∃ R : Int, ((Utf8.decode a1 pos).1 : Int) = R := ⟨_, rfl⟩
          rw [hR] at hsc hst
          simp only [hR] at hnx
          have hkey : keyOf Tryd.prog 21 (.int .i32 R) = some (rkey R) := keyOf_int_mk Tryd.underlying21 (scalar_wf hsc)
          have HO2 := Aside0.mk (ownsMap_heap HO.out (iterAt_other wr w2.heap.size w1.heap.size a1 (pos + (Utf8.decode a1 pos).2) (by have := hlt'.out; omega)))
          have hz := has_mapI l0 R l0.length
          have hst' := Aside0.mk hst
          have hsc' := Aside0.mk hsc
          have hwd' := Aside0.mk hwd
          have hp' := Aside0.mk hp
          clear hst hsc hwd hp
          cases hL : (look l0 l0.length R).isSome with
          | false =>
            have hhas : Maps.has (mapI l0 l0.length) (rkey R) = false := hz.trans hL
            have hLn := Aside0.mk hL
            clear hz hL
            obtain rfl : r = false := by
              rw [hrr'.out, hall.out, hst'.out, List.all_cons, show isL l0 R = false from hLn.out]; rfl
            go_wp2_with (at_lookup; refine wpList_lookup_own_ok_int _ rfl _ _ 115 rfl 21 3 .i64 keyR Tryd.underlying115 Tryd.underlying3 (zeroI _) w1.heap.size l0.length (mapI l0 l0.length) rfl HO2.out _ _ rfl hkey ?_; intro cc hcc hwc)
            go_ret
            exact ⟨rfl, below_iterAt HB.out hs2.out _ _⟩
          | true =>
            obtain ⟨g1, rfl⟩ : ∃ g1, gk = g1 + 1 := ⟨gk - 1, by have := hq.out; have := hp'.out; omega⟩
            have hhas : Maps.has (mapI l0 l0.length) (rkey R) = true := hz.trans hL
            have hLn := Aside0.mk hL
            clear hz hL
            go_wp2_with (at_lookup; refine wpList_lookup_own_ok_int _ rfl _ _ 115 rfl 21 3 .i64 keyR Tryd.underlying115 Tryd.underlying3 (zeroI _) w1.heap.size l0.length (mapI l0 l0.length) rfl HO2.out _ _ rfl hkey ?_; intro cc hcc hwc)
            go_roundg g1
            case measure => omega
            case rel =>
              have hcl : (runesAt a1 pos).length = (runesAt a1 (pos + (Utf8.decode a1 pos).2)).length + 1 := by rw [hst'.out]; rfl
              refine ⟨pos + (Utf8.decode a1 pos).2, cnt + 1, ?_, ⟨iterAt_heap _ _ _ _ _ hit.out⟩, ⟨?_⟩, ⟨?_⟩, ⟨?_⟩, HO2, ⟨below_iterAt HB.out hs2.out _ _⟩⟩
              · rw [idx_next (i := cnt) (n := (runesS a1).length) (by have := hcnt.out; omega) (by have := runesS_length a1; have := hG.out.2; omega)]
              · have := hq.out; have := hwd'.out; omega
              · rw [hall.out, hst'.out, List.all_cons, show isL l0 R = true from hLn.out, Bool.true_and]
              · have := hcnt.out; omega
        · have hnx : ∀ ty, (Instr.next (.pointer (some ⟨w2.heap.size, 0, none⟩)) true ty).run Tryd.prog wr = _ := fun ty => run_next_end_at wr w2.heap.size a1 pos ty hit.out hp
          have hre := Aside0.mk (runesAt_end hp)
          clear hp
          have hcn : cnt = (runesS a1).length := by have := hcnt.out; rw [hre.out] at this; simpa using this
          have hrv : r = decide ((cnt : Int) ≤ 40) := by
            rw [hrr'.out, hall.out, hre.out, hcn, List.all_nil, Bool.true_and]
            exact decide_eq_decide.2 (by omega)
          subst hrv
          have hcn' := Aside0.mk hcn
          clear hcn
          go_wp2
          go_ret
          exact ⟨rfl, HB.out⟩
  · rw [if_neg hg] at h; cases h
end Go.Proofs.YtfbhdjflkaldgaaDoor.Pr

namespace Go.Proofs.YtfbhdjflkaldgaaDoor.Pr
open Go.Proofs.YtfbhdjflkaldgaaDoor.Ct Go.RowKit Go.Proofs.YtfbhdjflkaldgaaDoorW.PrintWords Go.Proofs.YtfbhdjflkaldgaaDoorW.PrintLast Go.Proofs.YtfbhdjflkaldgaaDoorW.PrintMore
attribute [local go_sem] max2_int min2_int max_two min_two max_three min_three max_four min_four
set_option linter.unusedVariables false
set_option linter.unusedSimpArgs false
def orthography_word.f (a_0 : ByteArray) (a_1 : Bool) (l_2 : List (S80)) (l_3 : List (S85)) (l_4 : List (S180)) (l_5 : List (S183)) (l_6 : List (List Int)) (a_7 : Int) (a_8 : Int) (l_9 : List (S85)) (a_a : Int) (l_b : List ByteArray) (l_c : List ByteArray) (a_d : Bool) (a_e : ByteArray) (a_f : Int) (a_g : ByteArray) (a_h : Bool) (a_i : Int) (a_j : Int) (l_k : List (S186)) (l_l : List (S186)) (l_m : List ByteArray) (l_n : List ByteArray) (l_o : List ByteArray) (a_p : Bool) (l_q : List (S188)) (l_r : List (S190)) (l_s : List (S194)) (a_t : ByteArray) (a1 : ByteArray) : Option (Bool) := if a1.toList = ([] : List UInt8) then (some false) else ((alphabet_IsWord.f l_2 a1).bind fun t271 => (some t271))
theorem LPrF44x1 {p : Prop} (h : p := by
  go_ret
  exact ⟨tE, by repeat (first | (with_reducible first | exact HB.out | apply below_alloc | apply pw_below_drewN | apply below_drew1 | refine below_set ?_ GE270.out) | exact HB.out)⟩) : p := h
set_option maxHeartbeats 8000000 in
set_option maxRecDepth 100000 in
theorem orthography_word.calls (a_0 : ByteArray) (a_1 : Bool) (A_2 : Option Addr) (c_2 : Nat) (l_2 : List (S80)) (A_3 : Option Addr) (c_3 : Nat) (l_3 : List (S85)) (A_4 : Option Addr) (c_4 : Nat) (l_4 : List (S180)) (A_5 : Option Addr) (c_5 : Nat) (l_5 : List (S183)) (A_6 : Option Addr) (c_6 : Nat) (l_6 : List (List Int)) (a_7 : Int) (a_8 : Int) (A_9 : Option Addr) (c_9 : Nat) (l_9 : List (S85)) (a_a : Int) (A_b : Option Addr) (c_b : Nat) (l_b : List ByteArray) (A_c : Option Addr) (c_c : Nat) (l_c : List ByteArray) (a_d : Bool) (a_e : ByteArray) (a_f : Int) (a_g : ByteArray) (a_h : Bool) (a_i : Int) (a_j : Int) (A_k : Option Addr) (c_k : Nat) (l_k : List (S186)) (A_l : Option Addr) (c_l : Nat) (l_l : List (S186)) (A_m : Option Addr) (c_m : Nat) (l_m : List ByteArray) (A_n : Option Addr) (c_n : Nat) (l_n : List ByteArray) (A_o : Option Addr) (c_o : Nat) (l_o : List ByteArray) (a_p : Bool) (A_q : Option Addr) (c_q : Nat) (l_q : List (S188)) (A_r : Option Addr) (c_r : Nat) (l_r : List (S190)) (A_s : Option Addr) (c_s : Nat) (l_s : List (S194)) (a_t : ByteArray) (a1 : ByteArray) (r : Bool) (w : World) (hT : Tabs w) (hr_2 : Kd.C k80 w A_2 l_2.length l_2) (hc_2 : l_2.length ≤ c_2) (hr_3 : Kd.C k85 w A_3 l_3.length l_3) (hc_3 : l_3.length ≤ c_3) (hr_4 : Kd.C k180 w A_4 l_4.length l_4) (hc_4 : l_4.length ≤ c_4) (hr_5 : Kd.C k183 w A_5 l_5.length l_5) (hc_5 : l_5.length ≤ c_5) (hr_6 : Kd.C (Kd.slice 78 (Kd.int .u32)) w A_6 l_6.length l_6) (hc_6 : l_6.length ≤ c_6) (hr_9 : Kd.C k85 w A_9 l_9.length l_9) (hc_9 : l_9.length ≤ c_9) (hr_b : Kd.C Kd.string w A_b l_b.length l_b) (hc_b : l_b.length ≤ c_b) (hr_c : Kd.C Kd.string w A_c l_c.length l_c) (hc_c : l_c.length ≤ c_c) (hr_k : Kd.C k186 w A_k l_k.length l_k) (hc_k : l_k.length ≤ c_k) (hr_l : Kd.C k186 w A_l l_l.length l_l) (hc_l : l_l.length ≤ c_l) (hr_m : Kd.C Kd.string w A_m l_m.length l_m) (hc_m : l_m.length ≤ c_m) (hr_n : Kd.C Kd.string w A_n l_n.length l_n) (hc_n : l_n.length ≤ c_n) (hr_o : Kd.C Kd.string w A_o l_o.length l_o) (hc_o : l_o.length ≤ c_o) (hr_q : Kd.C k188 w A_q l_q.length l_q) (hc_q : l_q.length ≤ c_q) (hr_r : Kd.C k190 w A_r l_r.length l_r) (hc_r : l_r.length ≤ c_r) (hr_s : Kd.C k194 w A_s l_s.length l_s) (hc_s : l_s.length ≤ c_s) (h : orthography_word.f a_0 a_1 l_2 l_3 l_4 l_5 l_6 a_7 a_8 l_9 a_a l_b l_c a_d a_e a_f a_g a_h a_i a_j l_k l_l l_m l_n l_o a_p l_q l_r l_s a_t a1 = some r) :
 Calls Tryd.prog 44 #[.agg #[.string a_0, .bool a_1, .slice A_2 l_2.length c_2, .slice A_3 l_3.length c_3, .slice A_4 l_4.length c_4, .slice A_5 l_5.length c_5, .slice A_6 l_6.length c_6, .int .i64 a_7, .int .i64 a_8, .slice A_9 l_9.length c_9, .int .i64 a_a, .slice A_b l_b.length c_b, .slice A_c l_c.length c_c, .bool a_d, .string a_e, .int .i64 a_f, .string a_g, .bool a_h, .int .i64 a_i, .int .i64 a_j, .slice A_k l_k.length c_k, .slice A_l l_l.length c_l, .slice A_m l_m.length c_m, .slice A_n l_n.length c_n, .slice A_o l_o.length c_o, .bool a_p, .slice A_q l_q.length c_q, .slice A_r l_r.length c_r, .slice A_s l_s.length c_s, .string a_t], .string a1] w fun e w' => e = .returned (.bool r) ∧ Below w.heap.size w w' := by
 have HT := Aside0.mk hT
 clear hT
 have hu41 := Tryd.underlying41
 have HR_2 := Aside0.mk hr_2
 have HC_2 := Aside0.mk hc_2
 clear hr_2 hc_2
 have HR_3 := Aside0.mk hr_3
 have HC_3 := Aside0.mk hc_3
 clear hr_3 hc_3
 have HR_4 := Aside0.mk hr_4
 have HC_4 := Aside0.mk hc_4
 clear hr_4 hc_4
 have HR_5 := Aside0.mk hr_5
 have HC_5 := Aside0.mk hc_5
 clear hr_5 hc_5
 have HR_6 := Aside0.mk hr_6
 have HC_6 := Aside0.mk hc_6
 clear hr_6 hc_6
 have HR_9 := Aside0.mk hr_9
 have HC_9 := Aside0.mk hc_9
 clear hr_9 hc_9
 have HR_b := Aside0.mk hr_b
 have HC_b := Aside0.mk hc_b
 clear hr_b hc_b
 have HR_c := Aside0.mk hr_c
 have HC_c := Aside0.mk hc_c
 clear hr_c hc_c
 have HR_k := Aside0.mk hr_k
 have HC_k := Aside0.mk hc_k
 clear hr_k hc_k
 have HR_l := Aside0.mk hr_l
 have HC_l := Aside0.mk hc_l
 clear hr_l hc_l
 have HR_m := Aside0.mk hr_m
 have HC_m := Aside0.mk hc_m
 clear hr_m hc_m
 have HR_n := Aside0.mk hr_n
 have HC_n := Aside0.mk hc_n
 clear hr_n hc_n
 have HR_o := Aside0.mk hr_o
 have HC_o := Aside0.mk hc_o
 clear hr_o hc_o
 have HR_q := Aside0.mk hr_q
 have HC_q := Aside0.mk hc_q
 clear hr_q hc_q
 have HR_r := Aside0.mk hr_r
 have HC_r := Aside0.mk hc_r
 clear hr_r hc_r
 have HR_s := Aside0.mk hr_s
 have HC_s := Aside0.mk hc_s
 clear hr_s hc_s
 have HB := Aside0.mk (Below.refl w.heap.size w)
 have H : (if a1.toList = ([] : List UInt8) then (some false) else ((alphabet_IsWord.f l_2 a1).bind fun t271 => (some t271))) = some r := h
 clear h
 replace H := iE H; obtain ⟨-, c3b0, c3b1, H⟩ | ⟨c3, c3b0, c3b1, H⟩ := H
 ·
  obtain rfl := Option.some.inj H
  go_enter Tryd.func44, Tryd.ntmps44
  go_wp2_with (first | ((with_reducible refine gate_load (t := 41) (p := 2) rfl ?_); (try (refine gate_guard (by rfl) ?_; dsimp only)); refine wpList_load_row rfl 41 (.tmp 2) rfl gb270 rfl 41 _ (0, 0) _ (tK BK270) Tryd.underlying41 rfl (by kernel_rfl) ?_) | ((with_reducible refine gate_dst (N := 2) rfl ?_); refine box_event ?hg (N := 2) ?hd (cs := ?cs) (t := 41) ?hr ?_; (case hd => rfl); (case hg => rfl); (case hr => exact Gc6); intro gb270 hg w4 hbox hb; have n0_ := Aside0.mk (below_step (tB HB) hb); have n1_ := Aside0.mk (hbox); have n2_ := tZ hg (tS HB); have n3_ := tZ hg (tS HB); revert n0_ n1_ n2_ n3_; clear HB; intro HB BK270 GW270 GE270; clear hb hbox hg))
  exact LPrF44x1
 ·
  replace H := bI H; obtain ⟨t271, A5, H⟩ := H; (try dsimp only at H)
  obtain rfl := Option.some.inj H
  go_enter Tryd.func44, Tryd.ntmps44
  go_wp2_with (first | ((with_reducible refine gate_load (t := 41) (p := 2) rfl ?_); (try (refine gate_guard (by rfl) ?_; dsimp only)); refine wpList_load_row rfl 41 (.tmp 2) rfl gb270 rfl 41 _ (0, 0) _ (tK BK270) Tryd.underlying41 rfl (by kernel_rfl) ?_) | ((with_reducible refine gate_dst (N := 2) rfl ?_); refine box_event ?hg (N := 2) ?hd (cs := ?cs) (t := 41) ?hr ?_; (case hd => rfl); (case hg => rfl); (case hr => exact Gc6); intro gb270 hg w6 hbox hb; have n0_ := Aside0.mk (below_step (tB HB) hb); have n1_ := Aside0.mk (hbox); have n2_ := tZ hg (tS HB); have n3_ := tZ hg (tS HB); revert n0_ n1_ n2_ n3_; clear HB; intro HB BK270 GW270 GE270; clear hb hbox hg; have hcz7_0 := cel2 BK270 0 rfl; have hcz7_1 := cel2 BK270 1 rfl; have hcz7_2 := cel2 BK270 2 rfl; have hcz7_3 := cel2 BK270 3 rfl; have hcz7_4 := cel2 BK270 4 rfl; have hcz7_5 := cel2 BK270 5 rfl; have hcz7_6 := cel2 BK270 6 rfl; have hcz7_7 := cel2 BK270 7 rfl; have hcz7_8 := cel2 BK270 8 rfl; have hcz7_9 := cel2 BK270 9 rfl; have hcz7_10 := cel2 BK270 10 rfl; have hcz7_11 := cel2 BK270 11 rfl; have hcz7_12 := cel2 BK270 12 rfl; have hcz7_13 := cel2 BK270 13 rfl; have hcz7_14 := cel2 BK270 14 rfl; have hcz7_15 := cel2 BK270 15 rfl; have hcz7_16 := cel2 BK270 16 rfl; have hcz7_17 := cel2 BK270 17 rfl; have hcz7_18 := cel2 BK270 18 rfl; have hcz7_19 := cel2 BK270 19 rfl; have hcz7_20 := cel2 BK270 20 rfl; have hcz7_21 := cel2 BK270 21 rfl; have hcz7_22 := cel2 BK270 22 rfl; have hcz7_23 := cel2 BK270 23 rfl; have hcz7_24 := cel2 BK270 24 rfl; have hcz7_25 := cel2 BK270 25 rfl; have hcz7_26 := cel2 BK270 26 rfl; have hcz7_27 := cel2 BK270 27 rfl; have hcz7_28 := cel2 BK270 28 rfl; have hcz7_29 := cel2 BK270 29 rfl; have hfz7_0 := blk_frozen BK270.out 0; have hfz7_1 := blk_frozen BK270.out 1; have hfz7_2 := blk_frozen BK270.out 2; have hfz7_3 := blk_frozen BK270.out 3; have hfz7_4 := blk_frozen BK270.out 4; have hfz7_5 := blk_frozen BK270.out 5; have hfz7_6 := blk_frozen BK270.out 6; have hfz7_7 := blk_frozen BK270.out 7; have hfz7_8 := blk_frozen BK270.out 8; have hfz7_9 := blk_frozen BK270.out 9; have hfz7_10 := blk_frozen BK270.out 10; have hfz7_11 := blk_frozen BK270.out 11; have hfz7_12 := blk_frozen BK270.out 12; have hfz7_13 := blk_frozen BK270.out 13; have hfz7_14 := blk_frozen BK270.out 14; have hfz7_15 := blk_frozen BK270.out 15; have hfz7_16 := blk_frozen BK270.out 16; have hfz7_17 := blk_frozen BK270.out 17; have hfz7_18 := blk_frozen BK270.out 18; have hfz7_19 := blk_frozen BK270.out 19; have hfz7_20 := blk_frozen BK270.out 20; have hfz7_21 := blk_frozen BK270.out 21; have hfz7_22 := blk_frozen BK270.out 22; have hfz7_23 := blk_frozen BK270.out 23; have hfz7_24 := blk_frozen BK270.out 24; have hfz7_25 := blk_frozen BK270.out 25; have hfz7_26 := blk_frozen BK270.out 26; have hfz7_27 := blk_frozen BK270.out 27; have hfz7_28 := blk_frozen BK270.out 28; have hfz7_29 := blk_frozen BK270.out 29) | (go_at_call 49; (with_reducible refine (alphabet_IsWord.calls _ _ l_2 a1 t271 _ ?sT (tC HR_2 HB) HC_2.out A5.out).mono ?_); (case sT => exact Gc1); rintro e w8 ⟨rfl, hb⟩; have n0_ := Aside0.mk (blk_below (tK BK270) hb); have n1_ := Aside0.mk (below_step (tB HB) hb); revert n0_ n1_; clear BK270 HB; intro BK270 HB; (try clear hb); (try clear hb2); (try clear hk); (try clear hi)))
  exact LPrF44x1
def stringslite_HasPrefix.f (a0 : ByteArray) (a1 : ByteArray) : Option (Bool) := if (a0.size : Int) ≥ (a1.size : Int) then (if 0 ≤ (a1.size : Int) then (if (a1.size : Int) ≤ (a0.size : Int) then (some ((a0.extract 0 ((a1.size : Int) : Int).toNat).toList == a1.toList)) else (none)) else (none)) else (some false)
theorem LPrF78x1 {p : Prop} (h : p := by
  obtain rfl := Option.some.inj H
  go_enter Tryd.func78, Tryd.ntmps78
  go_wp2
  go_ret
  exact ⟨by first | rfl | (simp; done) | (simp [*]; done), by repeat (first | exact Drawn0.refl _ | apply Drawn0.step)⟩) : p := h
set_option maxHeartbeats 8000000 in
set_option maxRecDepth 100000 in
theorem stringslite_HasPrefix.calls (a0 : ByteArray) (a1 : ByteArray) (r : Bool) (w : World) (h : stringslite_HasPrefix.f a0 a1 = some r) :
 Calls Tryd.prog 78 #[.string a0, .string a1] w fun e w' => e = .returned (.bool r) ∧ Drawn0 w w' := by
 have H : (if (a0.size : Int) ≥ (a1.size : Int) then (if 0 ≤ (a1.size : Int) then (if (a1.size : Int) ≤ (a0.size : Int) then (some ((a0.extract 0 ((a1.size : Int) : Int).toNat).toList == a1.toList)) else (none)) else (none)) else (some false)) = some r := h
 clear h
 replace H := iF H; obtain ⟨c3, H⟩ | ⟨c3, H⟩ := H
 ·
  have c3b0 : decide ((a1.size : Int) ≤ (a0.size : Int)) = true := decide_eq_true c3
  have c3b1 : decide (a1.size ≤ a0.size) = true := decide_eq_true (Int.ofNat_le.mp c3)
  clear c3
  replace H := iF H; obtain ⟨c4, H⟩ | ⟨c4, H⟩ := H
  ·
   have c4b0 := eq_true c4
   have c4b1 : decide (0 ≤ (a1.size : Int)) = true := decide_eq_true c4
   clear c4
   replace H := iF H; obtain ⟨c5, H⟩ | ⟨c5, H⟩ := H
   ·
    have c5b0 := eq_true c5
    have c5b1 : decide ((a1.size : Int) ≤ (a0.size : Int)) = true := decide_eq_true c5
    clear c5
    exact LPrF78x1
   ·
    exact absurd H (by simp)
  ·
   exact absurd H (by simp)
 ·
  have c3b0 : decide ((a1.size : Int) ≤ (a0.size : Int)) = false := decide_eq_false c3
  have c3b1 : decide (a1.size ≤ a0.size) = false := decide_eq_false (fun h => c3 (Int.ofNat_le.mpr h))
  clear c3
  exact LPrF78x1
def stringslite_CutPrefix.f (a0 : ByteArray) (a1 : ByteArray) : Option (ByteArray × Bool) := (stringslite_HasPrefix.f a0 a1).bind fun t267 => (if t267 = true then (if 0 ≤ (a1.size : Int) then (if (a1.size : Int) ≤ (a0.size : Int) then (some (a0.extract ((a1.size : Int) : Int).toNat a0.size, true)) else (none)) else (none)) else (some (a0, false)))
set_option maxHeartbeats 8000000 in
set_option maxRecDepth 100000 in
theorem stringslite_CutPrefix.calls (a0 : ByteArray) (a1 : ByteArray) (r1 : ByteArray) (r2 : Bool) (w : World) (h : stringslite_CutPrefix.f a0 a1 = some (r1, r2)) :
 Calls Tryd.prog 62 #[.string a0, .string a1] w fun e w' => e = .returned (.tuple #[.string r1, .bool r2]) ∧ Drawn0 w w' := by
 have H : ((stringslite_HasPrefix.f a0 a1).bind fun t267 => (if t267 = true then (if 0 ≤ (a1.size : Int) then (if (a1.size : Int) ≤ (a0.size : Int) then (some (a0.extract ((a1.size : Int) : Int).toNat a0.size, true)) else (none)) else (none)) else (some (a0, false)))) = some (r1, r2) := h
 clear h
 replace H := bI H; obtain ⟨t267, A3, H⟩ := H; (try dsimp only at H)
 replace H := iT H; obtain ⟨rfl, H⟩ | ⟨rfl, H⟩ := H
 ·
  replace H := iF H; obtain ⟨c5, H⟩ | ⟨c5, H⟩ := H
  ·
   have c5b0 := eq_true c5
   have c5b1 : decide (0 ≤ (a1.size : Int)) = true := decide_eq_true c5
   clear c5
   replace H := iF H; obtain ⟨c6, H⟩ | ⟨c6, H⟩ := H
   ·
    have c6b0 := eq_true c6
    have c6b1 : decide ((a1.size : Int) ≤ (a0.size : Int)) = true := decide_eq_true c6
    clear c6
    simp only [Option.some.injEq, Prod.mk.injEq] at H
    obtain ⟨rfl, rfl⟩ := H
    go_enter Tryd.func62, Tryd.ntmps62
    go_wp2_with (first | ((with_reducible refine gate_callee (f := 78) rfl ?_); refine goesL_ (some 8) rfl rfl Tryd.func78 (by kernel_rfl) rfl #[.string a0, .string a1] rfl Gc2 ?_; (with_reducible refine (stringslite_HasPrefix.calls a0 a1 true _ A3.out).mono ?_); rintro e w' ⟨rfl, ⟨nd, rfl⟩⟩; refine ⟨_, rfl, ?_⟩))
    go_ret2
    exact ⟨by first | rfl | (simp; done) | (simp [*]; done), by repeat (first | exact Drawn0.refl _ | apply Drawn0.step)⟩
   ·
    exact absurd H (by simp)
  ·
   exact absurd H (by simp)
 ·
  simp only [Option.some.injEq, Prod.mk.injEq] at H
  obtain ⟨rfl, rfl⟩ := H
  go_enter Tryd.func62, Tryd.ntmps62
  go_wp2_with (first | ((with_reducible refine gate_callee (f := 78) rfl ?_); refine goesL_ (some 8) rfl rfl Tryd.func78 (by kernel_rfl) rfl #[.string a0, .string a1] rfl Gc2 ?_; (with_reducible refine (stringslite_HasPrefix.calls a0 a1 false _ A3.out).mono ?_); rintro e w' ⟨rfl, ⟨nd, rfl⟩⟩; refine ⟨_, rfl, ?_⟩))
  go_ret2
  exact ⟨by first | rfl | (simp; done) | (simp [*]; done), by repeat (first | exact Drawn0.refl _ | apply Drawn0.step)⟩
def strings_CutPrefix.f (a0 : ByteArray) (a1 : ByteArray) : Option (ByteArray × Bool) := (stringslite_CutPrefix.f a0 a1).bind fun bt268 => (some (bt268.1, bt268.2))
set_option maxHeartbeats 8000000 in
set_option maxRecDepth 100000 in
theorem strings_CutPrefix.calls (a0 : ByteArray) (a1 : ByteArray) (r1 : ByteArray) (r2 : Bool) (w : World) (h : strings_CutPrefix.f a0 a1 = some (r1, r2)) :
 Calls Tryd.prog 43 #[.string a0, .string a1] w fun e w' => e = .returned (.tuple #[.string r1, .bool r2]) ∧ Drawn0 w w' := by
 have H : ((stringslite_CutPrefix.f a0 a1).bind fun bt268 => (some (bt268.1, bt268.2))) = some (r1, r2) := h
 clear h
 replace H := bI H; obtain ⟨⟨t268, t269⟩, A3, H⟩ := H; (try dsimp only at H)
 simp only [Option.some.injEq, Prod.mk.injEq] at H
 obtain ⟨rfl, rfl⟩ := H
 go_enter Tryd.func43, Tryd.ntmps43
 go_wp2_with (first | ((with_reducible refine gate_callee (f := 62) rfl ?_); refine goesL_ (some 8) rfl rfl Tryd.func62 (by kernel_rfl) rfl #[.string a0, .string a1] rfl Gc2 ?_; (with_reducible refine (stringslite_CutPrefix.calls a0 a1 t268 t269 _ A3.out).mono ?_); rintro e w' ⟨rfl, ⟨nd, rfl⟩⟩; refine ⟨_, rfl, ?_⟩))
 go_ret2
 exact ⟨by first | rfl | (simp; done) | (simp [*]; done), by repeat (first | exact Drawn0.refl _ | apply Drawn0.step)⟩
end Go.Proofs.YtfbhdjflkaldgaaDoor.Pr

/- Patterns: item by item, and by sets of positions. -/
namespace Go.Proofs.YtfbhdjflkaldgaaDoor.Pr
set_option linter.unusedVariables false
section
variable {I A : Type} (adm : I → A → Bool) (rep : I → Bool)
def matchP : List I → List A → Bool
  | [], s => s.isEmpty
  | x :: p, [] => rep x && matchP p []
  | x :: p, a :: t => (rep x && matchP p (a :: t)) || (adm x a && (if rep x = true then matchP (x :: p) t else matchP p t))
termination_by p s => p.length + s.length
def One (x : I) (s : List A) : Prop := if rep x = true then ∀ a ∈ s, adm x a = true else ∃ a, s = [a] ∧ adm x a = true
def Lang : List I → List A → Prop
  | [], s => s = []
  | x :: p, s => ∃ u v, s = u ++ v ∧ One adm rep x u ∧ Lang p v
theorem lang_cons_cons (x : I) (p : List I) (a : A) (t : List A) : Lang adm rep (x :: p) (a :: t) ↔ (rep x = true ∧ Lang adm rep p (a :: t)) ∨ (adm x a = true ∧ (if rep x = true then Lang adm rep (x :: p) t else Lang adm rep p t)) := by
  constructor
  · rintro ⟨u, v, e, h1, h2⟩
    unfold One at h1
    by_cases hr : rep x = true
    · rw [if_pos hr] at h1
      cases u with
      | nil => rw [List.nil_append] at e; subst e; exact .inl ⟨hr, h2⟩
      | cons b u =>
        injection e with e1 e2
        subst e1
        refine .inr ⟨h1 a (by simp), ?_⟩
        rw [if_pos hr]
        exact ⟨u, v, e2, by unfold One; rw [if_pos hr]; exact fun c hc => h1 c (by simp [hc]), h2⟩
    · rw [if_neg hr] at h1
      obtain ⟨b, rfl, hb⟩ := h1
      injection e with e1 e2
      subst e1
      refine .inr ⟨hb, ?_⟩
      rw [if_neg hr, e2]
      exact h2
  · rintro (⟨hr, h⟩ | ⟨ha, h⟩)
    · exact ⟨[], a :: t, rfl, by unfold One; rw [if_pos hr]; simp, h⟩
    · by_cases hr : rep x = true
      · rw [if_pos hr] at h
        obtain ⟨u, v, e, h1, h2⟩ := h
        refine ⟨a :: u, v, by rw [e]; rfl, ?_, h2⟩
        unfold One at h1 ⊢
        rw [if_pos hr] at h1 ⊢
        intro c hc
        rcases List.mem_cons.1 hc with rfl | hc
        · exact ha
        · exact h1 c hc
      · rw [if_neg hr] at h
        exact ⟨[a], t, rfl, by unfold One; rw [if_neg hr]; exact ⟨a, rfl, ha⟩, h⟩
theorem lang_cons_nil (x : I) (p : List I) : Lang adm rep (x :: p) [] ↔ rep x = true ∧ Lang adm rep p [] := by
  constructor
  · rintro ⟨u, v, e, h1, h2⟩
    obtain ⟨rfl, rfl⟩ := List.append_eq_nil_iff.1 e.symm
    unfold One at h1
    by_cases hr : rep x = true
    · exact ⟨hr, h2⟩
    · rw [if_neg hr] at h1; obtain ⟨a, e, _⟩ := h1; cases e
  · rintro ⟨hr, h⟩
    exact ⟨[], [], rfl, by unfold One; rw [if_pos hr]; simp, h⟩
theorem match_iff : ∀ (n : Nat) (p : List I) (s : List A), p.length + s.length ≤ n → (matchP adm rep p s = true ↔ Lang adm rep p s) := by
  intro n
  induction n with
  | zero =>
    intro p s h
    obtain rfl : p = [] := List.eq_nil_of_length_eq_zero (by omega)
    obtain rfl : s = [] := List.eq_nil_of_length_eq_zero (by omega)
    unfold matchP
    simp [Lang]
  | succ n ih =>
    intro p s h
    cases p with
    | nil => unfold matchP; simp [Lang]
    | cons x p =>
      cases s with
      | nil =>
        unfold matchP
        rw [lang_cons_nil, Bool.and_eq_true, ih p [] (by simp at h ⊢; omega)]
      | cons a t =>
        unfold matchP
        rw [lang_cons_cons, Bool.or_eq_true, Bool.and_eq_true, Bool.and_eq_true, ih p (a :: t) (by simp at h ⊢; omega)]
        by_cases hr : rep x = true
        · simp only [if_pos hr]; rw [ih (x :: p) t (by simp at h ⊢; omega)]
        · simp only [if_neg hr]; rw [ih p t (by simp at h ⊢; omega)]
theorem matchP_iff (p : List I) (s : List A) : matchP adm rep p s = true ↔ Lang adm rep p s := match_iff adm rep _ p s (Nat.le_refl _)
theorem lang_append : ∀ (p q : List I) (s : List A), Lang adm rep (p ++ q) s ↔ ∃ u v, s = u ++ v ∧ Lang adm rep p u ∧ Lang adm rep q v
  | [], q, s => by
    constructor
    · intro h; exact ⟨[], s, rfl, rfl, h⟩
    · rintro ⟨u, v, rfl, h1, h2⟩
      obtain rfl : u = [] := h1
      exact h2
  | x :: p, q, s => by
    constructor
    · rintro ⟨u, v, rfl, h1, h2⟩
      obtain ⟨u', v', rfl, h3, h4⟩ := (lang_append p q v).1 h2
      exact ⟨u ++ u', v', by rw [List.append_assoc], ⟨u, u', rfl, h1, h3⟩, h4⟩
    · rintro ⟨u, v, rfl, ⟨u1, u2, rfl, h1, h2⟩, h3⟩
      exact ⟨u1, u2 ++ v, by rw [List.append_assoc], h1, (lang_append p q _).2 ⟨u2, v, rfl, h2, h3⟩⟩
theorem lang_one (x : I) (s : List A) : Lang adm rep [x] s ↔ One adm rep x s := by
  constructor
  · rintro ⟨u, v, rfl, h1, h2⟩
    obtain rfl : v = [] := h2
    rwa [List.append_nil]
  · intro h; exact ⟨s, [], by rw [List.append_nil], h, rfl⟩
theorem one_reverse (x : I) (s : List A) : One adm rep x s.reverse ↔ One adm rep x s := by
  unfold One
  by_cases hr : rep x = true
  · simp [if_pos hr]
  · simp only [if_neg hr]
    constructor
    · rintro ⟨a, e, h⟩
      exact ⟨a, by have := congrArg List.reverse e; simpa using this, h⟩
    · rintro ⟨a, rfl, h⟩; exact ⟨a, rfl, h⟩
theorem lang_reverse : ∀ (p : List I) (s : List A), Lang adm rep p.reverse s.reverse ↔ Lang adm rep p s
  | [], s => by simp [Lang]
  | x :: p, s => by
    rw [List.reverse_cons, lang_append]
    constructor
    · rintro ⟨u, v, e, h1, h2⟩
      rw [lang_one] at h2
      refine ⟨v.reverse, u.reverse, ?_, (one_reverse adm rep x v).2 h2, ?_⟩
      · have := congrArg List.reverse e; simpa using this
      · rw [← lang_reverse p]; simpa using h1
    · rintro ⟨u, v, rfl, h1, h2⟩
      exact ⟨v.reverse, u.reverse, by simp, (lang_reverse p v).2 h2, (lang_one adm rep x _).2 ((one_reverse adm rep x u).2 h1)⟩
theorem lang_snoc_nil (q : List I) (x : I) : Lang adm rep (q ++ [x]) [] ↔ rep x = true ∧ Lang adm rep q [] := by
  rw [lang_append]
  constructor
  · rintro ⟨u, v, e, h1, h2⟩
    obtain ⟨rfl, rfl⟩ := List.append_eq_nil_iff.1 e.symm
    exact ⟨((lang_cons_nil adm rep x []).1 h2).1, h1⟩
  · rintro ⟨hr, h⟩
    exact ⟨[], [], rfl, h, (lang_cons_nil adm rep x []).2 ⟨hr, rfl⟩⟩
theorem lang_snoc (q : List I) (x : I) (s : List A) (a : A) : Lang adm rep (q ++ [x]) (s ++ [a]) ↔ (if rep x = true then Lang adm rep q (s ++ [a]) ∨ (adm x a = true ∧ Lang adm rep (q ++ [x]) s) else adm x a = true ∧ Lang adm rep q s) := by
  have h1 := lang_reverse adm rep (q ++ [x]) (s ++ [a])
  have h2 := lang_reverse adm rep (q ++ [x]) s
  have h3 := lang_reverse adm rep q (s ++ [a])
  have h4 := lang_reverse adm rep q s
  simp only [List.reverse_append, List.reverse_cons, List.reverse_nil, List.nil_append, List.cons_append] at h1 h2 h3 h4
  rw [← h1, lang_cons_cons]
  by_cases hr : rep x = true
  · simp only [if_pos hr]
    rw [h3, h2]
    simp [hr]
  · simp only [if_neg hr]
    rw [h4]
    simp [hr]
def reach (p : List I) (j : Nat) : Nat := match p[j]? with
  | some x => if rep x = true then j + 1 else j
  | none => j
def Pos (p : List I) (j : Nat) (s : List A) : Prop := Lang adm rep (p.take (reach rep p j)) s
theorem pos_end (p : List I) (s : List A) : Pos adm rep p p.length s ↔ Lang adm rep p s := by
  unfold Pos reach
  rw [List.getElem?_eq_none (Nat.le_refl _)]
  simp
theorem pos_start0 (p : List I) : Pos adm rep p 0 [] := by
  unfold Pos reach
  cases h : p[0]? with
  | none => simp [Lang]
  | some x =>
    by_cases hr : rep x = true
    · simp only [if_pos hr]
      cases p with
      | nil => simp at h
      | cons y p =>
        obtain rfl : y = x := by simpa using h
        simp only [List.take_succ_cons, List.take_zero]
        exact (lang_cons_nil adm rep y []).2 ⟨hr, rfl⟩
    · simp only [if_neg hr]; simp [Lang]
theorem take_next' {p : List I} {i : Nat} {x : I} (h : p[i]? = some x) : p.take (i + 1) = p.take i ++ [x] := by
  obtain ⟨hi, rfl⟩ := List.getElem?_eq_some_iff.1 h
  exact List.take_succ_eq_append_getElem hi
theorem reach_rep {p : List I} {i : Nat} {x : I} (h : p[i]? = some x) (hr : rep x = true) : reach rep p i = i + 1 := by unfold reach; rw [h]; simp [hr]
theorem reach_one {p : List I} {i : Nat} {x : I} (h : p[i]? = some x) (hr : ¬ rep x = true) : reach rep p i = i := by unfold reach; rw [h]; simp [hr]
theorem pos_startS (p : List I) (i : Nat) (x : I) (h : p[i]? = some x) : Pos adm rep p (i + 1) [] ↔ rep x = true ∧ Pos adm rep p i [] := by
  have key : Lang adm rep (p.take (i + 1)) [] ↔ rep x = true ∧ Pos adm rep p i [] := by
    rw [take_next' h, lang_snoc_nil]
    constructor
    · rintro ⟨hr, hl⟩
      refine ⟨hr, ?_⟩
      unfold Pos
      rw [reach_rep rep h hr, take_next' h, lang_snoc_nil]
      exact ⟨hr, hl⟩
    · rintro ⟨hr, hl⟩
      unfold Pos at hl
      rw [reach_rep rep h hr, take_next' h, lang_snoc_nil] at hl
      exact hl
  cases h' : p[i + 1]? with
  | none => unfold Pos reach; rw [h']; exact key
  | some y =>
    by_cases hy : rep y = true
    · unfold Pos
      rw [reach_rep rep h' hy, take_next' h', lang_snoc_nil]
      simp only [hy, true_and]
      exact key
    · unfold Pos
      rw [reach_one rep h' hy]
      exact key
theorem lang_take_next (p : List I) (i : Nat) (x : I) (h : p[i]? = some x) (s : List A) (a : A) :
    Lang adm rep (p.take (i + 1)) (s ++ [a]) ↔ (if rep x = true then Pos adm rep p i (s ++ [a]) else adm x a = true ∧ Pos adm rep p i s) := by
  by_cases hr : rep x = true
  · rw [if_pos hr]; unfold Pos; rw [reach_rep rep h hr]
  · rw [if_neg hr, take_next' h, lang_snoc, if_neg hr]; unfold Pos; rw [reach_one rep h hr]
theorem lang_take_zero (p : List I) (s : List A) (a : A) : ¬ Lang adm rep (p.take 0) (s ++ [a]) := by simp [Lang]
theorem pos_next (p : List I) (j : Nat) (s : List A) (a : A) : Pos adm rep p j (s ++ [a]) ↔ Lang adm rep (p.take j) (s ++ [a]) ∨ (∃ x, p[j]? = some x ∧ rep x = true ∧ adm x a = true ∧ Pos adm rep p j s) := by
  cases h : p[j]? with
  | none => unfold Pos reach; rw [h]; simp
  | some x =>
    by_cases hr : rep x = true
    · unfold Pos
      rw [reach_rep rep h hr, take_next' h, lang_snoc, if_pos hr]
      simp [hr]
    · unfold Pos
      rw [reach_one rep h hr]
      simp [hr]
end
end Go.Proofs.YtfbhdjflkaldgaaDoor.Pr
