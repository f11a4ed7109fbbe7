/- Several texts in one: Alph, OrU, OrR, Shelf. -/
import Derived.Test.YtfbhdjflkaldgaaDoorMg1
import Derived.Test.YtfbhdjflkaldgaaDoorCt
import Derived.Maps.Own
import Derived.Maps.OwnSet
import Derived.Maps.OwnOps
import Derived.Maps.Views
import Derived.Maps.Keyed
import Derived.Lib.MapLaws
import Derived.Lib.ValidLaws
import Derived.Lib.TrimUEq
import Derived.Lib.OthersKept
import Derived.Laws.RangeString
import Derived.Laws.RangeAny
import Derived.WalkSmall
import Derived.WalkArith
import Derived.Shelf.Strings.Builder1
import Derived.Shelf.Strings.Builder2
import Derived.Shelf.Strings.OnBuilder
import Derived.Shelf.Small.Utf8
import Derived.Shelf.Small.Strs
import Derived.Shelf.Small.Wraps
import Derived.Shelf.Strings.BuilderF
import Derived.Shelf.Strings.BuilderK
import Derived.Shelf.Strings.BuilderRune
import Derived.Shelf.Utf8.AppendRune
import Derived.Shelf.Utf8.RuneCount
import Derived.Shelf.Strings.Search1
import Derived.Shelf.Strings.Prefix
import Derived.Shelf.Unicode.Decode
import Derived.Shelf.Strings.RuneCount
import Derived.Shelf.Unicode.DecodeSlow
import Derived.Shelf.Unicode.DecodeAny
import Derived.Test.YtfbhdjflkaldgaaDoorProg
import Derived.Shelf.Unicode.ValidAny
import Derived.Ground.NamesProg
/- The index of each rune of an alphabet: the map that alphabet.indices makes. -/
/- UTF-8, on lists of bytes: what is decoded and encoded again. -/
/- The runes of a string from a place on; its iterator. -/
/-
  DERIVED: THE SHELF's CONTRACTS AT THIS DUMP, IN PLAIN WORDS (tools/lay-plain.mjs out of 'TrydShelf.lean', which tools/lay-shelf.mjs wrote): THE SAME DECLARATIONS UNDER THE SAME NAMES: 'import', 'namespace', 'open', 'def', 'theorem' AND NOTHING ELSE: no command of the shelf's: FOR A HAND-IN. Each laying: the table of numbers ('.._ren') and one theorem, a field a fact of the dump's own or the kernel's comparison; each contract: ONE APPLICATION.
-/
namespace Go.Proofs.YtfbhdjflkaldgaaDoor.Pr
open Go.Proofs.YtfbhdjflkaldgaaDoor.Ct Go.RowKit Go.Maps Go.Proofs.YtfbhdjflkaldgaaDoorW.PrintWords Go.Proofs.YtfbhdjflkaldgaaDoorW.PrintLast Go.Proofs.YtfbhdjflkaldgaaDoorW.PrintMore
set_option linter.unusedVariables false
set_option linter.unusedSimpArgs false
def rkey (r : Int) : Lit := .int .i32 r
def mapI (l : List S80) : Nat → DataW Unit
  | 0 => .map []
  | k + 1 => if Maps.has (mapI l k) (rkey (rd_T80 l (k : Int)).f0) = true then mapI l k else (mapI l k).put (rkey (rd_T80 l (k : Int)).f0) (.lit (.int .i64 (k : Int)))
theorem ownsMap_block {H : Type} {w w' : World} {P : Program} {k : TypeId} {R : Value → Option (DataW H × List MemPlace)} {b n : Nat} {D : DataW H} (h : w.ownsMap P k R b n D) (hb : Below w.heap.size w w') : w'.ownsMap P k R b n D := by
  have hl := h.lt
  obtain ⟨es, clock, h1, h2⟩ := h
  exact ⟨es, clock, (hb.block b hl).trans h1, h2⟩
theorem keyR : Keyed Tryd.prog 21 := int_keyed Tryd.underlying21
theorem zeroI (w : World) : (zeroValue 3).run Tryd.prog w = .ok (.int .i64 0) w := by kernel_rfl
theorem run_makeMap_hint {P : Program} {t k e : TypeId} (hu : P.underlying t = some (.map k e)) (q : IntKind) (n : Int) (w : World) : (Instr.makeMap t (some (.int q n))).run P w = .ok (.map (some w.heap.size)) (w.alloc (.map #[] 0)) := by
  simp [Instr.makeMap, run_underlying hu, asInt, asIntOf, Result.andThen]
theorem idx_next {i n : Nat} (h : i < n) (hn : n ≤ 9223372036854775807) : wrap64 ((i : Int) + 1) = ((i + 1 : Nat) : Int) := by
  unfold wrap64; omega
theorem mem_rd (l : List S80) (i : Nat) (h : i < l.length) : rd_T80 l (i : Int) ∈ l := by
  unfold rd_T80
  rw [Int.toNat_natCast, List.getD_eq_getElem?_getD, List.getElem?_eq_getElem h]
  exact List.getElem_mem h
set_option maxRecDepth 100000 in
set_option maxHeartbeats 1000000 in
theorem indices_calls (A : Option Addr) (c : Nat) (l : List S80) (w : World) (hr0 : Kd.C k80 w A l.length l) (hc0 : l.length ≤ c) (hwf : ∀ x ∈ l, (Lit.int .i32 x.f0).wf = true) :
    Calls Tryd.prog 53 #[.slice A l.length c] w fun e w' => e = .returned (.map (some w.heap.size)) ∧ w'.ownsMap Tryd.prog 21 (plainElem (H := Unit) Tryd.prog 3) w.heap.size l.length (mapI l l.length) ∧ Below w.heap.size w w' := by
  have hmm := @run_makeMap_hint Tryd.prog 115 _ _ Tryd.underlying115
  have hL : l.length ≤ 9223372036854775807 := hr0.2.1
  have HR := Aside0.mk hr0
  have HC := Aside0.mk hc0
  have HW := Aside0.mk hwf
  have HL := Aside0.mk hL
  clear hr0 hc0 hwf hL
  go_enter Tryd.func53, Tryd.ntmps53
  go_wp2
  go_loopg [13] l.length (fun kq v13 w' => ∃ i : Nat, v13 = .int .i64 (i : Int) ∧ Aside0 (i + kq = l.length) ∧ Aside0 (w'.ownsMap Tryd.prog 21 (plainElem (H := Unit) Tryd.prog 3) w.heap.size i (mapI l i)) ∧ Aside0 (Below w.heap.size w w'))
  case atStart => exact ⟨0, rfl, ⟨by omega⟩, ⟨World.ownsMap_made _ _ _ _⟩, ⟨(Below.refl _ _).alloc (Nat.le_refl _) _⟩⟩
  case round =>
    obtain ⟨i, rfl, hik, HO, HB⟩ := hrel
    cases gk with
    | zero =>
      have h3 : ¬ ((i : Int) < (l.length : Int)) := by have := hik.out; omega
      go_wp2
      go_ret
      obtain rfl : i = l.length := by have := hik.out; omega
      exact ⟨rfl, HO.out, HB.out⟩
    | succ g1 =>
      have h3 : (i : Int) < (l.length : Int) := by have := hik.out; omega
      have h4 : 0 ≤ (i : Int) := by omega
      obtain ⟨ad, hA, hx0, hx1⟩ := at_T80 HR.out (i : Int) h4 h3
      subst hA
      rw [Int.toNat_natCast] at hx0 hx1
      replace hx0 := (HB.out.cell (World.block_lt_of_cell? _ _ hx0)).trans hx0
      replace hx1 := (HB.out.cell (World.block_lt_of_cell? _ _ hx1)).trans hx1
      have hwx := HW.out _ (mem_rd l i (by have := hik.out; omega))
      have hkey : keyOf Tryd.prog 21 (.int .i32 (rd_T80 l (i : Int)).f0) = some (rkey (rd_T80 l (i : Int)).f0) := keyOf_int_mk Tryd.underlying21 hwx
      have hlt : i < l.length := by have := hik.out; omega
      have hi64 : (Lit.int .i64 (i : Int)).wf = true := by
        have := HL.out
        exact WalkArith.wf_i64 (by omega)
      have hB1 : Below w.heap.size w (wr.alloc (.cells #[.int .i32 (rd_T80 l (i : Int)).f0, .int .u32 (rd_T80 l (i : Int)).f1] 80)) := HB.out.alloc HB.out.size _
      have hmx : i < maxLen := by have := HL.out; simp only [maxLen]; omega
      have hfin : wrap64 ((i : Int) + 1) = ((i + 1 : Nat) : Int) := idx_next hlt HL.out
      have hfin' := Aside0.mk hfin
      have hmx' := Aside0.mk hmx
      have hi' := Aside0.mk hi64
      have hB1' := Aside0.mk hB1
      have hlt' := Aside0.mk hlt
      clear hfin hmx hi64 hB1 hlt
      by_cases hh : Maps.has (mapI l i) (rkey (rd_T80 l (i : Int)).f0) = true
      · have hh' := Aside0.mk hh
        go_wp2_with (at_lookup; refine wpList_lookup_own_ok_int _ rfl _ _ 115 rfl 21 3 .i64 keyR Tryd.underlying115 Tryd.underlying3 (zeroI _) w.heap.size i (mapI l i) rfl (HO.out.alloc _) _ _ rfl hkey ?_; intro cc hat hwc)
        go_roundg g1
        case measure => omega
        case rel =>
          refine ⟨i + 1, by rw [hfin'.out], ⟨by have := hik.out; omega⟩, ⟨?_⟩, hB1'⟩
          rw [show mapI l (i + 1) = mapI l i from by rw [mapI, if_pos hh'.out]]
          exact (HO.out.alloc _).mono (by omega)
      · have hh' := Aside0.mk hh
        go_wp2_with (first | (at_lookup; refine wpList_lookup_own_ok_int _ rfl _ _ 115 rfl 21 3 .i64 keyR Tryd.underlying115 Tryd.underlying3 (zeroI _) w.heap.size i (mapI l i) rfl (HO.out.alloc _) _ _ rfl hkey ?_; intro cc hat hwc) | (at_mapUpdate; refine wpList_mapUpdate_own _ rfl _ _ _ 115 rfl 21 3 keyR Tryd.underlying115 _ w.heap.size i (mapI l i) rfl (HO.out.alloc _) hmx'.out _ _ _ rfl rfl hkey _ [] (plainElem_int Tryd.underlying3 hi'.out) ?_; intro w1 hown1 hgrow1))
        go_roundg g1
        case measure => omega
        case rel =>
          refine ⟨i + 1, by rw [hfin'.out], ⟨by have := hik.out; omega⟩, ⟨?_⟩, ⟨hB1'.out.grown hgrow1 hB1'.out.size (fun j hj => by cases hj; exact Nat.le_refl _)⟩⟩
          rw [show mapI l (i + 1) = (mapI l i).put (rkey (rd_T80 l (i : Int)).f0) (.lit (.int .i64 (i : Int))) from by rw [mapI, if_neg hh'.out]]
          exact hown1
def look (l : List S80) : Nat → Int → Option Nat
  | 0, _ => none
  | k + 1, r => match look l k r with
    | some j => some j
    | none => if (rd_T80 l (k : Int)).f0 = r then some k else none
theorem isMap_mapI (l : List S80) : ∀ k, Maps.IsMap (mapI l k)
  | 0 => Maps.isMap_empty
  | k + 1 => by
    unfold mapI
    split
    · exact isMap_mapI l k
    · exact (isMap_mapI l k).put _ _
theorem keyLit (r : Int) : WideAt.IsKeyLit (rkey r) := by unfold rkey; simp [WideAt.IsKeyLit]
theorem rkey_ne {r s : Int} (h : r ≠ s) : rkey r ≠ rkey s := fun e => h (by unfold rkey at e; injection e)
theorem has_mapI (l : List S80) (r : Int) : ∀ k, Maps.has (mapI l k) (rkey r) = (look l k r).isSome
  | 0 => rfl
  | k + 1 => by
    have ih := has_mapI l r k
    unfold mapI look
    by_cases hh : Maps.has (mapI l k) (rkey (rd_T80 l (k : Int)).f0) = true
    · rw [if_pos hh, ih]
      cases e : look l k r with
      | some j => rfl
      | none =>
        by_cases hr : (rd_T80 l (k : Int)).f0 = r
        · rw [hr, ih, e] at hh; cases hh
        · simp [hr]
    · rw [if_neg hh]
      by_cases hr : (rd_T80 l (k : Int)).f0 = r
      · rw [hr, Maps.has_put_same (isMap_mapI l k) (keyLit r)]
        cases e : look l k r <;> simp
      · rw [Maps.has_put_other (rkey_ne (fun e => hr e.symm)), ih]
        cases e : look l k r with
        | some j => rfl
        | none => simp [hr]
theorem at_mapI (l : List S80) (r : Int) (z : DataW Unit) : ∀ k j, look l k r = some j → (mapI l k).atKey (rkey r) z = .lit (.int .i64 (j : Int))
  | 0, j, h => by cases h
  | k + 1, j, h => by
    have ih := at_mapI l r z k
    have hs := has_mapI l r k
    unfold look at h
    unfold mapI
    by_cases hh : Maps.has (mapI l k) (rkey (rd_T80 l (k : Int)).f0) = true
    · rw [if_pos hh]
      cases e : look l k r with
      | some i => rw [e] at h; cases h; exact ih _ e
      | none =>
        rw [e] at h
        by_cases hr : (rd_T80 l (k : Int)).f0 = r
        · rw [hr, hs, e] at hh; cases hh
        · simp [hr] at h
    · rw [if_neg hh]
      cases e : look l k r with
      | some i =>
        rw [e] at h; cases h
        by_cases hr : (rd_T80 l (k : Int)).f0 = r
        · rw [hr, hs, e] at hh; simp at hh
        · rw [Maps.atKey_put_other (rkey_ne (fun e => hr e.symm))]; exact ih _ e
      | none =>
        rw [e] at h
        by_cases hr : (rd_T80 l (k : Int)).f0 = r
        · simp [hr] at h; subst h; rw [hr, Maps.atKey_put_same (isMap_mapI l k) (keyLit r)]
        · simp [hr] at h
def runesOk (l : List S80) : Bool := l.all fun x => (Lit.int .i32 x.f0).wf
theorem runesOk_mem {l : List S80} (h : runesOk l = true) : ∀ x ∈ l, (Lit.int .i32 x.f0).wf = true := fun x hx => List.all_eq_true.1 h x hx
def idxI (l : List S80) (r : Int) : Int := match look l l.length r with
  | some j => (j : Int)
  | none => -1
def alphabet_Index.f (l0 : List S80) (a1 : Int) : Option Int := if runesOk l0 = true ∧ (Lit.int .i32 a1).wf = true then some (idxI l0 a1) else none
set_option maxRecDepth 100000 in
set_option maxHeartbeats 1000000 in
theorem alphabet_Index.calls (A0 : Option Addr) (c0 : Nat) (l0 : List S80) (a1 : Int) (r : Int) (w : World) (hr0 : Kd.C k80 w A0 l0.length l0) (hc0 : l0.length ≤ c0) (h : alphabet_Index.f l0 a1 = some r) :
    Calls Tryd.prog 34 #[.slice A0 l0.length c0, .int .i32 a1] w fun e w' => e = .returned (.int .i64 r) ∧ Below w.heap.size w w' := by
  unfold alphabet_Index.f at h
  by_cases hg : runesOk l0 = true ∧ (Lit.int .i32 a1).wf = true
  · rw [if_pos hg] at h
    have hr := Option.some.inj h
    clear h
    have hkey : keyOf Tryd.prog 21 (.int .i32 a1) = some (rkey a1) := keyOf_int_mk Tryd.underlying21 hg.2
    have hin := indices_calls A0 c0 l0 w hr0 hc0 (runesOk_mem hg.1)
    have hr' := Aside0.mk hr
    have hz := Aside0.mk (has_mapI l0 a1 l0.length)
    clear hr0 hc0 hg hr
    cases e : look l0 l0.length a1 with
    | some j =>
      have hat := Aside0.mk (at_mapI l0 a1 (.lit (.int .i64 0)) _ _ e)
      have hhas : Maps.has (mapI l0 l0.length) (rkey a1) = true := by rw [hz.out, e]; rfl
      have hj : r = (j : Int) := by rw [← hr'.out]; unfold idxI; rw [e]
      subst hj
      go_enter Tryd.func34, Tryd.ntmps34
      go_wp2_with (first | (go_at_call 53; refine hin.mono ?_; clear hin; rintro e w1 ⟨rfl, HO, HB⟩) | (at_lookup; refine wpList_lookup_own_ok_int _ rfl _ _ 115 rfl 21 3 .i64 keyR Tryd.underlying115 Tryd.underlying3 (zeroI _) w.heap.size l0.length (mapI l0 l0.length) rfl HO _ _ rfl hkey ?_; intro cc hcc hwc; obtain rfl : cc = (j : Int) := (by have := hat.out.symm.trans hcc; injection this with this; injection this with _ this; exact this.symm)))
      go_ret
      exact ⟨rfl, HB⟩
    | none =>
      have hhas : Maps.has (mapI l0 l0.length) (rkey a1) = false := by rw [hz.out, e]; rfl
      have hj : r = -1 := by rw [← hr'.out]; unfold idxI; rw [e]
      subst hj
      go_enter Tryd.func34, Tryd.ntmps34
      go_wp2_with (first | (go_at_call 53; refine hin.mono ?_; clear hin; rintro e w1 ⟨rfl, HO, HB⟩) | (at_lookup; refine wpList_lookup_own_ok_int _ rfl _ _ 115 rfl 21 3 .i64 keyR Tryd.underlying115 Tryd.underlying3 (zeroI _) w.heap.size l0.length (mapI l0 l0.length) rfl HO _ _ rfl hkey ?_; intro cc hcc hwc))
      go_ret
      exact ⟨rfl, HB⟩
  · rw [if_neg hg] at h; cases h
end Go.Proofs.YtfbhdjflkaldgaaDoor.Pr

namespace Go.Proofs.YtfbhdjflkaldgaaDoor.Pr
open Go.Lib
set_option linter.unusedVariables false
def scalar (r : Int) : Prop := 0 ≤ r ∧ (r < 55296 ∨ (57344 ≤ r ∧ r ≤ 1114111))
def runesF : Nat → List UInt8 → List Int
  | 0, _ => []
  | n + 1, l => if l = [] then [] else ((decodeL l).1 : Int) :: runesF n (l.drop (decodeL l).2)
def runesL (l : List UInt8) : List Int := runesF l.length l
theorem width_pos (l : List UInt8) (h : l ≠ []) : 1 ≤ (decodeL l).2 := by
  rw [decodeL_N]; unfold decodeN; repeat' split
  all_goals simp
theorem runesF_fuel : ∀ (n m : Nat) (l : List UInt8), l.length ≤ n → l.length ≤ m → runesF n l = runesF m l
  | 0, m, l, h, _ => by
    obtain rfl : l = [] := List.eq_nil_of_length_eq_zero (by omega)
    cases m <;> simp [runesF]
  | n + 1, 0, l, _, h => by
    obtain rfl : l = [] := List.eq_nil_of_length_eq_zero (by omega)
    simp [runesF]
  | n + 1, m + 1, l, h1, h2 => by
    unfold runesF
    split
    · rfl
    · next hne =>
      have hw := width_pos l hne
      have hl : 0 < l.length := List.length_pos_iff.2 hne
      rw [runesF_fuel n m (l.drop (decodeL l).2) (by rw [List.length_drop]; omega) (by rw [List.length_drop]; omega)]
theorem runesL_nil : runesL [] = [] := rfl
theorem runesL_step (l : List UInt8) (h : l ≠ []) : runesL l = ((decodeL l).1 : Int) :: runesL (l.drop (decodeL l).2) := by
  have hl : 0 < l.length := List.length_pos_iff.2 h
  have hw := width_pos l h
  unfold runesL
  obtain ⟨n, hn⟩ : ∃ n, l.length = n + 1 := ⟨l.length - 1, by omega⟩
  rw [hn]
  conv => lhs; unfold runesF
  rw [if_neg h, runesF_fuel n (l.drop (decodeL l).2).length _ (by rw [List.length_drop]; omega) (Nat.le_refl _)]
theorem decode_scalar (l : List UInt8) : scalar ((decodeL l).1 : Int) := by
  have k0 := (l.getD 0 0).toNat_lt
  have k1 := (l.getD 1 0).toNat_lt
  have k2 := (l.getD 2 0).toNat_lt
  have k3 := (l.getD 3 0).toNat_lt
  rw [decodeL_N]
  unfold scalar decodeN
  repeat' split
  all_goals simp only
  all_goals omega
theorem valid_back : ∀ (n : Nat) (l : List UInt8), l.length ≤ n → validD l = true → (runesL l).flatMap encodeRune = l
  | 0, l, h, _ => by
    obtain rfl : l = [] := List.eq_nil_of_length_eq_zero (by omega)
    rfl
  | n + 1, l, h, hv => by
    by_cases hne : l = []
    · subst hne; rfl
    · have hw := width_pos l hne
      have hl : 0 < l.length := List.length_pos_iff.2 hne
      rw [validD_step l hne] at hv
      by_cases hb : (decodeL l).1 = 65533 ∧ (decodeL l).2 = 1
      · rw [if_pos hb] at hv; cases hv
      · rw [if_neg hb] at hv
        rw [runesL_step l hne, List.flatMap_cons, encode_decode l hne hb, valid_back n _ (by rw [List.length_drop]; omega) hv, List.take_append_drop]
set_option maxRecDepth 100000 in
set_option maxHeartbeats 2000000 in
theorem decode_enc (r : Int) (h : scalar r) (t : List UInt8) : decodeL (encodeRune r ++ t) = (r.toNat, (encodeRune r).length) := by
  obtain ⟨h0, h1⟩ := h
  obtain ⟨n, rfl⟩ : ∃ n : Nat, r = (n : Int) := ⟨r.toNat, by omega⟩
  have b8 : ∀ (z : Int) (m : Nat), z.toNat = m → m < 256 → (z.toNat.toUInt8).toNat = m := by
    intro z m h1 h2
    rw [h1]; simp; omega
  rw [decodeL_N]
  unfold encodeRune
  rw [Int.toNat_natCast]
  by_cases c1 : (n : Int) ≤ 127
  · rw [encodeRuneZ_one h0 c1]
    simp only [List.map_cons, List.map_nil, List.cons_append, List.nil_append, List.getD_cons_zero, List.length_cons, List.length_nil]
    rw [b8 _ n (by omega) (by omega)]
    unfold decodeN
    rw [if_pos (by omega)]
  · by_cases c2 : (n : Int) ≤ 2047
    · rw [encodeRuneZ_two (by omega) c2]
      simp only [List.map_cons, List.map_nil, List.cons_append, List.nil_append, List.getD_cons_zero, List.getD_cons_succ, List.length_cons, List.length_nil]
      rw [b8 _ (192 + n / 64) (by omega) (by omega), b8 _ (128 + n % 64) (by omega) (by omega)]
      unfold decodeN
      rw [if_neg (by omega), if_pos (by omega), if_pos (by omega)]
      exact Prod.ext (by simp only; omega) rfl
    · by_cases c3 : (n : Int) ≤ 65535
      · rw [encodeRuneZ_three (by omega)]
        simp only [List.map_cons, List.map_nil, List.cons_append, List.nil_append, List.getD_cons_zero, List.getD_cons_succ, List.length_cons, List.length_nil]
        rw [b8 _ (224 + n / 4096) (by omega) (by omega), b8 _ (128 + n / 64 % 64) (by omega) (by omega), b8 _ (128 + n % 64) (by omega) (by omega)]
        unfold decodeN
        rw [if_neg (by omega), if_neg (by omega), if_pos (by omega), if_pos (by omega)]
        exact Prod.ext (by simp only; omega) rfl
      · rw [encodeRuneZ_four (by omega) (by omega)]
        simp only [List.map_cons, List.map_nil, List.cons_append, List.nil_append, List.getD_cons_zero, List.getD_cons_succ, List.length_cons, List.length_nil]
        rw [b8 _ (240 + n / 262144) (by omega) (by omega), b8 _ (128 + n / 4096 % 64) (by omega) (by omega), b8 _ (128 + n / 64 % 64) (by omega) (by omega), b8 _ (128 + n % 64) (by omega) (by omega)]
        unfold decodeN
        rw [if_neg (by omega), if_neg (by omega), if_neg (by omega), if_pos (by omega), if_pos (by omega)]
        exact Prod.ext (by simp only; omega) rfl
theorem enc_ne (r : Int) (t : List UInt8) : encodeRune r ++ t ≠ [] := by
  intro e
  have h := congrArg List.length e
  have h2 := (encodeRuneZ_length r).1
  have h3 : (encodeRune r).length = (encodeRuneZ r).length := by simp [encodeRune]
  rw [List.length_append, List.length_nil] at h
  omega
theorem runes_enc (r : Int) (h : scalar r) (t : List UInt8) : runesL (encodeRune r ++ t) = r :: runesL t := by
  rw [runesL_step _ (enc_ne r t), decode_enc r h t]
  simp only [List.drop_left]
  rw [Int.toNat_of_nonneg h.1]
theorem valid_enc (r : Int) (h : scalar r) (t : List UInt8) : validD (encodeRune r ++ t) = validD t := by
  rw [validD_step _ (enc_ne r t), decode_enc r h t]
  simp only [List.drop_left]
  rw [if_neg]
  rintro ⟨h1, h2⟩
  have e : r = 65533 := by have := h.1; omega
  subst e
  revert h2; decide
def encL (rs : List Int) : List UInt8 := rs.flatMap encodeRune
theorem runes_encL : ∀ (rs : List Int), (∀ r ∈ rs, scalar r) → ∀ t, runesL (encL rs ++ t) = rs ++ runesL t
  | [], _, t => rfl
  | r :: rs, h, t => by
    unfold encL
    rw [List.flatMap_cons, List.append_assoc, runes_enc r (h r (by simp))]
    exact congrArg (r :: ·) (runes_encL rs (fun x hx => h x (by simp [hx])) t)
theorem valid_encL : ∀ (rs : List Int), (∀ r ∈ rs, scalar r) → validD (encL rs) = true
  | [], _ => rfl
  | r :: rs, h => by
    unfold encL
    rw [List.flatMap_cons, valid_enc r (h r (by simp))]
    exact valid_encL rs (fun x hx => h x (by simp [hx]))
theorem runes_scalar : ∀ (n : Nat) (l : List UInt8), l.length ≤ n → ∀ r ∈ runesL l, scalar r
  | 0, l, h, r, hr => by
    obtain rfl : l = [] := List.eq_nil_of_length_eq_zero (by omega)
    simp [runesL_nil] at hr
  | n + 1, l, h, r, hr => by
    by_cases hne : l = []
    · subst hne; simp [runesL_nil] at hr
    · have hw := width_pos l hne
      have hl : 0 < l.length := List.length_pos_iff.2 hne
      rw [runesL_step l hne] at hr
      rcases List.mem_cons.1 hr with rfl | hr
      · exact decode_scalar l
      · exact runes_scalar n _ (by rw [List.length_drop]; omega) r hr
theorem scalar_runes (l : List UInt8) : ∀ r ∈ runesL l, scalar r := runes_scalar _ l (Nat.le_refl _)
theorem valid_iff (l : List UInt8) : validD l = true ↔ encL (runesL l) = l :=
  ⟨valid_back _ l (Nat.le_refl _), fun h => by rw [← h]; exact valid_encL _ (scalar_runes l)⟩
theorem valid_append (a b : List UInt8) (ha : validD a = true) (hb : validD b = true) : validD (a ++ b) = true := by
  rw [← (valid_iff a).1 ha, ← (valid_iff b).1 hb]
  unfold encL
  rw [← List.flatMap_append]
  exact valid_encL _ (fun r hr => by rcases List.mem_append.1 hr with h | h; exact scalar_runes a r h; exact scalar_runes b r h)
end Go.Proofs.YtfbhdjflkaldgaaDoor.Pr

namespace Go.Proofs.YtfbhdjflkaldgaaDoor.Pr
open Go.RowKit Go.Lib
set_option linter.unusedVariables false
def runesAt (s : ByteArray) (pos : Nat) : List Int := runesL (s.data.toList.drop pos)
def runesS (s : ByteArray) : List Int := runesL s.data.toList
theorem runesAt_zero (s : ByteArray) : runesAt s 0 = runesS s := by unfold runesAt runesS; rw [List.drop_zero]
theorem sizeL (s : ByteArray) : s.data.toList.length = s.size := Array.length_toList
theorem runesAt_end {s : ByteArray} {pos : Nat} (h : ¬ pos < s.size) : runesAt s pos = [] := by
  unfold runesAt
  rw [List.drop_eq_nil_of_le (by rw [sizeL]; omega)]
  rfl
theorem runesAt_step {s : ByteArray} {pos : Nat} (h : pos < s.size) : runesAt s pos = ((Utf8.decode s pos).1 : Int) :: runesAt s (pos + (Utf8.decode s pos).2) := by
  unfold runesAt
  have hne : s.data.toList.drop pos ≠ [] := by
    intro e
    have := congrArg List.length e
    rw [List.length_drop, sizeL] at this
    simp at this
    omega
  rw [runesL_step _ hne, decodeL_drop, List.drop_drop]
theorem width_at {s : ByteArray} {pos : Nat} (h : pos < s.size) : 1 ≤ (Utf8.decode s pos).2 := by
  rw [← decodeL_drop]
  refine width_pos _ fun e => ?_
  have := congrArg List.length e
  rw [List.length_drop, sizeL] at this
  simp at this
  omega
theorem scalar_at (s : ByteArray) (pos : Nat) : scalar ((Utf8.decode s pos).1 : Int) := by
  rw [← decodeL_drop]; exact decode_scalar _
theorem scalar_wf {r : Int} (h : scalar r) : (Lit.int .i32 r).wf = true := by
  obtain ⟨h1, h2⟩ := h
  have e1 : IntKind.i32.min = -2147483648 := by decide
  have e2 : IntKind.i32.max = 2147483647 := by decide
  simp [Lit.wf, e1, e2]
  omega
theorem runesL_length : ∀ (n : Nat) (l : List UInt8), l.length ≤ n → (runesL l).length ≤ l.length
  | 0, l, h => by
    obtain rfl : l = [] := List.eq_nil_of_length_eq_zero (by omega)
    simp [runesL_nil]
  | n + 1, l, h => by
    by_cases hne : l = []
    · subst hne; simp [runesL_nil]
    · have hw := width_pos l hne
      have hl : 0 < l.length := List.length_pos_iff.2 hne
      rw [runesL_step l hne, List.length_cons]
      have := runesL_length n (l.drop (decodeL l).2) (by rw [List.length_drop]; omega)
      rw [List.length_drop] at this
      omega
theorem runesS_length (s : ByteArray) : (runesS s).length ≤ s.size := by
  have := runesL_length _ s.data.toList (Nat.le_refl _)
  rwa [sizeL] at this
theorem enc_model (r : Int) (h : scalar r) : (Utf8.encode r).data.toList = encodeRune r := by
  obtain ⟨h0, h1⟩ := h
  obtain ⟨n, rfl⟩ : ∃ n : Nat, r = (n : Int) := ⟨r.toNat, by omega⟩
  have v : Utf8.valid (n : Int) = true := by first | (simp [Utf8.valid]; done) | (simp [Utf8.valid]; omega)
  have b8 : ∀ (z : Int) (m : Nat), z.toNat = m → z.toNat.toUInt8 = UInt8.ofNat m := by intro z m h; rw [h]
  unfold encodeRune
  by_cases c1 : n < 128
  · rw [encodeRuneZ_one (by omega) (by omega)]
    simp only [List.map_cons, List.map_nil]
    rw [b8 _ n (by omega)]
    simp [Utf8.encode, v, c1]
  · by_cases c2 : n < 2048
    · rw [encodeRuneZ_two (by omega) (by omega)]
      simp only [List.map_cons, List.map_nil]
      rw [b8 _ (192 + n / 64) (by omega), b8 _ (128 + n % 64) (by omega)]
      simp [Utf8.encode, v, c1, c2]
    · by_cases c3 : n < 65536
      · rw [encodeRuneZ_three (by omega)]
        simp only [List.map_cons, List.map_nil]
        rw [b8 _ (224 + n / 4096) (by omega), b8 _ (128 + n / 64 % 64) (by omega), b8 _ (128 + n % 64) (by omega)]
        simp [Utf8.encode, v, c1, c2, c3]
      · rw [encodeRuneZ_four (by omega) (by omega)]
        simp only [List.map_cons, List.map_nil]
        rw [b8 _ (240 + n / 262144) (by omega), b8 _ (128 + n / 4096 % 64) (by omega), b8 _ (128 + n / 64 % 64) (by omega), b8 _ (128 + n % 64) (by omega)]
        simp [Utf8.encode, v, c1, c2, c3]
theorem enc_snoc (b : ByteArray) (rs : List Int) (r : Int) (hb : b.data.toList = encL rs) (h : scalar r) : (b ++ Utf8.encode r).data.toList = encL (rs ++ [r]) := by
  rw [ByteArray.data_append, Array.toList_append, hb, enc_model r h]
  unfold encL
  rw [List.flatMap_append]
  simp
theorem bytes_eq {a b : ByteArray} (h : a.data.toList = b.data.toList) : a = b := by
  cases a; cases b; simp at h; simp [h]
end Go.Proofs.YtfbhdjflkaldgaaDoor.Pr

namespace Go.Proofs
open Go.Shelf
def Tryd.lays169_ren : Go.Shelf.Ren := ⟨fun | 169 => 39 | n => n, fun | 70 => 96 | 9 => 9 | 0 => 0 | 72 => 99 | 37 => 97 | 127 => 123 | 3 => 3 | 5 => 5 | n => n, fun | n => n⟩
theorem Tryd.lays169 : Go.Proofs.Lays.n169 Tryd.prog Tryd.lays169_ren := {
  mixed := by kernel_rfl
  f169 := Tryd.func39.trans (congrArg some (by kernel_rfl))
  t0 := Tryd.underlying0
  a0 := Tryd.isAgg0
  z0 := Tryd.sizeOf0
  v0 := Tryd.zeroValue0
  t3 := Tryd.underlying3
  a3 := Tryd.isAgg3
  z3 := Tryd.sizeOf3
  v3 := Tryd.zeroValue3
  t9 := Tryd.underlying9
  a9 := Tryd.isAgg9
  z9 := Tryd.sizeOf9
  v9 := Tryd.zeroValue9
  t37 := Tryd.underlying97
  a37 := Tryd.isAgg97
  z37 := Tryd.sizeOf97
  v37 := Tryd.zeroValue97
  t70 := Tryd.underlying96
  a70 := Tryd.isAgg96
  z70 := Tryd.sizeOf96
  v70 := Tryd.zeroValue96
  t72 := Tryd.underlying99
  a72 := Tryd.isAgg99
  z72 := Tryd.sizeOf99
  v72 := Tryd.zeroValue99
  t127 := Tryd.underlying123
  a127 := Tryd.isAgg123
  z127 := Tryd.sizeOf123
  v127 := Tryd.zeroValue123 }
theorem Tryd.Builder_Extra_169 : Builder.Extra Tryd.prog Tryd.lays169_ren := {
  sizeBuilder := by kernel_rfl
  liesBuilder := by kernel_rfl
  t5 := Tryd.underlying5
  a5 := Tryd.isAgg5
  z5 := Tryd.sizeOf5
  v5 := Tryd.zeroValue5
  infoByte := by kernel_rfl
  cellsByte := by kernel_rfl
  sizeByte := by kernel_rfl
  neB5 := by decide }
def Tryd.lays156_ren : Go.Shelf.Ren := ⟨fun | 156 => 21 | 165 => 37 | 166 => 38 | 169 => 39 | 240 => 55 | 241 => 56 | 276 => 72 | 277 => 73 | n => n, fun | 31 => 31 | 9 => 9 | 3 => 3 | 4 => 4 | 0 => 0 | 20 => 20 | 72 => 99 | 76 => 103 | 70 => 96 | 37 => 97 | 75 => 102 | 127 => 123 | 164 => 135 | 5 => 5 | 80 => 105 | n => n, fun | n => n⟩
theorem Tryd.lays156 : Go.Proofs.Lays.n156 Tryd.prog Tryd.lays156_ren := {
  mixed := by kernel_rfl
  f156 := Tryd.func21.trans (congrArg some (by kernel_rfl))
  f165 := Tryd.func37.trans (congrArg some (by kernel_rfl))
  f166 := Tryd.func38.trans (congrArg some (by kernel_rfl))
  f169 := Tryd.func39.trans (congrArg some (by kernel_rfl))
  f240 := Tryd.func55.trans (congrArg some (by kernel_rfl))
  f241 := Tryd.func56.trans (congrArg some (by kernel_rfl))
  f276 := Tryd.func72.trans (congrArg some (by kernel_rfl))
  f277 := Tryd.func73.trans (congrArg some (by kernel_rfl))
  t0 := Tryd.underlying0
  a0 := Tryd.isAgg0
  z0 := Tryd.sizeOf0
  v0 := Tryd.zeroValue0
  t3 := Tryd.underlying3
  a3 := Tryd.isAgg3
  z3 := Tryd.sizeOf3
  v3 := Tryd.zeroValue3
  t4 := Tryd.underlying4
  a4 := Tryd.isAgg4
  z4 := Tryd.sizeOf4
  v4 := Tryd.zeroValue4
  t9 := Tryd.underlying9
  a9 := Tryd.isAgg9
  z9 := Tryd.sizeOf9
  v9 := Tryd.zeroValue9
  t20 := Tryd.underlying20
  a20 := Tryd.isAgg20
  z20 := Tryd.sizeOf20
  v20 := Tryd.zeroValue20
  t31 := Tryd.underlying31
  a31 := Tryd.isAgg31
  z31 := Tryd.sizeOf31
  v31 := Tryd.zeroValue31
  t37 := Tryd.underlying97
  a37 := Tryd.isAgg97
  z37 := Tryd.sizeOf97
  v37 := Tryd.zeroValue97
  t70 := Tryd.underlying96
  a70 := Tryd.isAgg96
  z70 := Tryd.sizeOf96
  v70 := Tryd.zeroValue96
  t72 := Tryd.underlying99
  a72 := Tryd.isAgg99
  z72 := Tryd.sizeOf99
  v72 := Tryd.zeroValue99
  t75 := Tryd.underlying102
  a75 := Tryd.isAgg102
  z75 := Tryd.sizeOf102
  v75 := Tryd.zeroValue102
  t76 := Tryd.underlying103
  a76 := Tryd.isAgg103
  z76 := Tryd.sizeOf103
  v76 := Tryd.zeroValue103
  t127 := Tryd.underlying123
  a127 := Tryd.isAgg123
  z127 := Tryd.sizeOf123
  v127 := Tryd.zeroValue123
  t164 := Tryd.underlying135
  a164 := Tryd.isAgg135
  z164 := Tryd.sizeOf135
  v164 := Tryd.zeroValue135 }
theorem Tryd.Builder_Extra_156 : Builder.Extra Tryd.prog Tryd.lays156_ren := {
  sizeBuilder := by kernel_rfl
  liesBuilder := by kernel_rfl
  t5 := Tryd.underlying5
  a5 := Tryd.isAgg5
  z5 := Tryd.sizeOf5
  v5 := Tryd.zeroValue5
  infoByte := by kernel_rfl
  cellsByte := by kernel_rfl
  sizeByte := by kernel_rfl
  neB5 := by decide }
open Go.RowKit in
theorem Tryd.strings_Join_none (a : Option Addr) (c : Nat) (sep : ByteArray) (w : World) :
    Calls Tryd.prog 21 #[.slice a 0 c, .string sep] w fun e w' => e = .returned (.string ⟨#[]⟩) ∧ w' = w := Any.strings_Join_none Tryd.lays156 Tryd.Builder_Extra_156 a c sep w
open Go.RowKit in
theorem Tryd.strings_Join (bk o c : Nat) (xs : List ByteArray) (sep : ByteArray) (w : World) (hcells : ∀ (j : Nat) x, xs[j]? = some x → w.cell? ⟨bk, o + j, none⟩ = some (.string x)) (hbk : bk < w.heap.size) (hN : xs.length ≤ 140737488355328) (hcap : xs.length ≤ c) (hlen : (Lib.join (xs.map (·.data.toList)) sep.data.toList).length ≤ 140737488355328) :
    Calls Tryd.prog 21 #[.slice (some ⟨bk, o, none⟩) xs.length c, .string sep] w fun e w' => e = .returned (.string ⟨(Lib.join (xs.map (·.data.toList)) sep.data.toList).toArray⟩) ∧ Below w.heap.size w w' := Any.strings_Join Tryd.lays156 Tryd.Builder_Extra_156 bk o c xs sep w hcells hbk hN hcap hlen
def Tryd.lays119_ren : Go.Shelf.Ren := ⟨fun | 119 => 63 | n => n, fun | 21 => 21 | 4 => 4 | n => n, fun | n => n⟩
theorem Tryd.lays119 : Go.Proofs.Lays.n119 Tryd.prog Tryd.lays119_ren := {
  mixed := by kernel_rfl
  f119 := Tryd.func63.trans (congrArg some (by kernel_rfl))
  t4 := Tryd.underlying4
  a4 := Tryd.isAgg4
  z4 := Tryd.sizeOf4
  v4 := Tryd.zeroValue4
  t21 := Tryd.underlying21
  a21 := Tryd.isAgg21
  z21 := Tryd.sizeOf21
  v21 := Tryd.zeroValue21 }
theorem Tryd.utf8_ValidRune (r : Int) (w : World) :
    Calls Tryd.prog 63 #[.int .i32 r] w fun e w' => e = .returned (.bool (Lib.validRune r)) ∧ w' = w := Any.utf8_ValidRune Tryd.lays119 r w
def Tryd.lays137_ren : Go.Shelf.Ren := ⟨fun | 137 => 47 | 217 => 64 | 266 => 79 | n => n, fun | 9 => 9 | 5 => 5 | 3 => 3 | n => n, fun | n => n⟩
theorem Tryd.lays137 : Go.Proofs.Lays.n137 Tryd.prog Tryd.lays137_ren := {
  mixed := by kernel_rfl
  f137 := Tryd.func47.trans (congrArg some (by kernel_rfl))
  f217 := Tryd.func64.trans (congrArg some (by kernel_rfl))
  f266 := Tryd.func79.trans (congrArg some (by kernel_rfl))
  t3 := Tryd.underlying3
  a3 := Tryd.isAgg3
  z3 := Tryd.sizeOf3
  v3 := Tryd.zeroValue3
  t5 := Tryd.underlying5
  a5 := Tryd.isAgg5
  z5 := Tryd.sizeOf5
  v5 := Tryd.zeroValue5
  t9 := Tryd.underlying9
  a9 := Tryd.isAgg9
  z9 := Tryd.sizeOf9
  v9 := Tryd.zeroValue9 }
open Go.RowKit in
theorem Tryd.strings_IndexByte (s : ByteArray) (c : Int) (w : World) :
    Calls Tryd.prog 47 #[.string s, .int .u8 c] w fun e w' => e = .returned (.int .i64 (Lib.indexByte s.data.toList c.toNat.toUInt8)) ∧ w' = w := Any.strings_IndexByte Tryd.lays137 s c w
open Go.RowKit in
theorem Tryd.Builder_String_any_f (B b : Nat) (l : List UInt8) (w : World) (h : Lib.IsBuilderF 99 5 B b (Lib.byteCells l) w) (hBw : B ≤ w.heap.size) :
    Calls Tryd.prog 39 #[.pointer (some ⟨b, 0, none⟩)] w fun e w' => e = .returned (.string ⟨l.toArray⟩) ∧ (Lib.IsBuilderF 99 5 B b (Lib.byteCells l) w' ∧ Below B w w') := Any.Builder_String_any_f Tryd.lays169 Tryd.Builder_Extra_169 B b l w h hBw
def Tryd.lays242_ren : Go.Shelf.Ren := ⟨fun | 242 => 83 | 278 => 87 | n => n, fun | 37 => 97 | 21 => 21 | 51 => 78 | 4 => 4 | 5 => 5 | 46 => 122 | n => n, fun | n => n⟩
theorem Tryd.lays242 : Go.Proofs.Lays.n242 Tryd.prog Tryd.lays242_ren := {
  mixed := by kernel_rfl
  f242 := Tryd.func83.trans (congrArg some (by kernel_rfl))
  f278 := Tryd.func87.trans (congrArg some (by kernel_rfl))
  t4 := Tryd.underlying4
  a4 := Tryd.isAgg4
  z4 := Tryd.sizeOf4
  v4 := Tryd.zeroValue4
  t5 := Tryd.underlying5
  a5 := Tryd.isAgg5
  z5 := Tryd.sizeOf5
  v5 := Tryd.zeroValue5
  t21 := Tryd.underlying21
  a21 := Tryd.isAgg21
  z21 := Tryd.sizeOf21
  v21 := Tryd.zeroValue21
  t37 := Tryd.underlying97
  a37 := Tryd.isAgg97
  z37 := Tryd.sizeOf97
  v37 := Tryd.zeroValue97
  t46 := Tryd.underlying122
  a46 := Tryd.isAgg122
  z46 := Tryd.sizeOf122
  v46 := Tryd.zeroValue122
  t51 := Tryd.underlying78
  a51 := Tryd.isAgg78
  z51 := Tryd.sizeOf78
  v51 := Tryd.zeroValue78 }
open Go.RowKit in
theorem Tryd.utf8_AppendRune_row (B : Nat) (v : Value) (n : Nat) (xs : List Value) (r : Int) (hr0 : -2147483648 ≤ r) (hr1 : r ≤ 2147483647) (w : World) (hown : w.ownsRowF B 5 1 v n xs) (hlen : n + 4 ≤ 140737488355328) (hBw : B ≤ w.heap.size) :
    Calls Tryd.prog 83 #[v, .int .i32 r] w fun e w' => ∃ v', e = .returned v' ∧ w'.ownsRowF B 5 1 v' (n + (Lib.runeCells r).length) (xs ++ Lib.runeCells r) ∧ ∃ o, (w.alloc o).grownBy w' v.ownBlock := Any.utf8_AppendRune_row Tryd.lays242 (by kernel_rfl) B v n xs r hr0 hr1 w hown hlen hBw
def Tryd.lays195_ren : Go.Shelf.Ren := ⟨fun | 195 => 69 | n => n, fun | 9 => 9 | 3 => 3 | 0 => 0 | 4 => 4 | n => n, fun | n => n⟩
theorem Tryd.lays195 : Go.Proofs.Lays.n195 Tryd.prog Tryd.lays195_ren := {
  mixed := by kernel_rfl
  f195 := Tryd.func69.trans (congrArg some (by kernel_rfl))
  t0 := Tryd.underlying0
  a0 := Tryd.isAgg0
  z0 := Tryd.sizeOf0
  v0 := Tryd.zeroValue0
  t3 := Tryd.underlying3
  a3 := Tryd.isAgg3
  z3 := Tryd.sizeOf3
  v3 := Tryd.zeroValue3
  t4 := Tryd.underlying4
  a4 := Tryd.isAgg4
  z4 := Tryd.sizeOf4
  v4 := Tryd.zeroValue4
  t9 := Tryd.underlying9
  a9 := Tryd.isAgg9
  z9 := Tryd.sizeOf9
  v9 := Tryd.zeroValue9 }
open Go.RowKit in
theorem Tryd.utf8_RuneCountInString (s : ByteArray) (w : World) (hs : s.size < 9223372036854775807) :
    Calls Tryd.prog 69 #[.string s] w fun e w' => e = .returned (.int .i64 (Lib.runeCount s)) ∧ ∃ pos, w' = w.iter s pos := Any.utf8_RuneCountInString Tryd.lays195 s w hs
def Tryd.lays197_ren : Go.Shelf.Ren := ⟨fun | 197 => 33 | 260 => 52 | n => n, fun | 9 => 9 | 21 => 21 | 3 => 3 | 4 => 4 | 5 => 5 | 105 => 86 | 119 => 118 | 0 => 0 | 46 => 122 | 139 => 121 | 138 => 120 | n => n, fun | 3 => 0 | 4 => 1 | n => n⟩
theorem Tryd.lays197 : Go.Proofs.Lays.n197 Tryd.prog Tryd.lays197_ren := {
  mixed := by kernel_rfl
  f197 := Tryd.func33.trans (congrArg some (by kernel_rfl))
  f260 := Tryd.func52.trans (congrArg some (by kernel_rfl))
  t0 := Tryd.underlying0
  a0 := Tryd.isAgg0
  z0 := Tryd.sizeOf0
  v0 := Tryd.zeroValue0
  t3 := Tryd.underlying3
  a3 := Tryd.isAgg3
  z3 := Tryd.sizeOf3
  v3 := Tryd.zeroValue3
  t4 := Tryd.underlying4
  a4 := Tryd.isAgg4
  z4 := Tryd.sizeOf4
  v4 := Tryd.zeroValue4
  t5 := Tryd.underlying5
  a5 := Tryd.isAgg5
  z5 := Tryd.sizeOf5
  v5 := Tryd.zeroValue5
  t9 := Tryd.underlying9
  a9 := Tryd.isAgg9
  z9 := Tryd.sizeOf9
  v9 := Tryd.zeroValue9
  t21 := Tryd.underlying21
  a21 := Tryd.isAgg21
  z21 := Tryd.sizeOf21
  v21 := Tryd.zeroValue21
  t46 := Tryd.underlying122
  a46 := Tryd.isAgg122
  z46 := Tryd.sizeOf122
  v46 := Tryd.zeroValue122
  t105 := Tryd.underlying86
  a105 := Tryd.isAgg86
  z105 := Tryd.sizeOf86
  v105 := Tryd.zeroValue86
  t119 := Tryd.underlying118
  a119 := Tryd.isAgg118
  z119 := Tryd.sizeOf118
  t138 := Tryd.underlying120
  a138 := Tryd.isAgg120
  z138 := Tryd.sizeOf120
  v138 := Tryd.zeroValue120
  t139 := Tryd.underlying121
  a139 := Tryd.isAgg121
  z139 := Tryd.sizeOf121
  v139 := Tryd.zeroValue121
  g3 := by kernel_rfl
  g4 := by kernel_rfl }
open Go.RowKit Go.Lib in
theorem Tryd.utf8_DecodeRuneInString (s : ByteArray) (w : World) (hT : Lib.Utf8Tabs 0 1 w) :
    Calls Tryd.prog 33 #[.string s] w fun e w' => e = .returned (.tuple #[.int .i32 (Lib.decodeGo s).1, .int .i64 (Lib.decodeGo s).2]) ∧ Below w.heap.size w w' := Any.utf8_DecodeRuneInString Tryd.lays197 s w hT
def Tryd.lays196v_ren : Go.Shelf.Ren := ⟨fun | 196 => 36 | 259 => 54 | n => n, fun | 9 => 9 | 4 => 4 | 3 => 3 | 5 => 5 | 12 => 12 | 119 => 118 | 0 => 0 | 46 => 122 | 139 => 121 | 138 => 120 | 53 => 134 | n => n, fun | 3 => 0 | 4 => 1 | n => n⟩
theorem Tryd.lays196v : Go.Proofs.Lays.n196 Tryd.prog Tryd.lays196v_ren := {
  mixed := by kernel_rfl
  f196 := Tryd.func36.trans (congrArg some (by kernel_rfl))
  f259 := Tryd.func54.trans (congrArg some (by kernel_rfl))
  t0 := Tryd.underlying0
  a0 := Tryd.isAgg0
  z0 := Tryd.sizeOf0
  v0 := Tryd.zeroValue0
  t3 := Tryd.underlying3
  a3 := Tryd.isAgg3
  z3 := Tryd.sizeOf3
  v3 := Tryd.zeroValue3
  t4 := Tryd.underlying4
  a4 := Tryd.isAgg4
  z4 := Tryd.sizeOf4
  v4 := Tryd.zeroValue4
  t5 := Tryd.underlying5
  a5 := Tryd.isAgg5
  z5 := Tryd.sizeOf5
  v5 := Tryd.zeroValue5
  t9 := Tryd.underlying9
  a9 := Tryd.isAgg9
  z9 := Tryd.sizeOf9
  v9 := Tryd.zeroValue9
  t12 := Tryd.underlying12
  a12 := Tryd.isAgg12
  z12 := Tryd.sizeOf12
  v12 := Tryd.zeroValue12
  t46 := Tryd.underlying122
  a46 := Tryd.isAgg122
  z46 := Tryd.sizeOf122
  v46 := Tryd.zeroValue122
  t53 := Tryd.underlying134
  a53 := Tryd.isAgg134
  z53 := Tryd.sizeOf134
  v53 := Tryd.zeroValue134
  t119 := Tryd.underlying118
  a119 := Tryd.isAgg118
  z119 := Tryd.sizeOf118
  t138 := Tryd.underlying120
  a138 := Tryd.isAgg120
  z138 := Tryd.sizeOf120
  v138 := Tryd.zeroValue120
  t139 := Tryd.underlying121
  a139 := Tryd.isAgg121
  z139 := Tryd.sizeOf121
  v139 := Tryd.zeroValue121
  g3 := by kernel_rfl
  g4 := by kernel_rfl }
open Go.RowKit Go.Lib in
theorem Tryd.utf8_ValidString (s : ByteArray) (w : World) (hs : s.size ≤ 9223372036854775807) (hT : Lib.Utf8Tabs 0 1 w) :
    Calls Tryd.prog 36 #[.string s] w fun e w' => e = .returned (.bool (Lib.validD s.data.toList)) ∧ Below w.heap.size w w' := Any.utf8_ValidString Tryd.lays196v s w hs hT
end Go.Proofs
