/- Several texts in one: TempA, Shelf, Cut. -/
import Derived.Test.YtfbfopfhfeijdaaPr0
import Derived.Lib.Hide
import Derived.Shelf.Strings.Builder1
import Derived.Shelf.Small.Bits
import Derived.Shelf.Strings.BuilderF
import Derived.Shelf.Strconv.Itoa0
import Derived.Shelf.Strings.Search1
import Derived.Shelf.Strings.Search2
import Derived.Shelf.Strings.Cut
import Derived.Shelf.LaysM
import Derived.Shelf.Strings.Shaped
import Derived.Ground.Names2Prog
import Derived.Shelf.Slices.Clone
import Derived.Ground.SlgnProg
import Derived.Shelf.SlicesE.Clone
import Derived.Test.YtfbfopfhfeijdaaProg
import Derived.WalkKit
import Derived.Lib.Walk
import Derived.Lib.Strings
import Derived.Lib.Slices
import Derived.Lib.Bytealg
import Derived.BigCall
import Derived.BigGuard
import Derived.Deep.Draws
import Derived.Laws.Strings3
import Derived.Lib.CutLaws
import Derived.Lib.IndexBytes
import Derived.RegionTactic
/- concrete.Template's closure: the value of a feature of a record. -/
/-
  DERIVED: THE SHELF's CONTRACTS AT THIS DUMP, IN PLAIN WORDS (tools/lay-plain.mjs out of 'TryShelf.lean', which tools/lay-shelf.mjs wrote): THE SAME DECLARATIONS UNDER THE SAME NAMES: 'import', 'namespace', 'open', 'def', 'theorem' AND NOTHING ELSE: no command of the shelf's: FOR A HAND-IN. Each laying: the table of numbers ('.._ren') and one theorem, a field a fact of the dump's own or the kernel's comparison; each contract: ONE APPLICATION.
-/
/- strings.Cut at a separator of one byte: the world is as it was but for draws (no variable of the library's is read). -/
namespace Go.Proofs.Ytfbfopfhfeijdaa.Pr
open Go.RowKit Go.Proofs.YtfbfopfhfeijdaaW.PrintWords Go.Proofs.YtfbfopfhfeijdaaW.PrintLast Go.Proofs.YtfbfopfhfeijdaaW.PrintMore
set_option linter.unusedVariables false
set_option linter.unusedSimpArgs false

/-- The value of the first feature with a name, from place i on. -/
def valFrom (xs : List S37) (nm : ByteArray) : Nat → Option ByteArray
  | i => if h : i < xs.length then (if (xs[i].f0).toList = nm.toList then some xs[i].f1 else valFrom xs nm (i + 1)) else none
termination_by i => xs.length - i
def resolve (l : List (List S37)) (k : Int) (nm : ByteArray) : Option ByteArray :=
  if k < (l.length : Int) then valFrom (l.getD k.toNat []) nm 0 else none
def resV : Option ByteArray → ByteArray
  | none => ⟨#[]⟩
  | some v => v

theorem valFrom_end {xs : List S37} {nm : ByteArray} {i : Nat} (h : ¬ i < xs.length) : valFrom xs nm i = none := by unfold valFrom; rw [dif_neg h]
theorem valFrom_hit {xs : List S37} {nm : ByteArray} {i : Nat} (h : i < xs.length) (e : ((xs.getD i z37).f0).toList = nm.toList) : valFrom xs nm i = some (xs.getD i z37).f1 := by
  have hg : xs.getD i z37 = xs[i] := by simp [List.getD_eq_getElem?_getD, h]
  rw [hg] at e ⊢
  unfold valFrom; rw [dif_pos h, if_pos e]
theorem valFrom_miss {xs : List S37} {nm : ByteArray} {i : Nat} (h : i < xs.length) (e : ¬ ((xs.getD i z37).f0).toList = nm.toList) : valFrom xs nm i = valFrom xs nm (i + 1) := by
  have hg : xs.getD i z37 = xs[i] := by simp [List.getD_eq_getElem?_getD, h]
  rw [hg] at e
  rw [valFrom, dif_pos h, if_neg e]

set_option maxHeartbeats 1000000 in
set_option maxRecDepth 100000 in
theorem resolve_calls (B : Nat) (A : Option Addr) (c : Nat) (l : List (List S37)) (k : Int) (nm : ByteArray) (w : World) (hk : 0 ≤ k)
    (hB : w.cell? ⟨B, 0, none⟩ = some (.slice A l.length c)) (hr : Kd.C (Kd.slice 37 k37) w A l.length l) :
    Calls Try.prog 33 #[.int .i64 k, .string nm, .pointer (some ⟨B, 0, none⟩)] w fun e w' => e = .returned (.tuple #[.string (resV (resolve l k nm)), .bool (resolve l k nm).isSome]) ∧ Below w.heap.size w w' := by
  by_cases hlt : k < (l.length : Int)
  · obtain ⟨ad, A0, c0, rfl, hc, hl0, hr0⟩ := at_L2 hr k hk hlt
    have hres : resolve l k nm = valFrom (l.getD k.toNat []) nm 0 := by unfold resolve; rw [if_pos hlt]
    rw [hres]
    generalize hxs : rd_L2 l k = xs at hc hl0 hr0; have hxs2 : l.getD k.toNat [] = xs := hxs; rw [hxs2]
    have HR := Aside0.mk hr0
    have HL : xs.length ≤ 9223372036854775807 := hr0.2.1
    have h1 : decide (k < (l.length : Int)) = true := decide_eq_true hlt
    have h1' : decide ((l.length : Int) ≤ k) = false := decide_eq_false (by omega)
    have h0 : decide (0 ≤ k) = true := decide_eq_true hk
    have p1 := eq_true hk
    have q1 := eq_true hlt
    clear hk
    clear hr hres hr0 hlt hxs
    go_enter Try.func33, Try.ntmps33
    go_wp2
    go_loopg [18] (xs.length + 1) (fun n v w' => ∃ i : Nat, v = .int .i64 i ∧ Aside0 (i ≤ xs.length ∧ n = xs.length + 1 - i ∧ valFrom xs nm 0 = valFrom xs nm i) ∧ Aside0 (Below w.heap.size w w'))
    case atStart => exact ⟨0, rfl, ⟨⟨Nat.zero_le _, by omega, rfl⟩⟩, ⟨Below.refl _ _⟩⟩
    case round =>
      obtain ⟨i, rfl, HI, HB⟩ := hrel
      by_cases hi : i < xs.length
      · obtain ⟨ad2, e2, c0, c1⟩ := at_T37 HR.out (i : Int) (by omega) (by omega)
        cases e2
        simp only [Int.toNat_natCast] at c0 c1
        replace c0 := (HB.out.cell (World.block_lt_of_cell? w _ c0)).trans c0
        replace c1 := (HB.out.cell (World.block_lt_of_cell? w _ c1)).trans c1
        have hi0 : decide (i < xs.length) = true := decide_eq_true hi
        by_cases e : ((xs.getD i z37).f0).toList = nm.toList
        · have e1 : ((rd_T37 xs i).f0.toList == nm.toList) = true := beq_iff_eq.mpr e
          have HV := Aside0.mk (HI.out.2.2.trans (valFrom_hit hi e))
          clear e HI
          go_wp2
          go_ret2
          rw [HV.out]
          exact ⟨rfl, HB.out.alloc HB.out.size _⟩
        · have e1 : ((rd_T37 xs i).f0.toList == nm.toList) = false := beq_eq_false_iff_ne.mpr e
          have HV := Aside0.mk (HI.out.2.2.trans (valFrom_miss hi e))
          clear e
          go_wp2
          go_roundg (xs.length - i)
          case measure => have := HI.out; omega
          case rel => exact ⟨i + 1, by go_num, ⟨⟨by omega, by omega, HV.out⟩⟩, ⟨HB.out.alloc HB.out.size _⟩⟩
      · have hi0 : decide (i < xs.length) = false := decide_eq_false hi
        have HV := Aside0.mk (HI.out.2.2.trans (valFrom_end hi))
        clear HI
        go_wp2
        go_ret2
        rw [HV.out]
        exact ⟨rfl, HB.out⟩
  · have hres : resolve l k nm = none := by unfold resolve; rw [if_neg hlt]
    rw [hres]
    have h1' : decide ((l.length : Int) ≤ k) = true := decide_eq_true (by omega)
    go_enter Try.func33, Try.ntmps33
    go_wp2
    go_ret2
    exact ⟨rfl, Below.refl _ _⟩
end Go.Proofs.Ytfbfopfhfeijdaa.Pr

namespace Go.Proofs
open Go.Shelf
def Try.lays169_ren : Go.Shelf.Ren := ⟨fun | 169 => 51 | n => n, fun | 70 => 102 | 9 => 9 | 0 => 0 | 72 => 105 | 37 => 103 | 127 => 126 | 3 => 3 | 5 => 5 | n => n, fun | n => n⟩
theorem Try.lays169 : Go.Proofs.Lays.n169 Try.prog Try.lays169_ren := {
  mixed := by kernel_rfl
  f169 := Try.func51.trans (congrArg some (by kernel_rfl))
  t0 := Try.underlying0
  a0 := Try.isAgg0
  z0 := Try.sizeOf0
  v0 := Try.zeroValue0
  t3 := Try.underlying3
  a3 := Try.isAgg3
  z3 := Try.sizeOf3
  v3 := Try.zeroValue3
  t9 := Try.underlying9
  a9 := Try.isAgg9
  z9 := Try.sizeOf9
  v9 := Try.zeroValue9
  t37 := Try.underlying103
  a37 := Try.isAgg103
  z37 := Try.sizeOf103
  v37 := Try.zeroValue103
  t70 := Try.underlying102
  a70 := Try.isAgg102
  z70 := Try.sizeOf102
  v70 := Try.zeroValue102
  t72 := Try.underlying105
  a72 := Try.isAgg105
  z72 := Try.sizeOf105
  v72 := Try.zeroValue105
  t127 := Try.underlying126
  a127 := Try.isAgg126
  z127 := Try.sizeOf126
  v127 := Try.zeroValue126 }
theorem Try.Builder_Extra_169 : Builder.Extra Try.prog Try.lays169_ren := {
  sizeBuilder := by kernel_rfl
  liesBuilder := by kernel_rfl
  t5 := Try.underlying5
  a5 := Try.isAgg5
  z5 := Try.sizeOf5
  v5 := Try.zeroValue5
  infoByte := by kernel_rfl
  cellsByte := by kernel_rfl
  sizeByte := by kernel_rfl
  neB5 := by decide }
open Go.RowKit in
/-- (*strings.Builder).String: "String returns the accumulated string.": WHATEVER THE BUILDER HOLDS; THE FORM '_f': OF A BUILDER THAT MAY HAVE BEEN READ BEFORE; AND IT IS A BUILDER STILL, holding the same bytes: it can be written on. (LAID: no walk: one application.) -/
theorem Try.Builder_String_any_f (B b : Nat) (l : List UInt8) (w : World) (h : Lib.IsBuilderF 105 5 B b (Lib.byteCells l) w) (hBw : B ≤ w.heap.size) :
    Calls Try.prog 51 #[.pointer (some ⟨b, 0, none⟩)] w fun e w' => e = .returned (.string ⟨l.toArray⟩) ∧ (Lib.IsBuilderF 105 5 B b (Lib.byteCells l) w' ∧ Below B w w') := Any.Builder_String_any_f Try.lays169 Try.Builder_Extra_169 B b l w h hBw
def Try.lays219_ren : Go.Shelf.Ren := ⟨fun | 219 => 78 | 217 => 91 | 225 => 92 | 224 => 93 | 267 => 94 | 266 => 100 | 314 => 101 | n => n, fun | 9 => 9 | 3 => 3 | 4 => 4 | 5 => 5 | 46 => 130 | 146 => 154 | 51 => 143 | n => n, fun | 1 => 0 | n => n⟩
theorem Try.lays219 : Go.Proofs.Lays.n219 Try.prog Try.lays219_ren := {
  mixed := by kernel_rfl
  f217 := Try.func91.trans (congrArg some (by kernel_rfl))
  f219 := Try.func78.trans (congrArg some (by kernel_rfl))
  f224 := Try.func93.trans (congrArg some (by kernel_rfl))
  f225 := Try.func92.trans (congrArg some (by kernel_rfl))
  f266 := Try.func100.trans (congrArg some (by kernel_rfl))
  f267 := Try.func94.trans (congrArg some (by kernel_rfl))
  f314 := Try.func101.trans (congrArg some (by kernel_rfl))
  t3 := Try.underlying3
  a3 := Try.isAgg3
  z3 := Try.sizeOf3
  v3 := Try.zeroValue3
  t4 := Try.underlying4
  a4 := Try.isAgg4
  z4 := Try.sizeOf4
  v4 := Try.zeroValue4
  t5 := Try.underlying5
  a5 := Try.isAgg5
  z5 := Try.sizeOf5
  v5 := Try.zeroValue5
  t9 := Try.underlying9
  a9 := Try.isAgg9
  z9 := Try.sizeOf9
  v9 := Try.zeroValue9
  t46 := Try.underlying130
  a46 := Try.isAgg130
  z46 := Try.sizeOf130
  v46 := Try.zeroValue130
  t51 := Try.underlying143
  a51 := Try.isAgg143
  z51 := Try.sizeOf143
  v51 := Try.zeroValue143
  t146 := Try.underlying154
  a146 := Try.isAgg154
  z146 := Try.sizeOf154
  v146 := Try.zeroValue154
  g1 := by kernel_rfl }
open Go.RowKit Go.Lib in
/-- internal/stringslite.Index (what strings.Index calls) AT A substr OF ONE BYTE c: IT RETURNS 'Lib.indexByte s c'; the world is as it was. (LAID: no walk: one application.) -/
theorem Try.stringslite_Index_one (s : ByteArray) (c : UInt8) (w : World) :
    Calls Try.prog 78 #[.string s, .string ⟨#[c]⟩] w fun e w' => e = .returned (.int .i64 (Lib.indexByte s.data.toList c)) ∧ w' = w := Any.stringslite_Index_one Try.lays219 s c w
end Go.Proofs

namespace Go.Proofs.Ytfbfopfhfeijdaa.Cut1
open Go.RowKit
set_option linter.unusedVariables false

/-- Where c is first (or the length). -/
def at1 : List UInt8 → UInt8 → Nat
  | [], _ => 0
  | b :: l, c => if b = c then 0 else at1 l c + 1
/-- Before, after, found. -/
def cut1 (l : List UInt8) (c : UInt8) : List UInt8 × List UInt8 × Bool := if at1 l c < l.length then (l.take (at1 l c), l.drop (at1 l c + 1), true) else (l, [], false)

theorem index1 (l : List UInt8) (c : UInt8) : Lib.index l [c] = if at1 l c < l.length then (at1 l c : Int) else -1 := by
  rw [Lib.index_one]
  induction l with
  | nil => simp [Lib.indexByte, at1]
  | cons b l ih =>
    unfold Lib.indexByte at1
    by_cases h : b = c
    · subst h; simp
    · rw [ih]
      have h' : (b == c) = false := by simpa using h
      simp only [h', h, if_false]
      by_cases hc : at1 l c < l.length
      · have hn : ¬ ((at1 l c : Int) = -1) := by omega
        simp [hc, hn]
      · simp [hc]
theorem cut_eq (l : List UInt8) (c : UInt8) : Lib.cut l [c] = cut1 l c := by
  unfold Lib.cut cut1
  rw [index1]
  by_cases h : at1 l c < l.length
  · simp only [if_pos h, List.length_singleton, Int.toNat_natCast]
    rw [if_pos (by omega)]
  · simp only [if_neg h]
    rw [if_neg (by omega)]

set_option maxHeartbeats 2000000 in
set_option maxRecDepth 100000 in
theorem slCut (s : ByteArray) (c : UInt8) (w : World) (hs : s.size ≤ 9223372036854775806) :
    Calls Try.prog 70 #[.string s, .string ⟨#[c]⟩] w fun e w' => e = .returned (.tuple #[.string ⟨(cut1 s.data.toList c).1.toArray⟩, .string ⟨(cut1 s.data.toList c).2.1.toArray⟩, .bool (cut1 s.data.toList c).2.2]) ∧ ∃ n, w' = w.drewN n := by
  rw [← cut_eq]
  rcases Lib.indexB_cases s ⟨#[c]⟩ with hix | ⟨i, hix, hroom⟩
  · obtain ⟨e1, e2, e3⟩ := Lib.cutB_miss s ⟨#[c]⟩ hix
    have hq : Lib.indexByte s.data.toList c = -1 := by rw [← Lib.index_one]; exact hix
    rw [e1, e2, e3]
    have HQ := Lib.hid hq
    clear hq hix e1 e2 e3
    go_enter Try.func70, Try.ntmps70
    go_wp2_with (go_at_call 78; refine (Try.stringslite_Index_one s c _).mono ?_; rintro e w' ⟨rfl, rfl⟩; rw [HQ.out])
    go_ret3
    exact ⟨rfl, 0, rfl⟩
  · obtain ⟨e1, e2, e3⟩ := Lib.cutB_hit s ⟨#[c]⟩ i hix
    have hq : Lib.indexByte s.data.toList c = i := by rw [← Lib.index_one]; exact hix
    rw [e1, e2, e3]
    have h1 : (⟨#[c]⟩ : ByteArray).size = 1 := rfl
    rw [h1] at hroom ⊢
    have c1 : (0 : Int) ≤ ↑i := by omega
    have c2 : (↑i : Int) ≤ ↑s.size := by omega
    have c3 : (0 : Int) ≤ ↑i + 1 := by omega
    have c4 : (↑i + 1 : Int) ≤ ↑s.size := by omega
    have HQ := Lib.hid hq
    clear hq hix e1 e2 e3 h1
    go_enter Try.func70, Try.ntmps70
    go_wp2_with (go_at_call 78; refine (Try.stringslite_Index_one s c _).mono ?_; rintro e w' ⟨rfl, rfl⟩; rw [HQ.out])
    go_region
    all_goals (go_wp2; go_ret3; exact ⟨rfl, 1, rfl⟩)

set_option maxHeartbeats 1000000 in
/-- strings.Cut(s, "c") -/
theorem cut (s : ByteArray) (c : UInt8) (w : World) (hs : s.size ≤ 9223372036854775806) :
    Calls Try.prog 49 #[.string s, .string ⟨#[c]⟩] w fun e w' => e = .returned (.tuple #[.string ⟨(cut1 s.data.toList c).1.toArray⟩, .string ⟨(cut1 s.data.toList c).2.1.toArray⟩, .bool (cut1 s.data.toList c).2.2]) ∧ ∃ n, w' = w.drewN n := by
  go_enter Try.func49, Try.ntmps49
  go_wp2_with (go_at_call 70; refine (slCut s c _ hs).mono ?_; rintro e w' ⟨rfl, n, rfl⟩)
  go_ret3
  exact ⟨rfl, n, rfl⟩
end Go.Proofs.Ytfbfopfhfeijdaa.Cut1
