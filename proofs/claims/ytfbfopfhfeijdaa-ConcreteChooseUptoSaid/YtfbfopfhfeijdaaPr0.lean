-- Written by a program of this session (ownprint.py, over the kit's printer). Not trusted: Lean checks it.
import Derived.Test.YtfbfopfhfeijdaaProg
import Derived.Below
import Derived.Deep.Draws
import Derived.Deep.AppendLies
import Derived.Maps.AppendAt
import Derived.OwnWalk
import Derived.Laws.BytesArg
import Derived.Laws.MakeOwn
import Derived.Laws.OwnMore
import Derived.Deep.OwnRows
import Derived.Tactics
import Derived.Lib.ConvBytes
import Derived.Laws.Slices
import Derived.WalkKit
import Derived.KernelRfl
import Derived.RowKit3
import Derived.Deep.LoopGhost
import Derived.Deep.QuietTactic
import Derived.BigQuiet
import Derived.WideLaws
import Derived.Deep.DeepCutAuto
import Derived.Deep.CutBlock
import Derived.Deep.RegionHeld3
import Derived.Laws.Rows
import Derived.Lib.AppendStr
import Derived.ArgAppend
import Derived.Laws.IdiomCopy
import Derived.OrdersHeld
import Derived.Laws.BitsLemmas
import Derived.RowKit
import Derived.Test.YtfbfopfhfeijdaaWWords
import Derived.Test.YtfbfopfhfeijdaaWLast
import Derived.Test.YtfbfopfhfeijdaaWTab
import Derived.Test.YtfbfopfhfeijdaaWQPut
import Derived.Test.YtfbfopfhfeijdaaWApart
import Derived.Test.YtfbfopfhfeijdaaWArr
import Derived.Test.YtfbfopfhfeijdaaWZeros
import Derived.Test.YtfbfopfhfeijdaaWFoot
import Derived.Test.YtfbfopfhfeijdaaWKept
import Derived.Test.YtfbfopfhfeijdaaWShare
import Derived.Test.YtfbfopfhfeijdaaWN
import Derived.Test.YtfbfopfhfeijdaaWEqStruct
import Derived.Test.YtfbfopfhfeijdaaWGuard
import Derived.Test.YtfbfopfhfeijdaaWNEv
import Derived.Test.YtfbfopfhfeijdaaWMore
namespace Go.Proofs.Ytfbfopfhfeijdaa.Pr
open Go.RowKit Go.Proofs.YtfbfopfhfeijdaaW.PrintWords Go.Proofs.YtfbfopfhfeijdaaW.PrintLast Go.Proofs.YtfbfopfhfeijdaaW.PrintMore
attribute [local go_sem] max2_int min2_int max_two min_two max_three min_three max_four min_four   -- for this text's walks alone
set_option linter.unusedVariables false
set_option linter.unusedSimpArgs false



def errW : Option Int → Value
  | none => .nilIface
  | some c => .iface 0 (.int .i64 c)
theorem errW_none : errW none = .nilIface := rfl
theorem errW_some (c : Int) : errW (some c) = .iface 0 (.int .i64 c) := rfl

theorem info5 : (Try.prog.info? 5).map (fun i => (i.zero, i.size, i.bytes)) = some (some (.int .u8 0), 1, 1) := by kernel_rfl
theorem info9 : (Try.prog.info? 9).map (fun i => (i.zero, i.size, i.bytes)) = some (some (.string ⟨#[]⟩), 1, 16) := by kernel_rfl
theorem info30 : (Try.prog.info? 30).map (fun i => (i.zero, i.size, i.bytes)) = some (some (.slice none 0 0), 1, 24) := by kernel_rfl
theorem info33 : (Try.prog.info? 33).map (fun i => (i.zero, i.size, i.bytes)) = some (some (.agg #[(.string ⟨#[]⟩), (.slice none 0 0), (.slice none 0 0), (.slice none 0 0)]), 4, 88) := by kernel_rfl
theorem info37 : (Try.prog.info? 37).map (fun i => (i.zero, i.size, i.bytes)) = some (some (.agg #[(.string ⟨#[]⟩), (.string ⟨#[]⟩)]), 2, 32) := by kernel_rfl
theorem info68 : (Try.prog.info? 68).map (fun i => (i.zero, i.size, i.bytes)) = some (some (.agg #[(.string ⟨#[]⟩), (.slice none 0 0), (.slice none 0 0)]), 3, 64) := by kernel_rfl
theorem info85 : (Try.prog.info? 85).map (fun i => (i.zero, i.size, i.bytes)) = some (some (.agg #[(.string ⟨#[]⟩), (.slice none 0 0), (.string ⟨#[]⟩), (.int .i64 0)]), 4, 64) := by kernel_rfl
theorem info88 : (Try.prog.info? 88).map (fun i => (i.zero, i.size, i.bytes)) = some (some (.agg #[(.string ⟨#[]⟩), (.slice none 0 0)]), 2, 40) := by kernel_rfl
theorem info90 : (Try.prog.info? 90).map (fun i => (i.zero, i.size, i.bytes)) = some (some (.agg #[(.string ⟨#[]⟩), (.slice none 0 0)]), 2, 40) := by kernel_rfl
theorem info94 : (Try.prog.info? 94).map (fun i => (i.zero, i.size, i.bytes)) = some (some (.agg #[(.int .i64 0), (.string ⟨#[]⟩), (.int .i64 0), (.string ⟨#[]⟩), (.slice none 0 0)]), 5, 72) := by kernel_rfl
theorem info143 : (Try.prog.info? 143).map (fun i => (i.zero, i.size, i.bytes)) = some (some (.int .u32 0), 1, 4) := by kernel_rfl
theorem info173 : (Try.prog.info? 173).map (fun i => (i.zero, i.size, i.bytes)) = some (some (.agg #[(.int .i32 0), (.int .u32 0)]), 2, 8) := by kernel_rfl
theorem info176 : (Try.prog.info? 176).map (fun i => (i.zero, i.size, i.bytes)) = some (some (.agg #[(.int .i32 0), (.string ⟨#[]⟩), (.slice none 0 0), (.slice none 0 0), (.bool false), (.bool false)]), 6, 80) := by kernel_rfl
theorem info179 : (Try.prog.info? 179).map (fun i => (i.zero, i.size, i.bytes)) = some (some (.agg #[(.string ⟨#[]⟩), (.slice none 0 0), (.slice none 0 0)]), 3, 64) := by kernel_rfl
theorem info181 : (Try.prog.info? 181).map (fun i => (i.zero, i.size, i.bytes)) = some (some (.agg #[(.string ⟨#[]⟩), (.string ⟨#[]⟩), (.string ⟨#[]⟩), (.string ⟨#[]⟩), (.slice none 0 0)]), 5, 88) := by kernel_rfl
theorem info182 : (Try.prog.info? 182).map (fun i => (i.zero, i.size, i.bytes)) = some (some (.slice none 0 0), 1, 24) := by kernel_rfl
theorem info184 : (Try.prog.info? 184).map (fun i => (i.zero, i.size, i.bytes)) = some (some (.agg #[(.int .i64 0), (.string ⟨#[]⟩)]), 2, 24) := by kernel_rfl
theorem info186 : (Try.prog.info? 186).map (fun i => (i.zero, i.size, i.bytes)) = some (some (.agg #[(.string ⟨#[]⟩), (.int .i64 0)]), 2, 24) := by kernel_rfl
theorem info188 : (Try.prog.info? 188).map (fun i => (i.zero, i.size, i.bytes)) = some (some (.agg #[(.int .u32 0), (.string ⟨#[]⟩), (.bool false), (.bool false)]), 4, 32) := by kernel_rfl
theorem info189 : (Try.prog.info? 189).map (fun i => (i.zero, i.size, i.bytes)) = some (some (.slice none 0 0), 1, 24) := by kernel_rfl
theorem info191 : (Try.prog.info? 191).map (fun i => (i.zero, i.size, i.bytes)) = some (some (.agg #[(.slice none 0 0), (.string ⟨#[]⟩), (.string ⟨#[]⟩)]), 3, 56) := by kernel_rfl
-- the values' own types
/-! #### struct type 37 -/
structure S37 where
  f0 : ByteArray
  f1 : ByteArray
def z37 : S37 := ⟨(⟨#[]⟩ : ByteArray), (⟨#[]⟩ : ByteArray)⟩
def k37 : Kd S37 := Kd.iso (Kd.pair Kd.string Kd.string) (fun x : S37 => (x.f0, x.f1))
theorem k37_heap : Kd.Heap k37 := Kd.heap_iso _ (Kd.heap_pair Kd.heap_string Kd.heap_string)
theorem k37_open {w : World} {x : S37} {cs : List Value} (h : k37.K w x cs) : cs = [.string x.f0, .string x.f1] := by
  obtain ⟨_, _, rfl, rfl, rfl⟩ := h
  exact rfl
theorem k37_openM {w : World} {base : Nat} {ok : Nat → Prop} {x : S37} {cs : List Value} (h : k37.M w base ok x cs) : cs = [.string x.f0, .string x.f1] := by
  obtain ⟨_, _, rfl, rfl, rfl⟩ := h
  exact rfl
theorem k37_mk (w : World) (x : S37)  : k37.K w x [.string x.f0, .string x.f1] := ⟨[.string x.f0], [.string x.f1], rfl, rfl, rfl⟩
theorem k37_mkM (w : World) (base : Nat) (ok : Nat → Prop) (x : S37)  : k37.M w base ok x [.string x.f0, .string x.f1] := ⟨[.string x.f0], [.string x.f1], rfl, rfl, rfl⟩
theorem k37_mkF (W : World) (ok : Nat → Prop) (x : S37) : Kd.FK k37 W ok x [.string x.f0, .string x.f1] := fun W2 _ => k37_mk W2 x
def rd_T37 (xs : List S37) (i : Int) : S37 := xs.getD i.toNat z37
theorem at_T37 {w : World} {A : Option Addr} {n : Nat} {xs : List S37} (h : Kd.C k37 w A n xs) (i : Int) (h0 : 0 ≤ i) (h1 : i < n) : ∃ ad , A = some ad ∧ w.cell? (ad.add (i.toNat * 2)) = some (.string (rd_T37 xs i).f0) ∧ w.cell? ⟨(ad.add (i.toNat * 2)).block, (ad.add (i.toNat * 2)).off + 1, none⟩ = some (.string (rd_T37 xs i).f1) := by
  obtain ⟨ad, c, e, _, hK, hc0⟩ := Kd.C_get h z37 i h0 h1
  have hc : ∀ j u, c[j]? = some u → w.cell? (ad.add (i.toNat * 2 + j)) = some u := hc0
  obtain rfl := k37_open hK
  exact ⟨ad, e, hc 0 _ rfl, by rw [← add_field _ _ 1 (by omega)]; exact hc 1 _ rfl⟩

def rd_L2 (xs : List (List S37)) (i : Int) : (List S37) := xs.getD i.toNat ([] : List S37)
theorem at_L2 {w : World} {A : Option Addr} {n : Nat} {xs : List (List S37)} (h : Kd.C (Kd.slice 37 k37) w A n xs) (i : Int) (h0 : 0 ≤ i) (h1 : i < n) : ∃ ad A0 c0, A = some ad ∧ w.cell? (ad.add i.toNat) = some (.slice A0 (rd_L2 xs i).length c0) ∧ (rd_L2 xs i).length ≤ c0 ∧ k37.C w A0 (rd_L2 xs i).length (rd_L2 xs i) := by
  obtain ⟨ad, c, e, _, hK, hc0⟩ := Kd.C_get h ([] : List S37) i h0 h1
  have hc : ∀ j u, c[j]? = some u → w.cell? (ad.add (i.toNat * 1 + j)) = some u := hc0
  obtain ⟨A0, c0, rfl, l0, g0⟩ := hK
  exact ⟨ad, A0, c0, e, by have hq := hc 0 _ rfl; rwa [Nat.mul_one, Nat.add_zero] at hq, l0, g0⟩

def rd_L3 (xs : List (List (List S37))) (i : Int) : (List (List S37)) := xs.getD i.toNat ([] : List (List S37))
theorem at_L3 {w : World} {A : Option Addr} {n : Nat} {xs : List (List (List S37))} (h : Kd.C (Kd.slice 30 (Kd.slice 37 k37)) w A n xs) (i : Int) (h0 : 0 ≤ i) (h1 : i < n) : ∃ ad A0 c0, A = some ad ∧ w.cell? (ad.add i.toNat) = some (.slice A0 (rd_L3 xs i).length c0) ∧ (rd_L3 xs i).length ≤ c0 ∧ (Kd.slice 37 k37).C w A0 (rd_L3 xs i).length (rd_L3 xs i) := by
  obtain ⟨ad, c, e, _, hK, hc0⟩ := Kd.C_get h ([] : List (List S37)) i h0 h1
  have hc : ∀ j u, c[j]? = some u → w.cell? (ad.add (i.toNat * 1 + j)) = some u := hc0
  obtain ⟨A0, c0, rfl, l0, g0⟩ := hK
  exact ⟨ad, A0, c0, e, by have hq := hc 0 _ rfl; rwa [Nat.mul_one, Nat.add_zero] at hq, l0, g0⟩

/-! #### struct type 94 -/
structure S94 where
  f0 : Int
  f1 : ByteArray
  f2 : Int
  f3 : ByteArray
  f4 : (List S37)
def z94 : S94 := ⟨(0 : Int), (⟨#[]⟩ : ByteArray), (0 : Int), (⟨#[]⟩ : ByteArray), ([] : List S37)⟩
def k94 : Kd S94 := Kd.iso (Kd.pair (Kd.int .i64) (Kd.pair Kd.string (Kd.pair (Kd.int .i64) (Kd.pair Kd.string (Kd.slice 37 k37))))) (fun x : S94 => (x.f0, x.f1, x.f2, x.f3, x.f4))
theorem k94_heap : Kd.Heap k94 := Kd.heap_iso _ (Kd.heap_pair (Kd.heap_int .i64) (Kd.heap_pair Kd.heap_string (Kd.heap_pair (Kd.heap_int .i64) (Kd.heap_pair Kd.heap_string (Kd.heap_slice 37 k37_heap)))))
theorem k94_open {w : World} {x : S94} {cs : List Value} (h : k94.K w x cs) : ∃ A4 c4, cs = [.int .i64 x.f0, .string x.f1, .int .i64 x.f2, .string x.f3, .slice A4 x.f4.length c4] ∧ x.f4.length ≤ c4 ∧ k37.C w A4 x.f4.length x.f4 := by
  obtain ⟨_, _, rfl, rfl, ⟨_, _, rfl, rfl, ⟨_, _, rfl, rfl, ⟨_, _, rfl, rfl, ⟨A4, c4, rfl, l4, g4⟩⟩⟩⟩⟩ := h
  exact ⟨A4, c4, rfl, l4, g4⟩
theorem k94_openM {w : World} {base : Nat} {ok : Nat → Prop} {x : S94} {cs : List Value} (h : k94.M w base ok x cs) : ∃ v4, cs = [.int .i64 x.f0, .string x.f1, .int .i64 x.f2, .string x.f3, v4] ∧ k37.R 37 w base ok v4 x.f4 := by
  obtain ⟨_, _, rfl, rfl, ⟨_, _, rfl, rfl, ⟨_, _, rfl, rfl, ⟨_, _, rfl, rfl, ⟨v4, rfl, g4⟩⟩⟩⟩⟩ := h
  exact ⟨v4, rfl, g4⟩
theorem k94_mk (w : World) (x : S94) {A4 : Option Addr} {c4 : Nat} (l4 : x.f4.length ≤ c4) (g4 : k37.C w A4 x.f4.length x.f4) : k94.K w x [.int .i64 x.f0, .string x.f1, .int .i64 x.f2, .string x.f3, .slice A4 x.f4.length c4] := ⟨[.int .i64 x.f0], [.string x.f1, .int .i64 x.f2, .string x.f3, .slice A4 x.f4.length c4], rfl, rfl, ⟨[.string x.f1], [.int .i64 x.f2, .string x.f3, .slice A4 x.f4.length c4], rfl, rfl, ⟨[.int .i64 x.f2], [.string x.f3, .slice A4 x.f4.length c4], rfl, rfl, ⟨[.string x.f3], [.slice A4 x.f4.length c4], rfl, rfl, ⟨A4, c4, rfl, l4, g4⟩⟩⟩⟩⟩
theorem k94_mkM (w : World) (base : Nat) (ok : Nat → Prop) (x : S94) {v4 : Value} (g4 : k37.R 37 w base ok v4 x.f4) : k94.M w base ok x [.int .i64 x.f0, .string x.f1, .int .i64 x.f2, .string x.f3, v4] := ⟨[.int .i64 x.f0], [.string x.f1, .int .i64 x.f2, .string x.f3, v4], rfl, rfl, ⟨[.string x.f1], [.int .i64 x.f2, .string x.f3, v4], rfl, rfl, ⟨[.int .i64 x.f2], [.string x.f3, v4], rfl, rfl, ⟨[.string x.f3], [v4], rfl, rfl, ⟨v4, rfl, g4⟩⟩⟩⟩⟩
theorem k94_openF {W : World} {ok : Nat → Prop} {x : S94} {cs : List Value} (h : Kd.FK k94 W ok x cs) : ∃ A4 c4, cs = [.int .i64 x.f0, .string x.f1, .int .i64 x.f2, .string x.f3, .slice A4 x.f4.length c4] ∧ x.f4.length ≤ c4 ∧ Kd.F k37 W ok A4 x.f4.length x.f4 := by
  obtain ⟨A4, c4, rfl, l4, _⟩ := k94_open (Kd.FK_now h)
  exact ⟨A4, c4, rfl, l4, (fun W' hW => by obtain ⟨A4_, c4_, he, l4_, g4_⟩ := k94_open (h W' hW); injection (Option.some.inj (show some (Value.slice A4 x.f4.length c4) = some (Value.slice A4_ x.f4.length c4_) from congrArg (fun l => l[4]?) he)) with ha_ _ _; rw [ha_]; exact g4_)⟩
theorem k94_mkF (W : World) (ok : Nat → Prop) (x : S94) {A4 : Option Addr} {c4 : Nat} (l4 : x.f4.length ≤ c4) (g4 : Kd.F k37 W ok A4 x.f4.length x.f4) : Kd.FK k94 W ok x [.int .i64 x.f0, .string x.f1, .int .i64 x.f2, .string x.f3, .slice A4 x.f4.length c4] := fun W2 hW => k94_mk W2 x l4 (g4 W2 hW)
def rd_T94 (xs : List S94) (i : Int) : S94 := xs.getD i.toNat z94
theorem at_T94 {w : World} {A : Option Addr} {n : Nat} {xs : List S94} (h : Kd.C k94 w A n xs) (i : Int) (h0 : 0 ≤ i) (h1 : i < n) : ∃ ad A4 c4, A = some ad ∧ w.cell? (ad.add (i.toNat * 5)) = some (.int .i64 (rd_T94 xs i).f0) ∧ w.cell? ⟨(ad.add (i.toNat * 5)).block, (ad.add (i.toNat * 5)).off + 1, none⟩ = some (.string (rd_T94 xs i).f1) ∧ w.cell? ⟨(ad.add (i.toNat * 5)).block, (ad.add (i.toNat * 5)).off + 2, none⟩ = some (.int .i64 (rd_T94 xs i).f2) ∧ w.cell? ⟨(ad.add (i.toNat * 5)).block, (ad.add (i.toNat * 5)).off + 3, none⟩ = some (.string (rd_T94 xs i).f3) ∧ w.cell? ⟨(ad.add (i.toNat * 5)).block, (ad.add (i.toNat * 5)).off + 4, none⟩ = some (.slice A4 (rd_T94 xs i).f4.length c4) ∧ (rd_T94 xs i).f4.length ≤ c4 ∧ k37.C w A4 (rd_T94 xs i).f4.length (rd_T94 xs i).f4 := by
  obtain ⟨ad, c, e, _, hK, hc0⟩ := Kd.C_get h z94 i h0 h1
  have hc : ∀ j u, c[j]? = some u → w.cell? (ad.add (i.toNat * 5 + j)) = some u := hc0
  obtain ⟨A4, c4, rfl, l4, g4⟩ := k94_open hK
  exact ⟨ad, A4, c4, e, hc 0 _ rfl, by rw [← add_field _ _ 1 (by omega)]; exact hc 1 _ rfl, by rw [← add_field _ _ 2 (by omega)]; exact hc 2 _ rfl, by rw [← add_field _ _ 3 (by omega)]; exact hc 3 _ rfl, by rw [← add_field _ _ 4 (by omega)]; exact hc 4 _ rfl, l4, g4⟩

def rd_L6 (xs : List (List S94)) (i : Int) : (List S94) := xs.getD i.toNat ([] : List S94)
theorem at_L6 {w : World} {A : Option Addr} {n : Nat} {xs : List (List S94)} (h : Kd.C (Kd.slice 94 k94) w A n xs) (i : Int) (h0 : 0 ≤ i) (h1 : i < n) : ∃ ad A0 c0, A = some ad ∧ w.cell? (ad.add i.toNat) = some (.slice A0 (rd_L6 xs i).length c0) ∧ (rd_L6 xs i).length ≤ c0 ∧ k94.C w A0 (rd_L6 xs i).length (rd_L6 xs i) := by
  obtain ⟨ad, c, e, _, hK, hc0⟩ := Kd.C_get h ([] : List S94) i h0 h1
  have hc : ∀ j u, c[j]? = some u → w.cell? (ad.add (i.toNat * 1 + j)) = some u := hc0
  obtain ⟨A0, c0, rfl, l0, g0⟩ := hK
  exact ⟨ad, A0, c0, e, by have hq := hc 0 _ rfl; rwa [Nat.mul_one, Nat.add_zero] at hq, l0, g0⟩

/-! #### struct type 88 -/
structure S88 where
  f0 : ByteArray
  f1 : (List S94)
def z88 : S88 := ⟨(⟨#[]⟩ : ByteArray), ([] : List S94)⟩
def k88 : Kd S88 := Kd.iso (Kd.pair Kd.string (Kd.slice 94 k94)) (fun x : S88 => (x.f0, x.f1))
theorem k88_heap : Kd.Heap k88 := Kd.heap_iso _ (Kd.heap_pair Kd.heap_string (Kd.heap_slice 94 k94_heap))
theorem k88_open {w : World} {x : S88} {cs : List Value} (h : k88.K w x cs) : ∃ A1 c1, cs = [.string x.f0, .slice A1 x.f1.length c1] ∧ x.f1.length ≤ c1 ∧ k94.C w A1 x.f1.length x.f1 := by
  obtain ⟨_, _, rfl, rfl, ⟨A1, c1, rfl, l1, g1⟩⟩ := h
  exact ⟨A1, c1, rfl, l1, g1⟩
theorem k88_openM {w : World} {base : Nat} {ok : Nat → Prop} {x : S88} {cs : List Value} (h : k88.M w base ok x cs) : ∃ v1, cs = [.string x.f0, v1] ∧ k94.R 94 w base ok v1 x.f1 := by
  obtain ⟨_, _, rfl, rfl, ⟨v1, rfl, g1⟩⟩ := h
  exact ⟨v1, rfl, g1⟩
theorem k88_mk (w : World) (x : S88) {A1 : Option Addr} {c1 : Nat} (l1 : x.f1.length ≤ c1) (g1 : k94.C w A1 x.f1.length x.f1) : k88.K w x [.string x.f0, .slice A1 x.f1.length c1] := ⟨[.string x.f0], [.slice A1 x.f1.length c1], rfl, rfl, ⟨A1, c1, rfl, l1, g1⟩⟩
theorem k88_mkM (w : World) (base : Nat) (ok : Nat → Prop) (x : S88) {v1 : Value} (g1 : k94.R 94 w base ok v1 x.f1) : k88.M w base ok x [.string x.f0, v1] := ⟨[.string x.f0], [v1], rfl, rfl, ⟨v1, rfl, g1⟩⟩
theorem k88_openF {W : World} {ok : Nat → Prop} {x : S88} {cs : List Value} (h : Kd.FK k88 W ok x cs) : ∃ A1 c1, cs = [.string x.f0, .slice A1 x.f1.length c1] ∧ x.f1.length ≤ c1 ∧ Kd.F k94 W ok A1 x.f1.length x.f1 := by
  obtain ⟨A1, c1, rfl, l1, _⟩ := k88_open (Kd.FK_now h)
  exact ⟨A1, c1, rfl, l1, (fun W' hW => by obtain ⟨A1_, c1_, he, l1_, g1_⟩ := k88_open (h W' hW); injection (Option.some.inj (show some (Value.slice A1 x.f1.length c1) = some (Value.slice A1_ x.f1.length c1_) from congrArg (fun l => l[1]?) he)) with ha_ _ _; rw [ha_]; exact g1_)⟩
theorem k88_mkF (W : World) (ok : Nat → Prop) (x : S88) {A1 : Option Addr} {c1 : Nat} (l1 : x.f1.length ≤ c1) (g1 : Kd.F k94 W ok A1 x.f1.length x.f1) : Kd.FK k88 W ok x [.string x.f0, .slice A1 x.f1.length c1] := fun W2 hW => k88_mk W2 x l1 (g1 W2 hW)
def rd_T88 (xs : List S88) (i : Int) : S88 := xs.getD i.toNat z88
theorem at_T88 {w : World} {A : Option Addr} {n : Nat} {xs : List S88} (h : Kd.C k88 w A n xs) (i : Int) (h0 : 0 ≤ i) (h1 : i < n) : ∃ ad A1 c1, A = some ad ∧ w.cell? (ad.add (i.toNat * 2)) = some (.string (rd_T88 xs i).f0) ∧ w.cell? ⟨(ad.add (i.toNat * 2)).block, (ad.add (i.toNat * 2)).off + 1, none⟩ = some (.slice A1 (rd_T88 xs i).f1.length c1) ∧ (rd_T88 xs i).f1.length ≤ c1 ∧ k94.C w A1 (rd_T88 xs i).f1.length (rd_T88 xs i).f1 := by
  obtain ⟨ad, c, e, _, hK, hc0⟩ := Kd.C_get h z88 i h0 h1
  have hc : ∀ j u, c[j]? = some u → w.cell? (ad.add (i.toNat * 2 + j)) = some u := hc0
  obtain ⟨A1, c1, rfl, l1, g1⟩ := k88_open hK
  exact ⟨ad, A1, c1, e, hc 0 _ rfl, by rw [← add_field _ _ 1 (by omega)]; exact hc 1 _ rfl, l1, g1⟩

def rd_L8 (xs : List (List S88)) (i : Int) : (List S88) := xs.getD i.toNat ([] : List S88)
theorem at_L8 {w : World} {A : Option Addr} {n : Nat} {xs : List (List S88)} (h : Kd.C (Kd.slice 88 k88) w A n xs) (i : Int) (h0 : 0 ≤ i) (h1 : i < n) : ∃ ad A0 c0, A = some ad ∧ w.cell? (ad.add i.toNat) = some (.slice A0 (rd_L8 xs i).length c0) ∧ (rd_L8 xs i).length ≤ c0 ∧ k88.C w A0 (rd_L8 xs i).length (rd_L8 xs i) := by
  obtain ⟨ad, c, e, _, hK, hc0⟩ := Kd.C_get h ([] : List S88) i h0 h1
  have hc : ∀ j u, c[j]? = some u → w.cell? (ad.add (i.toNat * 1 + j)) = some u := hc0
  obtain ⟨A0, c0, rfl, l0, g0⟩ := hK
  exact ⟨ad, A0, c0, e, by have hq := hc 0 _ rfl; rwa [Nat.mul_one, Nat.add_zero] at hq, l0, g0⟩

/-! #### struct type 173 -/
structure S173 where
  f0 : Int
  f1 : Int
def z173 : S173 := ⟨(0 : Int), (0 : Int)⟩
def k173 : Kd S173 := Kd.iso (Kd.pair (Kd.int .i32) (Kd.int .u32)) (fun x : S173 => (x.f0, x.f1))
theorem k173_heap : Kd.Heap k173 := Kd.heap_iso _ (Kd.heap_pair (Kd.heap_int .i32) (Kd.heap_int .u32))
theorem k173_open {w : World} {x : S173} {cs : List Value} (h : k173.K w x cs) : cs = [.int .i32 x.f0, .int .u32 x.f1] := by
  obtain ⟨_, _, rfl, rfl, rfl⟩ := h
  exact rfl
theorem k173_openM {w : World} {base : Nat} {ok : Nat → Prop} {x : S173} {cs : List Value} (h : k173.M w base ok x cs) : cs = [.int .i32 x.f0, .int .u32 x.f1] := by
  obtain ⟨_, _, rfl, rfl, rfl⟩ := h
  exact rfl
theorem k173_mk (w : World) (x : S173)  : k173.K w x [.int .i32 x.f0, .int .u32 x.f1] := ⟨[.int .i32 x.f0], [.int .u32 x.f1], rfl, rfl, rfl⟩
theorem k173_mkM (w : World) (base : Nat) (ok : Nat → Prop) (x : S173)  : k173.M w base ok x [.int .i32 x.f0, .int .u32 x.f1] := ⟨[.int .i32 x.f0], [.int .u32 x.f1], rfl, rfl, rfl⟩
theorem k173_mkF (W : World) (ok : Nat → Prop) (x : S173) : Kd.FK k173 W ok x [.int .i32 x.f0, .int .u32 x.f1] := fun W2 _ => k173_mk W2 x
def rd_T173 (xs : List S173) (i : Int) : S173 := xs.getD i.toNat z173
theorem at_T173 {w : World} {A : Option Addr} {n : Nat} {xs : List S173} (h : Kd.C k173 w A n xs) (i : Int) (h0 : 0 ≤ i) (h1 : i < n) : ∃ ad , A = some ad ∧ w.cell? (ad.add (i.toNat * 2)) = some (.int .i32 (rd_T173 xs i).f0) ∧ w.cell? ⟨(ad.add (i.toNat * 2)).block, (ad.add (i.toNat * 2)).off + 1, none⟩ = some (.int .u32 (rd_T173 xs i).f1) := by
  obtain ⟨ad, c, e, _, hK, hc0⟩ := Kd.C_get h z173 i h0 h1
  have hc : ∀ j u, c[j]? = some u → w.cell? (ad.add (i.toNat * 2 + j)) = some u := hc0
  obtain rfl := k173_open hK
  exact ⟨ad, e, hc 0 _ rfl, by rw [← add_field _ _ 1 (by omega)]; exact hc 1 _ rfl⟩

def rd_L12 (xs : List (List S173)) (i : Int) : (List S173) := xs.getD i.toNat ([] : List S173)
theorem at_L12 {w : World} {A : Option Addr} {n : Nat} {xs : List (List S173)} (h : Kd.C (Kd.slice 173 k173) w A n xs) (i : Int) (h0 : 0 ≤ i) (h1 : i < n) : ∃ ad A0 c0, A = some ad ∧ w.cell? (ad.add i.toNat) = some (.slice A0 (rd_L12 xs i).length c0) ∧ (rd_L12 xs i).length ≤ c0 ∧ k173.C w A0 (rd_L12 xs i).length (rd_L12 xs i) := by
  obtain ⟨ad, c, e, _, hK, hc0⟩ := Kd.C_get h ([] : List S173) i h0 h1
  have hc : ∀ j u, c[j]? = some u → w.cell? (ad.add (i.toNat * 1 + j)) = some u := hc0
  obtain ⟨A0, c0, rfl, l0, g0⟩ := hK
  exact ⟨ad, A0, c0, e, by have hq := hc 0 _ rfl; rwa [Nat.mul_one, Nat.add_zero] at hq, l0, g0⟩

/-! #### struct type 188 -/
structure S188 where
  f0 : Int
  f1 : ByteArray
  f2 : Bool
  f3 : Bool
def z188 : S188 := ⟨(0 : Int), (⟨#[]⟩ : ByteArray), false, false⟩
def k188 : Kd S188 := Kd.iso (Kd.pair (Kd.int .u32) (Kd.pair Kd.string (Kd.pair Kd.bool Kd.bool))) (fun x : S188 => (x.f0, x.f1, x.f2, x.f3))
theorem k188_heap : Kd.Heap k188 := Kd.heap_iso _ (Kd.heap_pair (Kd.heap_int .u32) (Kd.heap_pair Kd.heap_string (Kd.heap_pair Kd.heap_bool Kd.heap_bool)))
theorem k188_open {w : World} {x : S188} {cs : List Value} (h : k188.K w x cs) : cs = [.int .u32 x.f0, .string x.f1, .bool x.f2, .bool x.f3] := by
  obtain ⟨_, _, rfl, rfl, ⟨_, _, rfl, rfl, ⟨_, _, rfl, rfl, rfl⟩⟩⟩ := h
  exact rfl
theorem k188_openM {w : World} {base : Nat} {ok : Nat → Prop} {x : S188} {cs : List Value} (h : k188.M w base ok x cs) : cs = [.int .u32 x.f0, .string x.f1, .bool x.f2, .bool x.f3] := by
  obtain ⟨_, _, rfl, rfl, ⟨_, _, rfl, rfl, ⟨_, _, rfl, rfl, rfl⟩⟩⟩ := h
  exact rfl
theorem k188_mk (w : World) (x : S188)  : k188.K w x [.int .u32 x.f0, .string x.f1, .bool x.f2, .bool x.f3] := ⟨[.int .u32 x.f0], [.string x.f1, .bool x.f2, .bool x.f3], rfl, rfl, ⟨[.string x.f1], [.bool x.f2, .bool x.f3], rfl, rfl, ⟨[.bool x.f2], [.bool x.f3], rfl, rfl, rfl⟩⟩⟩
theorem k188_mkM (w : World) (base : Nat) (ok : Nat → Prop) (x : S188)  : k188.M w base ok x [.int .u32 x.f0, .string x.f1, .bool x.f2, .bool x.f3] := ⟨[.int .u32 x.f0], [.string x.f1, .bool x.f2, .bool x.f3], rfl, rfl, ⟨[.string x.f1], [.bool x.f2, .bool x.f3], rfl, rfl, ⟨[.bool x.f2], [.bool x.f3], rfl, rfl, rfl⟩⟩⟩
theorem k188_mkF (W : World) (ok : Nat → Prop) (x : S188) : Kd.FK k188 W ok x [.int .u32 x.f0, .string x.f1, .bool x.f2, .bool x.f3] := fun W2 _ => k188_mk W2 x
def rd_T188 (xs : List S188) (i : Int) : S188 := xs.getD i.toNat z188
theorem at_T188 {w : World} {A : Option Addr} {n : Nat} {xs : List S188} (h : Kd.C k188 w A n xs) (i : Int) (h0 : 0 ≤ i) (h1 : i < n) : ∃ ad , A = some ad ∧ w.cell? (ad.add (i.toNat * 4)) = some (.int .u32 (rd_T188 xs i).f0) ∧ w.cell? ⟨(ad.add (i.toNat * 4)).block, (ad.add (i.toNat * 4)).off + 1, none⟩ = some (.string (rd_T188 xs i).f1) ∧ w.cell? ⟨(ad.add (i.toNat * 4)).block, (ad.add (i.toNat * 4)).off + 2, none⟩ = some (.bool (rd_T188 xs i).f2) ∧ w.cell? ⟨(ad.add (i.toNat * 4)).block, (ad.add (i.toNat * 4)).off + 3, none⟩ = some (.bool (rd_T188 xs i).f3) := by
  obtain ⟨ad, c, e, _, hK, hc0⟩ := Kd.C_get h z188 i h0 h1
  have hc : ∀ j u, c[j]? = some u → w.cell? (ad.add (i.toNat * 4 + j)) = some u := hc0
  obtain rfl := k188_open hK
  exact ⟨ad, e, hc 0 _ rfl, by rw [← add_field _ _ 1 (by omega)]; exact hc 1 _ rfl, by rw [← add_field _ _ 2 (by omega)]; exact hc 2 _ rfl, by rw [← add_field _ _ 3 (by omega)]; exact hc 3 _ rfl⟩

def rd_L15 (xs : List (List S188)) (i : Int) : (List S188) := xs.getD i.toNat ([] : List S188)
theorem at_L15 {w : World} {A : Option Addr} {n : Nat} {xs : List (List S188)} (h : Kd.C (Kd.slice 188 k188) w A n xs) (i : Int) (h0 : 0 ≤ i) (h1 : i < n) : ∃ ad A0 c0, A = some ad ∧ w.cell? (ad.add i.toNat) = some (.slice A0 (rd_L15 xs i).length c0) ∧ (rd_L15 xs i).length ≤ c0 ∧ k188.C w A0 (rd_L15 xs i).length (rd_L15 xs i) := by
  obtain ⟨ad, c, e, _, hK, hc0⟩ := Kd.C_get h ([] : List S188) i h0 h1
  have hc : ∀ j u, c[j]? = some u → w.cell? (ad.add (i.toNat * 1 + j)) = some u := hc0
  obtain ⟨A0, c0, rfl, l0, g0⟩ := hK
  exact ⟨ad, A0, c0, e, by have hq := hc 0 _ rfl; rwa [Nat.mul_one, Nat.add_zero] at hq, l0, g0⟩

/-! #### struct type 176 -/
structure S176 where
  f0 : Int
  f1 : ByteArray
  f2 : (List S188)
  f3 : (List S188)
  f4 : Bool
  f5 : Bool
def z176 : S176 := ⟨(0 : Int), (⟨#[]⟩ : ByteArray), ([] : List S188), ([] : List S188), false, false⟩
def k176 : Kd S176 := Kd.iso (Kd.pair (Kd.int .i32) (Kd.pair Kd.string (Kd.pair (Kd.slice 188 k188) (Kd.pair (Kd.slice 188 k188) (Kd.pair Kd.bool Kd.bool))))) (fun x : S176 => (x.f0, x.f1, x.f2, x.f3, x.f4, x.f5))
theorem k176_heap : Kd.Heap k176 := Kd.heap_iso _ (Kd.heap_pair (Kd.heap_int .i32) (Kd.heap_pair Kd.heap_string (Kd.heap_pair (Kd.heap_slice 188 k188_heap) (Kd.heap_pair (Kd.heap_slice 188 k188_heap) (Kd.heap_pair Kd.heap_bool Kd.heap_bool)))))
theorem k176_open {w : World} {x : S176} {cs : List Value} (h : k176.K w x cs) : ∃ A2 c2 A3 c3, cs = [.int .i32 x.f0, .string x.f1, .slice A2 x.f2.length c2, .slice A3 x.f3.length c3, .bool x.f4, .bool x.f5] ∧ x.f2.length ≤ c2 ∧ k188.C w A2 x.f2.length x.f2 ∧ x.f3.length ≤ c3 ∧ k188.C w A3 x.f3.length x.f3 := by
  obtain ⟨_, _, rfl, rfl, ⟨_, _, rfl, rfl, ⟨_, _, rfl, ⟨A2, c2, rfl, l2, g2⟩, ⟨_, _, rfl, ⟨A3, c3, rfl, l3, g3⟩, ⟨_, _, rfl, rfl, rfl⟩⟩⟩⟩⟩ := h
  exact ⟨A2, c2, A3, c3, rfl, l2, g2, l3, g3⟩
theorem k176_openM {w : World} {base : Nat} {ok : Nat → Prop} {x : S176} {cs : List Value} (h : k176.M w base ok x cs) : ∃ v2 v3, cs = [.int .i32 x.f0, .string x.f1, v2, v3, .bool x.f4, .bool x.f5] ∧ k188.R 188 w base ok v2 x.f2 ∧ k188.R 188 w base ok v3 x.f3 := by
  obtain ⟨_, _, rfl, rfl, ⟨_, _, rfl, rfl, ⟨_, _, rfl, ⟨v2, rfl, g2⟩, ⟨_, _, rfl, ⟨v3, rfl, g3⟩, ⟨_, _, rfl, rfl, rfl⟩⟩⟩⟩⟩ := h
  exact ⟨v2, v3, rfl, g2, g3⟩
theorem k176_mk (w : World) (x : S176) {A2 : Option Addr} {c2 : Nat} (l2 : x.f2.length ≤ c2) (g2 : k188.C w A2 x.f2.length x.f2) {A3 : Option Addr} {c3 : Nat} (l3 : x.f3.length ≤ c3) (g3 : k188.C w A3 x.f3.length x.f3) : k176.K w x [.int .i32 x.f0, .string x.f1, .slice A2 x.f2.length c2, .slice A3 x.f3.length c3, .bool x.f4, .bool x.f5] := ⟨[.int .i32 x.f0], [.string x.f1, .slice A2 x.f2.length c2, .slice A3 x.f3.length c3, .bool x.f4, .bool x.f5], rfl, rfl, ⟨[.string x.f1], [.slice A2 x.f2.length c2, .slice A3 x.f3.length c3, .bool x.f4, .bool x.f5], rfl, rfl, ⟨[.slice A2 x.f2.length c2], [.slice A3 x.f3.length c3, .bool x.f4, .bool x.f5], rfl, ⟨A2, c2, rfl, l2, g2⟩, ⟨[.slice A3 x.f3.length c3], [.bool x.f4, .bool x.f5], rfl, ⟨A3, c3, rfl, l3, g3⟩, ⟨[.bool x.f4], [.bool x.f5], rfl, rfl, rfl⟩⟩⟩⟩⟩
theorem k176_mkM (w : World) (base : Nat) (ok : Nat → Prop) (x : S176) {v2 : Value} (g2 : k188.R 188 w base ok v2 x.f2) {v3 : Value} (g3 : k188.R 188 w base ok v3 x.f3) : k176.M w base ok x [.int .i32 x.f0, .string x.f1, v2, v3, .bool x.f4, .bool x.f5] := ⟨[.int .i32 x.f0], [.string x.f1, v2, v3, .bool x.f4, .bool x.f5], rfl, rfl, ⟨[.string x.f1], [v2, v3, .bool x.f4, .bool x.f5], rfl, rfl, ⟨[v2], [v3, .bool x.f4, .bool x.f5], rfl, ⟨v2, rfl, g2⟩, ⟨[v3], [.bool x.f4, .bool x.f5], rfl, ⟨v3, rfl, g3⟩, ⟨[.bool x.f4], [.bool x.f5], rfl, rfl, rfl⟩⟩⟩⟩⟩
theorem k176_openF {W : World} {ok : Nat → Prop} {x : S176} {cs : List Value} (h : Kd.FK k176 W ok x cs) : ∃ A2 c2 A3 c3, cs = [.int .i32 x.f0, .string x.f1, .slice A2 x.f2.length c2, .slice A3 x.f3.length c3, .bool x.f4, .bool x.f5] ∧ x.f2.length ≤ c2 ∧ Kd.F k188 W ok A2 x.f2.length x.f2 ∧ x.f3.length ≤ c3 ∧ Kd.F k188 W ok A3 x.f3.length x.f3 := by
  obtain ⟨A2, c2, A3, c3, rfl, l2, _, l3, _⟩ := k176_open (Kd.FK_now h)
  exact ⟨A2, c2, A3, c3, rfl, l2, (fun W' hW => by obtain ⟨A2_, c2_, A3_, c3_, he, l2_, g2_, l3_, g3_⟩ := k176_open (h W' hW); injection (Option.some.inj (show some (Value.slice A2 x.f2.length c2) = some (Value.slice A2_ x.f2.length c2_) from congrArg (fun l => l[2]?) he)) with ha_ _ _; rw [ha_]; exact g2_), l3, (fun W' hW => by obtain ⟨A2_, c2_, A3_, c3_, he, l2_, g2_, l3_, g3_⟩ := k176_open (h W' hW); injection (Option.some.inj (show some (Value.slice A3 x.f3.length c3) = some (Value.slice A3_ x.f3.length c3_) from congrArg (fun l => l[3]?) he)) with ha_ _ _; rw [ha_]; exact g3_)⟩
theorem k176_mkF (W : World) (ok : Nat → Prop) (x : S176) {A2 : Option Addr} {c2 : Nat} (l2 : x.f2.length ≤ c2) (g2 : Kd.F k188 W ok A2 x.f2.length x.f2) {A3 : Option Addr} {c3 : Nat} (l3 : x.f3.length ≤ c3) (g3 : Kd.F k188 W ok A3 x.f3.length x.f3) : Kd.FK k176 W ok x [.int .i32 x.f0, .string x.f1, .slice A2 x.f2.length c2, .slice A3 x.f3.length c3, .bool x.f4, .bool x.f5] := fun W2 hW => k176_mk W2 x l2 (g2 W2 hW) l3 (g3 W2 hW)
def rd_T176 (xs : List S176) (i : Int) : S176 := xs.getD i.toNat z176
theorem at_T176 {w : World} {A : Option Addr} {n : Nat} {xs : List S176} (h : Kd.C k176 w A n xs) (i : Int) (h0 : 0 ≤ i) (h1 : i < n) : ∃ ad A2 c2 A3 c3, A = some ad ∧ w.cell? (ad.add (i.toNat * 6)) = some (.int .i32 (rd_T176 xs i).f0) ∧ w.cell? ⟨(ad.add (i.toNat * 6)).block, (ad.add (i.toNat * 6)).off + 1, none⟩ = some (.string (rd_T176 xs i).f1) ∧ w.cell? ⟨(ad.add (i.toNat * 6)).block, (ad.add (i.toNat * 6)).off + 2, none⟩ = some (.slice A2 (rd_T176 xs i).f2.length c2) ∧ w.cell? ⟨(ad.add (i.toNat * 6)).block, (ad.add (i.toNat * 6)).off + 3, none⟩ = some (.slice A3 (rd_T176 xs i).f3.length c3) ∧ w.cell? ⟨(ad.add (i.toNat * 6)).block, (ad.add (i.toNat * 6)).off + 4, none⟩ = some (.bool (rd_T176 xs i).f4) ∧ w.cell? ⟨(ad.add (i.toNat * 6)).block, (ad.add (i.toNat * 6)).off + 5, none⟩ = some (.bool (rd_T176 xs i).f5) ∧ (rd_T176 xs i).f2.length ≤ c2 ∧ k188.C w A2 (rd_T176 xs i).f2.length (rd_T176 xs i).f2 ∧ (rd_T176 xs i).f3.length ≤ c3 ∧ k188.C w A3 (rd_T176 xs i).f3.length (rd_T176 xs i).f3 := by
  obtain ⟨ad, c, e, _, hK, hc0⟩ := Kd.C_get h z176 i h0 h1
  have hc : ∀ j u, c[j]? = some u → w.cell? (ad.add (i.toNat * 6 + j)) = some u := hc0
  obtain ⟨A2, c2, A3, c3, rfl, l2, g2, l3, g3⟩ := k176_open hK
  exact ⟨ad, A2, c2, A3, c3, e, hc 0 _ rfl, by rw [← add_field _ _ 1 (by omega)]; exact hc 1 _ rfl, by rw [← add_field _ _ 2 (by omega)]; exact hc 2 _ rfl, by rw [← add_field _ _ 3 (by omega)]; exact hc 3 _ rfl, by rw [← add_field _ _ 4 (by omega)]; exact hc 4 _ rfl, by rw [← add_field _ _ 5 (by omega)]; exact hc 5 _ rfl, l2, g2, l3, g3⟩

def rd_L17 (xs : List (List S176)) (i : Int) : (List S176) := xs.getD i.toNat ([] : List S176)
theorem at_L17 {w : World} {A : Option Addr} {n : Nat} {xs : List (List S176)} (h : Kd.C (Kd.slice 176 k176) w A n xs) (i : Int) (h0 : 0 ≤ i) (h1 : i < n) : ∃ ad A0 c0, A = some ad ∧ w.cell? (ad.add i.toNat) = some (.slice A0 (rd_L17 xs i).length c0) ∧ (rd_L17 xs i).length ≤ c0 ∧ k176.C w A0 (rd_L17 xs i).length (rd_L17 xs i) := by
  obtain ⟨ad, c, e, _, hK, hc0⟩ := Kd.C_get h ([] : List S176) i h0 h1
  have hc : ∀ j u, c[j]? = some u → w.cell? (ad.add (i.toNat * 1 + j)) = some u := hc0
  obtain ⟨A0, c0, rfl, l0, g0⟩ := hK
  exact ⟨ad, A0, c0, e, by have hq := hc 0 _ rfl; rwa [Nat.mul_one, Nat.add_zero] at hq, l0, g0⟩

def rd_L18 (xs : List (List ByteArray)) (i : Int) : (List ByteArray) := xs.getD i.toNat ([] : List ByteArray)
theorem at_L18 {w : World} {A : Option Addr} {n : Nat} {xs : List (List ByteArray)} (h : Kd.C (Kd.slice 9 Kd.string) w A n xs) (i : Int) (h0 : 0 ≤ i) (h1 : i < n) : ∃ ad A0 c0, A = some ad ∧ w.cell? (ad.add i.toNat) = some (.slice A0 (rd_L18 xs i).length c0) ∧ (rd_L18 xs i).length ≤ c0 ∧ Kd.string.C w A0 (rd_L18 xs i).length (rd_L18 xs i) := by
  obtain ⟨ad, c, e, _, hK, hc0⟩ := Kd.C_get h ([] : List ByteArray) i h0 h1
  have hc : ∀ j u, c[j]? = some u → w.cell? (ad.add (i.toNat * 1 + j)) = some u := hc0
  obtain ⟨A0, c0, rfl, l0, g0⟩ := hK
  exact ⟨ad, A0, c0, e, by have hq := hc 0 _ rfl; rwa [Nat.mul_one, Nat.add_zero] at hq, l0, g0⟩

/-! #### struct type 90 -/
structure S90 where
  f0 : ByteArray
  f1 : (List ByteArray)
def z90 : S90 := ⟨(⟨#[]⟩ : ByteArray), ([] : List ByteArray)⟩
def k90 : Kd S90 := Kd.iso (Kd.pair Kd.string (Kd.slice 9 Kd.string)) (fun x : S90 => (x.f0, x.f1))
theorem k90_heap : Kd.Heap k90 := Kd.heap_iso _ (Kd.heap_pair Kd.heap_string (Kd.heap_slice 9 Kd.heap_string))
theorem k90_open {w : World} {x : S90} {cs : List Value} (h : k90.K w x cs) : ∃ A1 c1, cs = [.string x.f0, .slice A1 x.f1.length c1] ∧ x.f1.length ≤ c1 ∧ Kd.string.C w A1 x.f1.length x.f1 := by
  obtain ⟨_, _, rfl, rfl, ⟨A1, c1, rfl, l1, g1⟩⟩ := h
  exact ⟨A1, c1, rfl, l1, g1⟩
theorem k90_openM {w : World} {base : Nat} {ok : Nat → Prop} {x : S90} {cs : List Value} (h : k90.M w base ok x cs) : ∃ v1, cs = [.string x.f0, v1] ∧ Kd.string.R 9 w base ok v1 x.f1 := by
  obtain ⟨_, _, rfl, rfl, ⟨v1, rfl, g1⟩⟩ := h
  exact ⟨v1, rfl, g1⟩
theorem k90_mk (w : World) (x : S90) {A1 : Option Addr} {c1 : Nat} (l1 : x.f1.length ≤ c1) (g1 : Kd.string.C w A1 x.f1.length x.f1) : k90.K w x [.string x.f0, .slice A1 x.f1.length c1] := ⟨[.string x.f0], [.slice A1 x.f1.length c1], rfl, rfl, ⟨A1, c1, rfl, l1, g1⟩⟩
theorem k90_mkM (w : World) (base : Nat) (ok : Nat → Prop) (x : S90) {v1 : Value} (g1 : Kd.string.R 9 w base ok v1 x.f1) : k90.M w base ok x [.string x.f0, v1] := ⟨[.string x.f0], [v1], rfl, rfl, ⟨v1, rfl, g1⟩⟩
theorem k90_openF {W : World} {ok : Nat → Prop} {x : S90} {cs : List Value} (h : Kd.FK k90 W ok x cs) : ∃ A1 c1, cs = [.string x.f0, .slice A1 x.f1.length c1] ∧ x.f1.length ≤ c1 ∧ Kd.F Kd.string W ok A1 x.f1.length x.f1 := by
  obtain ⟨A1, c1, rfl, l1, _⟩ := k90_open (Kd.FK_now h)
  exact ⟨A1, c1, rfl, l1, (fun W' hW => by obtain ⟨A1_, c1_, he, l1_, g1_⟩ := k90_open (h W' hW); injection (Option.some.inj (show some (Value.slice A1 x.f1.length c1) = some (Value.slice A1_ x.f1.length c1_) from congrArg (fun l => l[1]?) he)) with ha_ _ _; rw [ha_]; exact g1_)⟩
theorem k90_mkF (W : World) (ok : Nat → Prop) (x : S90) {A1 : Option Addr} {c1 : Nat} (l1 : x.f1.length ≤ c1) (g1 : Kd.F Kd.string W ok A1 x.f1.length x.f1) : Kd.FK k90 W ok x [.string x.f0, .slice A1 x.f1.length c1] := fun W2 hW => k90_mk W2 x l1 (g1 W2 hW)
def rd_T90 (xs : List S90) (i : Int) : S90 := xs.getD i.toNat z90
theorem at_T90 {w : World} {A : Option Addr} {n : Nat} {xs : List S90} (h : Kd.C k90 w A n xs) (i : Int) (h0 : 0 ≤ i) (h1 : i < n) : ∃ ad A1 c1, A = some ad ∧ w.cell? (ad.add (i.toNat * 2)) = some (.string (rd_T90 xs i).f0) ∧ w.cell? ⟨(ad.add (i.toNat * 2)).block, (ad.add (i.toNat * 2)).off + 1, none⟩ = some (.slice A1 (rd_T90 xs i).f1.length c1) ∧ (rd_T90 xs i).f1.length ≤ c1 ∧ Kd.string.C w A1 (rd_T90 xs i).f1.length (rd_T90 xs i).f1 := by
  obtain ⟨ad, c, e, _, hK, hc0⟩ := Kd.C_get h z90 i h0 h1
  have hc : ∀ j u, c[j]? = some u → w.cell? (ad.add (i.toNat * 2 + j)) = some u := hc0
  obtain ⟨A1, c1, rfl, l1, g1⟩ := k90_open hK
  exact ⟨ad, A1, c1, e, hc 0 _ rfl, by rw [← add_field _ _ 1 (by omega)]; exact hc 1 _ rfl, l1, g1⟩

def rd_L20 (xs : List (List S90)) (i : Int) : (List S90) := xs.getD i.toNat ([] : List S90)
theorem at_L20 {w : World} {A : Option Addr} {n : Nat} {xs : List (List S90)} (h : Kd.C (Kd.slice 90 k90) w A n xs) (i : Int) (h0 : 0 ≤ i) (h1 : i < n) : ∃ ad A0 c0, A = some ad ∧ w.cell? (ad.add i.toNat) = some (.slice A0 (rd_L20 xs i).length c0) ∧ (rd_L20 xs i).length ≤ c0 ∧ k90.C w A0 (rd_L20 xs i).length (rd_L20 xs i) := by
  obtain ⟨ad, c, e, _, hK, hc0⟩ := Kd.C_get h ([] : List S90) i h0 h1
  have hc : ∀ j u, c[j]? = some u → w.cell? (ad.add (i.toNat * 1 + j)) = some u := hc0
  obtain ⟨A0, c0, rfl, l0, g0⟩ := hK
  exact ⟨ad, A0, c0, e, by have hq := hc 0 _ rfl; rwa [Nat.mul_one, Nat.add_zero] at hq, l0, g0⟩

/-! #### struct type 191 -/
structure S191 where
  f0 : (List S37)
  f1 : ByteArray
  f2 : ByteArray
def z191 : S191 := ⟨([] : List S37), (⟨#[]⟩ : ByteArray), (⟨#[]⟩ : ByteArray)⟩
def k191 : Kd S191 := Kd.iso (Kd.pair (Kd.slice 37 k37) (Kd.pair Kd.string Kd.string)) (fun x : S191 => (x.f0, x.f1, x.f2))
theorem k191_heap : Kd.Heap k191 := Kd.heap_iso _ (Kd.heap_pair (Kd.heap_slice 37 k37_heap) (Kd.heap_pair Kd.heap_string Kd.heap_string))
theorem k191_open {w : World} {x : S191} {cs : List Value} (h : k191.K w x cs) : ∃ A0 c0, cs = [.slice A0 x.f0.length c0, .string x.f1, .string x.f2] ∧ x.f0.length ≤ c0 ∧ k37.C w A0 x.f0.length x.f0 := by
  obtain ⟨_, _, rfl, ⟨A0, c0, rfl, l0, g0⟩, ⟨_, _, rfl, rfl, rfl⟩⟩ := h
  exact ⟨A0, c0, rfl, l0, g0⟩
theorem k191_openM {w : World} {base : Nat} {ok : Nat → Prop} {x : S191} {cs : List Value} (h : k191.M w base ok x cs) : ∃ v0, cs = [v0, .string x.f1, .string x.f2] ∧ k37.R 37 w base ok v0 x.f0 := by
  obtain ⟨_, _, rfl, ⟨v0, rfl, g0⟩, ⟨_, _, rfl, rfl, rfl⟩⟩ := h
  exact ⟨v0, rfl, g0⟩
theorem k191_mk (w : World) (x : S191) {A0 : Option Addr} {c0 : Nat} (l0 : x.f0.length ≤ c0) (g0 : k37.C w A0 x.f0.length x.f0) : k191.K w x [.slice A0 x.f0.length c0, .string x.f1, .string x.f2] := ⟨[.slice A0 x.f0.length c0], [.string x.f1, .string x.f2], rfl, ⟨A0, c0, rfl, l0, g0⟩, ⟨[.string x.f1], [.string x.f2], rfl, rfl, rfl⟩⟩
theorem k191_mkM (w : World) (base : Nat) (ok : Nat → Prop) (x : S191) {v0 : Value} (g0 : k37.R 37 w base ok v0 x.f0) : k191.M w base ok x [v0, .string x.f1, .string x.f2] := ⟨[v0], [.string x.f1, .string x.f2], rfl, ⟨v0, rfl, g0⟩, ⟨[.string x.f1], [.string x.f2], rfl, rfl, rfl⟩⟩
theorem k191_openF {W : World} {ok : Nat → Prop} {x : S191} {cs : List Value} (h : Kd.FK k191 W ok x cs) : ∃ A0 c0, cs = [.slice A0 x.f0.length c0, .string x.f1, .string x.f2] ∧ x.f0.length ≤ c0 ∧ Kd.F k37 W ok A0 x.f0.length x.f0 := by
  obtain ⟨A0, c0, rfl, l0, _⟩ := k191_open (Kd.FK_now h)
  exact ⟨A0, c0, rfl, l0, (fun W' hW => by obtain ⟨A0_, c0_, he, l0_, g0_⟩ := k191_open (h W' hW); injection (Option.some.inj (show some (Value.slice A0 x.f0.length c0) = some (Value.slice A0_ x.f0.length c0_) from congrArg (fun l => l[0]?) he)) with ha_ _ _; rw [ha_]; exact g0_)⟩
theorem k191_mkF (W : World) (ok : Nat → Prop) (x : S191) {A0 : Option Addr} {c0 : Nat} (l0 : x.f0.length ≤ c0) (g0 : Kd.F k37 W ok A0 x.f0.length x.f0) : Kd.FK k191 W ok x [.slice A0 x.f0.length c0, .string x.f1, .string x.f2] := fun W2 hW => k191_mk W2 x l0 (g0 W2 hW)
def rd_T191 (xs : List S191) (i : Int) : S191 := xs.getD i.toNat z191
theorem at_T191 {w : World} {A : Option Addr} {n : Nat} {xs : List S191} (h : Kd.C k191 w A n xs) (i : Int) (h0 : 0 ≤ i) (h1 : i < n) : ∃ ad A0 c0, A = some ad ∧ w.cell? (ad.add (i.toNat * 3)) = some (.slice A0 (rd_T191 xs i).f0.length c0) ∧ w.cell? ⟨(ad.add (i.toNat * 3)).block, (ad.add (i.toNat * 3)).off + 1, none⟩ = some (.string (rd_T191 xs i).f1) ∧ w.cell? ⟨(ad.add (i.toNat * 3)).block, (ad.add (i.toNat * 3)).off + 2, none⟩ = some (.string (rd_T191 xs i).f2) ∧ (rd_T191 xs i).f0.length ≤ c0 ∧ k37.C w A0 (rd_T191 xs i).f0.length (rd_T191 xs i).f0 := by
  obtain ⟨ad, c, e, _, hK, hc0⟩ := Kd.C_get h z191 i h0 h1
  have hc : ∀ j u, c[j]? = some u → w.cell? (ad.add (i.toNat * 3 + j)) = some u := hc0
  obtain ⟨A0, c0, rfl, l0, g0⟩ := k191_open hK
  exact ⟨ad, A0, c0, e, hc 0 _ rfl, by rw [← add_field _ _ 1 (by omega)]; exact hc 1 _ rfl, by rw [← add_field _ _ 2 (by omega)]; exact hc 2 _ rfl, l0, g0⟩

def rd_L22 (xs : List (List S191)) (i : Int) : (List S191) := xs.getD i.toNat ([] : List S191)
theorem at_L22 {w : World} {A : Option Addr} {n : Nat} {xs : List (List S191)} (h : Kd.C (Kd.slice 191 k191) w A n xs) (i : Int) (h0 : 0 ≤ i) (h1 : i < n) : ∃ ad A0 c0, A = some ad ∧ w.cell? (ad.add i.toNat) = some (.slice A0 (rd_L22 xs i).length c0) ∧ (rd_L22 xs i).length ≤ c0 ∧ k191.C w A0 (rd_L22 xs i).length (rd_L22 xs i) := by
  obtain ⟨ad, c, e, _, hK, hc0⟩ := Kd.C_get h ([] : List S191) i h0 h1
  have hc : ∀ j u, c[j]? = some u → w.cell? (ad.add (i.toNat * 1 + j)) = some u := hc0
  obtain ⟨A0, c0, rfl, l0, g0⟩ := hK
  exact ⟨ad, A0, c0, e, by have hq := hc 0 _ rfl; rwa [Nat.mul_one, Nat.add_zero] at hq, l0, g0⟩

def rd_L23 (xs : List (List (List S191))) (i : Int) : (List (List S191)) := xs.getD i.toNat ([] : List (List S191))
theorem at_L23 {w : World} {A : Option Addr} {n : Nat} {xs : List (List (List S191))} (h : Kd.C (Kd.slice 189 (Kd.slice 191 k191)) w A n xs) (i : Int) (h0 : 0 ≤ i) (h1 : i < n) : ∃ ad A0 c0, A = some ad ∧ w.cell? (ad.add i.toNat) = some (.slice A0 (rd_L23 xs i).length c0) ∧ (rd_L23 xs i).length ≤ c0 ∧ (Kd.slice 191 k191).C w A0 (rd_L23 xs i).length (rd_L23 xs i) := by
  obtain ⟨ad, c, e, _, hK, hc0⟩ := Kd.C_get h ([] : List (List S191)) i h0 h1
  have hc : ∀ j u, c[j]? = some u → w.cell? (ad.add (i.toNat * 1 + j)) = some u := hc0
  obtain ⟨A0, c0, rfl, l0, g0⟩ := hK
  exact ⟨ad, A0, c0, e, by have hq := hc 0 _ rfl; rwa [Nat.mul_one, Nat.add_zero] at hq, l0, g0⟩

/-! #### struct type 179 -/
structure S179 where
  f0 : ByteArray
  f1 : (List S90)
  f2 : (List (List S191))
def z179 : S179 := ⟨(⟨#[]⟩ : ByteArray), ([] : List S90), ([] : List (List S191))⟩
def k179 : Kd S179 := Kd.iso (Kd.pair Kd.string (Kd.pair (Kd.slice 90 k90) (Kd.slice 189 (Kd.slice 191 k191)))) (fun x : S179 => (x.f0, x.f1, x.f2))
theorem k179_heap : Kd.Heap k179 := Kd.heap_iso _ (Kd.heap_pair Kd.heap_string (Kd.heap_pair (Kd.heap_slice 90 k90_heap) (Kd.heap_slice 189 (Kd.heap_slice 191 k191_heap))))
theorem k179_open {w : World} {x : S179} {cs : List Value} (h : k179.K w x cs) : ∃ A1 c1 A2 c2, cs = [.string x.f0, .slice A1 x.f1.length c1, .slice A2 x.f2.length c2] ∧ x.f1.length ≤ c1 ∧ k90.C w A1 x.f1.length x.f1 ∧ x.f2.length ≤ c2 ∧ (Kd.slice 191 k191).C w A2 x.f2.length x.f2 := by
  obtain ⟨_, _, rfl, rfl, ⟨_, _, rfl, ⟨A1, c1, rfl, l1, g1⟩, ⟨A2, c2, rfl, l2, g2⟩⟩⟩ := h
  exact ⟨A1, c1, A2, c2, rfl, l1, g1, l2, g2⟩
theorem k179_openM {w : World} {base : Nat} {ok : Nat → Prop} {x : S179} {cs : List Value} (h : k179.M w base ok x cs) : ∃ v1 v2, cs = [.string x.f0, v1, v2] ∧ k90.R 90 w base ok v1 x.f1 ∧ (Kd.slice 191 k191).R 189 w base ok v2 x.f2 := by
  obtain ⟨_, _, rfl, rfl, ⟨_, _, rfl, ⟨v1, rfl, g1⟩, ⟨v2, rfl, g2⟩⟩⟩ := h
  exact ⟨v1, v2, rfl, g1, g2⟩
theorem k179_mk (w : World) (x : S179) {A1 : Option Addr} {c1 : Nat} (l1 : x.f1.length ≤ c1) (g1 : k90.C w A1 x.f1.length x.f1) {A2 : Option Addr} {c2 : Nat} (l2 : x.f2.length ≤ c2) (g2 : (Kd.slice 191 k191).C w A2 x.f2.length x.f2) : k179.K w x [.string x.f0, .slice A1 x.f1.length c1, .slice A2 x.f2.length c2] := ⟨[.string x.f0], [.slice A1 x.f1.length c1, .slice A2 x.f2.length c2], rfl, rfl, ⟨[.slice A1 x.f1.length c1], [.slice A2 x.f2.length c2], rfl, ⟨A1, c1, rfl, l1, g1⟩, ⟨A2, c2, rfl, l2, g2⟩⟩⟩
theorem k179_mkM (w : World) (base : Nat) (ok : Nat → Prop) (x : S179) {v1 : Value} (g1 : k90.R 90 w base ok v1 x.f1) {v2 : Value} (g2 : (Kd.slice 191 k191).R 189 w base ok v2 x.f2) : k179.M w base ok x [.string x.f0, v1, v2] := ⟨[.string x.f0], [v1, v2], rfl, rfl, ⟨[v1], [v2], rfl, ⟨v1, rfl, g1⟩, ⟨v2, rfl, g2⟩⟩⟩
theorem k179_openF {W : World} {ok : Nat → Prop} {x : S179} {cs : List Value} (h : Kd.FK k179 W ok x cs) : ∃ A1 c1 A2 c2, cs = [.string x.f0, .slice A1 x.f1.length c1, .slice A2 x.f2.length c2] ∧ x.f1.length ≤ c1 ∧ Kd.F k90 W ok A1 x.f1.length x.f1 ∧ x.f2.length ≤ c2 ∧ Kd.F (Kd.slice 191 k191) W ok A2 x.f2.length x.f2 := by
  obtain ⟨A1, c1, A2, c2, rfl, l1, _, l2, _⟩ := k179_open (Kd.FK_now h)
  exact ⟨A1, c1, A2, c2, rfl, l1, (fun W' hW => by obtain ⟨A1_, c1_, A2_, c2_, he, l1_, g1_, l2_, g2_⟩ := k179_open (h W' hW); injection (Option.some.inj (show some (Value.slice A1 x.f1.length c1) = some (Value.slice A1_ x.f1.length c1_) from congrArg (fun l => l[1]?) he)) with ha_ _ _; rw [ha_]; exact g1_), l2, (fun W' hW => by obtain ⟨A1_, c1_, A2_, c2_, he, l1_, g1_, l2_, g2_⟩ := k179_open (h W' hW); injection (Option.some.inj (show some (Value.slice A2 x.f2.length c2) = some (Value.slice A2_ x.f2.length c2_) from congrArg (fun l => l[2]?) he)) with ha_ _ _; rw [ha_]; exact g2_)⟩
theorem k179_mkF (W : World) (ok : Nat → Prop) (x : S179) {A1 : Option Addr} {c1 : Nat} (l1 : x.f1.length ≤ c1) (g1 : Kd.F k90 W ok A1 x.f1.length x.f1) {A2 : Option Addr} {c2 : Nat} (l2 : x.f2.length ≤ c2) (g2 : Kd.F (Kd.slice 191 k191) W ok A2 x.f2.length x.f2) : Kd.FK k179 W ok x [.string x.f0, .slice A1 x.f1.length c1, .slice A2 x.f2.length c2] := fun W2 hW => k179_mk W2 x l1 (g1 W2 hW) l2 (g2 W2 hW)
def rd_T179 (xs : List S179) (i : Int) : S179 := xs.getD i.toNat z179
theorem at_T179 {w : World} {A : Option Addr} {n : Nat} {xs : List S179} (h : Kd.C k179 w A n xs) (i : Int) (h0 : 0 ≤ i) (h1 : i < n) : ∃ ad A1 c1 A2 c2, A = some ad ∧ w.cell? (ad.add (i.toNat * 3)) = some (.string (rd_T179 xs i).f0) ∧ w.cell? ⟨(ad.add (i.toNat * 3)).block, (ad.add (i.toNat * 3)).off + 1, none⟩ = some (.slice A1 (rd_T179 xs i).f1.length c1) ∧ w.cell? ⟨(ad.add (i.toNat * 3)).block, (ad.add (i.toNat * 3)).off + 2, none⟩ = some (.slice A2 (rd_T179 xs i).f2.length c2) ∧ (rd_T179 xs i).f1.length ≤ c1 ∧ k90.C w A1 (rd_T179 xs i).f1.length (rd_T179 xs i).f1 ∧ (rd_T179 xs i).f2.length ≤ c2 ∧ (Kd.slice 191 k191).C w A2 (rd_T179 xs i).f2.length (rd_T179 xs i).f2 := by
  obtain ⟨ad, c, e, _, hK, hc0⟩ := Kd.C_get h z179 i h0 h1
  have hc : ∀ j u, c[j]? = some u → w.cell? (ad.add (i.toNat * 3 + j)) = some u := hc0
  obtain ⟨A1, c1, A2, c2, rfl, l1, g1, l2, g2⟩ := k179_open hK
  exact ⟨ad, A1, c1, A2, c2, e, hc 0 _ rfl, by rw [← add_field _ _ 1 (by omega)]; exact hc 1 _ rfl, by rw [← add_field _ _ 2 (by omega)]; exact hc 2 _ rfl, l1, g1, l2, g2⟩

def rd_L25 (xs : List (List S179)) (i : Int) : (List S179) := xs.getD i.toNat ([] : List S179)
theorem at_L25 {w : World} {A : Option Addr} {n : Nat} {xs : List (List S179)} (h : Kd.C (Kd.slice 179 k179) w A n xs) (i : Int) (h0 : 0 ≤ i) (h1 : i < n) : ∃ ad A0 c0, A = some ad ∧ w.cell? (ad.add i.toNat) = some (.slice A0 (rd_L25 xs i).length c0) ∧ (rd_L25 xs i).length ≤ c0 ∧ k179.C w A0 (rd_L25 xs i).length (rd_L25 xs i) := by
  obtain ⟨ad, c, e, _, hK, hc0⟩ := Kd.C_get h ([] : List S179) i h0 h1
  have hc : ∀ j u, c[j]? = some u → w.cell? (ad.add (i.toNat * 1 + j)) = some u := hc0
  obtain ⟨A0, c0, rfl, l0, g0⟩ := hK
  exact ⟨ad, A0, c0, e, by have hq := hc 0 _ rfl; rwa [Nat.mul_one, Nat.add_zero] at hq, l0, g0⟩

/-! #### struct type 181 -/
structure S181 where
  f0 : ByteArray
  f1 : ByteArray
  f2 : ByteArray
  f3 : ByteArray
  f4 : (List S37)
def z181 : S181 := ⟨(⟨#[]⟩ : ByteArray), (⟨#[]⟩ : ByteArray), (⟨#[]⟩ : ByteArray), (⟨#[]⟩ : ByteArray), ([] : List S37)⟩
def k181 : Kd S181 := Kd.iso (Kd.pair Kd.string (Kd.pair Kd.string (Kd.pair Kd.string (Kd.pair Kd.string (Kd.slice 37 k37))))) (fun x : S181 => (x.f0, x.f1, x.f2, x.f3, x.f4))
theorem k181_heap : Kd.Heap k181 := Kd.heap_iso _ (Kd.heap_pair Kd.heap_string (Kd.heap_pair Kd.heap_string (Kd.heap_pair Kd.heap_string (Kd.heap_pair Kd.heap_string (Kd.heap_slice 37 k37_heap)))))
theorem k181_open {w : World} {x : S181} {cs : List Value} (h : k181.K w x cs) : ∃ A4 c4, cs = [.string x.f0, .string x.f1, .string x.f2, .string x.f3, .slice A4 x.f4.length c4] ∧ x.f4.length ≤ c4 ∧ k37.C w A4 x.f4.length x.f4 := by
  obtain ⟨_, _, rfl, rfl, ⟨_, _, rfl, rfl, ⟨_, _, rfl, rfl, ⟨_, _, rfl, rfl, ⟨A4, c4, rfl, l4, g4⟩⟩⟩⟩⟩ := h
  exact ⟨A4, c4, rfl, l4, g4⟩
theorem k181_openM {w : World} {base : Nat} {ok : Nat → Prop} {x : S181} {cs : List Value} (h : k181.M w base ok x cs) : ∃ v4, cs = [.string x.f0, .string x.f1, .string x.f2, .string x.f3, v4] ∧ k37.R 37 w base ok v4 x.f4 := by
  obtain ⟨_, _, rfl, rfl, ⟨_, _, rfl, rfl, ⟨_, _, rfl, rfl, ⟨_, _, rfl, rfl, ⟨v4, rfl, g4⟩⟩⟩⟩⟩ := h
  exact ⟨v4, rfl, g4⟩
theorem k181_mk (w : World) (x : S181) {A4 : Option Addr} {c4 : Nat} (l4 : x.f4.length ≤ c4) (g4 : k37.C w A4 x.f4.length x.f4) : k181.K w x [.string x.f0, .string x.f1, .string x.f2, .string x.f3, .slice A4 x.f4.length c4] := ⟨[.string x.f0], [.string x.f1, .string x.f2, .string x.f3, .slice A4 x.f4.length c4], rfl, rfl, ⟨[.string x.f1], [.string x.f2, .string x.f3, .slice A4 x.f4.length c4], rfl, rfl, ⟨[.string x.f2], [.string x.f3, .slice A4 x.f4.length c4], rfl, rfl, ⟨[.string x.f3], [.slice A4 x.f4.length c4], rfl, rfl, ⟨A4, c4, rfl, l4, g4⟩⟩⟩⟩⟩
theorem k181_mkM (w : World) (base : Nat) (ok : Nat → Prop) (x : S181) {v4 : Value} (g4 : k37.R 37 w base ok v4 x.f4) : k181.M w base ok x [.string x.f0, .string x.f1, .string x.f2, .string x.f3, v4] := ⟨[.string x.f0], [.string x.f1, .string x.f2, .string x.f3, v4], rfl, rfl, ⟨[.string x.f1], [.string x.f2, .string x.f3, v4], rfl, rfl, ⟨[.string x.f2], [.string x.f3, v4], rfl, rfl, ⟨[.string x.f3], [v4], rfl, rfl, ⟨v4, rfl, g4⟩⟩⟩⟩⟩
theorem k181_openF {W : World} {ok : Nat → Prop} {x : S181} {cs : List Value} (h : Kd.FK k181 W ok x cs) : ∃ A4 c4, cs = [.string x.f0, .string x.f1, .string x.f2, .string x.f3, .slice A4 x.f4.length c4] ∧ x.f4.length ≤ c4 ∧ Kd.F k37 W ok A4 x.f4.length x.f4 := by
  obtain ⟨A4, c4, rfl, l4, _⟩ := k181_open (Kd.FK_now h)
  exact ⟨A4, c4, rfl, l4, (fun W' hW => by obtain ⟨A4_, c4_, he, l4_, g4_⟩ := k181_open (h W' hW); injection (Option.some.inj (show some (Value.slice A4 x.f4.length c4) = some (Value.slice A4_ x.f4.length c4_) from congrArg (fun l => l[4]?) he)) with ha_ _ _; rw [ha_]; exact g4_)⟩
theorem k181_mkF (W : World) (ok : Nat → Prop) (x : S181) {A4 : Option Addr} {c4 : Nat} (l4 : x.f4.length ≤ c4) (g4 : Kd.F k37 W ok A4 x.f4.length x.f4) : Kd.FK k181 W ok x [.string x.f0, .string x.f1, .string x.f2, .string x.f3, .slice A4 x.f4.length c4] := fun W2 hW => k181_mk W2 x l4 (g4 W2 hW)
def rd_T181 (xs : List S181) (i : Int) : S181 := xs.getD i.toNat z181
theorem at_T181 {w : World} {A : Option Addr} {n : Nat} {xs : List S181} (h : Kd.C k181 w A n xs) (i : Int) (h0 : 0 ≤ i) (h1 : i < n) : ∃ ad A4 c4, A = some ad ∧ w.cell? (ad.add (i.toNat * 5)) = some (.string (rd_T181 xs i).f0) ∧ w.cell? ⟨(ad.add (i.toNat * 5)).block, (ad.add (i.toNat * 5)).off + 1, none⟩ = some (.string (rd_T181 xs i).f1) ∧ w.cell? ⟨(ad.add (i.toNat * 5)).block, (ad.add (i.toNat * 5)).off + 2, none⟩ = some (.string (rd_T181 xs i).f2) ∧ w.cell? ⟨(ad.add (i.toNat * 5)).block, (ad.add (i.toNat * 5)).off + 3, none⟩ = some (.string (rd_T181 xs i).f3) ∧ w.cell? ⟨(ad.add (i.toNat * 5)).block, (ad.add (i.toNat * 5)).off + 4, none⟩ = some (.slice A4 (rd_T181 xs i).f4.length c4) ∧ (rd_T181 xs i).f4.length ≤ c4 ∧ k37.C w A4 (rd_T181 xs i).f4.length (rd_T181 xs i).f4 := by
  obtain ⟨ad, c, e, _, hK, hc0⟩ := Kd.C_get h z181 i h0 h1
  have hc : ∀ j u, c[j]? = some u → w.cell? (ad.add (i.toNat * 5 + j)) = some u := hc0
  obtain ⟨A4, c4, rfl, l4, g4⟩ := k181_open hK
  exact ⟨ad, A4, c4, e, hc 0 _ rfl, by rw [← add_field _ _ 1 (by omega)]; exact hc 1 _ rfl, by rw [← add_field _ _ 2 (by omega)]; exact hc 2 _ rfl, by rw [← add_field _ _ 3 (by omega)]; exact hc 3 _ rfl, by rw [← add_field _ _ 4 (by omega)]; exact hc 4 _ rfl, l4, g4⟩

def rd_L27 (xs : List (List S181)) (i : Int) : (List S181) := xs.getD i.toNat ([] : List S181)
theorem at_L27 {w : World} {A : Option Addr} {n : Nat} {xs : List (List S181)} (h : Kd.C (Kd.slice 181 k181) w A n xs) (i : Int) (h0 : 0 ≤ i) (h1 : i < n) : ∃ ad A0 c0, A = some ad ∧ w.cell? (ad.add i.toNat) = some (.slice A0 (rd_L27 xs i).length c0) ∧ (rd_L27 xs i).length ≤ c0 ∧ k181.C w A0 (rd_L27 xs i).length (rd_L27 xs i) := by
  obtain ⟨ad, c, e, _, hK, hc0⟩ := Kd.C_get h ([] : List S181) i h0 h1
  have hc : ∀ j u, c[j]? = some u → w.cell? (ad.add (i.toNat * 1 + j)) = some u := hc0
  obtain ⟨A0, c0, rfl, l0, g0⟩ := hK
  exact ⟨ad, A0, c0, e, by have hq := hc 0 _ rfl; rwa [Nat.mul_one, Nat.add_zero] at hq, l0, g0⟩

def rd_L28 (xs : List (List Int)) (i : Int) : (List Int) := xs.getD i.toNat ([] : List Int)
theorem at_L28 {w : World} {A : Option Addr} {n : Nat} {xs : List (List Int)} (h : Kd.C (Kd.slice 143 (Kd.int .u32)) w A n xs) (i : Int) (h0 : 0 ≤ i) (h1 : i < n) : ∃ ad A0 c0, A = some ad ∧ w.cell? (ad.add i.toNat) = some (.slice A0 (rd_L28 xs i).length c0) ∧ (rd_L28 xs i).length ≤ c0 ∧ (Kd.int .u32).C w A0 (rd_L28 xs i).length (rd_L28 xs i) := by
  obtain ⟨ad, c, e, _, hK, hc0⟩ := Kd.C_get h ([] : List Int) i h0 h1
  have hc : ∀ j u, c[j]? = some u → w.cell? (ad.add (i.toNat * 1 + j)) = some u := hc0
  obtain ⟨A0, c0, rfl, l0, g0⟩ := hK
  exact ⟨ad, A0, c0, e, by have hq := hc 0 _ rfl; rwa [Nat.mul_one, Nat.add_zero] at hq, l0, g0⟩

def rd_L29 (xs : List (List (List Int))) (i : Int) : (List (List Int)) := xs.getD i.toNat ([] : List (List Int))
theorem at_L29 {w : World} {A : Option Addr} {n : Nat} {xs : List (List (List Int))} (h : Kd.C (Kd.slice 182 (Kd.slice 143 (Kd.int .u32))) w A n xs) (i : Int) (h0 : 0 ≤ i) (h1 : i < n) : ∃ ad A0 c0, A = some ad ∧ w.cell? (ad.add i.toNat) = some (.slice A0 (rd_L29 xs i).length c0) ∧ (rd_L29 xs i).length ≤ c0 ∧ (Kd.slice 143 (Kd.int .u32)).C w A0 (rd_L29 xs i).length (rd_L29 xs i) := by
  obtain ⟨ad, c, e, _, hK, hc0⟩ := Kd.C_get h ([] : List (List Int)) i h0 h1
  have hc : ∀ j u, c[j]? = some u → w.cell? (ad.add (i.toNat * 1 + j)) = some u := hc0
  obtain ⟨A0, c0, rfl, l0, g0⟩ := hK
  exact ⟨ad, A0, c0, e, by have hq := hc 0 _ rfl; rwa [Nat.mul_one, Nat.add_zero] at hq, l0, g0⟩

/-! #### struct type 184 -/
structure S184 where
  f0 : Int
  f1 : ByteArray
def z184 : S184 := ⟨(0 : Int), (⟨#[]⟩ : ByteArray)⟩
def k184 : Kd S184 := Kd.iso (Kd.pair (Kd.int .i64) Kd.string) (fun x : S184 => (x.f0, x.f1))
theorem k184_heap : Kd.Heap k184 := Kd.heap_iso _ (Kd.heap_pair (Kd.heap_int .i64) Kd.heap_string)
theorem k184_open {w : World} {x : S184} {cs : List Value} (h : k184.K w x cs) : cs = [.int .i64 x.f0, .string x.f1] := by
  obtain ⟨_, _, rfl, rfl, rfl⟩ := h
  exact rfl
theorem k184_openM {w : World} {base : Nat} {ok : Nat → Prop} {x : S184} {cs : List Value} (h : k184.M w base ok x cs) : cs = [.int .i64 x.f0, .string x.f1] := by
  obtain ⟨_, _, rfl, rfl, rfl⟩ := h
  exact rfl
theorem k184_mk (w : World) (x : S184)  : k184.K w x [.int .i64 x.f0, .string x.f1] := ⟨[.int .i64 x.f0], [.string x.f1], rfl, rfl, rfl⟩
theorem k184_mkM (w : World) (base : Nat) (ok : Nat → Prop) (x : S184)  : k184.M w base ok x [.int .i64 x.f0, .string x.f1] := ⟨[.int .i64 x.f0], [.string x.f1], rfl, rfl, rfl⟩
theorem k184_mkF (W : World) (ok : Nat → Prop) (x : S184) : Kd.FK k184 W ok x [.int .i64 x.f0, .string x.f1] := fun W2 _ => k184_mk W2 x
def rd_T184 (xs : List S184) (i : Int) : S184 := xs.getD i.toNat z184
theorem at_T184 {w : World} {A : Option Addr} {n : Nat} {xs : List S184} (h : Kd.C k184 w A n xs) (i : Int) (h0 : 0 ≤ i) (h1 : i < n) : ∃ ad , A = some ad ∧ w.cell? (ad.add (i.toNat * 2)) = some (.int .i64 (rd_T184 xs i).f0) ∧ w.cell? ⟨(ad.add (i.toNat * 2)).block, (ad.add (i.toNat * 2)).off + 1, none⟩ = some (.string (rd_T184 xs i).f1) := by
  obtain ⟨ad, c, e, _, hK, hc0⟩ := Kd.C_get h z184 i h0 h1
  have hc : ∀ j u, c[j]? = some u → w.cell? (ad.add (i.toNat * 2 + j)) = some u := hc0
  obtain rfl := k184_open hK
  exact ⟨ad, e, hc 0 _ rfl, by rw [← add_field _ _ 1 (by omega)]; exact hc 1 _ rfl⟩

def rd_L31 (xs : List (List S184)) (i : Int) : (List S184) := xs.getD i.toNat ([] : List S184)
theorem at_L31 {w : World} {A : Option Addr} {n : Nat} {xs : List (List S184)} (h : Kd.C (Kd.slice 184 k184) w A n xs) (i : Int) (h0 : 0 ≤ i) (h1 : i < n) : ∃ ad A0 c0, A = some ad ∧ w.cell? (ad.add i.toNat) = some (.slice A0 (rd_L31 xs i).length c0) ∧ (rd_L31 xs i).length ≤ c0 ∧ k184.C w A0 (rd_L31 xs i).length (rd_L31 xs i) := by
  obtain ⟨ad, c, e, _, hK, hc0⟩ := Kd.C_get h ([] : List S184) i h0 h1
  have hc : ∀ j u, c[j]? = some u → w.cell? (ad.add (i.toNat * 1 + j)) = some u := hc0
  obtain ⟨A0, c0, rfl, l0, g0⟩ := hK
  exact ⟨ad, A0, c0, e, by have hq := hc 0 _ rfl; rwa [Nat.mul_one, Nat.add_zero] at hq, l0, g0⟩

/-! #### struct type 186 -/
structure S186 where
  f0 : ByteArray
  f1 : Int
def z186 : S186 := ⟨(⟨#[]⟩ : ByteArray), (0 : Int)⟩
def k186 : Kd S186 := Kd.iso (Kd.pair Kd.string (Kd.int .i64)) (fun x : S186 => (x.f0, x.f1))
theorem k186_heap : Kd.Heap k186 := Kd.heap_iso _ (Kd.heap_pair Kd.heap_string (Kd.heap_int .i64))
theorem k186_open {w : World} {x : S186} {cs : List Value} (h : k186.K w x cs) : cs = [.string x.f0, .int .i64 x.f1] := by
  obtain ⟨_, _, rfl, rfl, rfl⟩ := h
  exact rfl
theorem k186_openM {w : World} {base : Nat} {ok : Nat → Prop} {x : S186} {cs : List Value} (h : k186.M w base ok x cs) : cs = [.string x.f0, .int .i64 x.f1] := by
  obtain ⟨_, _, rfl, rfl, rfl⟩ := h
  exact rfl
theorem k186_mk (w : World) (x : S186)  : k186.K w x [.string x.f0, .int .i64 x.f1] := ⟨[.string x.f0], [.int .i64 x.f1], rfl, rfl, rfl⟩
theorem k186_mkM (w : World) (base : Nat) (ok : Nat → Prop) (x : S186)  : k186.M w base ok x [.string x.f0, .int .i64 x.f1] := ⟨[.string x.f0], [.int .i64 x.f1], rfl, rfl, rfl⟩
theorem k186_mkF (W : World) (ok : Nat → Prop) (x : S186) : Kd.FK k186 W ok x [.string x.f0, .int .i64 x.f1] := fun W2 _ => k186_mk W2 x
def rd_T186 (xs : List S186) (i : Int) : S186 := xs.getD i.toNat z186
theorem at_T186 {w : World} {A : Option Addr} {n : Nat} {xs : List S186} (h : Kd.C k186 w A n xs) (i : Int) (h0 : 0 ≤ i) (h1 : i < n) : ∃ ad , A = some ad ∧ w.cell? (ad.add (i.toNat * 2)) = some (.string (rd_T186 xs i).f0) ∧ w.cell? ⟨(ad.add (i.toNat * 2)).block, (ad.add (i.toNat * 2)).off + 1, none⟩ = some (.int .i64 (rd_T186 xs i).f1) := by
  obtain ⟨ad, c, e, _, hK, hc0⟩ := Kd.C_get h z186 i h0 h1
  have hc : ∀ j u, c[j]? = some u → w.cell? (ad.add (i.toNat * 2 + j)) = some u := hc0
  obtain rfl := k186_open hK
  exact ⟨ad, e, hc 0 _ rfl, by rw [← add_field _ _ 1 (by omega)]; exact hc 1 _ rfl⟩

def rd_L33 (xs : List (List S186)) (i : Int) : (List S186) := xs.getD i.toNat ([] : List S186)
theorem at_L33 {w : World} {A : Option Addr} {n : Nat} {xs : List (List S186)} (h : Kd.C (Kd.slice 186 k186) w A n xs) (i : Int) (h0 : 0 ≤ i) (h1 : i < n) : ∃ ad A0 c0, A = some ad ∧ w.cell? (ad.add i.toNat) = some (.slice A0 (rd_L33 xs i).length c0) ∧ (rd_L33 xs i).length ≤ c0 ∧ k186.C w A0 (rd_L33 xs i).length (rd_L33 xs i) := by
  obtain ⟨ad, c, e, _, hK, hc0⟩ := Kd.C_get h ([] : List S186) i h0 h1
  have hc : ∀ j u, c[j]? = some u → w.cell? (ad.add (i.toNat * 1 + j)) = some u := hc0
  obtain ⟨A0, c0, rfl, l0, g0⟩ := hK
  exact ⟨ad, A0, c0, e, by have hq := hc 0 _ rfl; rwa [Nat.mul_one, Nat.add_zero] at hq, l0, g0⟩

/-! #### struct type 68 -/
structure S68 where
  f0 : ByteArray
  f1 : (List S90)
  f2 : (List ByteArray)
def z68 : S68 := ⟨(⟨#[]⟩ : ByteArray), ([] : List S90), ([] : List ByteArray)⟩
def k68 : Kd S68 := Kd.iso (Kd.pair Kd.string (Kd.pair (Kd.slice 90 k90) (Kd.slice 9 Kd.string))) (fun x : S68 => (x.f0, x.f1, x.f2))
theorem k68_heap : Kd.Heap k68 := Kd.heap_iso _ (Kd.heap_pair Kd.heap_string (Kd.heap_pair (Kd.heap_slice 90 k90_heap) (Kd.heap_slice 9 Kd.heap_string)))
theorem k68_open {w : World} {x : S68} {cs : List Value} (h : k68.K w x cs) : ∃ A1 c1 A2 c2, cs = [.string x.f0, .slice A1 x.f1.length c1, .slice A2 x.f2.length c2] ∧ x.f1.length ≤ c1 ∧ k90.C w A1 x.f1.length x.f1 ∧ x.f2.length ≤ c2 ∧ Kd.string.C w A2 x.f2.length x.f2 := by
  obtain ⟨_, _, rfl, rfl, ⟨_, _, rfl, ⟨A1, c1, rfl, l1, g1⟩, ⟨A2, c2, rfl, l2, g2⟩⟩⟩ := h
  exact ⟨A1, c1, A2, c2, rfl, l1, g1, l2, g2⟩
theorem k68_openM {w : World} {base : Nat} {ok : Nat → Prop} {x : S68} {cs : List Value} (h : k68.M w base ok x cs) : ∃ v1 v2, cs = [.string x.f0, v1, v2] ∧ k90.R 90 w base ok v1 x.f1 ∧ Kd.string.R 9 w base ok v2 x.f2 := by
  obtain ⟨_, _, rfl, rfl, ⟨_, _, rfl, ⟨v1, rfl, g1⟩, ⟨v2, rfl, g2⟩⟩⟩ := h
  exact ⟨v1, v2, rfl, g1, g2⟩
theorem k68_mk (w : World) (x : S68) {A1 : Option Addr} {c1 : Nat} (l1 : x.f1.length ≤ c1) (g1 : k90.C w A1 x.f1.length x.f1) {A2 : Option Addr} {c2 : Nat} (l2 : x.f2.length ≤ c2) (g2 : Kd.string.C w A2 x.f2.length x.f2) : k68.K w x [.string x.f0, .slice A1 x.f1.length c1, .slice A2 x.f2.length c2] := ⟨[.string x.f0], [.slice A1 x.f1.length c1, .slice A2 x.f2.length c2], rfl, rfl, ⟨[.slice A1 x.f1.length c1], [.slice A2 x.f2.length c2], rfl, ⟨A1, c1, rfl, l1, g1⟩, ⟨A2, c2, rfl, l2, g2⟩⟩⟩
theorem k68_mkM (w : World) (base : Nat) (ok : Nat → Prop) (x : S68) {v1 : Value} (g1 : k90.R 90 w base ok v1 x.f1) {v2 : Value} (g2 : Kd.string.R 9 w base ok v2 x.f2) : k68.M w base ok x [.string x.f0, v1, v2] := ⟨[.string x.f0], [v1, v2], rfl, rfl, ⟨[v1], [v2], rfl, ⟨v1, rfl, g1⟩, ⟨v2, rfl, g2⟩⟩⟩
theorem k68_openF {W : World} {ok : Nat → Prop} {x : S68} {cs : List Value} (h : Kd.FK k68 W ok x cs) : ∃ A1 c1 A2 c2, cs = [.string x.f0, .slice A1 x.f1.length c1, .slice A2 x.f2.length c2] ∧ x.f1.length ≤ c1 ∧ Kd.F k90 W ok A1 x.f1.length x.f1 ∧ x.f2.length ≤ c2 ∧ Kd.F Kd.string W ok A2 x.f2.length x.f2 := by
  obtain ⟨A1, c1, A2, c2, rfl, l1, _, l2, _⟩ := k68_open (Kd.FK_now h)
  exact ⟨A1, c1, A2, c2, rfl, l1, (fun W' hW => by obtain ⟨A1_, c1_, A2_, c2_, he, l1_, g1_, l2_, g2_⟩ := k68_open (h W' hW); injection (Option.some.inj (show some (Value.slice A1 x.f1.length c1) = some (Value.slice A1_ x.f1.length c1_) from congrArg (fun l => l[1]?) he)) with ha_ _ _; rw [ha_]; exact g1_), l2, (fun W' hW => by obtain ⟨A1_, c1_, A2_, c2_, he, l1_, g1_, l2_, g2_⟩ := k68_open (h W' hW); injection (Option.some.inj (show some (Value.slice A2 x.f2.length c2) = some (Value.slice A2_ x.f2.length c2_) from congrArg (fun l => l[2]?) he)) with ha_ _ _; rw [ha_]; exact g2_)⟩
theorem k68_mkF (W : World) (ok : Nat → Prop) (x : S68) {A1 : Option Addr} {c1 : Nat} (l1 : x.f1.length ≤ c1) (g1 : Kd.F k90 W ok A1 x.f1.length x.f1) {A2 : Option Addr} {c2 : Nat} (l2 : x.f2.length ≤ c2) (g2 : Kd.F Kd.string W ok A2 x.f2.length x.f2) : Kd.FK k68 W ok x [.string x.f0, .slice A1 x.f1.length c1, .slice A2 x.f2.length c2] := fun W2 hW => k68_mk W2 x l1 (g1 W2 hW) l2 (g2 W2 hW)
def rd_T68 (xs : List S68) (i : Int) : S68 := xs.getD i.toNat z68
theorem at_T68 {w : World} {A : Option Addr} {n : Nat} {xs : List S68} (h : Kd.C k68 w A n xs) (i : Int) (h0 : 0 ≤ i) (h1 : i < n) : ∃ ad A1 c1 A2 c2, A = some ad ∧ w.cell? (ad.add (i.toNat * 3)) = some (.string (rd_T68 xs i).f0) ∧ w.cell? ⟨(ad.add (i.toNat * 3)).block, (ad.add (i.toNat * 3)).off + 1, none⟩ = some (.slice A1 (rd_T68 xs i).f1.length c1) ∧ w.cell? ⟨(ad.add (i.toNat * 3)).block, (ad.add (i.toNat * 3)).off + 2, none⟩ = some (.slice A2 (rd_T68 xs i).f2.length c2) ∧ (rd_T68 xs i).f1.length ≤ c1 ∧ k90.C w A1 (rd_T68 xs i).f1.length (rd_T68 xs i).f1 ∧ (rd_T68 xs i).f2.length ≤ c2 ∧ Kd.string.C w A2 (rd_T68 xs i).f2.length (rd_T68 xs i).f2 := by
  obtain ⟨ad, c, e, _, hK, hc0⟩ := Kd.C_get h z68 i h0 h1
  have hc : ∀ j u, c[j]? = some u → w.cell? (ad.add (i.toNat * 3 + j)) = some u := hc0
  obtain ⟨A1, c1, A2, c2, rfl, l1, g1, l2, g2⟩ := k68_open hK
  exact ⟨ad, A1, c1, A2, c2, e, hc 0 _ rfl, by rw [← add_field _ _ 1 (by omega)]; exact hc 1 _ rfl, by rw [← add_field _ _ 2 (by omega)]; exact hc 2 _ rfl, l1, g1, l2, g2⟩

def rd_L35 (xs : List (List S68)) (i : Int) : (List S68) := xs.getD i.toNat ([] : List S68)
theorem at_L35 {w : World} {A : Option Addr} {n : Nat} {xs : List (List S68)} (h : Kd.C (Kd.slice 68 k68) w A n xs) (i : Int) (h0 : 0 ≤ i) (h1 : i < n) : ∃ ad A0 c0, A = some ad ∧ w.cell? (ad.add i.toNat) = some (.slice A0 (rd_L35 xs i).length c0) ∧ (rd_L35 xs i).length ≤ c0 ∧ k68.C w A0 (rd_L35 xs i).length (rd_L35 xs i) := by
  obtain ⟨ad, c, e, _, hK, hc0⟩ := Kd.C_get h ([] : List S68) i h0 h1
  have hc : ∀ j u, c[j]? = some u → w.cell? (ad.add (i.toNat * 1 + j)) = some u := hc0
  obtain ⟨A0, c0, rfl, l0, g0⟩ := hK
  exact ⟨ad, A0, c0, e, by have hq := hc 0 _ rfl; rwa [Nat.mul_one, Nat.add_zero] at hq, l0, g0⟩

/-! #### struct type 33 -/
structure S33 where
  f0 : ByteArray
  f1 : (List (List S37))
  f2 : (List S37)
  f3 : (List S88)
def z33 : S33 := ⟨(⟨#[]⟩ : ByteArray), ([] : List (List S37)), ([] : List S37), ([] : List S88)⟩
def k33 : Kd S33 := Kd.iso (Kd.pair Kd.string (Kd.pair (Kd.slice 30 (Kd.slice 37 k37)) (Kd.pair (Kd.slice 37 k37) (Kd.slice 88 k88)))) (fun x : S33 => (x.f0, x.f1, x.f2, x.f3))
theorem k33_heap : Kd.Heap k33 := Kd.heap_iso _ (Kd.heap_pair Kd.heap_string (Kd.heap_pair (Kd.heap_slice 30 (Kd.heap_slice 37 k37_heap)) (Kd.heap_pair (Kd.heap_slice 37 k37_heap) (Kd.heap_slice 88 k88_heap))))
theorem k33_open {w : World} {x : S33} {cs : List Value} (h : k33.K w x cs) : ∃ A1 c1 A2 c2 A3 c3, cs = [.string x.f0, .slice A1 x.f1.length c1, .slice A2 x.f2.length c2, .slice A3 x.f3.length c3] ∧ x.f1.length ≤ c1 ∧ (Kd.slice 37 k37).C w A1 x.f1.length x.f1 ∧ x.f2.length ≤ c2 ∧ k37.C w A2 x.f2.length x.f2 ∧ x.f3.length ≤ c3 ∧ k88.C w A3 x.f3.length x.f3 := by
  obtain ⟨_, _, rfl, rfl, ⟨_, _, rfl, ⟨A1, c1, rfl, l1, g1⟩, ⟨_, _, rfl, ⟨A2, c2, rfl, l2, g2⟩, ⟨A3, c3, rfl, l3, g3⟩⟩⟩⟩ := h
  exact ⟨A1, c1, A2, c2, A3, c3, rfl, l1, g1, l2, g2, l3, g3⟩
theorem k33_openM {w : World} {base : Nat} {ok : Nat → Prop} {x : S33} {cs : List Value} (h : k33.M w base ok x cs) : ∃ v1 v2 v3, cs = [.string x.f0, v1, v2, v3] ∧ (Kd.slice 37 k37).R 30 w base ok v1 x.f1 ∧ k37.R 37 w base ok v2 x.f2 ∧ k88.R 88 w base ok v3 x.f3 := by
  obtain ⟨_, _, rfl, rfl, ⟨_, _, rfl, ⟨v1, rfl, g1⟩, ⟨_, _, rfl, ⟨v2, rfl, g2⟩, ⟨v3, rfl, g3⟩⟩⟩⟩ := h
  exact ⟨v1, v2, v3, rfl, g1, g2, g3⟩
theorem k33_mk (w : World) (x : S33) {A1 : Option Addr} {c1 : Nat} (l1 : x.f1.length ≤ c1) (g1 : (Kd.slice 37 k37).C w A1 x.f1.length x.f1) {A2 : Option Addr} {c2 : Nat} (l2 : x.f2.length ≤ c2) (g2 : k37.C w A2 x.f2.length x.f2) {A3 : Option Addr} {c3 : Nat} (l3 : x.f3.length ≤ c3) (g3 : k88.C w A3 x.f3.length x.f3) : k33.K w x [.string x.f0, .slice A1 x.f1.length c1, .slice A2 x.f2.length c2, .slice A3 x.f3.length c3] := ⟨[.string x.f0], [.slice A1 x.f1.length c1, .slice A2 x.f2.length c2, .slice A3 x.f3.length c3], rfl, rfl, ⟨[.slice A1 x.f1.length c1], [.slice A2 x.f2.length c2, .slice A3 x.f3.length c3], rfl, ⟨A1, c1, rfl, l1, g1⟩, ⟨[.slice A2 x.f2.length c2], [.slice A3 x.f3.length c3], rfl, ⟨A2, c2, rfl, l2, g2⟩, ⟨A3, c3, rfl, l3, g3⟩⟩⟩⟩
theorem k33_mkM (w : World) (base : Nat) (ok : Nat → Prop) (x : S33) {v1 : Value} (g1 : (Kd.slice 37 k37).R 30 w base ok v1 x.f1) {v2 : Value} (g2 : k37.R 37 w base ok v2 x.f2) {v3 : Value} (g3 : k88.R 88 w base ok v3 x.f3) : k33.M w base ok x [.string x.f0, v1, v2, v3] := ⟨[.string x.f0], [v1, v2, v3], rfl, rfl, ⟨[v1], [v2, v3], rfl, ⟨v1, rfl, g1⟩, ⟨[v2], [v3], rfl, ⟨v2, rfl, g2⟩, ⟨v3, rfl, g3⟩⟩⟩⟩
theorem k33_openF {W : World} {ok : Nat → Prop} {x : S33} {cs : List Value} (h : Kd.FK k33 W ok x cs) : ∃ A1 c1 A2 c2 A3 c3, cs = [.string x.f0, .slice A1 x.f1.length c1, .slice A2 x.f2.length c2, .slice A3 x.f3.length c3] ∧ x.f1.length ≤ c1 ∧ Kd.F (Kd.slice 37 k37) W ok A1 x.f1.length x.f1 ∧ x.f2.length ≤ c2 ∧ Kd.F k37 W ok A2 x.f2.length x.f2 ∧ x.f3.length ≤ c3 ∧ Kd.F k88 W ok A3 x.f3.length x.f3 := by
  obtain ⟨A1, c1, A2, c2, A3, c3, rfl, l1, _, l2, _, l3, _⟩ := k33_open (Kd.FK_now h)
  exact ⟨A1, c1, A2, c2, A3, c3, rfl, l1, (fun W' hW => by obtain ⟨A1_, c1_, A2_, c2_, A3_, c3_, he, l1_, g1_, l2_, g2_, l3_, g3_⟩ := k33_open (h W' hW); injection (Option.some.inj (show some (Value.slice A1 x.f1.length c1) = some (Value.slice A1_ x.f1.length c1_) from congrArg (fun l => l[1]?) he)) with ha_ _ _; rw [ha_]; exact g1_), l2, (fun W' hW => by obtain ⟨A1_, c1_, A2_, c2_, A3_, c3_, he, l1_, g1_, l2_, g2_, l3_, g3_⟩ := k33_open (h W' hW); injection (Option.some.inj (show some (Value.slice A2 x.f2.length c2) = some (Value.slice A2_ x.f2.length c2_) from congrArg (fun l => l[2]?) he)) with ha_ _ _; rw [ha_]; exact g2_), l3, (fun W' hW => by obtain ⟨A1_, c1_, A2_, c2_, A3_, c3_, he, l1_, g1_, l2_, g2_, l3_, g3_⟩ := k33_open (h W' hW); injection (Option.some.inj (show some (Value.slice A3 x.f3.length c3) = some (Value.slice A3_ x.f3.length c3_) from congrArg (fun l => l[3]?) he)) with ha_ _ _; rw [ha_]; exact g3_)⟩
theorem k33_mkF (W : World) (ok : Nat → Prop) (x : S33) {A1 : Option Addr} {c1 : Nat} (l1 : x.f1.length ≤ c1) (g1 : Kd.F (Kd.slice 37 k37) W ok A1 x.f1.length x.f1) {A2 : Option Addr} {c2 : Nat} (l2 : x.f2.length ≤ c2) (g2 : Kd.F k37 W ok A2 x.f2.length x.f2) {A3 : Option Addr} {c3 : Nat} (l3 : x.f3.length ≤ c3) (g3 : Kd.F k88 W ok A3 x.f3.length x.f3) : Kd.FK k33 W ok x [.string x.f0, .slice A1 x.f1.length c1, .slice A2 x.f2.length c2, .slice A3 x.f3.length c3] := fun W2 hW => k33_mk W2 x l1 (g1 W2 hW) l2 (g2 W2 hW) l3 (g3 W2 hW)
def rd_T33 (xs : List S33) (i : Int) : S33 := xs.getD i.toNat z33
theorem at_T33 {w : World} {A : Option Addr} {n : Nat} {xs : List S33} (h : Kd.C k33 w A n xs) (i : Int) (h0 : 0 ≤ i) (h1 : i < n) : ∃ ad A1 c1 A2 c2 A3 c3, A = some ad ∧ w.cell? (ad.add (i.toNat * 4)) = some (.string (rd_T33 xs i).f0) ∧ w.cell? ⟨(ad.add (i.toNat * 4)).block, (ad.add (i.toNat * 4)).off + 1, none⟩ = some (.slice A1 (rd_T33 xs i).f1.length c1) ∧ w.cell? ⟨(ad.add (i.toNat * 4)).block, (ad.add (i.toNat * 4)).off + 2, none⟩ = some (.slice A2 (rd_T33 xs i).f2.length c2) ∧ w.cell? ⟨(ad.add (i.toNat * 4)).block, (ad.add (i.toNat * 4)).off + 3, none⟩ = some (.slice A3 (rd_T33 xs i).f3.length c3) ∧ (rd_T33 xs i).f1.length ≤ c1 ∧ (Kd.slice 37 k37).C w A1 (rd_T33 xs i).f1.length (rd_T33 xs i).f1 ∧ (rd_T33 xs i).f2.length ≤ c2 ∧ k37.C w A2 (rd_T33 xs i).f2.length (rd_T33 xs i).f2 ∧ (rd_T33 xs i).f3.length ≤ c3 ∧ k88.C w A3 (rd_T33 xs i).f3.length (rd_T33 xs i).f3 := by
  obtain ⟨ad, c, e, _, hK, hc0⟩ := Kd.C_get h z33 i h0 h1
  have hc : ∀ j u, c[j]? = some u → w.cell? (ad.add (i.toNat * 4 + j)) = some u := hc0
  obtain ⟨A1, c1, A2, c2, A3, c3, rfl, l1, g1, l2, g2, l3, g3⟩ := k33_open hK
  exact ⟨ad, A1, c1, A2, c2, A3, c3, e, hc 0 _ rfl, by rw [← add_field _ _ 1 (by omega)]; exact hc 1 _ rfl, by rw [← add_field _ _ 2 (by omega)]; exact hc 2 _ rfl, by rw [← add_field _ _ 3 (by omega)]; exact hc 3 _ rfl, l1, g1, l2, g2, l3, g3⟩

def rd_L37 (xs : List (List S33)) (i : Int) : (List S33) := xs.getD i.toNat ([] : List S33)
theorem at_L37 {w : World} {A : Option Addr} {n : Nat} {xs : List (List S33)} (h : Kd.C (Kd.slice 33 k33) w A n xs) (i : Int) (h0 : 0 ≤ i) (h1 : i < n) : ∃ ad A0 c0, A = some ad ∧ w.cell? (ad.add i.toNat) = some (.slice A0 (rd_L37 xs i).length c0) ∧ (rd_L37 xs i).length ≤ c0 ∧ k33.C w A0 (rd_L37 xs i).length (rd_L37 xs i) := by
  obtain ⟨ad, c, e, _, hK, hc0⟩ := Kd.C_get h ([] : List S33) i h0 h1
  have hc : ∀ j u, c[j]? = some u → w.cell? (ad.add (i.toNat * 1 + j)) = some u := hc0
  obtain ⟨A0, c0, rfl, l0, g0⟩ := hK
  exact ⟨ad, A0, c0, e, by have hq := hc 0 _ rfl; rwa [Nat.mul_one, Nat.add_zero] at hq, l0, g0⟩

/-! #### struct type 85 -/
structure S85 where
  f0 : ByteArray
  f1 : (List ByteArray)
  f2 : ByteArray
  f3 : Int
def z85 : S85 := ⟨(⟨#[]⟩ : ByteArray), ([] : List ByteArray), (⟨#[]⟩ : ByteArray), (0 : Int)⟩
def k85 : Kd S85 := Kd.iso (Kd.pair Kd.string (Kd.pair (Kd.slice 9 Kd.string) (Kd.pair Kd.string (Kd.int .i64)))) (fun x : S85 => (x.f0, x.f1, x.f2, x.f3))
theorem k85_heap : Kd.Heap k85 := Kd.heap_iso _ (Kd.heap_pair Kd.heap_string (Kd.heap_pair (Kd.heap_slice 9 Kd.heap_string) (Kd.heap_pair Kd.heap_string (Kd.heap_int .i64))))
theorem k85_open {w : World} {x : S85} {cs : List Value} (h : k85.K w x cs) : ∃ A1 c1, cs = [.string x.f0, .slice A1 x.f1.length c1, .string x.f2, .int .i64 x.f3] ∧ x.f1.length ≤ c1 ∧ Kd.string.C w A1 x.f1.length x.f1 := by
  obtain ⟨_, _, rfl, rfl, ⟨_, _, rfl, ⟨A1, c1, rfl, l1, g1⟩, ⟨_, _, rfl, rfl, rfl⟩⟩⟩ := h
  exact ⟨A1, c1, rfl, l1, g1⟩
theorem k85_openM {w : World} {base : Nat} {ok : Nat → Prop} {x : S85} {cs : List Value} (h : k85.M w base ok x cs) : ∃ v1, cs = [.string x.f0, v1, .string x.f2, .int .i64 x.f3] ∧ Kd.string.R 9 w base ok v1 x.f1 := by
  obtain ⟨_, _, rfl, rfl, ⟨_, _, rfl, ⟨v1, rfl, g1⟩, ⟨_, _, rfl, rfl, rfl⟩⟩⟩ := h
  exact ⟨v1, rfl, g1⟩
theorem k85_mk (w : World) (x : S85) {A1 : Option Addr} {c1 : Nat} (l1 : x.f1.length ≤ c1) (g1 : Kd.string.C w A1 x.f1.length x.f1) : k85.K w x [.string x.f0, .slice A1 x.f1.length c1, .string x.f2, .int .i64 x.f3] := ⟨[.string x.f0], [.slice A1 x.f1.length c1, .string x.f2, .int .i64 x.f3], rfl, rfl, ⟨[.slice A1 x.f1.length c1], [.string x.f2, .int .i64 x.f3], rfl, ⟨A1, c1, rfl, l1, g1⟩, ⟨[.string x.f2], [.int .i64 x.f3], rfl, rfl, rfl⟩⟩⟩
theorem k85_mkM (w : World) (base : Nat) (ok : Nat → Prop) (x : S85) {v1 : Value} (g1 : Kd.string.R 9 w base ok v1 x.f1) : k85.M w base ok x [.string x.f0, v1, .string x.f2, .int .i64 x.f3] := ⟨[.string x.f0], [v1, .string x.f2, .int .i64 x.f3], rfl, rfl, ⟨[v1], [.string x.f2, .int .i64 x.f3], rfl, ⟨v1, rfl, g1⟩, ⟨[.string x.f2], [.int .i64 x.f3], rfl, rfl, rfl⟩⟩⟩
theorem k85_openF {W : World} {ok : Nat → Prop} {x : S85} {cs : List Value} (h : Kd.FK k85 W ok x cs) : ∃ A1 c1, cs = [.string x.f0, .slice A1 x.f1.length c1, .string x.f2, .int .i64 x.f3] ∧ x.f1.length ≤ c1 ∧ Kd.F Kd.string W ok A1 x.f1.length x.f1 := by
  obtain ⟨A1, c1, rfl, l1, _⟩ := k85_open (Kd.FK_now h)
  exact ⟨A1, c1, rfl, l1, (fun W' hW => by obtain ⟨A1_, c1_, he, l1_, g1_⟩ := k85_open (h W' hW); injection (Option.some.inj (show some (Value.slice A1 x.f1.length c1) = some (Value.slice A1_ x.f1.length c1_) from congrArg (fun l => l[1]?) he)) with ha_ _ _; rw [ha_]; exact g1_)⟩
theorem k85_mkF (W : World) (ok : Nat → Prop) (x : S85) {A1 : Option Addr} {c1 : Nat} (l1 : x.f1.length ≤ c1) (g1 : Kd.F Kd.string W ok A1 x.f1.length x.f1) : Kd.FK k85 W ok x [.string x.f0, .slice A1 x.f1.length c1, .string x.f2, .int .i64 x.f3] := fun W2 hW => k85_mk W2 x l1 (g1 W2 hW)
def rd_T85 (xs : List S85) (i : Int) : S85 := xs.getD i.toNat z85
theorem at_T85 {w : World} {A : Option Addr} {n : Nat} {xs : List S85} (h : Kd.C k85 w A n xs) (i : Int) (h0 : 0 ≤ i) (h1 : i < n) : ∃ ad A1 c1, A = some ad ∧ w.cell? (ad.add (i.toNat * 4)) = some (.string (rd_T85 xs i).f0) ∧ w.cell? ⟨(ad.add (i.toNat * 4)).block, (ad.add (i.toNat * 4)).off + 1, none⟩ = some (.slice A1 (rd_T85 xs i).f1.length c1) ∧ w.cell? ⟨(ad.add (i.toNat * 4)).block, (ad.add (i.toNat * 4)).off + 2, none⟩ = some (.string (rd_T85 xs i).f2) ∧ w.cell? ⟨(ad.add (i.toNat * 4)).block, (ad.add (i.toNat * 4)).off + 3, none⟩ = some (.int .i64 (rd_T85 xs i).f3) ∧ (rd_T85 xs i).f1.length ≤ c1 ∧ Kd.string.C w A1 (rd_T85 xs i).f1.length (rd_T85 xs i).f1 := by
  obtain ⟨ad, c, e, _, hK, hc0⟩ := Kd.C_get h z85 i h0 h1
  have hc : ∀ j u, c[j]? = some u → w.cell? (ad.add (i.toNat * 4 + j)) = some u := hc0
  obtain ⟨A1, c1, rfl, l1, g1⟩ := k85_open hK
  exact ⟨ad, A1, c1, e, hc 0 _ rfl, by rw [← add_field _ _ 1 (by omega)]; exact hc 1 _ rfl, by rw [← add_field _ _ 2 (by omega)]; exact hc 2 _ rfl, by rw [← add_field _ _ 3 (by omega)]; exact hc 3 _ rfl, l1, g1⟩

def rd_L39 (xs : List (List S85)) (i : Int) : (List S85) := xs.getD i.toNat ([] : List S85)
theorem at_L39 {w : World} {A : Option Addr} {n : Nat} {xs : List (List S85)} (h : Kd.C (Kd.slice 85 k85) w A n xs) (i : Int) (h0 : 0 ≤ i) (h1 : i < n) : ∃ ad A0 c0, A = some ad ∧ w.cell? (ad.add i.toNat) = some (.slice A0 (rd_L39 xs i).length c0) ∧ (rd_L39 xs i).length ≤ c0 ∧ k85.C w A0 (rd_L39 xs i).length (rd_L39 xs i) := by
  obtain ⟨ad, c, e, _, hK, hc0⟩ := Kd.C_get h ([] : List S85) i h0 h1
  have hc : ∀ j u, c[j]? = some u → w.cell? (ad.add (i.toNat * 1 + j)) = some u := hc0
  obtain ⟨A0, c0, rfl, l0, g0⟩ := hK
  exact ⟨ad, A0, c0, e, by have hq := hc 0 _ rfl; rwa [Nat.mul_one, Nat.add_zero] at hq, l0, g0⟩

def rd_L41 (xs : List (List Int)) (i : Int) : (List Int) := xs.getD i.toNat ([] : List Int)
theorem at_L41 {w : World} {A : Option Addr} {n : Nat} {xs : List (List Int)} (h : Kd.C (Kd.slice 5 (Kd.int .u8)) w A n xs) (i : Int) (h0 : 0 ≤ i) (h1 : i < n) : ∃ ad A0 c0, A = some ad ∧ w.cell? (ad.add i.toNat) = some (.slice A0 (rd_L41 xs i).length c0) ∧ (rd_L41 xs i).length ≤ c0 ∧ (Kd.int .u8).C w A0 (rd_L41 xs i).length (rd_L41 xs i) := by
  obtain ⟨ad, c, e, _, hK, hc0⟩ := Kd.C_get h ([] : List Int) i h0 h1
  have hc : ∀ j u, c[j]? = some u → w.cell? (ad.add (i.toNat * 1 + j)) = some u := hc0
  obtain ⟨A0, c0, rfl, l0, g0⟩ := hK
  exact ⟨ad, A0, c0, e, by have hq := hc 0 _ rfl; rwa [Nat.mul_one, Nat.add_zero] at hq, l0, g0⟩

end Go.Proofs.Ytfbfopfhfeijdaa.Pr
