/- Several texts in one: Pr0, Opens, Kinds. -/
import Derived.Test.YtfbhdjflkaldgaaDoorProg
import Derived.Below
import Derived.Deep.Draws
import Derived.Deep.AppendLies
import Derived.Maps.AppendAt
import Derived.OwnWalk
import Derived.Laws.BytesArg
import Derived.Laws.MakeOwn
import Derived.Laws.OwnMore
import Derived.Deep.OwnRows
import Derived.Tactics
import Derived.Lib.ConvBytes
import Derived.Laws.Slices
import Derived.WalkKit
import Derived.KernelRfl
import Derived.RowKit3
import Derived.Deep.LoopGhost
import Derived.Deep.QuietTactic
import Derived.BigQuiet
import Derived.WideLaws
import Derived.Deep.DeepCutAuto
import Derived.Deep.CutBlock
import Derived.Deep.RegionHeld3
import Derived.Laws.Rows
import Derived.Lib.AppendStr
import Derived.ArgAppend
import Derived.Laws.IdiomCopy
import Derived.OrdersHeld
import Derived.Laws.BitsLemmas
import Derived.RowKit
import Derived.Test.YtfbhdjflkaldgaaDoorWWords
import Derived.Test.YtfbhdjflkaldgaaDoorWLast
import Derived.Test.YtfbhdjflkaldgaaDoorWTab
import Derived.Test.YtfbhdjflkaldgaaDoorWFour
import Derived.Test.YtfbhdjflkaldgaaDoorWQPut
import Derived.Test.YtfbhdjflkaldgaaDoorWApart
import Derived.Test.YtfbhdjflkaldgaaDoorWArr
import Derived.Test.YtfbhdjflkaldgaaDoorWZeros
import Derived.Test.YtfbhdjflkaldgaaDoorWFoot
import Derived.Test.YtfbhdjflkaldgaaDoorWKept
import Derived.Test.YtfbhdjflkaldgaaDoorWShare
import Derived.Test.YtfbhdjflkaldgaaDoorWN
import Derived.Test.YtfbhdjflkaldgaaDoorWFootNe
import Derived.Test.YtfbhdjflkaldgaaDoorWAt
import Derived.Test.YtfbhdjflkaldgaaDoorWEqStruct
import Derived.Test.YtfbhdjflkaldgaaDoorWRepsOne
import Derived.Test.YtfbhdjflkaldgaaDoorWInv
import Derived.Test.YtfbhdjflkaldgaaDoorWInvWords
import Derived.Test.YtfbhdjflkaldgaaDoorWGuard
import Derived.Test.YtfbhdjflkaldgaaDoorWNEv
import Derived.Test.YtfbhdjflkaldgaaDoorWMore
import Derived.Test.YtfbhdjflkaldgaaDoorRows
import Derived.ChangeArms
/- What a reading of an argument tells, type by type: the value's kind (Kd), its numbers' ranges and strings' sizes (good), and a bound on its weight (bulk). -/
namespace Go.Proofs.YtfbhdjflkaldgaaDoor.Pr
open Go.RowKit Go.Proofs.YtfbhdjflkaldgaaDoorW.PrintWords Go.Proofs.YtfbhdjflkaldgaaDoorW.PrintLast Go.Proofs.YtfbhdjflkaldgaaDoorW.PrintMore
attribute [local go_sem] max2_int min2_int max_two min_two max_three min_three max_four min_four
set_option linter.unusedVariables false
set_option linter.unusedSimpArgs false
def errW : Option Int → Value
  | none => .nilIface
  | some c => .iface 0 (.int .i64 c)
theorem errW_none : errW none = .nilIface := rfl
theorem errW_some (c : Int) : errW (some c) = .iface 0 (.int .i64 c) := rfl
theorem info3 : (Tryd.prog.info? 3).map (fun i => (i.zero, i.size, i.bytes)) = some (some (.int .i64 0), 1, 8) := by kernel_rfl
theorem info4 : (Tryd.prog.info? 4).map (fun i => (i.zero, i.size, i.bytes)) = some (some (.bool false), 1, 1) := by kernel_rfl
theorem info9 : (Tryd.prog.info? 9).map (fun i => (i.zero, i.size, i.bytes)) = some (some (.string ⟨#[]⟩), 1, 16) := by kernel_rfl
theorem info21 : (Tryd.prog.info? 21).map (fun i => (i.zero, i.size, i.bytes)) = some (some (.int .i32 0), 1, 4) := by kernel_rfl
theorem info31 : (Tryd.prog.info? 31).map (fun i => (i.zero, i.size, i.bytes)) = some (some (.slice none 0 0), 1, 24) := by kernel_rfl
theorem info57 : (Tryd.prog.info? 57).map (fun i => (i.zero, i.size, i.bytes)) = some (some (.agg #[(.string ⟨#[]⟩), (.slice none 0 0)]), 2, 40) := by kernel_rfl
theorem info80 : (Tryd.prog.info? 80).map (fun i => (i.zero, i.size, i.bytes)) = some (some (.agg #[(.int .i32 0), (.int .u32 0)]), 2, 8) := by kernel_rfl
theorem info82 : (Tryd.prog.info? 82).map (fun i => (i.zero, i.size, i.bytes)) = some (some (.agg #[(.int .u32 0), (.string ⟨#[]⟩), (.bool false), (.bool false)]), 4, 32) := by kernel_rfl
theorem info162 : (Tryd.prog.info? 162).map (fun i => (i.zero, i.size, i.bytes)) = some (some (.slice none 0 0), 1, 24) := by kernel_rfl
structure S80 where
  f0 : Int
  f1 : Int
def z80 : S80 := ⟨(0 : Int), (0 : Int)⟩
def k80 : Kd S80 := Kd.iso (Kd.pair (Kd.int .i32) (Kd.int .u32)) (fun x : S80 => (x.f0, x.f1))
theorem k80_open {w : World} {x : S80} {cs : List Value} (h : k80.K w x cs) : cs = [.int .i32 x.f0, .int .u32 x.f1] := by
  obtain ⟨_, _, rfl, rfl, rfl⟩ := h
  exact rfl
theorem k80_mk (w : World) (x : S80)  : k80.K w x [.int .i32 x.f0, .int .u32 x.f1] := ⟨[.int .i32 x.f0], [.int .u32 x.f1], rfl, rfl, rfl⟩
theorem k80_mkM (w : World) (base : Nat) (ok : Nat → Prop) (x : S80)  : k80.M w base ok x [.int .i32 x.f0, .int .u32 x.f1] := ⟨[.int .i32 x.f0], [.int .u32 x.f1], rfl, rfl, rfl⟩
def rd_T80 (xs : List S80) (i : Int) : S80 := xs.getD i.toNat z80
theorem at_T80 {w : World} {A : Option Addr} {n : Nat} {xs : List S80} (h : Kd.C k80 w A n xs) (i : Int) (h0 : 0 ≤ i) (h1 : i < n) : ∃ ad , A = some ad ∧ w.cell? (ad.add (i.toNat * 2)) = some (.int .i32 (rd_T80 xs i).f0) ∧ w.cell? ⟨(ad.add (i.toNat * 2)).block, (ad.add (i.toNat * 2)).off + 1, none⟩ = some (.int .u32 (rd_T80 xs i).f1) := by
  obtain ⟨ad, c, e, _, hK, hc0⟩ := Kd.C_get h z80 i h0 h1
  have hc : ∀ j u, c[j]? = some u → w.cell? (ad.add (i.toNat * 2 + j)) = some u := hc0
  obtain rfl := k80_open hK
  exact ⟨ad, e, hc 0 _ rfl, by rw [← add_field _ _ 1 (by omega)]; exact hc 1 _ rfl⟩
structure S82 where
  f0 : Int
  f1 : ByteArray
  f2 : Bool
  f3 : Bool
def z82 : S82 := ⟨(0 : Int), (⟨#[]⟩ : ByteArray), false, false⟩
def k82 : Kd S82 := Kd.iso (Kd.pair (Kd.int .u32) (Kd.pair Kd.string (Kd.pair Kd.bool Kd.bool))) (fun x : S82 => (x.f0, x.f1, x.f2, x.f3))
theorem k82_open {w : World} {x : S82} {cs : List Value} (h : k82.K w x cs) : cs = [.int .u32 x.f0, .string x.f1, .bool x.f2, .bool x.f3] := by
  obtain ⟨_, _, rfl, rfl, ⟨_, _, rfl, rfl, ⟨_, _, rfl, rfl, rfl⟩⟩⟩ := h
  exact rfl
theorem k82_openM {w : World} {base : Nat} {ok : Nat → Prop} {x : S82} {cs : List Value} (h : k82.M w base ok x cs) : cs = [.int .u32 x.f0, .string x.f1, .bool x.f2, .bool x.f3] := by
  obtain ⟨_, _, rfl, rfl, ⟨_, _, rfl, rfl, ⟨_, _, rfl, rfl, rfl⟩⟩⟩ := h
  exact rfl
theorem k82_mk (w : World) (x : S82)  : k82.K w x [.int .u32 x.f0, .string x.f1, .bool x.f2, .bool x.f3] := ⟨[.int .u32 x.f0], [.string x.f1, .bool x.f2, .bool x.f3], rfl, rfl, ⟨[.string x.f1], [.bool x.f2, .bool x.f3], rfl, rfl, ⟨[.bool x.f2], [.bool x.f3], rfl, rfl, rfl⟩⟩⟩
theorem k82_mkM (w : World) (base : Nat) (ok : Nat → Prop) (x : S82)  : k82.M w base ok x [.int .u32 x.f0, .string x.f1, .bool x.f2, .bool x.f3] := ⟨[.int .u32 x.f0], [.string x.f1, .bool x.f2, .bool x.f3], rfl, rfl, ⟨[.string x.f1], [.bool x.f2, .bool x.f3], rfl, rfl, ⟨[.bool x.f2], [.bool x.f3], rfl, rfl, rfl⟩⟩⟩
def rd_T82 (xs : List S82) (i : Int) : S82 := xs.getD i.toNat z82
theorem at_T82 {w : World} {A : Option Addr} {n : Nat} {xs : List S82} (h : Kd.C k82 w A n xs) (i : Int) (h0 : 0 ≤ i) (h1 : i < n) : ∃ ad , A = some ad ∧ w.cell? (ad.add (i.toNat * 4)) = some (.int .u32 (rd_T82 xs i).f0) ∧ w.cell? ⟨(ad.add (i.toNat * 4)).block, (ad.add (i.toNat * 4)).off + 1, none⟩ = some (.string (rd_T82 xs i).f1) ∧ w.cell? ⟨(ad.add (i.toNat * 4)).block, (ad.add (i.toNat * 4)).off + 2, none⟩ = some (.bool (rd_T82 xs i).f2) ∧ w.cell? ⟨(ad.add (i.toNat * 4)).block, (ad.add (i.toNat * 4)).off + 3, none⟩ = some (.bool (rd_T82 xs i).f3) := by
  obtain ⟨ad, c, e, _, hK, hc0⟩ := Kd.C_get h z82 i h0 h1
  have hc : ∀ j u, c[j]? = some u → w.cell? (ad.add (i.toNat * 4 + j)) = some u := hc0
  obtain rfl := k82_open hK
  exact ⟨ad, e, hc 0 _ rfl, by rw [← add_field _ _ 1 (by omega)]; exact hc 1 _ rfl, by rw [← add_field _ _ 2 (by omega)]; exact hc 2 _ rfl, by rw [← add_field _ _ 3 (by omega)]; exact hc 3 _ rfl⟩
structure S85 where
  f0 : Int
  f1 : ByteArray
  f2 : (List S82)
  f3 : (List S82)
  f4 : Bool
  f5 : Bool
def z85 : S85 := ⟨(0 : Int), (⟨#[]⟩ : ByteArray), ([] : List S82), ([] : List S82), false, false⟩
def k85 : Kd S85 := Kd.iso (Kd.pair (Kd.int .i32) (Kd.pair Kd.string (Kd.pair (Kd.slice 82 k82) (Kd.pair (Kd.slice 82 k82) (Kd.pair Kd.bool Kd.bool))))) (fun x : S85 => (x.f0, x.f1, x.f2, x.f3, x.f4, x.f5))
theorem k85_open {w : World} {x : S85} {cs : List Value} (h : k85.K w x cs) : ∃ A2 c2 A3 c3, cs = [.int .i32 x.f0, .string x.f1, .slice A2 x.f2.length c2, .slice A3 x.f3.length c3, .bool x.f4, .bool x.f5] ∧ x.f2.length ≤ c2 ∧ k82.C w A2 x.f2.length x.f2 ∧ x.f3.length ≤ c3 ∧ k82.C w A3 x.f3.length x.f3 := by
  obtain ⟨_, _, rfl, rfl, ⟨_, _, rfl, rfl, ⟨_, _, rfl, ⟨A2, c2, rfl, l2, g2⟩, ⟨_, _, rfl, ⟨A3, c3, rfl, l3, g3⟩, ⟨_, _, rfl, rfl, rfl⟩⟩⟩⟩⟩ := h
  exact ⟨A2, c2, A3, c3, rfl, l2, g2, l3, g3⟩
theorem k85_mk (w : World) (x : S85) {A2 : Option Addr} {c2 : Nat} (l2 : x.f2.length ≤ c2) (g2 : k82.C w A2 x.f2.length x.f2) {A3 : Option Addr} {c3 : Nat} (l3 : x.f3.length ≤ c3) (g3 : k82.C w A3 x.f3.length x.f3) : k85.K w x [.int .i32 x.f0, .string x.f1, .slice A2 x.f2.length c2, .slice A3 x.f3.length c3, .bool x.f4, .bool x.f5] := ⟨[.int .i32 x.f0], [.string x.f1, .slice A2 x.f2.length c2, .slice A3 x.f3.length c3, .bool x.f4, .bool x.f5], rfl, rfl, ⟨[.string x.f1], [.slice A2 x.f2.length c2, .slice A3 x.f3.length c3, .bool x.f4, .bool x.f5], rfl, rfl, ⟨[.slice A2 x.f2.length c2], [.slice A3 x.f3.length c3, .bool x.f4, .bool x.f5], rfl, ⟨A2, c2, rfl, l2, g2⟩, ⟨[.slice A3 x.f3.length c3], [.bool x.f4, .bool x.f5], rfl, ⟨A3, c3, rfl, l3, g3⟩, ⟨[.bool x.f4], [.bool x.f5], rfl, rfl, rfl⟩⟩⟩⟩⟩
def rd_T85 (xs : List S85) (i : Int) : S85 := xs.getD i.toNat z85
theorem at_T85 {w : World} {A : Option Addr} {n : Nat} {xs : List S85} (h : Kd.C k85 w A n xs) (i : Int) (h0 : 0 ≤ i) (h1 : i < n) : ∃ ad A2 c2 A3 c3, A = some ad ∧ w.cell? (ad.add (i.toNat * 6)) = some (.int .i32 (rd_T85 xs i).f0) ∧ w.cell? ⟨(ad.add (i.toNat * 6)).block, (ad.add (i.toNat * 6)).off + 1, none⟩ = some (.string (rd_T85 xs i).f1) ∧ w.cell? ⟨(ad.add (i.toNat * 6)).block, (ad.add (i.toNat * 6)).off + 2, none⟩ = some (.slice A2 (rd_T85 xs i).f2.length c2) ∧ w.cell? ⟨(ad.add (i.toNat * 6)).block, (ad.add (i.toNat * 6)).off + 3, none⟩ = some (.slice A3 (rd_T85 xs i).f3.length c3) ∧ w.cell? ⟨(ad.add (i.toNat * 6)).block, (ad.add (i.toNat * 6)).off + 4, none⟩ = some (.bool (rd_T85 xs i).f4) ∧ w.cell? ⟨(ad.add (i.toNat * 6)).block, (ad.add (i.toNat * 6)).off + 5, none⟩ = some (.bool (rd_T85 xs i).f5) ∧ (rd_T85 xs i).f2.length ≤ c2 ∧ k82.C w A2 (rd_T85 xs i).f2.length (rd_T85 xs i).f2 ∧ (rd_T85 xs i).f3.length ≤ c3 ∧ k82.C w A3 (rd_T85 xs i).f3.length (rd_T85 xs i).f3 := by
  obtain ⟨ad, c, e, _, hK, hc0⟩ := Kd.C_get h z85 i h0 h1
  have hc : ∀ j u, c[j]? = some u → w.cell? (ad.add (i.toNat * 6 + j)) = some u := hc0
  obtain ⟨A2, c2, A3, c3, rfl, l2, g2, l3, g3⟩ := k85_open hK
  exact ⟨ad, A2, c2, A3, c3, e, hc 0 _ rfl, by rw [← add_field _ _ 1 (by omega)]; exact hc 1 _ rfl, by rw [← add_field _ _ 2 (by omega)]; exact hc 2 _ rfl, by rw [← add_field _ _ 3 (by omega)]; exact hc 3 _ rfl, by rw [← add_field _ _ 4 (by omega)]; exact hc 4 _ rfl, by rw [← add_field _ _ 5 (by omega)]; exact hc 5 _ rfl, l2, g2, l3, g3⟩
def rd_L10 (xs : List (List ByteArray)) (i : Int) : (List ByteArray) := xs.getD i.toNat ([] : List ByteArray)
theorem at_L10 {w : World} {A : Option Addr} {n : Nat} {xs : List (List ByteArray)} (h : Kd.C (Kd.slice 9 Kd.string) w A n xs) (i : Int) (h0 : 0 ≤ i) (h1 : i < n) : ∃ ad A0 c0, A = some ad ∧ w.cell? (ad.add i.toNat) = some (.slice A0 (rd_L10 xs i).length c0) ∧ (rd_L10 xs i).length ≤ c0 ∧ Kd.string.C w A0 (rd_L10 xs i).length (rd_L10 xs i) := by
  obtain ⟨ad, c, e, _, hK, hc0⟩ := Kd.C_get h ([] : List ByteArray) i h0 h1
  have hc : ∀ j u, c[j]? = some u → w.cell? (ad.add (i.toNat * 1 + j)) = some u := hc0
  obtain ⟨A0, c0, rfl, l0, g0⟩ := hK
  exact ⟨ad, A0, c0, e, by have hq := hc 0 _ rfl; rwa [Nat.mul_one, Nat.add_zero] at hq, l0, g0⟩
structure S196 where
  f0 : ByteArray
  f1 : (List ByteArray)
def k196 : Kd S196 := Kd.iso (Kd.pair Kd.string (Kd.slice 9 Kd.string)) (fun x : S196 => (x.f0, x.f1))
structure S199 where
  f0 : ByteArray
  f1 : ByteArray
def k199 : Kd S199 := Kd.iso (Kd.pair Kd.string Kd.string) (fun x : S199 => (x.f0, x.f1))
structure S204 where
  f0 : (List S199)
  f1 : ByteArray
  f2 : ByteArray
def k204 : Kd S204 := Kd.iso (Kd.pair (Kd.slice 199 k199) (Kd.pair Kd.string Kd.string)) (fun x : S204 => (x.f0, x.f1, x.f2))
structure S180 where
  f0 : ByteArray
  f1 : (List S196)
  f2 : (List (List S204))
def k180 : Kd S180 := Kd.iso (Kd.pair Kd.string (Kd.pair (Kd.slice 196 k196) (Kd.slice 197 (Kd.slice 204 k204)))) (fun x : S180 => (x.f0, x.f1, x.f2))
structure S183 where
  f0 : ByteArray
  f1 : ByteArray
  f2 : ByteArray
  f3 : ByteArray
  f4 : (List S199)
def k183 : Kd S183 := Kd.iso (Kd.pair Kd.string (Kd.pair Kd.string (Kd.pair Kd.string (Kd.pair Kd.string (Kd.slice 199 k199))))) (fun x : S183 => (x.f0, x.f1, x.f2, x.f3, x.f4))
structure S186 where
  f0 : Int
  f1 : ByteArray
def k186 : Kd S186 := Kd.iso (Kd.pair (Kd.int .i64) Kd.string) (fun x : S186 => (x.f0, x.f1))
structure S188 where
  f0 : ByteArray
  f1 : Int
def k188 : Kd S188 := Kd.iso (Kd.pair Kd.string (Kd.int .i64)) (fun x : S188 => (x.f0, x.f1))
structure S190 where
  f0 : ByteArray
  f1 : (List S196)
  f2 : (List ByteArray)
def k190 : Kd S190 := Kd.iso (Kd.pair Kd.string (Kd.pair (Kd.slice 196 k196) (Kd.slice 9 Kd.string))) (fun x : S190 => (x.f0, x.f1, x.f2))
structure S206 where
  f0 : Int
  f1 : ByteArray
  f2 : Int
  f3 : ByteArray
  f4 : (List S199)
def k206 : Kd S206 := Kd.iso (Kd.pair (Kd.int .i64) (Kd.pair Kd.string (Kd.pair (Kd.int .i64) (Kd.pair Kd.string (Kd.slice 199 k199))))) (fun x : S206 => (x.f0, x.f1, x.f2, x.f3, x.f4))
structure S202 where
  f0 : ByteArray
  f1 : (List S206)
def k202 : Kd S202 := Kd.iso (Kd.pair Kd.string (Kd.slice 206 k206)) (fun x : S202 => (x.f0, x.f1))
structure S194 where
  f0 : ByteArray
  f1 : (List (List S199))
  f2 : (List S199)
  f3 : (List S202)
def k194 : Kd S194 := Kd.iso (Kd.pair Kd.string (Kd.pair (Kd.slice 181 (Kd.slice 199 k199)) (Kd.pair (Kd.slice 199 k199) (Kd.slice 202 k202)))) (fun x : S194 => (x.f0, x.f1, x.f2, x.f3))
structure S57 where
  f0 : ByteArray
  f1 : (List ByteArray)
def z57 : S57 := ⟨(⟨#[]⟩ : ByteArray), ([] : List ByteArray)⟩
def k57 : Kd S57 := Kd.iso (Kd.pair Kd.string (Kd.slice 9 Kd.string)) (fun x : S57 => (x.f0, x.f1))
theorem k57_open {w : World} {x : S57} {cs : List Value} (h : k57.K w x cs) : ∃ A1 c1, cs = [.string x.f0, .slice A1 x.f1.length c1] ∧ x.f1.length ≤ c1 ∧ Kd.string.C w A1 x.f1.length x.f1 := by
  obtain ⟨_, _, rfl, rfl, ⟨A1, c1, rfl, l1, g1⟩⟩ := h
  exact ⟨A1, c1, rfl, l1, g1⟩
theorem k57_openM {w : World} {base : Nat} {ok : Nat → Prop} {x : S57} {cs : List Value} (h : k57.M w base ok x cs) : ∃ v1, cs = [.string x.f0, v1] ∧ Kd.string.R 9 w base ok v1 x.f1 := by
  obtain ⟨_, _, rfl, rfl, ⟨v1, rfl, g1⟩⟩ := h
  exact ⟨v1, rfl, g1⟩
theorem k57_mkM (w : World) (base : Nat) (ok : Nat → Prop) (x : S57) {v1 : Value} (g1 : Kd.string.R 9 w base ok v1 x.f1) : k57.M w base ok x [.string x.f0, v1] := ⟨[.string x.f0], [v1], rfl, rfl, ⟨v1, rfl, g1⟩⟩
def rd_T57 (xs : List S57) (i : Int) : S57 := xs.getD i.toNat z57
theorem at_T57 {w : World} {A : Option Addr} {n : Nat} {xs : List S57} (h : Kd.C k57 w A n xs) (i : Int) (h0 : 0 ≤ i) (h1 : i < n) : ∃ ad A1 c1, A = some ad ∧ w.cell? (ad.add (i.toNat * 2)) = some (.string (rd_T57 xs i).f0) ∧ w.cell? ⟨(ad.add (i.toNat * 2)).block, (ad.add (i.toNat * 2)).off + 1, none⟩ = some (.slice A1 (rd_T57 xs i).f1.length c1) ∧ (rd_T57 xs i).f1.length ≤ c1 ∧ Kd.string.C w A1 (rd_T57 xs i).f1.length (rd_T57 xs i).f1 := by
  obtain ⟨ad, c, e, _, hK, hc0⟩ := Kd.C_get h z57 i h0 h1
  have hc : ∀ j u, c[j]? = some u → w.cell? (ad.add (i.toNat * 2 + j)) = some u := hc0
  obtain ⟨A1, c1, rfl, l1, g1⟩ := k57_open hK
  exact ⟨ad, A1, c1, e, hc 0 _ rfl, by rw [← add_field _ _ 1 (by omega)]; exact hc 1 _ rfl, l1, g1⟩
end Go.Proofs.YtfbhdjflkaldgaaDoor.Pr

namespace Go.Proofs.YtfbhdjflkaldgaaDoor.Opn
open Go.RowKit Go.Proofs.YtfbhdjflkaldgaaDoorW.PrintWords Go.Proofs.YtfbhdjflkaldgaaDoorW.PrintLast
set_option linter.unusedVariables false
structure Ms (α : Type) where
  good : α → Prop
  bulk : α → Nat
def Ms.int (k : IntKind) : Ms Int := ⟨fun x => (Lit.int k x).wf = true, fun _ => 1⟩
def Ms.bool : Ms Bool := ⟨fun _ => True, fun _ => 1⟩
def Ms.string : Ms ByteArray := ⟨fun s => s.size ≤ maxLen, fun s => s.size + 1⟩
def Ms.slice {α : Type} (m : Ms α) : Ms (List α) := ⟨fun xs => xs.length ≤ maxLen ∧ ∀ x ∈ xs, m.good x, fun xs => (xs.map m.bulk).sum + 1⟩
def Ms.pair {α β : Type} (a : Ms α) (b : Ms β) : Ms (α × β) := ⟨fun x => a.good x.1 ∧ b.good x.2, fun x => a.bulk x.1 + b.bulk x.2⟩
def Ms.iso {α β : Type} (m : Ms α) (f : β → α) : Ms β := ⟨fun x => m.good (f x), fun x => m.bulk (f x)⟩
structure Opens (P : Program) (t : TypeId) {α : Type} (d : Kd α) (m : Ms α) : Prop where
  go : ∀ {H : Type} {enc : TypeId × Value → H} {w : World} {base : Nat} {spare : Nat → Bool} {held : Bool} {fuel : Nat} {cs : List Value} {x : DataW H × List MemPlace},
    DataW.trod enc P w base spare held fuel t cs = some x → ∃ a : α, d.K w a cs ∧ m.good a ∧ m.bulk a ≤ Rows.uptoBulk x.1
  sz : P.cellsOf t = d.sz
  pos : 0 < d.sz
structure OpensF (P : Program) (fs : List Field) (off : Nat) {α : Type} (d : Kd α) (m : Ms α) : Prop where
  go : ∀ {H : Type} {enc : TypeId × Value → H} {w : World} {base : Nat} {spare : Nat → Bool} {held : Bool} {fuel : Nat} {cs : List Value} {xs : List (DataW H × List MemPlace)},
    cs.length = off + d.sz → (∀ (i : Nat) (f : Field), fs[i]? = some f → DataW.trod enc P w base spare held fuel f.type ((cs.drop f.offset).take (P.cellsOf f.type)) = xs[i]?) → xs.length = fs.length →
    ∃ a : α, d.K w a (cs.drop off) ∧ m.good a ∧ m.bulk a ≤ Rows.uptoBulkAll (xs.map (·.1))
section
variable {P : Program} {t : TypeId}
theorem Opens.int {k : IntKind} (hu : P.underlying t = some (.int k)) (hc : P.cellsOf t = 1) : Opens P t (Kd.int k) (Ms.int k) :=
  ⟨fun h => by
    obtain ⟨n, rfl, rfl, hw⟩ := DataW.trod_int hu h
    exact ⟨n, rfl, hw, by simp [Ms.int, Rows.uptoBulk]⟩, hc, Nat.one_pos⟩
theorem Opens.bool (hu : P.underlying t = some .bool) (hc : P.cellsOf t = 1) : Opens P t Kd.bool Ms.bool :=
  ⟨fun h => by
    obtain ⟨b, rfl, rfl⟩ := DataW.trod_bool hu h
    exact ⟨b, rfl, trivial, by simp [Ms.bool, Rows.uptoBulk]⟩, hc, Nat.one_pos⟩
theorem Opens.string (hu : P.underlying t = some .string) (hc : P.cellsOf t = 1) : Opens P t Kd.string Ms.string :=
  ⟨fun h => by
    obtain ⟨s, rfl, rfl, hs⟩ := DataW.trod_string hu h
    exact ⟨s, rfl, hs, by simp only [Ms.string, Rows.uptoBulk, data_length]; exact Nat.le_refl _⟩, hc, Nat.one_pos⟩
theorem rows_read {e : TypeId} {α : Type} {d : Kd α} {m : Ms α} (ho : Opens P e d m) {H : Type} {enc : TypeId × Value → H} {w : World} {base : Nat} {spare : Nat → Bool} {held : Bool} {fuel : Nat} (a : Addr) :
    ∀ (es : List (DataW H × List MemPlace)) (i0 : Nat), (∀ i, i < es.length → (w.cells? base (a.add ((i0 + i) * P.cellsOf e)) (P.cellsOf e)).bind (DataW.trod enc P w base spare held fuel e) = es[i]?) →
      ∃ xs : List α, xs.length = es.length ∧ (∀ x ∈ xs, m.good x) ∧ (xs.map m.bulk).sum ≤ Rows.uptoBulkAll (es.map (·.1)) ∧
        ∀ j p, xs[j]? = some p → ∃ c, c.length = d.sz ∧ d.K w p c ∧ ∀ i u, c[i]? = some u → w.cell? (a.add ((i0 + j) * d.sz + i)) = some u
  | [], i0, _ => ⟨[], rfl, by simp, by simp [Rows.uptoBulkAll], by simp⟩
  | y :: es, i0, h => by
    obtain ⟨xs, h1, h2, h3, h4⟩ := rows_read ho a es (i0 + 1) (fun i hi => by
      have := h (i + 1) (by simpa using hi)
      simpa [Nat.add_assoc, Nat.add_comm 1 i] using this)
    have h0 := h 0 (by simp)
    simp only [Nat.add_zero, List.getElem?_cons_zero] at h0
    obtain ⟨cs, hc, ht⟩ := Option.bind_eq_some_iff.1 h0
    obtain ⟨p, hK, hg, hb⟩ := ho.go ht
    refine ⟨p :: xs, by simp [h1], ?_, ?_, ?_⟩
    · intro x hx
      rcases List.mem_cons.1 hx with rfl | hx
      · exact hg
      · exact h2 x hx
    · simp only [List.map_cons, List.sum_cons, Rows.uptoBulkAll]; omega
    · intro j q hj
      cases j with
      | zero =>
        simp only [List.getElem?_cons_zero, Option.some.injEq] at hj
        subst hj
        refine ⟨cs, d.K_len hK, hK, fun i u hu => ?_⟩
        unfold World.cells? at hc
        split at hc
        · have hi : i < cs.length := (List.getElem?_eq_some_iff.1 hu).1
          rw [d.K_len hK] at hi
          have hg := mapM_some_get hc i i (by rw [ho.sz]; simp [hi])
          rw [hu] at hg
          have ha : (a.add (i0 * P.cellsOf e)).add i = a.add ((i0 + 0) * d.sz + i) := by
            rw [ho.sz, Nat.add_zero]
            unfold Addr.add
            by_cases z1 : i0 * d.sz = 0 <;> by_cases z2 : i = 0 <;> simp [z1, z2, Nat.add_assoc]
          rwa [ha] at hg
        · cases hc
      | succ j =>
        simp only [List.getElem?_cons_succ] at hj
        obtain ⟨c, k1, k2, k3⟩ := h4 j q hj
        refine ⟨c, k1, k2, fun i u hu => ?_⟩
        have := k3 i u hu
        rwa [show i0 + 1 + j = i0 + (j + 1) by omega] at this
theorem Opens.slice {e : TypeId} {α : Type} {d : Kd α} {m : Ms α} (ho : Opens P e d m) (hu : P.underlying t = some (.slice e)) (hc : P.cellsOf t = 1) : Opens P t (Kd.slice e d) (Ms.slice m) :=
  ⟨fun h => by
    rcases DataW.trod_slice hu h with ⟨rfl, rfl⟩ | ⟨a, len, cap, elems, rest, n, rfl, rfl, rfl, hb, hl, hm, hn, he, _⟩
    · exact ⟨[], ⟨none, 0, rfl, Nat.le_refl _, rfl, by simp, fun h => absurd h (by simp)⟩, ⟨by simp, by simp⟩, by simp [Ms.slice, Rows.uptoBulk]⟩
    · obtain ⟨xs, h1, h2, h3, h4⟩ := rows_read ho a elems 0 (fun i hi => by rw [Nat.zero_add]; exact he i (by omega))
      have hx : xs.length = len := by omega
      refine ⟨xs, ⟨some a, cap, by rw [hx], by omega, rfl, by unfold maxLen at hm; omega, fun hp => ⟨a, rfl, fun j p hj => ?_⟩⟩, ⟨by omega, h2⟩, ?_⟩
      · obtain ⟨c, k1, k2, k3⟩ := h4 j p hj
        exact ⟨c, k1, k2, fun i u hu => by have := k3 i u hu; rwa [Nat.zero_add] at this⟩
      · simp only [Ms.slice, Rows.uptoBulk]; omega, hc, Nat.one_pos⟩
theorem OpensF.last {f : Field} {off : Nat} {α : Type} {d : Kd α} {m : Ms α} (ho : Opens P f.type d m) (hf : f.offset = off) : OpensF P [f] off d m := by
  refine ⟨?_⟩
  intro H enc w base spare held fuel cs xs hl h hn
  have h0 := h 0 f rfl
  obtain ⟨y, rfl⟩ : ∃ y, xs = [y] := by
    match xs, hn with
    | [y], _ => exact ⟨y, rfl⟩
  rw [hf, ho.sz, List.take_of_length_le (by rw [List.length_drop]; omega)] at h0
  obtain ⟨a, h1, h2, h3⟩ := ho.go h0
  exact ⟨a, h1, h2, by simp only [List.map_cons, List.map_nil, Rows.uptoBulkAll]; omega⟩
theorem OpensF.cons {f : Field} {fs : List Field} {off : Nat} {α β : Type} {d : Kd α} {d' : Kd β} {m : Ms α} {m' : Ms β} (ho : Opens P f.type d m) (hf : f.offset = off) (hr : OpensF P fs (off + d.sz) d' m') : OpensF P (f :: fs) off (Kd.pair d d') (Ms.pair m m') := by
  refine ⟨?_⟩
  intro H enc w base spare held fuel cs xs hl h hn
  have hl' : cs.length = off + d.sz + d'.sz := by rw [hl]; show off + (d.sz + d'.sz) = _; omega
  obtain ⟨y, ys, rfl⟩ : ∃ y ys, xs = y :: ys := by
    match xs, hn with
    | y :: ys, _ => exact ⟨y, ys, rfl⟩
  have h0 := h 0 f rfl
  simp only [List.getElem?_cons_zero] at h0
  rw [hf, ho.sz] at h0
  obtain ⟨a, h1, h2, h3⟩ := ho.go h0
  obtain ⟨b, k1, k2, k3⟩ := hr.go (xs := ys) hl' (fun i g hg => by have := h (i + 1) g (by simpa using hg); simpa using this) (by simpa using hn)
  refine ⟨(a, b), ⟨(cs.drop off).take d.sz, cs.drop (off + d.sz), ?_, h1, k1⟩, ⟨h2, k2⟩, ?_⟩
  · rw [← List.drop_drop, List.take_append_drop]
  · simp only [Ms.pair, List.map_cons, Rows.uptoBulkAll]; omega
theorem Opens.struct {fs : List Field} {α β : Type} {d : Kd α} {m : Ms α} (hu : P.underlying t = some (.struct fs.toArray)) (hc : P.cellsOf t = d.sz) (hp : 0 < d.sz) (ho : OpensF P fs 0 d m) (f : β → α) (g : α → β) (hg : ∀ a, f (g a) = a) : Opens P t (Kd.iso d f) (Ms.iso m f) :=
  ⟨fun h => by
    obtain ⟨xs, n, rfl, rfl, hl, hn, hx⟩ := DataW.trod_struct hu h
    obtain ⟨a, h1, h2, h3⟩ := ho.go (xs := xs) (by rw [hl, hc, Nat.zero_add]) (fun i f hf => hx i f (by simpa using hf)) (by simpa using hn)
    refine ⟨g a, ?_, ?_, ?_⟩
    · show d.K _ (f (g a)) _
      rw [hg]; simpa using h1
    · show m.good (f (g a)); rw [hg]; exact h2
    · show m.bulk (f (g a)) ≤ _; rw [hg]; simp only [Rows.uptoBulk]; omega, hc, hp⟩
theorem Opens.tuple {fs : List Field} {α : Type} {d : Kd α} {m : Ms α} (hu : P.underlying t = some (.struct fs.toArray)) (hc : P.cellsOf t = d.sz) (hp : 0 < d.sz) (ho : OpensF P fs 0 d m) : Opens P t d m :=
  ⟨fun h => (Opens.struct hu hc hp ho (fun x => x) (fun x => x) (fun _ => rfl)).go h, hc, hp⟩
theorem agg_of {w : World} {r : Reach} {base : Nat} {v : Value} {fs : Array Field} (hu : P.underlying t = some (.struct fs)) (h : Value.okWide P w r base t v) : ∃ cs, v = .agg cs := by
  unfold Value.okWide at h
  rw [hu] at h
  obtain ⟨cs, hv, _⟩ := h
  exact ⟨cs, hv⟩
theorem bound {H : Type} {l : List (DataW H)} (hk : Rows.uptoSmall H l = true) : Rows.uptoBulkAll l ≤ 1048576 := by
  simpa [Rows.uptoSmall] using hk
end
end Go.Proofs.YtfbhdjflkaldgaaDoor.Opn

namespace Go.Proofs.YtfbhdjflkaldgaaDoor.Opn
open Go.RowKit Go.Proofs.YtfbhdjflkaldgaaDoor.Pr Go.Proofs.YtfbhdjflkaldgaaDoorW.PrintWords Go.Proofs.YtfbhdjflkaldgaaDoorW.PrintLast
theorem opens9 : Opens Tryd.prog 9 Kd.string Ms.string := Opens.string Tryd.underlying9 (by kernel_rfl)
def ms199 : Ms S199 := Ms.iso (Ms.pair Ms.string Ms.string) (fun x : S199 => (x.f0, x.f1))
theorem opens199 : Opens Tryd.prog 199 k199 ms199 := Opens.struct Tryd.underlying199 (by kernel_rfl) (by decide) (OpensF.cons opens9 rfl (OpensF.last opens9 rfl)) _ (fun a => ⟨a.1, a.2⟩) (fun a => rfl)
theorem opens181 : Opens Tryd.prog 181 (Kd.slice 199 k199) (Ms.slice ms199) := Opens.slice opens199 Tryd.underlying181 (by kernel_rfl)
theorem opens3 : Opens Tryd.prog 3 (Kd.int .i64) (Ms.int .i64) := Opens.int Tryd.underlying3 (by kernel_rfl)
def ms206 : Ms S206 := Ms.iso (Ms.pair (Ms.int .i64) (Ms.pair Ms.string (Ms.pair (Ms.int .i64) (Ms.pair Ms.string (Ms.slice ms199))))) (fun x : S206 => (x.f0, x.f1, x.f2, x.f3, x.f4))
theorem opens206 : Opens Tryd.prog 206 k206 ms206 := Opens.struct Tryd.underlying206 (by kernel_rfl) (by decide) (OpensF.cons opens3 rfl (OpensF.cons opens9 rfl (OpensF.cons opens3 rfl (OpensF.cons opens9 rfl (OpensF.last opens181 rfl))))) _ (fun a => ⟨a.1, a.2.1, a.2.2.1, a.2.2.2.1, a.2.2.2.2⟩) (fun a => rfl)
theorem opens200 : Opens Tryd.prog 200 (Kd.slice 206 k206) (Ms.slice ms206) := Opens.slice opens206 Tryd.underlying200 (by kernel_rfl)
def ms202 : Ms S202 := Ms.iso (Ms.pair Ms.string (Ms.slice ms206)) (fun x : S202 => (x.f0, x.f1))
theorem opens202 : Opens Tryd.prog 202 k202 ms202 := Opens.struct Tryd.underlying202 (by kernel_rfl) (by decide) (OpensF.cons opens9 rfl (OpensF.last opens200 rfl)) _ (fun a => ⟨a.1, a.2⟩) (fun a => rfl)
theorem opens192 : Opens Tryd.prog 192 (Kd.slice 202 k202) (Ms.slice ms202) := Opens.slice opens202 Tryd.underlying192 (by kernel_rfl)
theorem opens191 : Opens Tryd.prog 191 (Kd.slice 181 (Kd.slice 199 k199)) (Ms.slice (Ms.slice ms199)) := Opens.slice opens181 Tryd.underlying191 (by kernel_rfl)
def ms194 : Ms S194 := Ms.iso (Ms.pair Ms.string (Ms.pair (Ms.slice (Ms.slice ms199)) (Ms.pair (Ms.slice ms199) (Ms.slice ms202)))) (fun x : S194 => (x.f0, x.f1, x.f2, x.f3))
theorem opens194 : Opens Tryd.prog 194 k194 ms194 := Opens.struct Tryd.underlying194 (by kernel_rfl) (by decide) (OpensF.cons opens9 rfl (OpensF.cons opens191 rfl (OpensF.cons opens181 rfl (OpensF.last opens192 rfl)))) _ (fun a => ⟨a.1, a.2.1, a.2.2.1, a.2.2.2⟩) (fun a => rfl)
theorem opens39 : Opens Tryd.prog 39 (Kd.slice 194 k194) (Ms.slice ms194) := Opens.slice opens194 Tryd.underlying39 (by kernel_rfl)
theorem opens31 : Opens Tryd.prog 31 (Kd.slice 9 Kd.string) (Ms.slice Ms.string) := Opens.slice opens9 Tryd.underlying31 (by kernel_rfl)
def ms196 : Ms S196 := Ms.iso (Ms.pair Ms.string (Ms.slice Ms.string)) (fun x : S196 => (x.f0, x.f1))
theorem opens196 : Opens Tryd.prog 196 k196 ms196 := Opens.struct Tryd.underlying196 (by kernel_rfl) (by decide) (OpensF.cons opens9 rfl (OpensF.last opens31 rfl)) _ (fun a => ⟨a.1, a.2⟩) (fun a => rfl)
theorem opens177 : Opens Tryd.prog 177 (Kd.slice 196 k196) (Ms.slice ms196) := Opens.slice opens196 Tryd.underlying177 (by kernel_rfl)
def ms190 : Ms S190 := Ms.iso (Ms.pair Ms.string (Ms.pair (Ms.slice ms196) (Ms.slice Ms.string))) (fun x : S190 => (x.f0, x.f1, x.f2))
theorem opens190 : Opens Tryd.prog 190 k190 ms190 := Opens.struct Tryd.underlying190 (by kernel_rfl) (by decide) (OpensF.cons opens9 rfl (OpensF.cons opens177 rfl (OpensF.last opens31 rfl))) _ (fun a => ⟨a.1, a.2.1, a.2.2⟩) (fun a => rfl)
theorem opens38 : Opens Tryd.prog 38 (Kd.slice 190 k190) (Ms.slice ms190) := Opens.slice opens190 Tryd.underlying38 (by kernel_rfl)
def ms188 : Ms S188 := Ms.iso (Ms.pair Ms.string (Ms.int .i64)) (fun x : S188 => (x.f0, x.f1))
theorem opens188 : Opens Tryd.prog 188 k188 ms188 := Opens.struct Tryd.underlying188 (by kernel_rfl) (by decide) (OpensF.cons opens9 rfl (OpensF.last opens3 rfl)) _ (fun a => ⟨a.1, a.2⟩) (fun a => rfl)
theorem opens37 : Opens Tryd.prog 37 (Kd.slice 188 k188) (Ms.slice ms188) := Opens.slice opens188 Tryd.underlying37 (by kernel_rfl)
theorem opens4 : Opens Tryd.prog 4 Kd.bool Ms.bool := Opens.bool Tryd.underlying4 (by kernel_rfl)
def ms186 : Ms S186 := Ms.iso (Ms.pair (Ms.int .i64) Ms.string) (fun x : S186 => (x.f0, x.f1))
theorem opens186 : Opens Tryd.prog 186 k186 ms186 := Opens.struct Tryd.underlying186 (by kernel_rfl) (by decide) (OpensF.cons opens3 rfl (OpensF.last opens9 rfl)) _ (fun a => ⟨a.1, a.2⟩) (fun a => rfl)
theorem opens34 : Opens Tryd.prog 34 (Kd.slice 186 k186) (Ms.slice ms186) := Opens.slice opens186 Tryd.underlying34 (by kernel_rfl)
theorem opens36t : Opens Tryd.prog 36 (Kd.pair (Kd.int .i64) (Kd.pair (Kd.int .i64) (Kd.pair (Kd.slice 186 k186) (Kd.pair (Kd.slice 186 k186) (Kd.pair (Kd.slice 9 Kd.string) (Kd.pair (Kd.slice 9 Kd.string) (Kd.pair (Kd.slice 9 Kd.string) Kd.bool))))))) (Ms.pair (Ms.int .i64) (Ms.pair (Ms.int .i64) (Ms.pair (Ms.slice ms186) (Ms.pair (Ms.slice ms186) (Ms.pair (Ms.slice Ms.string) (Ms.pair (Ms.slice Ms.string) (Ms.pair (Ms.slice Ms.string) Ms.bool))))))) := Opens.tuple Tryd.underlying36 (by kernel_rfl) (by decide) (OpensF.cons opens3 rfl (OpensF.cons opens3 rfl (OpensF.cons opens34 rfl (OpensF.cons opens34 rfl (OpensF.cons opens31 rfl (OpensF.cons opens31 rfl (OpensF.cons opens31 rfl (OpensF.last opens4 rfl))))))))
theorem opens33t : Opens Tryd.prog 33 (Kd.pair (Kd.int .i64) (Kd.pair (Kd.slice 9 Kd.string) (Kd.pair (Kd.slice 9 Kd.string) (Kd.pair Kd.bool (Kd.pair Kd.string (Kd.pair (Kd.int .i64) (Kd.pair Kd.string Kd.bool))))))) (Ms.pair (Ms.int .i64) (Ms.pair (Ms.slice Ms.string) (Ms.pair (Ms.slice Ms.string) (Ms.pair Ms.bool (Ms.pair Ms.string (Ms.pair (Ms.int .i64) (Ms.pair Ms.string Ms.bool))))))) := Opens.tuple Tryd.underlying33 (by kernel_rfl) (by decide) (OpensF.cons opens3 rfl (OpensF.cons opens31 rfl (OpensF.cons opens31 rfl (OpensF.cons opens4 rfl (OpensF.cons opens9 rfl (OpensF.cons opens3 rfl (OpensF.cons opens9 rfl (OpensF.last opens4 rfl))))))))
theorem opens78 : Opens Tryd.prog 78 (Kd.int .u32) (Ms.int .u32) := Opens.int Tryd.underlying78 (by kernel_rfl)
def ms82 : Ms S82 := Ms.iso (Ms.pair (Ms.int .u32) (Ms.pair Ms.string (Ms.pair Ms.bool Ms.bool))) (fun x : S82 => (x.f0, x.f1, x.f2, x.f3))
theorem opens82 : Opens Tryd.prog 82 k82 ms82 := Opens.struct Tryd.underlying82 (by kernel_rfl) (by decide) (OpensF.cons opens78 rfl (OpensF.cons opens9 rfl (OpensF.cons opens4 rfl (OpensF.last opens4 rfl)))) _ (fun a => ⟨a.1, a.2.1, a.2.2.1, a.2.2.2⟩) (fun a => rfl)
theorem opens83 : Opens Tryd.prog 83 (Kd.slice 82 k82) (Ms.slice ms82) := Opens.slice opens82 Tryd.underlying83 (by kernel_rfl)
theorem opens21 : Opens Tryd.prog 21 (Kd.int .i32) (Ms.int .i32) := Opens.int Tryd.underlying21 (by kernel_rfl)
def ms85 : Ms S85 := Ms.iso (Ms.pair (Ms.int .i32) (Ms.pair Ms.string (Ms.pair (Ms.slice ms82) (Ms.pair (Ms.slice ms82) (Ms.pair Ms.bool Ms.bool))))) (fun x : S85 => (x.f0, x.f1, x.f2, x.f3, x.f4, x.f5))
theorem opens85 : Opens Tryd.prog 85 k85 ms85 := Opens.struct Tryd.underlying85 (by kernel_rfl) (by decide) (OpensF.cons opens21 rfl (OpensF.cons opens9 rfl (OpensF.cons opens83 rfl (OpensF.cons opens83 rfl (OpensF.cons opens4 rfl (OpensF.last opens4 rfl)))))) _ (fun a => ⟨a.1, a.2.1, a.2.2.1, a.2.2.2.1, a.2.2.2.2.1, a.2.2.2.2.2⟩) (fun a => rfl)
theorem opens23 : Opens Tryd.prog 23 (Kd.slice 85 k85) (Ms.slice ms85) := Opens.slice opens85 Tryd.underlying23 (by kernel_rfl)
theorem opens184 : Opens Tryd.prog 184 (Kd.slice 78 (Kd.int .u32)) (Ms.slice (Ms.int .u32)) := Opens.slice opens78 Tryd.underlying184 (by kernel_rfl)
theorem opens28 : Opens Tryd.prog 28 (Kd.slice 184 (Kd.slice 78 (Kd.int .u32))) (Ms.slice (Ms.slice (Ms.int .u32))) := Opens.slice opens184 Tryd.underlying28 (by kernel_rfl)
theorem opens30t : Opens Tryd.prog 30 (Kd.pair (Kd.slice 184 (Kd.slice 78 (Kd.int .u32))) (Kd.pair (Kd.int .i64) (Kd.int .i64))) (Ms.pair (Ms.slice (Ms.slice (Ms.int .u32))) (Ms.pair (Ms.int .i64) (Ms.int .i64))) := Opens.tuple Tryd.underlying30 (by kernel_rfl) (by decide) (OpensF.cons opens28 rfl (OpensF.cons opens3 rfl (OpensF.last opens3 rfl)))
def ms183 : Ms S183 := Ms.iso (Ms.pair Ms.string (Ms.pair Ms.string (Ms.pair Ms.string (Ms.pair Ms.string (Ms.slice ms199))))) (fun x : S183 => (x.f0, x.f1, x.f2, x.f3, x.f4))
theorem opens183 : Opens Tryd.prog 183 k183 ms183 := Opens.struct Tryd.underlying183 (by kernel_rfl) (by decide) (OpensF.cons opens9 rfl (OpensF.cons opens9 rfl (OpensF.cons opens9 rfl (OpensF.cons opens9 rfl (OpensF.last opens181 rfl))))) _ (fun a => ⟨a.1, a.2.1, a.2.2.1, a.2.2.2.1, a.2.2.2.2⟩) (fun a => rfl)
theorem opens25 : Opens Tryd.prog 25 (Kd.slice 183 k183) (Ms.slice ms183) := Opens.slice opens183 Tryd.underlying25 (by kernel_rfl)
def ms204 : Ms S204 := Ms.iso (Ms.pair (Ms.slice ms199) (Ms.pair Ms.string Ms.string)) (fun x : S204 => (x.f0, x.f1, x.f2))
theorem opens204 : Opens Tryd.prog 204 k204 ms204 := Opens.struct Tryd.underlying204 (by kernel_rfl) (by decide) (OpensF.cons opens181 rfl (OpensF.cons opens9 rfl (OpensF.last opens9 rfl))) _ (fun a => ⟨a.1, a.2.1, a.2.2⟩) (fun a => rfl)
theorem opens197 : Opens Tryd.prog 197 (Kd.slice 204 k204) (Ms.slice ms204) := Opens.slice opens204 Tryd.underlying197 (by kernel_rfl)
theorem opens178 : Opens Tryd.prog 178 (Kd.slice 197 (Kd.slice 204 k204)) (Ms.slice (Ms.slice ms204)) := Opens.slice opens197 Tryd.underlying178 (by kernel_rfl)
def ms180 : Ms S180 := Ms.iso (Ms.pair Ms.string (Ms.pair (Ms.slice ms196) (Ms.slice (Ms.slice ms204)))) (fun x : S180 => (x.f0, x.f1, x.f2))
theorem opens180 : Opens Tryd.prog 180 k180 ms180 := Opens.struct Tryd.underlying180 (by kernel_rfl) (by decide) (OpensF.cons opens9 rfl (OpensF.cons opens177 rfl (OpensF.last opens178 rfl))) _ (fun a => ⟨a.1, a.2.1, a.2.2⟩) (fun a => rfl)
theorem opens24 : Opens Tryd.prog 24 (Kd.slice 180 k180) (Ms.slice ms180) := Opens.slice opens180 Tryd.underlying24 (by kernel_rfl)
def ms80 : Ms S80 := Ms.iso (Ms.pair (Ms.int .i32) (Ms.int .u32)) (fun x : S80 => (x.f0, x.f1))
theorem opens80 : Opens Tryd.prog 80 k80 ms80 := Opens.struct Tryd.underlying80 (by kernel_rfl) (by decide) (OpensF.cons opens21 rfl (OpensF.last opens78 rfl)) _ (fun a => ⟨a.1, a.2⟩) (fun a => rfl)
theorem opens22 : Opens Tryd.prog 22 (Kd.slice 80 k80) (Ms.slice ms80) := Opens.slice opens80 Tryd.underlying22 (by kernel_rfl)
theorem opens27t : Opens Tryd.prog 27 (Kd.pair (Kd.slice 80 k80) (Kd.pair (Kd.slice 85 k85) (Kd.pair (Kd.slice 180 k180) (Kd.slice 183 k183)))) (Ms.pair (Ms.slice ms80) (Ms.pair (Ms.slice ms85) (Ms.pair (Ms.slice ms180) (Ms.slice ms183)))) := Opens.tuple Tryd.underlying27 (by kernel_rfl) (by decide) (OpensF.cons opens22 rfl (OpensF.cons opens23 rfl (OpensF.cons opens24 rfl (OpensF.last opens25 rfl))))
theorem opens41t : Opens Tryd.prog 41 (Kd.pair Kd.string (Kd.pair Kd.bool (Kd.pair (Kd.pair (Kd.slice 80 k80) (Kd.pair (Kd.slice 85 k85) (Kd.pair (Kd.slice 180 k180) (Kd.slice 183 k183)))) (Kd.pair (Kd.pair (Kd.slice 184 (Kd.slice 78 (Kd.int .u32))) (Kd.pair (Kd.int .i64) (Kd.int .i64))) (Kd.pair (Kd.slice 85 k85) (Kd.pair (Kd.pair (Kd.int .i64) (Kd.pair (Kd.slice 9 Kd.string) (Kd.pair (Kd.slice 9 Kd.string) (Kd.pair Kd.bool (Kd.pair Kd.string (Kd.pair (Kd.int .i64) (Kd.pair Kd.string Kd.bool))))))) (Kd.pair (Kd.pair (Kd.int .i64) (Kd.pair (Kd.int .i64) (Kd.pair (Kd.slice 186 k186) (Kd.pair (Kd.slice 186 k186) (Kd.pair (Kd.slice 9 Kd.string) (Kd.pair (Kd.slice 9 Kd.string) (Kd.pair (Kd.slice 9 Kd.string) Kd.bool))))))) (Kd.pair (Kd.slice 188 k188) (Kd.pair (Kd.slice 190 k190) (Kd.pair (Kd.slice 194 k194) Kd.string)))))))))) (Ms.pair Ms.string (Ms.pair Ms.bool (Ms.pair (Ms.pair (Ms.slice ms80) (Ms.pair (Ms.slice ms85) (Ms.pair (Ms.slice ms180) (Ms.slice ms183)))) (Ms.pair (Ms.pair (Ms.slice (Ms.slice (Ms.int .u32))) (Ms.pair (Ms.int .i64) (Ms.int .i64))) (Ms.pair (Ms.slice ms85) (Ms.pair (Ms.pair (Ms.int .i64) (Ms.pair (Ms.slice Ms.string) (Ms.pair (Ms.slice Ms.string) (Ms.pair Ms.bool (Ms.pair Ms.string (Ms.pair (Ms.int .i64) (Ms.pair Ms.string Ms.bool))))))) (Ms.pair (Ms.pair (Ms.int .i64) (Ms.pair (Ms.int .i64) (Ms.pair (Ms.slice ms186) (Ms.pair (Ms.slice ms186) (Ms.pair (Ms.slice Ms.string) (Ms.pair (Ms.slice Ms.string) (Ms.pair (Ms.slice Ms.string) Ms.bool))))))) (Ms.pair (Ms.slice ms188) (Ms.pair (Ms.slice ms190) (Ms.pair (Ms.slice ms194) Ms.string)))))))))) := Opens.tuple Tryd.underlying41 (by kernel_rfl) (by decide) (OpensF.cons opens9 rfl (OpensF.cons opens4 rfl (OpensF.cons opens27t rfl (OpensF.cons opens30t rfl (OpensF.cons opens23 rfl (OpensF.cons opens33t rfl (OpensF.cons opens36t rfl (OpensF.cons opens37 rfl (OpensF.cons opens38 rfl (OpensF.cons opens39 rfl (OpensF.last opens9 rfl)))))))))))
theorem opens49 : Opens Tryd.prog 49 (Kd.slice 31 (Kd.slice 9 Kd.string)) (Ms.slice (Ms.slice Ms.string)) := Opens.slice opens31 Tryd.underlying49 (by kernel_rfl)
end Go.Proofs.YtfbhdjflkaldgaaDoor.Opn
