/- Several texts in one: Pr0, Opens, Kinds. -/
import Derived.Test.YtfbhdjflkaldgaaGreatDoorProg
import Derived.Below
import Derived.Deep.Draws
import Derived.Deep.AppendLies
import Derived.Maps.AppendAt
import Derived.OwnWalk
import Derived.Laws.BytesArg
import Derived.Laws.MakeOwn
import Derived.Laws.OwnMore
import Derived.Deep.OwnRows
import Derived.Tactics
import Derived.Lib.ConvBytes
import Derived.Laws.Slices
import Derived.WalkKit
import Derived.KernelRfl
import Derived.RowKit3
import Derived.Deep.LoopGhost
import Derived.Deep.QuietTactic
import Derived.BigQuiet
import Derived.WideLaws
import Derived.Deep.DeepCutAuto
import Derived.Deep.CutBlock
import Derived.Deep.RegionHeld3
import Derived.Laws.Rows
import Derived.Lib.AppendStr
import Derived.ArgAppend
import Derived.Laws.IdiomCopy
import Derived.OrdersHeld
import Derived.Laws.BitsLemmas
import Derived.RowKit
import Derived.Test.YtfbhdjflkaldgaaGreatDoorWWords
import Derived.Test.YtfbhdjflkaldgaaGreatDoorWLast
import Derived.Test.YtfbhdjflkaldgaaGreatDoorWTab
import Derived.Test.YtfbhdjflkaldgaaGreatDoorWFour
import Derived.Test.YtfbhdjflkaldgaaGreatDoorWQPut
import Derived.Test.YtfbhdjflkaldgaaGreatDoorWApart
import Derived.Test.YtfbhdjflkaldgaaGreatDoorWArr
import Derived.Test.YtfbhdjflkaldgaaGreatDoorWZeros
import Derived.Test.YtfbhdjflkaldgaaGreatDoorWFoot
import Derived.Test.YtfbhdjflkaldgaaGreatDoorWKept
import Derived.Test.YtfbhdjflkaldgaaGreatDoorWShare
import Derived.Test.YtfbhdjflkaldgaaGreatDoorWN
import Derived.Test.YtfbhdjflkaldgaaGreatDoorWFootNe
import Derived.Test.YtfbhdjflkaldgaaGreatDoorWAt
import Derived.Test.YtfbhdjflkaldgaaGreatDoorWEqStruct
import Derived.Test.YtfbhdjflkaldgaaGreatDoorWRepsOne
import Derived.Test.YtfbhdjflkaldgaaGreatDoorWInv
import Derived.Test.YtfbhdjflkaldgaaGreatDoorWInvWords
import Derived.Test.YtfbhdjflkaldgaaGreatDoorWGuard
import Derived.Test.YtfbhdjflkaldgaaGreatDoorWNEv
import Derived.Test.YtfbhdjflkaldgaaGreatDoorWMore
import Derived.Test.YtfbhdjflkaldgaaGreatDoorRows
import Derived.ChangeArms
/- What a reading of an argument tells, type by type: the value's kind (Kd), its numbers' ranges and strings' sizes (good), and a bound on its weight (bulk). -/
namespace Go.Proofs.YtfbhdjflkaldgaaGreatDoor.Pr
open Go.RowKit Go.Proofs.YtfbhdjflkaldgaaGreatDoorW.PrintWords Go.Proofs.YtfbhdjflkaldgaaGreatDoorW.PrintLast Go.Proofs.YtfbhdjflkaldgaaGreatDoorW.PrintMore
attribute [local go_sem] max2_int min2_int max_two min_two max_three min_three max_four min_four
set_option linter.unusedVariables false
set_option linter.unusedSimpArgs false
def errW:Option Int → Value
  | none => .nilIface
  | some c => .iface 0 (.int .i64 c)
theorem Z3e:errW none = .nilIface:=rfl
theorem Z3f (c:Int):errW (some c) = .iface 0 (.int .i64 c):=rfl
theorem Zhx:(Tryz.prog.info? 3).map (fun i => (i.zero,i.size,i.bytes)) = some (some (.int .i64 0),1,8):=by kernel_rfl
theorem info4:(Tryz.prog.info? 4).map (fun i => (i.zero,i.size,i.bytes)) = some (some (.bool false),1,1):=by kernel_rfl
theorem Z95:(Tryz.prog.info? 9).map (fun i => (i.zero,i.size,i.bytes)) = some (some (.string ⟨#[]⟩),1,16):=by kernel_rfl
theorem Z6n:(Tryz.prog.info? 21).map (fun i => (i.zero,i.size,i.bytes)) = some (some (.int .i32 0),1,4):=by kernel_rfl
theorem Znn:(Tryz.prog.info? 31).map (fun i => (i.zero,i.size,i.bytes)) = some (some (.slice none 0 0),1,24):=by kernel_rfl
theorem Zl1:(Tryz.prog.info? 60).map (fun i => (i.zero,i.size,i.bytes)) = some (some (.agg #[(.string ⟨#[]⟩),(.slice none 0 0)]),2,40):=by kernel_rfl
theorem Z7c:(Tryz.prog.info? 68).map (fun i => (i.zero,i.size,i.bytes)) = some (some (.agg #[(.int .i32 0),(.int .u32 0)]),2,8):=by kernel_rfl
theorem Zhy:(Tryz.prog.info? 70).map (fun i => (i.zero,i.size,i.bytes)) = some (some (.agg #[(.int .u32 0),(.string ⟨#[]⟩),(.bool false),(.bool false)]),4,32):=by kernel_rfl
theorem Zlw:(Tryz.prog.info? 170).map (fun i => (i.zero,i.size,i.bytes)) = some (some (.slice none 0 0),1,24):=by kernel_rfl
structure S68 where
  f0:Int
  f1:Int
def z68:S68:=⟨(0:Int),(0:Int)⟩
def k68:Kd S68:=Kd.iso (Kd.pair (Kd.int .i32) (Kd.int .u32)) (fun x:S68 => (x.f0,x.f1))
theorem Zjs {w:World} {x:S68} {cs:List Value} (h:k68.K w x cs):cs = [.int .i32 x.f0,.int .u32 x.f1]:=by
  obtain ⟨_,_,rfl,rfl,rfl⟩:=h;exact rfl
theorem Zc6 (w:World) (x:S68)  : k68.K w x [.int .i32 x.f0,.int .u32 x.f1]:=⟨[.int .i32 x.f0],[.int .u32 x.f1],rfl,rfl,rfl⟩
theorem Zhz (w:World) (base:Nat) (ok:Nat → Prop) (x:S68)  : k68.M w base ok x [.int .i32 x.f0,.int .u32 x.f1]:=⟨[.int .i32 x.f0],[.int .u32 x.f1],rfl,rfl,rfl⟩
def Z0v (xs:List S68) (i:Int):S68:=xs.getD i.toNat z68
theorem Z3s {w:World} {A:Option Addr} {n:Nat} {xs:List S68} (h:Kd.C k68 w A n xs) (i:Int) (h0:0 ≤ i) (h1:i < n):∃ ad ,A = some ad ∧ w.cell? (ad.add (i.toNat * 2)) = some (.int .i32 (Z0v xs i).f0) ∧ w.cell? ⟨(ad.add (i.toNat * 2)).block,(ad.add (i.toNat * 2)).off + 1,none⟩ = some (.int .u32 (Z0v xs i).f1):=by
  obtain ⟨ad,c,e,_,hK,hc0⟩:=Kd.C_get h z68 i h0 h1;have hc:∀ j u,c[j]? = some u → w.cell? (ad.add (i.toNat * 2 + j)) = some u:=hc0;obtain rfl:=Zjs hK;exact ⟨ad,e,hc 0 _ rfl,by rw [← add_field _ _ 1 (by omega)];exact hc 1 _ rfl⟩
structure S70 where
  f0:Int
  f1:ByteArray
  f2:Bool
  f3:Bool
def z70:S70:=⟨(0:Int),(⟨#[]⟩:ByteArray),false,false⟩
def k70:Kd S70:=Kd.iso (Kd.pair (Kd.int .u32) (Kd.pair Kd.string (Kd.pair Kd.bool Kd.bool))) (fun x:S70 => (x.f0,x.f1,x.f2,x.f3))
theorem Zju {w:World} {x:S70} {cs:List Value} (h:k70.K w x cs):cs = [.int .u32 x.f0,.string x.f1,.bool x.f2,.bool x.f3]:=by
  obtain ⟨_,_,rfl,rfl,⟨_,_,rfl,rfl,⟨_,_,rfl,rfl,rfl⟩⟩⟩:=h;exact rfl
theorem Z7d {w:World} {base:Nat} {ok:Nat → Prop} {x:S70} {cs:List Value} (h:k70.M w base ok x cs):cs = [.int .u32 x.f0,.string x.f1,.bool x.f2,.bool x.f3]:=by
  obtain ⟨_,_,rfl,rfl,⟨_,_,rfl,rfl,⟨_,_,rfl,rfl,rfl⟩⟩⟩:=h;exact rfl
theorem Zl2 (w:World) (x:S70)  : k70.K w x [.int .u32 x.f0,.string x.f1,.bool x.f2,.bool x.f3]:=⟨[.int .u32 x.f0],[.string x.f1,.bool x.f2,.bool x.f3],rfl,rfl,⟨[.string x.f1],[.bool x.f2,.bool x.f3],rfl,rfl,⟨[.bool x.f2],[.bool x.f3],rfl,rfl,rfl⟩⟩⟩
theorem Zi0 (w:World) (base:Nat) (ok:Nat → Prop) (x:S70)  : k70.M w base ok x [.int .u32 x.f0,.string x.f1,.bool x.f2,.bool x.f3]:=⟨[.int .u32 x.f0],[.string x.f1,.bool x.f2,.bool x.f3],rfl,rfl,⟨[.string x.f1],[.bool x.f2,.bool x.f3],rfl,rfl,⟨[.bool x.f2],[.bool x.f3],rfl,rfl,rfl⟩⟩⟩
def Z16 (xs:List S70) (i:Int):S70:=xs.getD i.toNat z70
theorem Z5x {w:World} {A:Option Addr} {n:Nat} {xs:List S70} (h:Kd.C k70 w A n xs) (i:Int) (h0:0 ≤ i) (h1:i < n):∃ ad ,A = some ad ∧ w.cell? (ad.add (i.toNat * 4)) = some (.int .u32 (Z16 xs i).f0) ∧ w.cell? ⟨(ad.add (i.toNat * 4)).block,(ad.add (i.toNat * 4)).off + 1,none⟩ = some (.string (Z16 xs i).f1) ∧ w.cell? ⟨(ad.add (i.toNat * 4)).block,(ad.add (i.toNat * 4)).off + 2,none⟩ = some (.bool (Z16 xs i).f2) ∧ w.cell? ⟨(ad.add (i.toNat * 4)).block,(ad.add (i.toNat * 4)).off + 3,none⟩ = some (.bool (Z16 xs i).f3):=by
  obtain ⟨ad,c,e,_,hK,hc0⟩:=Kd.C_get h z70 i h0 h1;have hc:∀ j u,c[j]? = some u → w.cell? (ad.add (i.toNat * 4 + j)) = some u:=hc0;obtain rfl:=Zju hK;exact ⟨ad,e,hc 0 _ rfl,by rw [← add_field _ _ 1 (by omega)];exact hc 1 _ rfl,by rw [← add_field _ _ 2 (by omega)];exact hc 2 _ rfl,by rw [← add_field _ _ 3 (by omega)];exact hc 3 _ rfl⟩
structure S73 where
  f0:Int
  f1:ByteArray
  f2:(List S70)
  f3:(List S70)
  f4:Bool
  f5:Bool
def z73:S73:=⟨(0:Int),(⟨#[]⟩:ByteArray),([]:List S70),([]:List S70),false,false⟩
def k73:Kd S73:=Kd.iso (Kd.pair (Kd.int .i32) (Kd.pair Kd.string (Kd.pair (Kd.slice 70 k70) (Kd.pair (Kd.slice 70 k70) (Kd.pair Kd.bool Kd.bool))))) (fun x:S73 => (x.f0,x.f1,x.f2,x.f3,x.f4,x.f5))
theorem Z8u {w:World} {x:S73} {cs:List Value} (h:k73.K w x cs):∃ A2 c2 A3 c3,cs = [.int .i32 x.f0,.string x.f1,.slice A2 x.f2.length c2,.slice A3 x.f3.length c3,.bool x.f4,.bool x.f5] ∧ x.f2.length ≤ c2 ∧ k70.C w A2 x.f2.length x.f2 ∧ x.f3.length ≤ c3 ∧ k70.C w A3 x.f3.length x.f3:=by
  obtain ⟨_,_,rfl,rfl,⟨_,_,rfl,rfl,⟨_,_,rfl,⟨A2,c2,rfl,l2,g2⟩,⟨_,_,rfl,⟨A3,c3,rfl,l3,g3⟩,⟨_,_,rfl,rfl,rfl⟩⟩⟩⟩⟩:=h;exact ⟨A2,c2,A3,c3,rfl,l2,g2,l3,g3⟩
theorem Zl3 (w:World) (x:S73) {A2:Option Addr} {c2:Nat} (l2:x.f2.length ≤ c2) (g2:k70.C w A2 x.f2.length x.f2) {A3:Option Addr} {c3:Nat} (l3:x.f3.length ≤ c3) (g3:k70.C w A3 x.f3.length x.f3):k73.K w x [.int .i32 x.f0,.string x.f1,.slice A2 x.f2.length c2,.slice A3 x.f3.length c3,.bool x.f4,.bool x.f5]:=⟨[.int .i32 x.f0],[.string x.f1,.slice A2 x.f2.length c2,.slice A3 x.f3.length c3,.bool x.f4,.bool x.f5],rfl,rfl,⟨[.string x.f1],[.slice A2 x.f2.length c2,.slice A3 x.f3.length c3,.bool x.f4,.bool x.f5],rfl,rfl,⟨[.slice A2 x.f2.length c2],[.slice A3 x.f3.length c3,.bool x.f4,.bool x.f5],rfl,⟨A2,c2,rfl,l2,g2⟩,⟨[.slice A3 x.f3.length c3],[.bool x.f4,.bool x.f5],rfl,⟨A3,c3,rfl,l3,g3⟩,⟨[.bool x.f4],[.bool x.f5],rfl,rfl,rfl⟩⟩⟩⟩⟩
def Z03 (xs:List S73) (i:Int):S73:=xs.getD i.toNat z73
theorem Zat {w:World} {A:Option Addr} {n:Nat} {xs:List S73} (h:Kd.C k73 w A n xs) (i:Int) (h0:0 ≤ i) (h1:i < n):∃ ad A2 c2 A3 c3,A = some ad ∧ w.cell? (ad.add (i.toNat * 6)) = some (.int .i32 (Z03 xs i).f0) ∧ w.cell? ⟨(ad.add (i.toNat * 6)).block,(ad.add (i.toNat * 6)).off + 1,none⟩ = some (.string (Z03 xs i).f1) ∧ w.cell? ⟨(ad.add (i.toNat * 6)).block,(ad.add (i.toNat * 6)).off + 2,none⟩ = some (.slice A2 (Z03 xs i).f2.length c2) ∧ w.cell? ⟨(ad.add (i.toNat * 6)).block,(ad.add (i.toNat * 6)).off + 3,none⟩ = some (.slice A3 (Z03 xs i).f3.length c3) ∧ w.cell? ⟨(ad.add (i.toNat * 6)).block,(ad.add (i.toNat * 6)).off + 4,none⟩ = some (.bool (Z03 xs i).f4) ∧ w.cell? ⟨(ad.add (i.toNat * 6)).block,(ad.add (i.toNat * 6)).off + 5,none⟩ = some (.bool (Z03 xs i).f5) ∧ (Z03 xs i).f2.length ≤ c2 ∧ k70.C w A2 (Z03 xs i).f2.length (Z03 xs i).f2 ∧ (Z03 xs i).f3.length ≤ c3 ∧ k70.C w A3 (Z03 xs i).f3.length (Z03 xs i).f3:=by
  obtain ⟨ad,c,e,_,hK,hc0⟩:=Kd.C_get h z73 i h0 h1;have hc:∀ j u,c[j]? = some u → w.cell? (ad.add (i.toNat * 6 + j)) = some u:=hc0;obtain ⟨A2,c2,A3,c3,rfl,l2,g2,l3,g3⟩:=Z8u hK;exact ⟨ad,A2,c2,A3,c3,e,hc 0 _ rfl,by rw [← add_field _ _ 1 (by omega)];exact hc 1 _ rfl,by rw [← add_field _ _ 2 (by omega)];exact hc 2 _ rfl,by rw [← add_field _ _ 3 (by omega)];exact hc 3 _ rfl,by rw [← add_field _ _ 4 (by omega)];exact hc 4 _ rfl,by rw [← add_field _ _ 5 (by omega)];exact hc 5 _ rfl,l2,g2,l3,g3⟩
def Z3h (xs:List (List ByteArray)) (i:Int):(List ByteArray):=xs.getD i.toNat ([]:List ByteArray)
theorem Zi1 {w:World} {A:Option Addr} {n:Nat} {xs:List (List ByteArray)} (h:Kd.C (Kd.slice 9 Kd.string) w A n xs) (i:Int) (h0:0 ≤ i) (h1:i < n):∃ ad A0 c0,A = some ad ∧ w.cell? (ad.add i.toNat) = some (.slice A0 (Z3h xs i).length c0) ∧ (Z3h xs i).length ≤ c0 ∧ Kd.string.C w A0 (Z3h xs i).length (Z3h xs i):=by
  obtain ⟨ad,c,e,_,hK,hc0⟩:=Kd.C_get h ([]:List ByteArray) i h0 h1;have hc:∀ j u,c[j]? = some u → w.cell? (ad.add (i.toNat * 1 + j)) = some u:=hc0;obtain ⟨A0,c0,rfl,l0,g0⟩:=hK;exact ⟨ad,A0,c0,e,by have hq:=hc 0 _ rfl;rwa [Nat.mul_one,Nat.add_zero] at hq,l0,g0⟩
structure S204 where
  f0:ByteArray
  f1:(List ByteArray)
def k204:Kd S204:=Kd.iso (Kd.pair Kd.string (Kd.slice 9 Kd.string)) (fun x:S204 => (x.f0,x.f1))
structure S207 where
  f0:ByteArray
  f1:ByteArray
def k207:Kd S207:=Kd.iso (Kd.pair Kd.string Kd.string) (fun x:S207 => (x.f0,x.f1))
structure S212 where
  f0:(List S207)
  f1:ByteArray
  f2:ByteArray
def k212:Kd S212:=Kd.iso (Kd.pair (Kd.slice 207 k207) (Kd.pair Kd.string Kd.string)) (fun x:S212 => (x.f0,x.f1,x.f2))
structure S188 where
  f0:ByteArray
  f1:(List S204)
  f2:(List (List S212))
def k188:Kd S188:=Kd.iso (Kd.pair Kd.string (Kd.pair (Kd.slice 204 k204) (Kd.slice 205 (Kd.slice 212 k212)))) (fun x:S188 => (x.f0,x.f1,x.f2))
structure S191 where
  f0:ByteArray
  f1:ByteArray
  f2:ByteArray
  f3:ByteArray
  f4:(List S207)
def k191:Kd S191:=Kd.iso (Kd.pair Kd.string (Kd.pair Kd.string (Kd.pair Kd.string (Kd.pair Kd.string (Kd.slice 207 k207))))) (fun x:S191 => (x.f0,x.f1,x.f2,x.f3,x.f4))
structure S194 where
  f0:Int
  f1:ByteArray
def k194:Kd S194:=Kd.iso (Kd.pair (Kd.int .i64) Kd.string) (fun x:S194 => (x.f0,x.f1))
structure S196 where
  f0:ByteArray
  f1:Int
def k196:Kd S196:=Kd.iso (Kd.pair Kd.string (Kd.int .i64)) (fun x:S196 => (x.f0,x.f1))
structure S198 where
  f0:ByteArray
  f1:(List S204)
  f2:(List ByteArray)
def k198:Kd S198:=Kd.iso (Kd.pair Kd.string (Kd.pair (Kd.slice 204 k204) (Kd.slice 9 Kd.string))) (fun x:S198 => (x.f0,x.f1,x.f2))
structure S214 where
  f0:Int
  f1:ByteArray
  f2:Int
  f3:ByteArray
  f4:(List S207)
def k214:Kd S214:=Kd.iso (Kd.pair (Kd.int .i64) (Kd.pair Kd.string (Kd.pair (Kd.int .i64) (Kd.pair Kd.string (Kd.slice 207 k207))))) (fun x:S214 => (x.f0,x.f1,x.f2,x.f3,x.f4))
structure S210 where
  f0:ByteArray
  f1:(List S214)
def k210:Kd S210:=Kd.iso (Kd.pair Kd.string (Kd.slice 214 k214)) (fun x:S210 => (x.f0,x.f1))
structure S202 where
  f0:ByteArray
  f1:(List (List S207))
  f2:(List S207)
  f3:(List S210)
def k202:Kd S202:=Kd.iso (Kd.pair Kd.string (Kd.pair (Kd.slice 189 (Kd.slice 207 k207)) (Kd.pair (Kd.slice 207 k207) (Kd.slice 210 k210)))) (fun x:S202 => (x.f0,x.f1,x.f2,x.f3))
structure S60 where
  f0:ByteArray
  f1:(List ByteArray)
def z60:S60:=⟨(⟨#[]⟩:ByteArray),([]:List ByteArray)⟩
def k60:Kd S60:=Kd.iso (Kd.pair Kd.string (Kd.slice 9 Kd.string)) (fun x:S60 => (x.f0,x.f1))
theorem Zbh {w:World} {x:S60} {cs:List Value} (h:k60.K w x cs):∃ A1 c1,cs = [.string x.f0,.slice A1 x.f1.length c1] ∧ x.f1.length ≤ c1 ∧ Kd.string.C w A1 x.f1.length x.f1:=by
  obtain ⟨_,_,rfl,rfl,⟨A1,c1,rfl,l1,g1⟩⟩:=h;exact ⟨A1,c1,rfl,l1,g1⟩
theorem Z61 {w:World} {base:Nat} {ok:Nat → Prop} {x:S60} {cs:List Value} (h:k60.M w base ok x cs):∃ v1,cs = [.string x.f0,v1] ∧ Kd.string.R 9 w base ok v1 x.f1:=by
  obtain ⟨_,_,rfl,rfl,⟨v1,rfl,g1⟩⟩:=h;exact ⟨v1,rfl,g1⟩
theorem Zbi (w:World) (base:Nat) (ok:Nat → Prop) (x:S60) {v1:Value} (g1:Kd.string.R 9 w base ok v1 x.f1):k60.M w base ok x [.string x.f0,v1]:=⟨[.string x.f0],[v1],rfl,rfl,⟨v1,rfl,g1⟩⟩
def Z1w (xs:List S60) (i:Int):S60:=xs.getD i.toNat z60
theorem Zfd {w:World} {A:Option Addr} {n:Nat} {xs:List S60} (h:Kd.C k60 w A n xs) (i:Int) (h0:0 ≤ i) (h1:i < n):∃ ad A1 c1,A = some ad ∧ w.cell? (ad.add (i.toNat * 2)) = some (.string (Z1w xs i).f0) ∧ w.cell? ⟨(ad.add (i.toNat * 2)).block,(ad.add (i.toNat * 2)).off + 1,none⟩ = some (.slice A1 (Z1w xs i).f1.length c1) ∧ (Z1w xs i).f1.length ≤ c1 ∧ Kd.string.C w A1 (Z1w xs i).f1.length (Z1w xs i).f1:=by
  obtain ⟨ad,c,e,_,hK,hc0⟩:=Kd.C_get h z60 i h0 h1;have hc:∀ j u,c[j]? = some u → w.cell? (ad.add (i.toNat * 2 + j)) = some u:=hc0;obtain ⟨A1,c1,rfl,l1,g1⟩:=Zbh hK;exact ⟨ad,A1,c1,e,hc 0 _ rfl,by rw [← add_field _ _ 1 (by omega)];exact hc 1 _ rfl,l1,g1⟩
end Go.Proofs.YtfbhdjflkaldgaaGreatDoor.Pr

namespace Go.Proofs.YtfbhdjflkaldgaaGreatDoor.Opn
open Go.RowKit Go.Proofs.YtfbhdjflkaldgaaGreatDoorW.PrintWords Go.Proofs.YtfbhdjflkaldgaaGreatDoorW.PrintLast
set_option linter.unusedVariables false
structure Ms (α:Type) where
  good:α → Prop
  bulk:α → Nat
def Ms.int (k:IntKind):Ms Int:=⟨fun x => (Lit.int k x).wf = true,fun _ => 1⟩
def Ms.bool:Ms Bool:=⟨fun _ => True,fun _ => 1⟩
def Ms.string:Ms ByteArray:=⟨fun s => s.size ≤ maxLen,fun s => s.size + 1⟩
def Ms.slice {α:Type} (m:Ms α):Ms (List α):=⟨fun xs => xs.length ≤ maxLen ∧ ∀ x ∈ xs,m.good x,fun xs => (xs.map m.bulk).sum + 1⟩
def Ms.pair {α β:Type} (a:Ms α) (b:Ms β):Ms (α × β):=⟨fun x => a.good x.1 ∧ b.good x.2,fun x => a.bulk x.1 + b.bulk x.2⟩
def Ms.iso {α β:Type} (m:Ms α) (f:β → α):Ms β:=⟨fun x => m.good (f x),fun x => m.bulk (f x)⟩
structure Z1t (P:Program) (t:TypeId) {α:Type} (d:Kd α) (m:Ms α):Prop where
  go:∀ {H:Type} {enc:TypeId × Value → H} {w:World} {base:Nat} {spare:Nat → Bool} {held:Bool} {fuel:Nat} {cs:List Value} {x:DataW H × List MemPlace},
    DataW.trod enc P w base spare held fuel t cs = some x → ∃ a:α,d.K w a cs ∧ m.good a ∧ m.bulk a ≤ Rows.uptoBulk x.1
  sz:P.cellsOf t = d.sz
  pos:0 < d.sz
structure Z1h (P:Program) (fs:List Field) (off:Nat) {α:Type} (d:Kd α) (m:Ms α):Prop where
  go:∀ {H:Type} {enc:TypeId × Value → H} {w:World} {base:Nat} {spare:Nat → Bool} {held:Bool} {fuel:Nat} {cs:List Value} {xs:List (DataW H × List MemPlace)},
    cs.length = off + d.sz → (∀ (i:Nat) (f:Field),fs[i]? = some f → DataW.trod enc P w base spare held fuel f.type ((cs.drop f.offset).take (P.cellsOf f.type)) = xs[i]?) → xs.length = fs.length →
    ∃ a:α,d.K w a (cs.drop off) ∧ m.good a ∧ m.bulk a ≤ Rows.uptoBulkAll (xs.map (·.1))
section
variable {P:Program} {t:TypeId}
theorem Z1t.int {k:IntKind} (hu:P.underlying t = some (.int k)) (hc:P.cellsOf t = 1):Z1t P t (Kd.int k) (Ms.int k) :=
  ⟨fun h => by
    obtain ⟨n,rfl,rfl,hw⟩:=DataW.trod_int hu h
    exact ⟨n,rfl,hw,by simp [Ms.int,Rows.uptoBulk]⟩,hc,Nat.one_pos⟩
theorem Z1t.bool (hu:P.underlying t = some .bool) (hc:P.cellsOf t = 1):Z1t P t Kd.bool Ms.bool :=
  ⟨fun h => by
    obtain ⟨b,rfl,rfl⟩:=DataW.trod_bool hu h
    exact ⟨b,rfl,trivial,by simp [Ms.bool,Rows.uptoBulk]⟩,hc,Nat.one_pos⟩
theorem Z1t.string (hu:P.underlying t = some .string) (hc:P.cellsOf t = 1):Z1t P t Kd.string Ms.string :=
  ⟨fun h => by
    obtain ⟨s,rfl,rfl,hs⟩:=DataW.trod_string hu h
    exact ⟨s,rfl,hs,by simp only [Ms.string,Rows.uptoBulk,data_length];exact Nat.le_refl _⟩,hc,Nat.one_pos⟩
theorem Zc7 {e:TypeId} {α:Type} {d:Kd α} {m:Ms α} (ho:Z1t P e d m) {H:Type} {enc:TypeId × Value → H} {w:World} {base:Nat} {spare:Nat → Bool} {held:Bool} {fuel:Nat} (a:Addr) :
    ∀ (es:List (DataW H × List MemPlace)) (i0:Nat),(∀ i,i < es.length → (w.cells? base (a.add ((i0 + i) * P.cellsOf e)) (P.cellsOf e)).bind (DataW.trod enc P w base spare held fuel e) = es[i]?) →
      ∃ xs:List α,xs.length = es.length ∧ (∀ x ∈ xs,m.good x) ∧ (xs.map m.bulk).sum ≤ Rows.uptoBulkAll (es.map (·.1)) ∧
        ∀ j p,xs[j]? = some p → ∃ c,c.length = d.sz ∧ d.K w p c ∧ ∀ i u,c[i]? = some u → w.cell? (a.add ((i0 + j) * d.sz + i)) = some u
  | [],i0,_ => ⟨[],rfl,by simp,by simp [Rows.uptoBulkAll],by simp⟩
  | y :: es,i0,h => by
    obtain ⟨xs,h1,h2,h3,h4⟩:=Zc7 ho a es (i0 + 1) (fun i hi => by
      have:=h (i + 1) (by simpa using hi)
      simpa [Nat.add_assoc,Nat.add_comm 1 i] using this)
    have h0:=h 0 (by simp);simp only [Nat.add_zero,List.getElem?_cons_zero] at h0;obtain ⟨cs,hc,ht⟩:=Option.bind_eq_some_iff.1 h0;obtain ⟨p,hK,hg,hb⟩:=ho.go ht
    refine ⟨p :: xs,by simp [h1],?_,?_,?_⟩
    · intro x hx
      rcases List.mem_cons.1 hx with rfl | hx
      · exact hg
      · exact h2 x hx
    · simp only [List.map_cons,List.sum_cons,Rows.uptoBulkAll];omega
    · intro j q hj
      cases j with
      | zero =>
        simp only [List.getElem?_cons_zero,Option.some.injEq] at hj;subst hj
        refine ⟨cs,d.K_len hK,hK,fun i u hu => ?_⟩
        unfold World.cells? at hc
        split at hc
        · have hi:i < cs.length:=(List.getElem?_eq_some_iff.1 hu).1
          rw [d.K_len hK] at hi;have hg:=mapM_some_get hc i i (by rw [ho.sz];simp [hi]);rw [hu] at hg
          have ha:(a.add (i0 * P.cellsOf e)).add i = a.add ((i0 + 0) * d.sz + i):=by
            rw [ho.sz,Nat.add_zero];unfold Addr.add
            by_cases z1:i0 * d.sz = 0 <;> by_cases z2:i = 0 <;> simp [z1,z2,Nat.add_assoc]
          rwa [ha] at hg
        · cases hc
      | succ j =>
        simp only [List.getElem?_cons_succ] at hj;obtain ⟨c,k1,k2,k3⟩:=h4 j q hj
        refine ⟨c,k1,k2,fun i u hu => ?_⟩
        have:=k3 i u hu
        rwa [show i0 + 1 + j = i0 + (j + 1) by omega] at this
theorem Z1t.slice {e:TypeId} {α:Type} {d:Kd α} {m:Ms α} (ho:Z1t P e d m) (hu:P.underlying t = some (.slice e)) (hc:P.cellsOf t = 1):Z1t P t (Kd.slice e d) (Ms.slice m) :=
  ⟨fun h => by
    rcases DataW.trod_slice hu h with ⟨rfl,rfl⟩ | ⟨a,len,cap,elems,rest,n,rfl,rfl,rfl,hb,hl,hm,hn,he,_⟩
    · exact ⟨[],⟨none,0,rfl,Nat.le_refl _,rfl,by simp,fun h => absurd h (by simp)⟩,⟨by simp,by simp⟩,by simp [Ms.slice,Rows.uptoBulk]⟩
    · obtain ⟨xs,h1,h2,h3,h4⟩:=Zc7 ho a elems 0 (fun i hi => by rw [Nat.zero_add];exact he i (by omega))
      have hx:xs.length = len:=by omega
      refine ⟨xs,⟨some a,cap,by rw [hx],by omega,rfl,by unfold maxLen at hm;omega,fun hp => ⟨a,rfl,fun j p hj => ?_⟩⟩,⟨by omega,h2⟩,?_⟩
      · obtain ⟨c,k1,k2,k3⟩:=h4 j p hj
        exact ⟨c,k1,k2,fun i u hu => by have:=k3 i u hu;rwa [Nat.zero_add] at this⟩
      · simp only [Ms.slice,Rows.uptoBulk];omega,hc,Nat.one_pos⟩
theorem Z1h.last {f:Field} {off:Nat} {α:Type} {d:Kd α} {m:Ms α} (ho:Z1t P f.type d m) (hf:f.offset = off):Z1h P [f] off d m:=by
  refine ⟨?_⟩
  intro H enc w base spare held fuel cs xs hl h hn;have h0:=h 0 f rfl
  obtain ⟨y,rfl⟩:∃ y,xs = [y]:=by
    match xs,hn with
    | [y],_ => exact ⟨y,rfl⟩
  rw [hf,ho.sz,List.take_of_length_le (by rw [List.length_drop];omega)] at h0;obtain ⟨a,h1,h2,h3⟩:=ho.go h0;exact ⟨a,h1,h2,by simp only [List.map_cons,List.map_nil,Rows.uptoBulkAll];omega⟩
theorem Z1h.cons {f:Field} {fs:List Field} {off:Nat} {α β:Type} {d:Kd α} {d':Kd β} {m:Ms α} {m':Ms β} (ho:Z1t P f.type d m) (hf:f.offset = off) (hr:Z1h P fs (off + d.sz) d' m'):Z1h P (f :: fs) off (Kd.pair d d') (Ms.pair m m'):=by
  refine ⟨?_⟩
  intro H enc w base spare held fuel cs xs hl h hn
  have hl':cs.length = off + d.sz + d'.sz:=by rw [hl];show off + (d.sz + d'.sz) = _;omega
  obtain ⟨y,ys,rfl⟩:∃ y ys,xs = y :: ys:=by
    match xs,hn with
    | y :: ys,_ => exact ⟨y,ys,rfl⟩
  have h0:=h 0 f rfl;simp only [List.getElem?_cons_zero] at h0;rw [hf,ho.sz] at h0;obtain ⟨a,h1,h2,h3⟩:=ho.go h0;obtain ⟨b,k1,k2,k3⟩:=hr.go (xs:=ys) hl' (fun i g hg => by have:=h (i + 1) g (by simpa using hg);simpa using this) (by simpa using hn)
  refine ⟨(a,b),⟨(cs.drop off).take d.sz,cs.drop (off + d.sz),?_,h1,k1⟩,⟨h2,k2⟩,?_⟩
  · rw [← List.drop_drop,List.take_append_drop]
  · simp only [Ms.pair,List.map_cons,Rows.uptoBulkAll];omega
theorem Z1t.struct {fs:List Field} {α β:Type} {d:Kd α} {m:Ms α} (hu:P.underlying t = some (.struct fs.toArray)) (hc:P.cellsOf t = d.sz) (hp:0 < d.sz) (ho:Z1h P fs 0 d m) (f:β → α) (g:α → β) (hg:∀ a,f (g a) = a):Z1t P t (Kd.iso d f) (Ms.iso m f) :=
  ⟨fun h => by
    obtain ⟨xs,n,rfl,rfl,hl,hn,hx⟩:=DataW.trod_struct hu h;obtain ⟨a,h1,h2,h3⟩:=ho.go (xs:=xs) (by rw [hl,hc,Nat.zero_add]) (fun i f hf => hx i f (by simpa using hf)) (by simpa using hn)
    refine ⟨g a,?_,?_,?_⟩
    · show d.K _ (f (g a)) _
      rw [hg];simpa using h1
    · show m.good (f (g a));rw [hg];exact h2
    · show m.bulk (f (g a)) ≤ _;rw [hg];simp only [Rows.uptoBulk];omega,hc,hp⟩
theorem Z1t.tuple {fs:List Field} {α:Type} {d:Kd α} {m:Ms α} (hu:P.underlying t = some (.struct fs.toArray)) (hc:P.cellsOf t = d.sz) (hp:0 < d.sz) (ho:Z1h P fs 0 d m):Z1t P t d m :=
  ⟨fun h => (Z1t.struct hu hc hp ho (fun x => x) (fun x => x) (fun _ => rfl)).go h,hc,hp⟩
theorem Zl4 {w:World} {r:Reach} {base:Nat} {v:Value} {fs:Array Field} (hu:P.underlying t = some (.struct fs)) (h:Value.okWide P w r base t v):∃ cs,v = .agg cs:=by
  unfold Value.okWide at h;rw [hu] at h;obtain ⟨cs,hv,_⟩:=h;exact ⟨cs,hv⟩
theorem bound {H:Type} {l:List (DataW H)} (hk:Rows.uptoSmall H l = true):Rows.uptoBulkAll l ≤ 1048576:=by
  simpa [Rows.uptoSmall] using hk
end
end Go.Proofs.YtfbhdjflkaldgaaGreatDoor.Opn

namespace Go.Proofs.YtfbhdjflkaldgaaGreatDoor.Opn
open Go.RowKit Go.Proofs.YtfbhdjflkaldgaaGreatDoor.Pr Go.Proofs.YtfbhdjflkaldgaaGreatDoorW.PrintWords Go.Proofs.YtfbhdjflkaldgaaGreatDoorW.PrintLast
theorem Z3t:Z1t Tryz.prog 9 Kd.string Ms.string:=Z1t.string Tryz.underlying9 (by kernel_rfl)
def Zc8:Ms S207:=Ms.iso (Ms.pair Ms.string Ms.string) (fun x:S207 => (x.f0,x.f1))
theorem Zjx:Z1t Tryz.prog 207 k207 Zc8:=Z1t.struct Tryz.underlying207 (by kernel_rfl) (by decide) (Z1h.cons Z3t rfl (Z1h.last Z3t rfl)) _ (fun a => ⟨a.1,a.2⟩) (fun a => rfl)
theorem Z7g:Z1t Tryz.prog 189 (Kd.slice 207 k207) (Ms.slice Zc8):=Z1t.slice Zjx Tryz.underlying189 (by kernel_rfl)
theorem Z6o:Z1t Tryz.prog 3 (Kd.int .i64) (Ms.int .i64):=Z1t.int Tryz.underlying3 (by kernel_rfl)
def Zm8:Ms S214:=Ms.iso (Ms.pair (Ms.int .i64) (Ms.pair Ms.string (Ms.pair (Ms.int .i64) (Ms.pair Ms.string (Ms.slice Zc8))))) (fun x:S214 => (x.f0,x.f1,x.f2,x.f3,x.f4))
theorem Zjy:Z1t Tryz.prog 214 k214 Zm8:=Z1t.struct Tryz.underlying214 (by kernel_rfl) (by decide) (Z1h.cons Z6o rfl (Z1h.cons Z3t rfl (Z1h.cons Z6o rfl (Z1h.cons Z3t rfl (Z1h.last Z7g rfl))))) _ (fun a => ⟨a.1,a.2.1,a.2.2.1,a.2.2.2.1,a.2.2.2.2⟩) (fun a => rfl)
theorem Zjz:Z1t Tryz.prog 208 (Kd.slice 214 k214) (Ms.slice Zm8):=Z1t.slice Zjy Tryz.underlying208 (by kernel_rfl)
def Zm9:Ms S210:=Ms.iso (Ms.pair Ms.string (Ms.slice Zm8)) (fun x:S210 => (x.f0,x.f1))
theorem Zk0:Z1t Tryz.prog 210 k210 Zm9:=Z1t.struct Tryz.underlying210 (by kernel_rfl) (by decide) (Z1h.cons Z3t rfl (Z1h.last Zjz rfl)) _ (fun a => ⟨a.1,a.2⟩) (fun a => rfl)
theorem Zk1:Z1t Tryz.prog 200 (Kd.slice 210 k210) (Ms.slice Zm9):=Z1t.slice Zk0 Tryz.underlying200 (by kernel_rfl)
theorem Zk2:Z1t Tryz.prog 199 (Kd.slice 189 (Kd.slice 207 k207)) (Ms.slice (Ms.slice Zc8)):=Z1t.slice Z7g Tryz.underlying199 (by kernel_rfl)
def Z84:Ms S202:=Ms.iso (Ms.pair Ms.string (Ms.pair (Ms.slice (Ms.slice Zc8)) (Ms.pair (Ms.slice Zc8) (Ms.slice Zm9)))) (fun x:S202 => (x.f0,x.f1,x.f2,x.f3))
theorem Zk3:Z1t Tryz.prog 202 k202 Z84:=Z1t.struct Tryz.underlying202 (by kernel_rfl) (by decide) (Z1h.cons Z3t rfl (Z1h.cons Zk2 rfl (Z1h.cons Z7g rfl (Z1h.last Zk1 rfl)))) _ (fun a => ⟨a.1,a.2.1,a.2.2.1,a.2.2.2⟩) (fun a => rfl)
theorem Zma:Z1t Tryz.prog 39 (Kd.slice 202 k202) (Ms.slice Z84):=Z1t.slice Zk3 Tryz.underlying39 (by kernel_rfl)
theorem Z5i:Z1t Tryz.prog 31 (Kd.slice 9 Kd.string) (Ms.slice Ms.string):=Z1t.slice Z3t Tryz.underlying31 (by kernel_rfl)
def Zk4:Ms S204:=Ms.iso (Ms.pair Ms.string (Ms.slice Ms.string)) (fun x:S204 => (x.f0,x.f1))
theorem Zk5:Z1t Tryz.prog 204 k204 Zk4:=Z1t.struct Tryz.underlying204 (by kernel_rfl) (by decide) (Z1h.cons Z3t rfl (Z1h.last Z5i rfl)) _ (fun a => ⟨a.1,a.2⟩) (fun a => rfl)
theorem Zfk:Z1t Tryz.prog 185 (Kd.slice 204 k204) (Ms.slice Zk4):=Z1t.slice Zk5 Tryz.underlying185 (by kernel_rfl)
def Z85:Ms S198:=Ms.iso (Ms.pair Ms.string (Ms.pair (Ms.slice Zk4) (Ms.slice Ms.string))) (fun x:S198 => (x.f0,x.f1,x.f2))
theorem Zk6:Z1t Tryz.prog 198 k198 Z85:=Z1t.struct Tryz.underlying198 (by kernel_rfl) (by decide) (Z1h.cons Z3t rfl (Z1h.cons Zfk rfl (Z1h.last Z5i rfl))) _ (fun a => ⟨a.1,a.2.1,a.2.2⟩) (fun a => rfl)
theorem Zmb:Z1t Tryz.prog 38 (Kd.slice 198 k198) (Ms.slice Z85):=Z1t.slice Zk6 Tryz.underlying38 (by kernel_rfl)
def Z86:Ms S196:=Ms.iso (Ms.pair Ms.string (Ms.int .i64)) (fun x:S196 => (x.f0,x.f1))
theorem Zk7:Z1t Tryz.prog 196 k196 Z86:=Z1t.struct Tryz.underlying196 (by kernel_rfl) (by decide) (Z1h.cons Z3t rfl (Z1h.last Z6o rfl)) _ (fun a => ⟨a.1,a.2⟩) (fun a => rfl)
theorem Zmc:Z1t Tryz.prog 37 (Kd.slice 196 k196) (Ms.slice Z86):=Z1t.slice Zk7 Tryz.underlying37 (by kernel_rfl)
theorem Z8g:Z1t Tryz.prog 4 Kd.bool Ms.bool:=Z1t.bool Tryz.underlying4 (by kernel_rfl)
def Z4n:Ms S194:=Ms.iso (Ms.pair (Ms.int .i64) Ms.string) (fun x:S194 => (x.f0,x.f1))
theorem Zk8:Z1t Tryz.prog 194 k194 Z4n:=Z1t.struct Tryz.underlying194 (by kernel_rfl) (by decide) (Z1h.cons Z6o rfl (Z1h.last Z3t rfl)) _ (fun a => ⟨a.1,a.2⟩) (fun a => rfl)
theorem Zi8:Z1t Tryz.prog 34 (Kd.slice 194 k194) (Ms.slice Z4n):=Z1t.slice Zk8 Tryz.underlying34 (by kernel_rfl)
theorem Zk9:Z1t Tryz.prog 36 (Kd.pair (Kd.int .i64) (Kd.pair (Kd.int .i64) (Kd.pair (Kd.slice 194 k194) (Kd.pair (Kd.slice 194 k194) (Kd.pair (Kd.slice 9 Kd.string) (Kd.pair (Kd.slice 9 Kd.string) (Kd.pair (Kd.slice 9 Kd.string) Kd.bool))))))) (Ms.pair (Ms.int .i64) (Ms.pair (Ms.int .i64) (Ms.pair (Ms.slice Z4n) (Ms.pair (Ms.slice Z4n) (Ms.pair (Ms.slice Ms.string) (Ms.pair (Ms.slice Ms.string) (Ms.pair (Ms.slice Ms.string) Ms.bool))))))):=Z1t.tuple Tryz.underlying36 (by kernel_rfl) (by decide) (Z1h.cons Z6o rfl (Z1h.cons Z6o rfl (Z1h.cons Zi8 rfl (Z1h.cons Zi8 rfl (Z1h.cons Z5i rfl (Z1h.cons Z5i rfl (Z1h.cons Z5i rfl (Z1h.last Z8g rfl))))))))
theorem Zka:Z1t Tryz.prog 33 (Kd.pair (Kd.int .i64) (Kd.pair (Kd.slice 9 Kd.string) (Kd.pair (Kd.slice 9 Kd.string) (Kd.pair Kd.bool (Kd.pair Kd.string (Kd.pair (Kd.int .i64) (Kd.pair Kd.string Kd.bool))))))) (Ms.pair (Ms.int .i64) (Ms.pair (Ms.slice Ms.string) (Ms.pair (Ms.slice Ms.string) (Ms.pair Ms.bool (Ms.pair Ms.string (Ms.pair (Ms.int .i64) (Ms.pair Ms.string Ms.bool))))))):=Z1t.tuple Tryz.underlying33 (by kernel_rfl) (by decide) (Z1h.cons Z6o rfl (Z1h.cons Z5i rfl (Z1h.cons Z5i rfl (Z1h.cons Z8g rfl (Z1h.cons Z3t rfl (Z1h.cons Z6o rfl (Z1h.cons Z3t rfl (Z1h.last Z8g rfl))))))))
theorem Ze3:Z1t Tryz.prog 66 (Kd.int .u32) (Ms.int .u32):=Z1t.int Tryz.underlying66 (by kernel_rfl)
def ms70:Ms S70:=Ms.iso (Ms.pair (Ms.int .u32) (Ms.pair Ms.string (Ms.pair Ms.bool Ms.bool))) (fun x:S70 => (x.f0,x.f1,x.f2,x.f3))
theorem Zmd:Z1t Tryz.prog 70 k70 ms70:=Z1t.struct Tryz.underlying70 (by kernel_rfl) (by decide) (Z1h.cons Ze3 rfl (Z1h.cons Z3t rfl (Z1h.cons Z8g rfl (Z1h.last Z8g rfl)))) _ (fun a => ⟨a.1,a.2.1,a.2.2.1,a.2.2.2⟩) (fun a => rfl)
theorem Zi9:Z1t Tryz.prog 71 (Kd.slice 70 k70) (Ms.slice ms70):=Z1t.slice Zmd Tryz.underlying71 (by kernel_rfl)
theorem Zia:Z1t Tryz.prog 21 (Kd.int .i32) (Ms.int .i32):=Z1t.int Tryz.underlying21 (by kernel_rfl)
def ms73:Ms S73:=Ms.iso (Ms.pair (Ms.int .i32) (Ms.pair Ms.string (Ms.pair (Ms.slice ms70) (Ms.pair (Ms.slice ms70) (Ms.pair Ms.bool Ms.bool))))) (fun x:S73 => (x.f0,x.f1,x.f2,x.f3,x.f4,x.f5))
theorem Zme:Z1t Tryz.prog 73 k73 ms73:=Z1t.struct Tryz.underlying73 (by kernel_rfl) (by decide) (Z1h.cons Zia rfl (Z1h.cons Z3t rfl (Z1h.cons Zi9 rfl (Z1h.cons Zi9 rfl (Z1h.cons Z8g rfl (Z1h.last Z8g rfl)))))) _ (fun a => ⟨a.1,a.2.1,a.2.2.1,a.2.2.2.1,a.2.2.2.2.1,a.2.2.2.2.2⟩) (fun a => rfl)
theorem Zib:Z1t Tryz.prog 23 (Kd.slice 73 k73) (Ms.slice ms73):=Z1t.slice Zme Tryz.underlying23 (by kernel_rfl)
theorem Zkb:Z1t Tryz.prog 192 (Kd.slice 66 (Kd.int .u32)) (Ms.slice (Ms.int .u32)):=Z1t.slice Ze3 Tryz.underlying192 (by kernel_rfl)
theorem Zmf:Z1t Tryz.prog 28 (Kd.slice 192 (Kd.slice 66 (Kd.int .u32))) (Ms.slice (Ms.slice (Ms.int .u32))):=Z1t.slice Zkb Tryz.underlying28 (by kernel_rfl)
theorem Zkc:Z1t Tryz.prog 30 (Kd.pair (Kd.slice 192 (Kd.slice 66 (Kd.int .u32))) (Kd.pair (Kd.int .i64) (Kd.int .i64))) (Ms.pair (Ms.slice (Ms.slice (Ms.int .u32))) (Ms.pair (Ms.int .i64) (Ms.int .i64))):=Z1t.tuple Tryz.underlying30 (by kernel_rfl) (by decide) (Z1h.cons Zmf rfl (Z1h.cons Z6o rfl (Z1h.last Z6o rfl)))
def Z7h:Ms S191:=Ms.iso (Ms.pair Ms.string (Ms.pair Ms.string (Ms.pair Ms.string (Ms.pair Ms.string (Ms.slice Zc8))))) (fun x:S191 => (x.f0,x.f1,x.f2,x.f3,x.f4))
theorem Zkd:Z1t Tryz.prog 191 k191 Z7h:=Z1t.struct Tryz.underlying191 (by kernel_rfl) (by decide) (Z1h.cons Z3t rfl (Z1h.cons Z3t rfl (Z1h.cons Z3t rfl (Z1h.cons Z3t rfl (Z1h.last Z7g rfl))))) _ (fun a => ⟨a.1,a.2.1,a.2.2.1,a.2.2.2.1,a.2.2.2.2⟩) (fun a => rfl)
theorem Zmg:Z1t Tryz.prog 25 (Kd.slice 191 k191) (Ms.slice Z7h):=Z1t.slice Zkd Tryz.underlying25 (by kernel_rfl)
def Zke:Ms S212:=Ms.iso (Ms.pair (Ms.slice Zc8) (Ms.pair Ms.string Ms.string)) (fun x:S212 => (x.f0,x.f1,x.f2))
theorem Zkf:Z1t Tryz.prog 212 k212 Zke:=Z1t.struct Tryz.underlying212 (by kernel_rfl) (by decide) (Z1h.cons Z7g rfl (Z1h.cons Z3t rfl (Z1h.last Z3t rfl))) _ (fun a => ⟨a.1,a.2.1,a.2.2⟩) (fun a => rfl)
theorem Zkg:Z1t Tryz.prog 205 (Kd.slice 212 k212) (Ms.slice Zke):=Z1t.slice Zkf Tryz.underlying205 (by kernel_rfl)
theorem Zkh:Z1t Tryz.prog 186 (Kd.slice 205 (Kd.slice 212 k212)) (Ms.slice (Ms.slice Zke)):=Z1t.slice Zkg Tryz.underlying186 (by kernel_rfl)
def Z7i:Ms S188:=Ms.iso (Ms.pair Ms.string (Ms.pair (Ms.slice Zk4) (Ms.slice (Ms.slice Zke)))) (fun x:S188 => (x.f0,x.f1,x.f2))
theorem Zki:Z1t Tryz.prog 188 k188 Z7i:=Z1t.struct Tryz.underlying188 (by kernel_rfl) (by decide) (Z1h.cons Z3t rfl (Z1h.cons Zfk rfl (Z1h.last Zkh rfl))) _ (fun a => ⟨a.1,a.2.1,a.2.2⟩) (fun a => rfl)
theorem Zmh:Z1t Tryz.prog 24 (Kd.slice 188 k188) (Ms.slice Z7i):=Z1t.slice Zki Tryz.underlying24 (by kernel_rfl)
def ms68:Ms S68:=Ms.iso (Ms.pair (Ms.int .i32) (Ms.int .u32)) (fun x:S68 => (x.f0,x.f1))
theorem Zmi:Z1t Tryz.prog 68 k68 ms68:=Z1t.struct Tryz.underlying68 (by kernel_rfl) (by decide) (Z1h.cons Zia rfl (Z1h.last Ze3 rfl)) _ (fun a => ⟨a.1,a.2⟩) (fun a => rfl)
theorem Zmj:Z1t Tryz.prog 22 (Kd.slice 68 k68) (Ms.slice ms68):=Z1t.slice Zmi Tryz.underlying22 (by kernel_rfl)
theorem Zkj:Z1t Tryz.prog 27 (Kd.pair (Kd.slice 68 k68) (Kd.pair (Kd.slice 73 k73) (Kd.pair (Kd.slice 188 k188) (Kd.slice 191 k191)))) (Ms.pair (Ms.slice ms68) (Ms.pair (Ms.slice ms73) (Ms.pair (Ms.slice Z7i) (Ms.slice Z7h)))):=Z1t.tuple Tryz.underlying27 (by kernel_rfl) (by decide) (Z1h.cons Zmj rfl (Z1h.cons Zib rfl (Z1h.cons Zmh rfl (Z1h.last Zmg rfl))))
theorem Zfl:Z1t Tryz.prog 41 (Kd.pair Kd.string (Kd.pair Kd.bool (Kd.pair (Kd.pair (Kd.slice 68 k68) (Kd.pair (Kd.slice 73 k73) (Kd.pair (Kd.slice 188 k188) (Kd.slice 191 k191)))) (Kd.pair (Kd.pair (Kd.slice 192 (Kd.slice 66 (Kd.int .u32))) (Kd.pair (Kd.int .i64) (Kd.int .i64))) (Kd.pair (Kd.slice 73 k73) (Kd.pair (Kd.pair (Kd.int .i64) (Kd.pair (Kd.slice 9 Kd.string) (Kd.pair (Kd.slice 9 Kd.string) (Kd.pair Kd.bool (Kd.pair Kd.string (Kd.pair (Kd.int .i64) (Kd.pair Kd.string Kd.bool))))))) (Kd.pair (Kd.pair (Kd.int .i64) (Kd.pair (Kd.int .i64) (Kd.pair (Kd.slice 194 k194) (Kd.pair (Kd.slice 194 k194) (Kd.pair (Kd.slice 9 Kd.string) (Kd.pair (Kd.slice 9 Kd.string) (Kd.pair (Kd.slice 9 Kd.string) Kd.bool))))))) (Kd.pair (Kd.slice 196 k196) (Kd.pair (Kd.slice 198 k198) (Kd.pair (Kd.slice 202 k202) Kd.string)))))))))) (Ms.pair Ms.string (Ms.pair Ms.bool (Ms.pair (Ms.pair (Ms.slice ms68) (Ms.pair (Ms.slice ms73) (Ms.pair (Ms.slice Z7i) (Ms.slice Z7h)))) (Ms.pair (Ms.pair (Ms.slice (Ms.slice (Ms.int .u32))) (Ms.pair (Ms.int .i64) (Ms.int .i64))) (Ms.pair (Ms.slice ms73) (Ms.pair (Ms.pair (Ms.int .i64) (Ms.pair (Ms.slice Ms.string) (Ms.pair (Ms.slice Ms.string) (Ms.pair Ms.bool (Ms.pair Ms.string (Ms.pair (Ms.int .i64) (Ms.pair Ms.string Ms.bool))))))) (Ms.pair (Ms.pair (Ms.int .i64) (Ms.pair (Ms.int .i64) (Ms.pair (Ms.slice Z4n) (Ms.pair (Ms.slice Z4n) (Ms.pair (Ms.slice Ms.string) (Ms.pair (Ms.slice Ms.string) (Ms.pair (Ms.slice Ms.string) Ms.bool))))))) (Ms.pair (Ms.slice Z86) (Ms.pair (Ms.slice Z85) (Ms.pair (Ms.slice Z84) Ms.string)))))))))):=Z1t.tuple Tryz.underlying41 (by kernel_rfl) (by decide) (Z1h.cons Z3t rfl (Z1h.cons Z8g rfl (Z1h.cons Zkj rfl (Z1h.cons Zkc rfl (Z1h.cons Zib rfl (Z1h.cons Zka rfl (Z1h.cons Zk9 rfl (Z1h.cons Zmc rfl (Z1h.cons Zmb rfl (Z1h.cons Zma rfl (Z1h.last Z3t rfl)))))))))))
theorem Zmk:Z1t Tryz.prog 49 (Kd.slice 31 (Kd.slice 9 Kd.string)) (Ms.slice (Ms.slice Ms.string)):=Z1t.slice Z5i Tryz.underlying49 (by kernel_rfl)
end Go.Proofs.YtfbhdjflkaldgaaGreatDoor.Opn
