/- Several texts in one: PrF82, PrF95, PrF116, Cv, PrF113. -/
import Derived.Test.YtfbhdjflkaldgaaGreatDoorMg1
import Derived.Test.YtfbhdjflkaldgaaGreatDoorCt
import Derived.Test.YtfbhdjflkaldgaaGreatDoorMg8
import Derived.Test.YtfbhdjflkaldgaaGreatDoorMg3
import Derived.Test.YtfbhdjflkaldgaaGreatDoorMg13
/- '[]rune(s)' as an event of a printed walk: a fresh row of the runes. -/
namespace Go.Proofs.YtfbhdjflkaldgaaGreatDoor.Pr
open Go.Proofs.YtfbhdjflkaldgaaGreatDoor.Ct Go.RowKit Go.Proofs.YtfbhdjflkaldgaaGreatDoorW.PrintWords Go.Proofs.YtfbhdjflkaldgaaGreatDoorW.PrintLast Go.Proofs.YtfbhdjflkaldgaaGreatDoorW.PrintMore
attribute [local go_sem] max2_int min2_int max_two min_two max_three min_three max_four min_four
set_option linter.unusedVariables false
set_option linter.unusedSimpArgs false
def Z15.f (l0:List (S68)) (a1:ByteArray):Option (Bool):=(Z0w.f l0 a1).bind fun bt390 => (if bt390.2 = true then (some (decide ((bt390.1.length:Int) ≤ 40))) else (some false))
set_option maxHeartbeats 8000000 in
set_option maxRecDepth 100000 in
theorem Z15.calls (A0:Option Addr) (c0:Nat) (l0:List (S68)) (a1:ByteArray) (r:Bool) (w:World) (hT:Tabs w) (hr0:Kd.C k68 w A0 l0.length l0) (hc0:l0.length ≤ c0) (h:Z15.f l0 a1 = some r) :
 Calls Tryz.prog 82 #[.slice A0 l0.length c0,.string a1] w fun e w' => e = .returned (.bool r) ∧ Below w.heap.size w w':=by
 have HT:=am hT;clear hT;have HR0:=am hr0;have HC0:=am hc0;clear hr0 hc0;have HB:=am (Below.refl w.heap.size w);have H:((Z0w.f l0 a1).bind fun bt390 => (if bt390.2 = true then (some (decide ((bt390.1.length:Int) ≤ 40))) else (some false))) = some r:=h;clear h;replace H:=bI H;obtain ⟨⟨t390,t391⟩,A3,H⟩:=H;(try dsimp only at H)
 replace H:=iT H;obtain ⟨rfl,H⟩ | ⟨rfl,H⟩:=H
 ·
  obtain rfl:=Option.some.inj H;go_enter Tryz.func82,Tryz.ntmps82
  go_wp2_with (first | ((with_reducible refine gate_callee (f:=78) rfl ?_);refine goesL_ (some 10) rfl rfl Tryz.func78 (by kernel_rfl) rfl #[.slice A0 l0.length c0,.string a1] rfl Gc2 ?_;(with_reducible refine (Z0w.calls _ _ l0 a1 t390 true _ ?sT ?s1 HC0.out A3.out).mono ?_);(case sT => exact Gc1);(case s1 => exact Gc3);rintro e w5 ⟨v392,rfl,ho0,hb⟩;refine ⟨_,rfl,?_⟩;have n0_:=am (Kd.R_lower ho0 (tS HB));have n1_:=am (below_step (tB HB) hb);revert n0_ n1_;clear HB;intro HO393 HB;(try clear hb);(try clear hb2);(try clear hk);(try clear hi);(try clear ho0);obtain ⟨Ao6,co6,eo6⟩:=Kd.R_slice HO393.out;subst eo6))
  go_ret;exact ⟨tE,by repeat (first | (with_reducible first | exact HB.out | apply below_alloc | apply pw_below_drewN | apply below_drew1) | exact HB.out)⟩
 ·
  obtain rfl:=Option.some.inj H;go_enter Tryz.func82,Tryz.ntmps82
  go_wp2_with (first | ((with_reducible refine gate_callee (f:=78) rfl ?_);refine goesL_ (some 10) rfl rfl Tryz.func78 (by kernel_rfl) rfl #[.slice A0 l0.length c0,.string a1] rfl Gc2 ?_;(with_reducible refine (Z0w.calls _ _ l0 a1 t390 false _ ?sT ?s1 HC0.out A3.out).mono ?_);(case sT => exact Gc1);(case s1 => exact Gc3);rintro e w7 ⟨v392,rfl,ho0,hb⟩;refine ⟨_,rfl,?_⟩;have n0_:=am (Kd.R_lower ho0 (tS HB));have n1_:=am (below_step (tB HB) hb);revert n0_ n1_;clear HB;intro HO393 HB;(try clear hb);(try clear hb2);(try clear hk);(try clear hi);(try clear ho0)))
  go_ret;exact ⟨tE,by repeat (first | (with_reducible first | exact HB.out | apply below_alloc | apply pw_below_drewN | apply below_drew1) | exact HB.out)⟩
def Z14.l0:Nat → List (S68) → List (S73) → ByteArray → Int → Option (Bool)
 | 0,_,_,_,_ => none
 | k + 1,x0,x1,x2,x7 => if x7 < (x1.length:Int) then (if 0 ≤ x7 then ((Z0s.f k x0 ((Z03 x1 x7).f0) ((Z03 x1 x7).f1) ((Z03 x1 x7).f2) ((Z03 x1 x7).f3) ((Z03 x1 x7).f4) ((Z03 x1 x7).f5)).bind fun t395 => (if t395 = true then (Z14.l0 k x0 x1 x2 (wrap64 (x7 + 1))) else (some false))) else (none)) else (if (x1.length:Int) ≤ 64 then ((Z0i.f k x0).bind fun t396 => (if t396 = true then ((Z15.f x0 x2).bind fun t397 => (some t397)) else (some false))) else (some false))
def Z14.f (k:Nat) (l0:List (S68)) (l1:List (S73)) (a2:ByteArray):Option (Bool):=Z14.l0 k l0 l1 a2 0
theorem Zdc {p:Prop} (h:p:=by
  have z1_:0 ≤ (x7_1:Int):=oD;have z2_:x7_1 < (l1.length:Int):=oD;obtain ⟨z3_,z4_,z5_,z6_,z7_,z8_,z9_,z10_,z11_,z12_,z13_,z14_,z15_,z16_,z17_,z18_⟩:=Zat HR1.out x7_1 z1_ z2_;cases z8_;replace z9_:=celB HB z9_;replace z10_:=celB HB z10_;replace z11_:=celB HB z11_;replace z12_:=celB HB z12_;replace z13_:=celB HB z13_;replace z14_:=celB HB z14_;have z19_:=am z16_;have z20_:=am z15_;clear z16_ z15_;have z21_:=am z18_;have z22_:=am z17_;clear z18_ z17_;replace z1_:=eq_true z1_;replace z2_:=eq_true z2_
  first
  | (have mk_:=mk0_
     go_wp2_with (first | ((with_reducible refine gate_callee (f:=61) rfl ?_);refine goesL_ (some 19) rfl rfl Tryz.func61 (by kernel_rfl) rfl #[.slice A0 l0.length c0,.agg #[.int .i32 ((Z03 l1 x7_1).f0),.string ((Z03 l1 x7_1).f1),.slice z4_ ((Z03 l1 x7_1).f2).length z5_,.slice z6_ ((Z03 l1 x7_1).f3).length z7_,.bool ((Z03 l1 x7_1).f4),.bool ((Z03 l1 x7_1).f5)]] rfl Gc2 ?_;(with_reducible refine (Z0s.calls k1 _ _ l0 ((Z03 l1 x7_1).f0) ((Z03 l1 x7_1).f1) _ _ ((Z03 l1 x7_1).f2) _ _ ((Z03 l1 x7_1).f3) ((Z03 l1 x7_1).f4) ((Z03 l1 x7_1).f5) false _ ?sT (tC HR0 HB) HC0.out ?s3 ?s4 ?s5 ?s6 A6.out).mono ?_);(case sT => exact Gc1);(case s3 => exact tC z19_ HB);(case s4 => exact z20_.out);(case s5 => exact tC z21_ HB);(case s6 => exact z22_.out);rintro e z23_ ⟨rfl,hb⟩;refine ⟨_,rfl,?_⟩;have z24_:=am (below_step (tB HB) hb);revert z24_;clear HB;intro HB;(try clear hb);(try clear hb2);(try clear hk);(try clear hi)))
     go_ret
     exact ⟨tE,by repeat (first | (with_reducible first | exact HB.out | apply below_alloc | apply pw_below_drewN | apply below_drew1) | exact HB.out)⟩)
  | (have mk_:=mk1_
     go_wp2_with (first | ((with_reducible refine gate_callee (f:=61) rfl ?_);refine goesL_ (some 19) rfl rfl Tryz.func61 (by kernel_rfl) rfl #[.slice A0 l0.length c0,.agg #[.int .i32 ((Z03 l1 x7_1).f0),.string ((Z03 l1 x7_1).f1),.slice z4_ ((Z03 l1 x7_1).f2).length z5_,.slice z6_ ((Z03 l1 x7_1).f3).length z7_,.bool ((Z03 l1 x7_1).f4),.bool ((Z03 l1 x7_1).f5)]] rfl Gc2 ?_;(with_reducible refine (Z0s.calls k1 _ _ l0 ((Z03 l1 x7_1).f0) ((Z03 l1 x7_1).f1) _ _ ((Z03 l1 x7_1).f2) _ _ ((Z03 l1 x7_1).f3) ((Z03 l1 x7_1).f4) ((Z03 l1 x7_1).f5) true _ ?sT (tC HR0 HB) HC0.out ?s3 ?s4 ?s5 ?s6 A6.out).mono ?_);(case sT => exact Gc1);(case s3 => exact tC z19_ HB);(case s4 => exact z20_.out);(case s5 => exact tC z21_ HB);(case s6 => exact z22_.out);rintro e z23_ ⟨rfl,hb⟩;refine ⟨_,rfl,?_⟩;have z24_:=am (below_step (tB HB) hb);revert z24_;clear HB;intro HB;(try clear hb);(try clear hb2);(try clear hk);(try clear hi)))
     go_roundg k1
     case measure => have:=HK1.out;omega
     case rel => exact ⟨(wrap64 (x7_1 + 1)),tV1,H',⟨by have:=HK1.out;omega⟩,⟨tB HB⟩⟩)):p:=h
set_option maxHeartbeats 8000000 in
set_option maxRecDepth 100000 in
theorem Z14.calls (k:Nat) (A0:Option Addr) (c0:Nat) (l0:List (S68)) (A1:Option Addr) (c1:Nat) (l1:List (S73)) (a2:ByteArray) (r:Bool) (w:World) (hT:Tabs w) (hr0:Kd.C k68 w A0 l0.length l0) (hc0:l0.length ≤ c0) (hr1:Kd.C k73 w A1 l1.length l1) (hc1:l1.length ≤ c1) (h:Z14.f k l0 l1 a2 = some r) :
 Calls Tryz.prog 95 #[.slice A0 l0.length c0,.slice A1 l1.length c1,.string a2] w fun e w' => e = .returned (.bool r) ∧ Below w.heap.size w w':=by
 have HT:=am hT;clear hT;have hu73:=Tryz.underlying73;have HR0:=am hr0;have HC0:=am hc0;clear hr0 hc0;have HR1:=am hr1;have HC1:=am hc1;clear hr1 hc1;have HB:=am (Below.refl w.heap.size w);have H:(Z14.l0 k l0 l1 a2 0) = some r:=h;clear h;have H':=am H;clear H;go_enter Tryz.func95,Tryz.ntmps95;go_wp2
 go_loopg [7] k (fun kq v7 w' => ∃ (x7_1:Int),v7 = .int .i64 x7_1 ∧ Aside0 (Z14.l0 kq l0 l1 a2 x7_1 = some r) ∧ Aside0 (kq ≤ k) ∧ Aside0 (Below w.heap.size w w'))
 case atStart => exact ⟨(0),tV1,H',⟨Nat.le_refl _⟩,⟨tB HB⟩⟩
 case round =>
  clear H';obtain ⟨x7_1,rfl,HA,HK1,HB⟩:=hrel
  cases gk with
  | zero => exact absurd HA.out (by simp [Z14.l0])
  | succ k1 =>
   have H:=HA.out;clear HA;simp only [Z14.l0] at H
   replace H:=iF H;obtain ⟨c4,H⟩ | ⟨c4,H⟩:=H
   ·
    have c4b0:decide (x7_1 < (l1.length:Int)) = true:=decide_eq_true c4;clear c4;replace H:=iFn H;obtain ⟨c5,H⟩:=H;have c5b0:decide (0 ≤ x7_1) = true:=decide_eq_true c5;clear c5;replace H:=bI H;obtain ⟨t395,A6,H⟩:=H;(try dsimp only at H)
    replace H:=iT H;obtain ⟨rfl,H⟩ | ⟨rfl,H⟩:=H
    ·
     have H':=am H;clear H;have mk1_:=trivial;exact Zdc
    ·
     obtain rfl:=Option.some.inj H;have mk0_:=trivial;exact Zdc
   ·
    have c4b0:decide (x7_1 < (l1.length:Int)) = false:=decide_eq_false c4;clear c4
    replace H:=iF H;obtain ⟨c10,H⟩ | ⟨c10,H⟩:=H;rotate_left
    ·
     have c10b0:decide ((l1.length:Int) ≤ 64) = false:=decide_eq_false c10;have c10b1:decide (l1.length ≤ 64) = false:=decide_eq_false (by omega);clear c10;obtain rfl:=Option.some.inj H;go_wp2;go_ret;exact ⟨tE,by repeat (first | (with_reducible first | exact HB.out | apply below_alloc | apply pw_below_drewN | apply below_drew1) | exact HB.out)⟩
    have c10b0:decide ((l1.length:Int) ≤ 64) = true:=decide_eq_true c10;have c10b1:decide (l1.length ≤ 64) = true:=decide_eq_true (by omega);clear c10;replace H:=bI H;obtain ⟨t396,A11,H⟩:=H;(try dsimp only at H)
    replace H:=iT H;obtain ⟨rfl,H⟩ | ⟨rfl,H⟩:=H
    ·
     replace H:=bI H;obtain ⟨t397,A13,H⟩:=H;(try dsimp only at H);obtain rfl:=Option.some.inj H
     go_wp2_with (first | (go_at_call 79;(with_reducible refine (Z0i.calls k1 _ _ l0 true _ (tC HR0 HB) HC0.out A11.out).mono ?_);rintro e w' ⟨rfl,⟨nd,rfl⟩⟩) | (go_at_call 82;(with_reducible refine (Z15.calls _ _ l0 a2 t397 _ ?sT ?s1 HC0.out A13.out).mono ?_);(case sT => exact Gc1);(case s1 => exact Gc9);rintro e w14 ⟨rfl,hb⟩;have n0_:=am (below_step (tB HB) hb);revert n0_;clear HB;intro HB;(try clear hb);(try clear hb2);(try clear hk);(try clear hi)))
     go_ret;exact ⟨tE,by repeat (first | (with_reducible first | exact HB.out | apply below_alloc | apply pw_below_drewN | apply below_drew1) | exact HB.out)⟩
    ·
     obtain rfl:=Option.some.inj H
     go_wp2_with (first | (go_at_call 79;(with_reducible refine (Z0i.calls k1 _ _ l0 false _ (tC HR0 HB) HC0.out A11.out).mono ?_);rintro e w' ⟨rfl,⟨nd,rfl⟩⟩))
     go_ret;exact ⟨tE,by repeat (first | (with_reducible first | exact HB.out | apply below_alloc | apply pw_below_drewN | apply below_drew1) | exact HB.out)⟩
def Z1d.l0:Nat → List Int → Int → Int → Option (Bool)
 | 0,_,_,_ => none
 | k + 1,x0,x1,x5 => if x5 < (x0.length:Int) then (if 0 ≤ x5 then (if (rd x0 x5) = x1 then (some true) else (Z1d.l0 k x0 x1 (wrap64 (x5 + 1)))) else (none)) else (some false)
def Z1d.f (k:Nat) (l0:List Int) (a1:Int):Option (Bool):=Z1d.l0 k l0 a1 0
set_option maxHeartbeats 8000000 in
set_option maxRecDepth 100000 in
theorem Z1d.calls (k:Nat) (A0:Option Addr) (c0:Nat) (l0:List Int) (a1:Int) (r:Bool) (w:World) (hr0:Kd.C (Kd.int .i32) w A0 l0.length l0) (hc0:l0.length ≤ c0) (h:Z1d.f k l0 a1 = some r) :
 Calls Tryz.prog 116 #[.slice A0 l0.length c0,.int .i32 a1] w fun e w' => e = .returned (.bool r) ∧ Drawn0 w w':=by
 have HR0:=am hr0;have HC0:=am hc0;clear hr0 hc0;have H:(Z1d.l0 k l0 a1 0) = some r:=h;clear h;have H':=am H;clear H;go_enter Tryz.func116,Tryz.ntmps116;go_wp2
 go_loopg [5] k (fun kq v5 w' => ∃ (x5_1:Int),v5 = .int .i64 x5_1 ∧ Aside0 (Z1d.l0 kq l0 a1 x5_1 = some r) ∧ Aside0 (kq ≤ k) ∧ Drawn0 w w')
 case atStart => exact ⟨(0),tV1,H',⟨Nat.le_refl _⟩,by repeat (first | exact Drawn0.refl _ | apply Drawn0.step)⟩
 case round =>
  clear H';obtain ⟨x5_1,rfl,HA,HK1,⟨m1,rfl⟩⟩:=hrel
  cases gk with
  | zero => exact absurd HA.out (by simp [Z1d.l0])
  | succ k1 =>
   have H:=HA.out;clear HA;simp only [Z1d.l0] at H
   replace H:=iF H;obtain ⟨c3,H⟩ | ⟨c3,H⟩:=H;rotate_left
   ·
    have c3b0:decide (x5_1 < (l0.length:Int)) = false:=decide_eq_false c3;clear c3;obtain rfl:=Option.some.inj H;go_wp2;go_ret;exact ⟨by first | rfl | (simp;done) | (simp [*];done),by repeat (first | exact Drawn0.refl _ | apply Drawn0.step)⟩
   have c3b0:decide (x5_1 < (l0.length:Int)) = true:=decide_eq_true c3;clear c3;replace H:=iFn H;obtain ⟨c4,H⟩:=H;have c4b0:decide (0 ≤ x5_1) = true:=decide_eq_true c4;clear c4
   replace H:=iE H;obtain ⟨-,c5b0,c5b1,H⟩ | ⟨c5,c5b0,c5b1,H⟩:=H
   ·
    obtain rfl:=Option.some.inj H;have p398:0 ≤ (x5_1:Int):=oD;have q398:x5_1 < (l0.length:Int):=oD;obtain ⟨ad398,e398,hx398_0⟩:=Kd.at_int HR0.out x5_1 p398 q398;cases e398;replace p398:=eq_true p398;replace q398:=eq_true q398;go_wp2;go_ret;exact ⟨by first | rfl | (simp;done) | (simp [*];done),by repeat (first | exact Drawn0.refl _ | apply Drawn0.step)⟩
   ·
    have H':=am H;clear H;have p398:0 ≤ (x5_1:Int):=oD;have q398:x5_1 < (l0.length:Int):=oD;obtain ⟨ad398,e398,hx398_0⟩:=Kd.at_int HR0.out x5_1 p398 q398;cases e398;replace p398:=eq_true p398;replace q398:=eq_true q398;go_wp2
    go_roundg k1
    case measure => have:=HK1.out;omega
    case rel => exact ⟨(wrap64 (x5_1 + 1)),tV1,H',⟨by have:=HK1.out;omega⟩,by repeat (first | exact Drawn0.refl _ | apply Drawn0.step)⟩
end Go.Proofs.YtfbhdjflkaldgaaGreatDoor.Pr

namespace Go.Proofs.YtfbhdjflkaldgaaGreatDoor.Pr
open Go.Proofs.YtfbhdjflkaldgaaGreatDoor.Ct Go.RowKit Go.Maps Go.Lib Go.Proofs.YtfbhdjflkaldgaaGreatDoorW.PrintWords Go.Proofs.YtfbhdjflkaldgaaGreatDoorW.PrintLast Go.Proofs.YtfbhdjflkaldgaaGreatDoorW.PrintMore
set_option linter.unusedVariables false
theorem Z79 {ops:Array Oper} {rest:List Oper} {o:Oper} {a:Act} {Q:Exit → Act → World → Prop} {w0 W:World} (base:Nat) (hgd:o.guard = none) {N:Tmp} (_hd:o.dst = some N) (x:Operand) (ho:o.op = .convert 9 109 x) (s:ByteArray) (hx:a.eval x = .string s) (hsz:s.size ≤ 70368744177664) (HB:Below base w0 W) (hbase:base ≤ W.heap.size)
    (h:∀ v1 w1,Kd.R (Kd.int .i32) 21 w1 base (fun _ => True) v1 (Z0d s) → Below base w0 w1 → W.grownBy w1 none → (∃ b,v1.ownBlock = some b ∧ W.heap.size ≤ b) → wpList Tryz.prog ops Q rest (a.put o.dst v1) w1):wpList Tryz.prog ops Q (o :: rest) a W:=by
  have hcv:=Z5d W 9 109 21 s Tryz.underlying9 Tryz.underlying109 Tryz.underlying21 hsz;have hcap:=grownCap_ge W (Z0d s).length 0 21;have hcapM:=grownCap_le_maxLen W (Z0d s).length 0 21 (by have:=Z23 s;simp only [maxLen];omega);obtain ⟨cap,hcapE⟩:∃ cap,grownCap W (Z0d s).length 0 21 = cap:=⟨_,rfl⟩;rw [hcapE] at hcv hcap hcapM
  have hrun:(execOp a.eval o).run Tryz.prog W = .ok (.value (.slice (some ⟨W.heap.size,0,none⟩) (Z0d s).length cap)) (W.drew.alloc (.cells (((Z0d s).map (Value.int .i32)).toArray ++ Array.replicate (cap - (Z0d s).length) (.int .i32 0)) 21)):=by
    unfold execOp
    simp [ho,hx,hcv]
  have hB1:Below W.heap.size W (W.drew.alloc (.cells (((Z0d s).map (Value.int .i32)).toArray ++ Array.replicate (cap - (Z0d s).length) (.int .i32 0)) 21)):=(Below.refl _ W).drew.alloc (Nat.le_refl _) _
  have hO:(W.drew.alloc (.cells (((Z0d s).map (Value.int .i32)).toArray ++ Array.replicate (cap - (Z0d s).length) (.int .i32 0)) 21)).ownsRow base 21 1 (.slice (some ⟨W.heap.size,0,none⟩) (Z0d s).length cap) (Z0d s).length ((Z0d s).map (Value.int .i32)):=by
    refine ⟨by simp,.inr ⟨W.heap.size,cap,_,rfl,hbase,World.alloc_heap_new W.drew _,hcap,hcapM,?_,?_⟩⟩
    · simp;omega
    · simp
  exact Kd.event_run hgd hrun (h _ _ (Zio hO) (HB.trans (hB1.mono hbase)) (grown_of_below hB1 none) ⟨W.heap.size,rfl,Nat.le_refl _⟩)
theorem Zhp {ops:Array Oper} {Kc:Act → World → Prop} {o:Oper} {a:Act} {Q:Exit → Act → World → Prop} {w0 W:World} (base:Nat) (hw:Region.wanted o (yielded ops a.tmps) = true) {N:Tmp} (_hd:o.dst = some N) (x:Operand) (ho:o.op = .convert 9 109 x) (s:ByteArray) (hx:a.eval x = .string s) (hsz:s.size ≤ 70368744177664) (HB:Below base w0 W) (hbase:base ≤ W.heap.size)
    (h:∀ v1 w1,Kd.R (Kd.int .i32) 21 w1 base (fun _ => True) v1 (Z0d s) → Below base w0 w1 → W.grownBy w1 none → (∃ b,v1.ownBlock = some b ∧ W.heap.size ≤ b) → Kc (a.put o.dst v1) w1):if Region.wanted o (yielded ops a.tmps) = true then Oper.wp Tryz.prog o a W Kc Q else Kc (a.put o.dst undef) W:=by
  have hcv:=Z5d W 9 109 21 s Tryz.underlying9 Tryz.underlying109 Tryz.underlying21 hsz;have hcap:=grownCap_ge W (Z0d s).length 0 21;have hcapM:=grownCap_le_maxLen W (Z0d s).length 0 21 (by have:=Z23 s;simp only [maxLen];omega);obtain ⟨cap,hcapE⟩:∃ cap,grownCap W (Z0d s).length 0 21 = cap:=⟨_,rfl⟩;rw [hcapE] at hcv hcap hcapM
  have hrun:(execOp a.eval o).run Tryz.prog W = .ok (.value (.slice (some ⟨W.heap.size,0,none⟩) (Z0d s).length cap)) (W.drew.alloc (.cells (((Z0d s).map (Value.int .i32)).toArray ++ Array.replicate (cap - (Z0d s).length) (.int .i32 0)) 21)):=by
    unfold execOp
    simp [ho,hx,hcv]
  have hB1:Below W.heap.size W (W.drew.alloc (.cells (((Z0d s).map (Value.int .i32)).toArray ++ Array.replicate (cap - (Z0d s).length) (.int .i32 0)) 21)):=(Below.refl _ W).drew.alloc (Nat.le_refl _) _
  have hO:(W.drew.alloc (.cells (((Z0d s).map (Value.int .i32)).toArray ++ Array.replicate (cap - (Z0d s).length) (.int .i32 0)) 21)).ownsRow base 21 1 (.slice (some ⟨W.heap.size,0,none⟩) (Z0d s).length cap) (Z0d s).length ((Z0d s).map (Value.int .i32)):=by
    refine ⟨by simp,.inr ⟨W.heap.size,cap,_,rfl,hbase,World.alloc_heap_new W.drew _,hcap,hcapM,?_,?_⟩⟩
    · simp;omega
    · simp
  exact event_step hw hrun (h _ _ (Zio hO) (HB.trans (hB1.mono hbase)) (grown_of_below hB1 none) ⟨W.heap.size,rfl,Nat.le_refl _⟩)
end Go.Proofs.YtfbhdjflkaldgaaGreatDoor.Pr

namespace Go.Proofs.YtfbhdjflkaldgaaGreatDoor.Pr
open Go.Proofs.YtfbhdjflkaldgaaGreatDoor.Ct Go.RowKit Go.Proofs.YtfbhdjflkaldgaaGreatDoorW.PrintWords Go.Proofs.YtfbhdjflkaldgaaGreatDoorW.PrintLast Go.Proofs.YtfbhdjflkaldgaaGreatDoorW.PrintMore
attribute [local go_sem] max2_int min2_int max_two min_two max_three min_three max_four min_four
set_option linter.unusedVariables false
set_option linter.unusedSimpArgs false
def Z1c.f (k:Nat) (l0:List (S68)) (a1_0:Int) (a1_1:ByteArray) (a1_2:Bool) (a1_3:Bool) (a2:Int):Option (Bool):=(Z0h.f k l0 a2).bind fun t400 => (if t400 < 0 then (some false) else (if 0 ≤ t400 then (if t400 < (l0.length:Int) then (if (Go.bits .and .u32 ((Z0v l0 t400).f1) a1_0) = a1_0 then (if a1_1.toList = ([]:List UInt8) then (some (true != a1_2)) else (if a1_1.size ≤ 70368744177664 then ((Z1d.f k (Z0d a1_1) a2).bind fun t405 => (some (t405 != a1_2))) else (none))) else (some (false != a1_2))) else (none)) else (none)))
def Z1c.T4:Bool × List (List Nat × List Nat):=(true,[([],[]),([],[]),([0,1],[0,1]),([2],[2]),([3],[3]),([],[]),([5],[5]),([4,6],[4,6]),([],[]),([8],[8]),([7,9],[7,9]),([10],[10]),([11],[11]),([12,11],[11,12]),([13,11],[11,13]),([14,11,11],[11,14]),([15],[15]),([16,15],[15,16]),([17,15],[15,17]),([15],[15]),([18,19,15,15],[15,18,19]),([15,20,11],[11,15,20]),([11,21],[11,21]),([22,20,0,1,2,3,4,5,6,7,8,9,10,11,12,13,14,15,16,17,18,19,20,21,22],[22])])
def Z1c.B4:List Nat:=[0,0,3,7,15,0,32,127,0,256,1023,2047,4095,8191,16383,32767,65535,131071,262143,65535,1048575,2097151,4194303,8388607]
theorem Z1c.tab4:rtab .any (opsOf Tryz.f113 4) = Z1c.T4:=by kernel_rfl
theorem Z1c.bits4:waitsOk Z1c.T4.2 Z1c.B4 = true:=by kernel_rfl
theorem Za5 {p:Prop} (h:p:=by
  refine pT 22 36 ?_
  refine pT 23 8 ?_
  refine done_ (done_of HT_.out (by kernel_rfl)) ?_
  obtain ⟨z1_,z2_,z3_,z4_,z5_,z6_,z7_,z8_⟩:=bx4 BK399
  try go_wp2
  go_ret
  exact ⟨tE,by repeat (first | (with_reducible first | exact HB.out | apply below_alloc | apply pw_below_drewN | apply below_drew1 | refine below_set ?_ GE399.out) | exact HB.out)⟩):p:=h
set_option maxRecDepth 1000000 in
theorem Z8f {p:Prop} (h:p:=by
  have n0_:=am (blk_drew BK399.out);have n1_:=am (below_drew1 HB.out);revert n0_ n1_;clear BK399 HB;intro BK399 HB;have p401:0 ≤ (t400:Int):=oD;have q401:t400 < (l0.length:Int):=oD;obtain ⟨ad401,e401,hx401_0,hx401_1⟩:=Z3s HR0.out t400 p401 q401;have hw401_1:=hx401_1;have hw401_0:=hx401_0;cases e401;replace hx401_0:=celB HB hx401_0;replace hx401_1:=celB HB hx401_1;replace p401:=eq_true p401;replace q401:=eq_true q401
  refine start_ (n:=24) (S:=fun w' => w'.cell? ⟨gb399,0,none⟩ = some (.int .u32 a1_0) ∧ w'.cell? ⟨gb399,1,none⟩ = some (.string a1_1) ∧ w'.cell? ⟨gb399,2,none⟩ = some (.bool a1_2) ∧ w'.cell? ⟨gb399,3,none⟩ = some (.bool a1_3) ∧ w'.cell? (ad401.add ((t400).toNat * 2)) = some (.int .i32 ((Z0v l0 t400).f0)) ∧ w'.cell? ⟨(ad401.add ((t400).toNat * 2)).block,(ad401.add ((t400).toNat * 2)).off + 1,none⟩ = some (.int .u32 ((Z0v l0 t400).f1))) (ds:=[]) #[false,false,false,false,false,false,false,false,false,false,false,false,false,false,false,false,false,false,false,false,false,false,false,false] (by kernel_rfl) rfl rfl ⟨(blk_cell BK399.out 0).trans rfl,(blk_cell BK399.out 1).trans rfl,(blk_cell BK399.out 2).trans rfl,(blk_cell BK399.out 3).trans rfl,((HB.out.cell (World.block_lt_of_cell? w _ hw401_0)).trans hw401_0),((HB.out.cell (World.block_lt_of_cell? w _ hw401_1)).trans hw401_1)⟩ (fun hHeld => ?_);refine with_tabW Z1c.tab4 Z1c.bits4 (fun HT_ HW_ => ?_)
  first
  | (have mk_:=mk0_
     generalize w16.drew = w17 at BK399 HB hx401_0 hx401_1 hHeld ⊢
     refine pT 0 14 ?_
     refine pT 1 15 ?_
     refine pT 2 16 ?_
     refine pT 3 17 ?_
     refine pT 5 19 ?_
     refine pT 8 22 ?_
     refine tTt 4 18 hHeld ?_
     refine tTt 6 20 hHeld ?_
     refine pT 7 21 ?_
     refine tTt 9 23 hHeld ?_
     refine pT 10 24 ?_
     refine pT 11 25 ?_
     refine pT 12 26 ?_
     refine tTt 13 27 hHeld ?_
     refine pT 14 28 ?_
     refine pT 15 29 ?_
     refine pT 16 30 ?_
     refine pT 19 33 ?_
     refine tTt 17 31 hHeld ?_
     refine one_ (i:=18) (N:=some 32) #[true,true,true,true,true,true,true,true,true,true,true,true,true,true,true,true,true,true,true,true,false,false,false,false] rfl rfl (one_of HT_.out (by kernel_rfl)) (by decide) (fun K hK => ?_)
     refine Zhp _ (by rfl) (N:=32) rfl _ rfl a1_1 rfl (oD) (Below.refl _ _) (Nat.le_refl _) ?_
     intro v403 w18 ho19 hb hg_ hnew_;clear hg_ hnew_
     (first | rw [← Ny402.out] at ho19 | (simp only [Int.reduceToNat] at ho19;rw [← Ny402.out] at ho19))
     have n0_:=am (Kd.R_lower ho19 (tS HB));have n1_:=am (blk_below (tK BK399) hb);have n2_:=am (below_step (tB HB) hb);revert n0_ n1_ n2_;clear BK399 HB;intro HO404 BK399 HB;clear hb ho19;obtain ⟨Ao20,co20,eo20⟩:=Kd.R_slice HO404.out
     (first | subst eo20 | (injection eo20 with f1_ f2_ f3_;have f4_:=f1_.symm;have f5_:=f3_.symm;clear f1_ f2_ f3_;subst f4_;subst f5_))
     refine hK.out _ _ ⟨(blk_cell BK399.out 0).trans rfl,(blk_cell BK399.out 1).trans rfl,(blk_cell BK399.out 2).trans rfl,(blk_cell BK399.out 3).trans rfl,((HB.out.cell (World.block_lt_of_cell? w _ hw401_0)).trans hw401_0),((HB.out.cell (World.block_lt_of_cell? w _ hw401_1)).trans hw401_1)⟩ (fun hHeld => ?_)
     clear hK K
     refine nR 32 ?_
     refine one_ (i:=20) (N:=some 34) #[true,true,true,true,true,true,true,true,true,true,true,true,true,true,true,true,true,true,true,true,true,false,false,false] rfl rfl (one_of HT_.out (by kernel_rfl)) (by decide) (fun K hK => ?_)
     refine goes_ Tryz.func116 (by kernel_rfl) rfl #[.slice Ao20 y402.length co20,.int .i32 a2] (by rfl) rfl rfl Gc2 ?_
     with_reducible refine (Z1d.calls k _ _ y402 a2 t405 _ ?s1 ?s2 A15.out).mono ?_
     (case s1 => repeat (first | exact (Kd.R_reads' HO404.out).2.2 | (with_reducible refine Kd.C_alloc ?_ _) | (with_reducible refine Kd.C_drewN ?_ _) | (with_reducible refine Kd.C_drew ?_)));(case s2 => exact (Kd.R_reads' HO404.out).2.1);rintro e w' ⟨rfl,⟨nd,rfl⟩⟩
     refine ⟨_,rfl,?_⟩
     refine hK.out _ _ ⟨(blk_cell BK399.out 0).trans rfl,(blk_cell BK399.out 1).trans rfl,(blk_cell BK399.out 2).trans rfl,(blk_cell BK399.out 3).trans rfl,((HB.out.cell (World.block_lt_of_cell? w _ hw401_0)).trans hw401_0),((HB.out.cell (World.block_lt_of_cell? w _ hw401_1)).trans hw401_1)⟩ (fun hHeld => ?_)
     clear hK K
     refine nR 34 ?_
     refine pT 21 35 ?_
     exact Za5)
  | (have mk_:=mk1_
     generalize w11.drew = w12 at BK399 HB hx401_0 hx401_1 hHeld ⊢
     refine pT 0 14 ?_
     refine pT 1 15 ?_
     refine pT 2 16 ?_
     refine pT 3 17 ?_
     refine pT 5 19 ?_
     refine pT 8 22 ?_
     refine tTt 4 18 hHeld ?_
     refine tTt 6 20 hHeld ?_
     refine pT 7 21 ?_
     refine tTt 9 23 hHeld ?_
     refine pT 10 24 ?_
     refine pT 11 25 ?_
     refine pT 12 26 ?_
     refine tTt 13 27 hHeld ?_
     refine pT 14 28 ?_
     refine pT 15 29 ?_
     refine uT 16 30 ?_
     refine uT 17 31 ?_
     refine uT 18 32 ?_
     refine uT 19 33 ?_
     refine uT 20 34 ?_
     refine pT 21 35 ?_
     exact Za5)
  | (have mk_:=mk2_
     generalize w22.drew = w23 at BK399 HB hx401_0 hx401_1 hHeld ⊢
     refine pT 0 14 ?_
     refine pT 1 15 ?_
     refine pT 2 16 ?_
     refine pT 3 17 ?_
     refine pT 5 19 ?_
     refine pT 8 22 ?_
     refine tTt 4 18 hHeld ?_
     refine tTt 6 20 hHeld ?_
     refine pT 7 21 ?_
     refine tTt 9 23 hHeld ?_
     refine pT 10 24 ?_
     refine pT 11 25 ?_
     refine uT 12 26 ?_
     refine uT 13 27 ?_
     refine uT 14 28 ?_
     refine uT 15 29 ?_
     refine uT 16 30 ?_
     refine uT 17 31 ?_
     refine uT 18 32 ?_
     refine uT 19 33 ?_
     refine uT 20 34 ?_
     refine uT 21 35 ?_
     exact Za5)):p:=h
set_option maxHeartbeats 8000000 in
set_option maxRecDepth 100000 in
theorem Z1c.calls (k:Nat) (A0:Option Addr) (c0:Nat) (l0:List (S68)) (a1_0:Int) (a1_1:ByteArray) (a1_2:Bool) (a1_3:Bool) (a2:Int) (r:Bool) (w:World) (hr0:Kd.C k68 w A0 l0.length l0) (hc0:l0.length ≤ c0) (h:Z1c.f k l0 a1_0 a1_1 a1_2 a1_3 a2 = some r) :
 Calls Tryz.prog 113 #[.slice A0 l0.length c0,.agg #[.int .u32 a1_0,.string a1_1,.bool a1_2,.bool a1_3],.int .i32 a2] w fun e w' => e = .returned (.bool r) ∧ Below w.heap.size w w':=by
 have hu70:=Tryz.underlying70;have HR0:=am hr0;have HC0:=am hc0;clear hr0 hc0;have HB:=am (Below.refl w.heap.size w);have H:((Z0h.f k l0 a2).bind fun t400 => (if t400 < 0 then (some false) else (if 0 ≤ t400 then (if t400 < (l0.length:Int) then (if (Go.bits .and .u32 ((Z0v l0 t400).f1) a1_0) = a1_0 then (if a1_1.toList = ([]:List UInt8) then (some (true != a1_2)) else (if a1_1.size ≤ 70368744177664 then ((Z1d.f k (Z0d a1_1) a2).bind fun t405 => (some (t405 != a1_2))) else (none))) else (some (false != a1_2))) else (none)) else (none)))) = some r:=h;clear h;replace H:=bI H;obtain ⟨t400,A4,H⟩:=H;(try dsimp only at H)
 replace H:=iF H;obtain ⟨c5,H⟩ | ⟨c5,H⟩:=H
 ·
  have c5b0:decide (t400 < 0) = true:=decide_eq_true c5;clear c5;obtain rfl:=Option.some.inj H;go_enter Tryz.func113,Tryz.ntmps113
  go_wp2_with (first | ((with_reducible refine gate_dst (N:=4) rfl ?_);(try (refine gate_guard (by rfl) ?_;dsimp only));refine box_event ?hg (N:=4) ?hd (cs:=#[.int .u32 a1_0,.string a1_1,.bool a1_2,.bool a1_3]) (t:=70) ?hr ?_;(case hd => rfl);(case hg => rfl);(case hr => exact Gc5);intro gb399 hg w6 hbox hb;have n0_:=am (below_step (tB HB) hb);have n1_:=am (hbox);have n2_:=tZ hg (tS HB);have n3_:=tZ hg (tS HB);revert n0_ n1_ n2_ n3_;clear HB;intro HB BK399 GW399 GE399;clear hb hbox hg) | ((with_reducible refine gate_callee (f:=59) rfl ?_);refine goesL_ (some 11) rfl rfl Tryz.func59 (by kernel_rfl) rfl #[.slice A0 l0.length c0,.int .i32 a2] rfl Gc2 ?_;(with_reducible refine (Z0h.calls k _ _ l0 a2 t400 _ (tC HR0 HB) HC0.out A4.out).mono ?_);rintro e w' ⟨rfl,⟨nd,rfl⟩⟩;refine ⟨_,rfl,?_⟩))
  go_ret;exact ⟨tE,by repeat (first | (with_reducible first | exact HB.out | apply below_alloc | apply pw_below_drewN | apply below_drew1 | refine below_set ?_ GE399.out) | exact HB.out)⟩
 ·
  have c5b0:decide (t400 < 0) = false:=decide_eq_false c5;clear c5;replace H:=iFn H;obtain ⟨c7,H⟩:=H;have c7b0:decide (0 ≤ t400) = true:=decide_eq_true c7;clear c7;replace H:=iFn H;obtain ⟨c8,H⟩:=H;have c8b0:decide (t400 < (l0.length:Int)) = true:=decide_eq_true c8;clear c8
  replace H:=iE H;obtain ⟨-,c9b0,c9b1,H⟩ | ⟨c9,c9b0,c9b1,H⟩:=H
  ·
   replace H:=iE H;obtain ⟨-,c10b0,c10b1,H⟩ | ⟨c10,c10b0,c10b1,H⟩:=H
   ·
    obtain rfl:=Option.some.inj H;go_enter Tryz.func113,Tryz.ntmps113
    try go_wp2_with (first | ((with_reducible refine gate_dst (N:=4) rfl ?_);(try (refine gate_guard (by rfl) ?_;dsimp only));refine box_event ?hg (N:=4) ?hd (cs:=#[.int .u32 a1_0,.string a1_1,.bool a1_2,.bool a1_3]) (t:=70) ?hr ?_;(case hd => rfl);(case hg => rfl);(case hr => exact Gc5);intro gb399 hg w11 hbox hb;have n0_:=am (below_step (tB HB) hb);have n1_:=am (hbox);have n2_:=tZ hg (tS HB);have n3_:=tZ hg (tS HB);revert n0_ n1_ n2_ n3_;clear HB;intro HB BK399 GW399 GE399;clear hb hbox hg) | ((with_reducible refine gate_callee (f:=59) rfl ?_);refine goesL_ (some 11) rfl rfl Tryz.func59 (by kernel_rfl) rfl #[.slice A0 l0.length c0,.int .i32 a2] rfl Gc2 ?_;(with_reducible refine (Z0h.calls k _ _ l0 a2 t400 _ (tC HR0 HB) HC0.out A4.out).mono ?_);rintro e w' ⟨rfl,⟨nd,rfl⟩⟩;refine ⟨_,rfl,?_⟩))
    (try (rw [drewN_self w11];generalize hq_:World.drewN w11 _ = w11;have n0_:Aside0 (w11.heap[gb399]? = some (.cells #[.int .u32 a1_0,.string a1_1,.bool a1_2,.bool a1_3] 70 (0,0))):=⟨by rw [← hq_];exact (tK BK399)⟩;have n1_:Aside0 (Below w.heap.size w w11):=⟨by rw [← hq_];exact (tB HB)⟩;clear BK399 HB hq_;have BK399:=n0_;have HB:=n1_;clear n0_ n1_));have mk1_:=trivial;exact Z8f
   ·
    replace H:=iFn H;obtain ⟨c14,H⟩:=H;have c14b0:=eq_true c14;have c14b1:decide (a1_1.size ≤ 70368744177664) = true:=decide_eq_true c14;clear c14;obtain ⟨y402,hy402⟩:∃ y_:List Int,y_ = (Z0d a1_1):=⟨_,rfl⟩
    replace H:((Z1d.f k y402 a2).bind fun t405 => (some (t405 != a1_2))) = some r:=by first | (rw [hy402];with_reducible exact H) | (have H2_:=(Option.bind_some _ _).symm.trans H;rw [hy402];with_reducible exact H2_) | (have H2_:=(Option.bind_some _ _).symm.trans H;with_reducible exact H2_) | with_reducible exact H | (rw [hy402];exact H) | exact H
    have Ny402:=am hy402;clear hy402;replace H:=bI H;obtain ⟨t405,A15,H⟩:=H;(try dsimp only at H);obtain rfl:=Option.some.inj H;go_enter Tryz.func113,Tryz.ntmps113
    try go_wp2_with (first | ((with_reducible refine gate_dst (N:=4) rfl ?_);(try (refine gate_guard (by rfl) ?_;dsimp only));refine box_event ?hg (N:=4) ?hd (cs:=#[.int .u32 a1_0,.string a1_1,.bool a1_2,.bool a1_3]) (t:=70) ?hr ?_;(case hd => rfl);(case hg => rfl);(case hr => exact Gc5);intro gb399 hg w16 hbox hb;have n0_:=am (below_step (tB HB) hb);have n1_:=am (hbox);have n2_:=tZ hg (tS HB);have n3_:=tZ hg (tS HB);revert n0_ n1_ n2_ n3_;clear HB;intro HB BK399 GW399 GE399;clear hb hbox hg) | ((with_reducible refine gate_callee (f:=59) rfl ?_);refine goesL_ (some 11) rfl rfl Tryz.func59 (by kernel_rfl) rfl #[.slice A0 l0.length c0,.int .i32 a2] rfl Gc2 ?_;(with_reducible refine (Z0h.calls k _ _ l0 a2 t400 _ (tC HR0 HB) HC0.out A4.out).mono ?_);rintro e w' ⟨rfl,⟨nd,rfl⟩⟩;refine ⟨_,rfl,?_⟩))
    (try (rw [drewN_self w16];generalize hq_:World.drewN w16 _ = w16;have n0_:Aside0 (w16.heap[gb399]? = some (.cells #[.int .u32 a1_0,.string a1_1,.bool a1_2,.bool a1_3] 70 (0,0))):=⟨by rw [← hq_];exact (tK BK399)⟩;have n1_:Aside0 (Below w.heap.size w w16):=⟨by rw [← hq_];exact (tB HB)⟩;clear BK399 HB hq_;have BK399:=n0_;have HB:=n1_;clear n0_ n1_));have mk0_:=trivial;exact Z8f
  ·
   obtain rfl:=Option.some.inj H;go_enter Tryz.func113,Tryz.ntmps113
   try go_wp2_with (first | ((with_reducible refine gate_dst (N:=4) rfl ?_);(try (refine gate_guard (by rfl) ?_;dsimp only));refine box_event ?hg (N:=4) ?hd (cs:=#[.int .u32 a1_0,.string a1_1,.bool a1_2,.bool a1_3]) (t:=70) ?hr ?_;(case hd => rfl);(case hg => rfl);(case hr => exact Gc5);intro gb399 hg w22 hbox hb;have n0_:=am (below_step (tB HB) hb);have n1_:=am (hbox);have n2_:=tZ hg (tS HB);have n3_:=tZ hg (tS HB);revert n0_ n1_ n2_ n3_;clear HB;intro HB BK399 GW399 GE399;clear hb hbox hg) | ((with_reducible refine gate_callee (f:=59) rfl ?_);refine goesL_ (some 11) rfl rfl Tryz.func59 (by kernel_rfl) rfl #[.slice A0 l0.length c0,.int .i32 a2] rfl Gc2 ?_;(with_reducible refine (Z0h.calls k _ _ l0 a2 t400 _ (tC HR0 HB) HC0.out A4.out).mono ?_);rintro e w' ⟨rfl,⟨nd,rfl⟩⟩;refine ⟨_,rfl,?_⟩))
   (try (rw [drewN_self w22];generalize hq_:World.drewN w22 _ = w22;have n0_:Aside0 (w22.heap[gb399]? = some (.cells #[.int .u32 a1_0,.string a1_1,.bool a1_2,.bool a1_3] 70 (0,0))):=⟨by rw [← hq_];exact (tK BK399)⟩;have n1_:Aside0 (Below w.heap.size w w22):=⟨by rw [← hq_];exact (tB HB)⟩;clear BK399 HB hq_;have BK399:=n0_;have HB:=n1_;clear n0_ n1_));have mk2_:=trivial;exact Z8f
end Go.Proofs.YtfbhdjflkaldgaaGreatDoor.Pr
