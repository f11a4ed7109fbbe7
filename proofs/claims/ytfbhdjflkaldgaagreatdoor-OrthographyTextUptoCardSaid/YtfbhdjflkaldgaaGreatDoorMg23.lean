/- Several texts in one: PrF83, PrF84, PrF63, PrF44, PrF23. -/
import Derived.Test.YtfbhdjflkaldgaaGreatDoorMg1
import Derived.Test.YtfbhdjflkaldgaaGreatDoorMg2
import Derived.Test.YtfbhdjflkaldgaaGreatDoorMg22
import Derived.Test.YtfbhdjflkaldgaaGreatDoorMg3
import Derived.Test.YtfbhdjflkaldgaaGreatDoorMg12
import Derived.Test.YtfbhdjflkaldgaaGreatDoorMg20

namespace Go.Proofs.YtfbhdjflkaldgaaGreatDoor.Pr
open Go.Proofs.YtfbhdjflkaldgaaGreatDoor.Ct Go.RowKit Go.Proofs.YtfbhdjflkaldgaaGreatDoorW.PrintWords Go.Proofs.YtfbhdjflkaldgaaGreatDoorW.PrintLast Go.Proofs.YtfbhdjflkaldgaaGreatDoorW.PrintMore
attribute [local go_sem] max2_int min2_int max_two min_two max_three min_three max_four min_four
set_option linter.unusedVariables false
set_option linter.unusedSimpArgs false
def Z25.f (k:Nat) (l0:List (S68)) (l1:List (S73)) (a2:ByteArray):Option (ByteArray × Int):=(Z0j.f k l0 l1 a2).bind fun bt481 => (if bt481.2 = 0 then (if 0 ≤ (wrap64 ((bt481.1.length:Int) - 1)) then (if (wrap64 ((bt481.1.length:Int) - 1)) < (bt481.1.length:Int) then (some (rdOf ByteArray.empty bt481.1 (wrap64 ((bt481.1.length:Int) - 1)),0)) else (none)) else (none)) else (some ((⟨#[]⟩:ByteArray),bt481.2)))
set_option maxHeartbeats 8000000 in
set_option maxRecDepth 100000 in
theorem Z25.calls (k:Nat) (A0:Option Addr) (c0:Nat) (l0:List (S68)) (A1:Option Addr) (c1:Nat) (l1:List (S73)) (a2:ByteArray) (r1:ByteArray) (r2:Int) (w:World) (hT:Tabs w) (hr0:Kd.C k68 w A0 l0.length l0) (hc0:l0.length ≤ c0) (hr1:Kd.C k73 w A1 l1.length l1) (hc1:l1.length ≤ c1) (h:Z25.f k l0 l1 a2 = some (r1,r2)) :
 Calls Tryz.prog 83 #[.slice A0 l0.length c0,.slice A1 l1.length c1,.string a2] w fun e w' => e = .returned (.tuple #[.string r1,.int .i64 r2]) ∧ Below w.heap.size w w':=by
 have HT:=am hT;clear hT;have HR0:=am hr0;have HC0:=am hc0;clear hr0 hc0;have HR1:=am hr1;have HC1:=am hc1;clear hr1 hc1;have HB:=am (Below.refl w.heap.size w);have H:((Z0j.f k l0 l1 a2).bind fun bt481 => (if bt481.2 = 0 then (if 0 ≤ (wrap64 ((bt481.1.length:Int) - 1)) then (if (wrap64 ((bt481.1.length:Int) - 1)) < (bt481.1.length:Int) then (some (rdOf ByteArray.empty bt481.1 (wrap64 ((bt481.1.length:Int) - 1)),0)) else (none)) else (none)) else (some ((⟨#[]⟩:ByteArray),bt481.2)))) = some (r1,r2):=h;clear h;replace H:=bI H;obtain ⟨⟨t481,t482⟩,A4,H⟩:=H;(try dsimp only at H)
 replace H:=iE H;obtain ⟨-,c5b0,c5b1,H⟩ | ⟨c5,c5b0,c5b1,H⟩:=H
 ·
  obtain ⟨ji6,hji6⟩:∃ j_:Int,(wrap64 ((t481.length:Int) - 1)) = j_:=⟨_,rfl⟩
  replace H:(if 0 ≤ (ji6) then (if (ji6) < (t481.length:Int) then (some (rdOf ByteArray.empty t481 (ji6),0)) else (none)) else (none)) = some (r1,r2):=by first | (rw [hji6] at H;exact H) | (simp only [hji6] at H ⊢;exact H)
  (try rw [hji6] at A4);have hji6w:(IntKind.i64.wrap ((t481.length:Int) - 1)) = ji6:=(i64_w _).trans hji6;replace H:=iFn H;obtain ⟨c7,H⟩:=H;have c7b0:decide (0 ≤ (ji6)) = true:=decide_eq_true c7;clear c7;replace H:=iFn H;obtain ⟨c8,H⟩:=H;have c8b0:decide ((ji6) < (t481.length:Int)) = true:=decide_eq_true c8;clear c8;simp only [Option.some.injEq,Prod.mk.injEq] at H;obtain ⟨rfl,rfl⟩:=H;go_enter Tryz.func83,Tryz.ntmps83
  go_wp2_with (first | ((with_reducible refine gate_callee (f:=91) rfl ?_);refine goesL_ (some 14) rfl rfl Tryz.func91 (by kernel_rfl) rfl #[.slice A0 l0.length c0,.slice A1 l1.length c1,.string a2] rfl Gc2 ?_;(with_reducible refine (Z0j.calls k _ _ l0 _ _ l1 a2 t481 t482 _ ?sT ?s1 HC0.out ?s3 HC1.out A4.out).mono ?_);(case sT => exact Gc1);(case s1 => exact Gc3);(case s3 => exact Gc8);rintro e w9 ⟨v483,rfl,ho0,hb⟩;refine ⟨_,rfl,?_⟩;have n0_:=am (Kd.R_lower ho0 (tS HB));have n1_:=am (below_step (tB HB) hb);revert n0_ n1_;clear HB;intro HO484 HB;(try clear hb);(try clear hb2);(try clear hk);(try clear hi);(try clear ho0);obtain ⟨Ao10,co10,eo10⟩:=Kd.R_slice HO484.out;subst eo10;have p485:0 ≤ ((ji6):Int):=oD;have q485:(ji6) < (t481.length:Int):=oD;obtain ⟨ad485,e485,hx485_0⟩:=Kd.at_string (Kd.R_reads' HO484.out).2.2 (ji6) p485 q485;cases e485;replace p485:=eq_true p485;replace q485:=eq_true q485))
  go_ret2;exact ⟨by first | rfl | (simp [Z3e,Z3f] <;> rfl) | (simp only [← hji6];first | rfl | (simp [Z3e,Z3f] <;> rfl)) | (simp [*,Z3e,Z3f] <;> rfl),by repeat (first | (with_reducible first | exact HB.out | apply below_alloc | apply pw_below_drewN | apply below_drew1) | exact HB.out)⟩
 ·
  simp only [Option.some.injEq,Prod.mk.injEq] at H;obtain ⟨rfl,rfl⟩:=H;go_enter Tryz.func83,Tryz.ntmps83
  go_wp2_with (first | ((with_reducible refine gate_callee (f:=91) rfl ?_);refine goesL_ (some 14) rfl rfl Tryz.func91 (by kernel_rfl) rfl #[.slice A0 l0.length c0,.slice A1 l1.length c1,.string a2] rfl Gc2 ?_;(with_reducible refine (Z0j.calls k _ _ l0 _ _ l1 a2 t481 t482 _ ?sT ?s1 HC0.out ?s3 HC1.out A4.out).mono ?_);(case sT => exact Gc1);(case s1 => exact Gc3);(case s3 => exact Gc8);rintro e w11 ⟨v483,rfl,ho0,hb⟩;refine ⟨_,rfl,?_⟩;have n0_:=am (Kd.R_lower ho0 (tS HB));have n1_:=am (below_step (tB HB) hb);revert n0_ n1_;clear HB;intro HO484 HB;(try clear hb);(try clear hb2);(try clear hk);(try clear hi);(try clear ho0)))
  go_ret2;exact ⟨tE,by repeat (first | (with_reducible first | exact HB.out | apply below_alloc | apply pw_below_drewN | apply below_drew1) | exact HB.out)⟩
def Z0x.l0:Nat → ByteArray → ByteArray → Int → Option (ByteArray)
 | 0,_,_,_ => none
 | k + 1,x0,x3,x4 => if x4 < (x0.size:Int) then (if 0 ≤ x4 then (if (bt x0 x4) = 61 then (Z0x.l0 k x0 x3 (wrap64 (x4 + 1))) else (if x4 ≤ (wrap64 (x4 + 1)) then (if (wrap64 (x4 + 1)) ≤ (x0.size:Int) then (if x3.size + (x0.extract (x4:Int).toNat ((wrap64 (x4 + 1)):Int).toNat).size ≤ 9223372036854775807 then (Z0x.l0 k x0 (x3 ++ (x0.extract (x4:Int).toNat ((wrap64 (x4 + 1)):Int).toNat)) (wrap64 (x4 + 1))) else (none)) else (none)) else (none))) else (none)) else (some x3)
def Z0x.f (k:Nat) (a0:ByteArray):Option (ByteArray):=Z0x.l0 k a0 (⟨#[]⟩:ByteArray) 0
set_option maxHeartbeats 8000000 in
set_option maxRecDepth 100000 in
theorem Z0x.calls (k:Nat) (a0:ByteArray) (r:ByteArray) (w:World) (h:Z0x.f k a0 = some r) :
 Calls Tryz.prog 84 #[.string a0] w fun e w' => e = .returned (.string r) ∧ Drawn0 w w':=by
 have H:(Z0x.l0 k a0 (⟨#[]⟩:ByteArray) 0) = some r:=h;clear h;have H':=am H;clear H;go_enter Tryz.func84,Tryz.ntmps84;go_wp2
 go_loopg [3,4] k (fun kq v3 v4 w' => ∃ (x3_1:ByteArray) (x4_1:Int),v3 = .string x3_1 ∧ v4 = .int .i64 x4_1 ∧ Aside0 (Z0x.l0 kq a0 x3_1 x4_1 = some r) ∧ Aside0 (kq ≤ k) ∧ Drawn0 w w')
 case atStart => exact ⟨((⟨#[]⟩:ByteArray)),(0),tV1,tV1,H',⟨Nat.le_refl _⟩,by repeat (first | exact Drawn0.refl _ | apply Drawn0.step)⟩
 case round =>
  clear H';obtain ⟨x3_1,x4_1,rfl,rfl,HA,HK1,⟨m1,rfl⟩⟩:=hrel
  cases gk with
  | zero => exact absurd HA.out (by simp [Z0x.l0])
  | succ k1 =>
   have H:=HA.out;clear HA;simp only [Z0x.l0] at H
   replace H:=iF H;obtain ⟨c2,H⟩ | ⟨c2,H⟩:=H;rotate_left
   ·
    have c2b0:decide (x4_1 < (a0.size:Int)) = false:=decide_eq_false c2;clear c2;obtain rfl:=Option.some.inj H;go_wp2;go_ret;exact ⟨by first | rfl | (simp;done) | (simp [*];done),by repeat (first | exact Drawn0.refl _ | apply Drawn0.step)⟩
   have c2b0:decide (x4_1 < (a0.size:Int)) = true:=decide_eq_true c2;clear c2;replace H:=iFn H;obtain ⟨c3,H⟩:=H;have c3b0:decide (0 ≤ x4_1) = true:=decide_eq_true c3;clear c3
   replace H:=iE H;obtain ⟨-,c5b0,c5b1,H⟩ | ⟨c5,c5b0,c5b1,H⟩:=H
   ·
    have H':=am H;clear H;have p4:0 ≤ (x4_1:Int):=oD;have q4:x4_1 < (a0.size:Int):=oD;have hx4:=bt_at a0 x4_1;replace p4:=eq_true p4;replace q4:=eq_true q4;go_wp2
    go_roundg k1
    case measure => have:=HK1.out;omega
    case rel => exact ⟨(x3_1),(wrap64 (x4_1 + 1)),tV1,tV1,H',⟨by have:=HK1.out;omega⟩,by repeat (first | exact Drawn0.refl _ | apply Drawn0.step)⟩
   ·
    have c6b0:=eq_true (oD:0 ≤ x4_1);replace H:=iFn H;obtain ⟨c7,H⟩:=H;have c7b0:=eq_true c7;have c7b1:decide (x4_1 ≤ (wrap64 (x4_1 + 1))) = true:=decide_eq_true c7;replace H:=iFn H;obtain ⟨c8,H⟩:=H;have c8b0:=eq_true c8;have c8b1:decide ((wrap64 (x4_1 + 1)) ≤ (a0.size:Int)) = true:=decide_eq_true c8;replace H:=iFn H;obtain ⟨c9,H⟩:=H;have c9b0:=eq_true c9;have c9b1:decide (x3_1.size + (a0.extract (x4_1:Int).toNat ((wrap64 (x4_1 + 1)):Int).toNat).size ≤ 9223372036854775807) = true:=decide_eq_true c9
    try have c9b2:(9223372036854775807 < x3_1.size + (a0.extract (x4_1:Int).toNat ((wrap64 (x4_1 + 1)):Int).toNat).size) = False:=eq_false (Nat.not_lt.2 c9)
    have H':=am H;clear H;have p4:0 ≤ (x4_1:Int):=oD;have q4:x4_1 < (a0.size:Int):=oD;have hx4:=bt_at a0 x4_1;replace p4:=eq_true p4;replace q4:=eq_true q4;go_wp2
    go_roundg k1
    case measure => have:=HK1.out;omega
    case rel => exact ⟨(x3_1 ++ (a0.extract (x4_1:Int).toNat ((wrap64 (x4_1 + 1)):Int).toNat)),(wrap64 (x4_1 + 1)),tV1,tV1,H',⟨by have:=HK1.out;omega⟩,by repeat (first | exact Drawn0.refl _ | apply Drawn0.step)⟩
def Z27.f (k:Nat) (l0:List (S68)) (l1:List (S73)) (a2:ByteArray) (a3:ByteArray):Option (ByteArray × Int):=(Z1g.f l0).bind fun t486 => (if a2.size + 1 ≤ 9223372036854775807 then (if (a2 ++ (⟨#[61]⟩:ByteArray)).size + a3.size ≤ 9223372036854775807 then ((Z15.f t486 ((a2 ++ (⟨#[61]⟩:ByteArray)) ++ a3)).bind fun t489 => (if t489 = true then ((Z25.f k t486 l1 ((a2 ++ (⟨#[61]⟩:ByteArray)) ++ a3)).bind fun bt490 => ((Z0x.f k bt490.1).bind fun t492 => (some (t492,bt490.2)))) else (some ((⟨#[]⟩:ByteArray),2)))) else (none)) else (none))
set_option maxHeartbeats 8000000 in
set_option maxRecDepth 100000 in
theorem Z27.calls (k:Nat) (A0:Option Addr) (c0:Nat) (l0:List (S68)) (A1:Option Addr) (c1:Nat) (l1:List (S73)) (a2:ByteArray) (a3:ByteArray) (r1:ByteArray) (r2:Int) (w:World) (hT:Tabs w) (hr0:Kd.C k68 w A0 l0.length l0) (hc0:l0.length ≤ c0) (hr1:Kd.C k73 w A1 l1.length l1) (hc1:l1.length ≤ c1) (h:Z27.f k l0 l1 a2 a3 = some (r1,r2)) :
 Calls Tryz.prog 63 #[.slice A0 l0.length c0,.slice A1 l1.length c1,.string a2,.string a3] w fun e w' => e = .returned (.tuple #[.string r1,.int .i64 r2]) ∧ Below w.heap.size w w':=by
 have HT:=am hT;clear hT;have HR0:=am hr0;have HC0:=am hc0;clear hr0 hc0;have HR1:=am hr1;have HC1:=am hc1;clear hr1 hc1;have HB:=am (Below.refl w.heap.size w);have H:((Z1g.f l0).bind fun t486 => (if a2.size + 1 ≤ 9223372036854775807 then (if (a2 ++ (⟨#[61]⟩:ByteArray)).size + a3.size ≤ 9223372036854775807 then ((Z15.f t486 ((a2 ++ (⟨#[61]⟩:ByteArray)) ++ a3)).bind fun t489 => (if t489 = true then ((Z25.f k t486 l1 ((a2 ++ (⟨#[61]⟩:ByteArray)) ++ a3)).bind fun bt490 => ((Z0x.f k bt490.1).bind fun t492 => (some (t492,bt490.2)))) else (some ((⟨#[]⟩:ByteArray),2)))) else (none)) else (none))) = some (r1,r2):=h;clear h;replace H:=bI H;obtain ⟨t486,A5,H⟩:=H;(try dsimp only at H);replace H:=iFn H;obtain ⟨c6,H⟩:=H;have c6b0:=eq_true c6;have c6b1:decide (a2.size + 1 ≤ 9223372036854775807) = true:=decide_eq_true c6
 try have c6b2:(9223372036854775807 < a2.size + 1) = False:=eq_false (Nat.not_lt.2 c6)
 replace H:=iFn H;obtain ⟨c7,H⟩:=H;have c7b0:=eq_true c7;have c7b1:decide ((a2 ++ (⟨#[61]⟩:ByteArray)).size + a3.size ≤ 9223372036854775807) = true:=decide_eq_true c7
 try have c7b2:(9223372036854775807 < (a2 ++ (⟨#[61]⟩:ByteArray)).size + a3.size) = False:=eq_false (Nat.not_lt.2 c7)
 replace H:=bI H;obtain ⟨t489,A8,H⟩:=H;(try dsimp only at H)
 replace H:=iT H;obtain ⟨rfl,H⟩ | ⟨rfl,H⟩:=H
 ·
  replace H:=bI H;obtain ⟨⟨t490,t491⟩,A10,H⟩:=H;(try dsimp only at H);replace H:=bI H;obtain ⟨t492,A11,H⟩:=H;(try dsimp only at H);simp only [Option.some.injEq,Prod.mk.injEq] at H;obtain ⟨rfl,rfl⟩:=H;go_enter Tryz.func63,Tryz.ntmps63
  go_wp2_with (first | ((with_reducible refine gate_callee (f:=60) rfl ?_);refine goesL_ (some 15) rfl rfl Tryz.func60 (by kernel_rfl) rfl #[.slice A0 l0.length c0] rfl Gc2 ?_;(with_reducible refine (Z1g.calls _ _ l0 t486 _ ?s1 HC0.out A5.out).mono ?_);(case s1 => exact Gc3);rintro e w12 ⟨v487,rfl,ho0,hb⟩;refine ⟨_,rfl,?_⟩;have n0_:=am (Kd.R_lower ho0 (tS HB));have n1_:=am (below_step (tB HB) hb);revert n0_ n1_;clear HB;intro HO488 HB;(try clear hb);(try clear hb2);(try clear hk);(try clear hi);(try clear ho0);obtain ⟨Ao13,co13,eo13⟩:=Kd.R_slice HO488.out;subst eo13) | ((with_reducible refine gate_callee (f:=82) rfl ?_);refine goesL_ (some 22) rfl rfl Tryz.func82 (by kernel_rfl) rfl #[.slice Ao13 t486.length co13,.string ((a2 ++ (⟨#[61]⟩:ByteArray)) ++ a3)] rfl Gc2 ?_;(with_reducible refine (Z15.calls _ _ t486 ((a2 ++ (⟨#[61]⟩:ByteArray)) ++ a3) true _ ?sT ?s1 ?s2 A8.out).mono ?_);(case sT => exact Gc1);(case s1 => exact Gc16);(case s2 => exact (Kd.R_reads' HO488.out).2.1);rintro e w14 ⟨rfl,hb⟩;refine ⟨_,rfl,?_⟩;have n0_:=am (Kd.R_below (dR HO488) hb);have n1_:=am (below_step (tB HB) hb);revert n0_ n1_;clear HO488 HB;intro HO488 HB;(try clear hb);(try clear hb2);(try clear hk);(try clear hi)) | ((with_reducible refine gate_callee (f:=83) rfl ?_);refine goesL_ (some 28) rfl rfl Tryz.func83 (by kernel_rfl) rfl #[.slice Ao13 t486.length co13,.slice A1 l1.length c1,.string ((a2 ++ (⟨#[61]⟩:ByteArray)) ++ a3)] rfl Gc2 ?_;(with_reducible refine (Z25.calls k _ _ t486 _ _ l1 ((a2 ++ (⟨#[61]⟩:ByteArray)) ++ a3) t490 t491 _ ?sT ?s1 ?s2 (tC HR1 HB) HC1.out A10.out).mono ?_);(case sT => exact Gc1);(case s1 => exact Gc16);(case s2 => exact (Kd.R_reads' HO488.out).2.1);rintro e w15 ⟨rfl,hb⟩;refine ⟨_,rfl,?_⟩;have n0_:=am (Kd.R_below (dR HO488) hb);have n1_:=am (below_step (tB HB) hb);revert n0_ n1_;clear HO488 HB;intro HO488 HB;(try clear hb);(try clear hb2);(try clear hk);(try clear hi)) | ((with_reducible refine gate_callee (f:=84) rfl ?_);refine goesL_ (some 32) rfl rfl Tryz.func84 (by kernel_rfl) rfl #[.string t490] rfl Gc2 ?_;(with_reducible refine (Z0x.calls k t490 t492 _ A11.out).mono ?_);rintro e w' ⟨rfl,⟨nd,rfl⟩⟩;refine ⟨_,rfl,?_⟩))
  go_ret2;exact ⟨tE,by repeat (first | (with_reducible first | exact HB.out | apply below_alloc | apply pw_below_drewN | apply below_drew1) | exact HB.out)⟩
 ·
  simp only [Option.some.injEq,Prod.mk.injEq] at H;obtain ⟨rfl,rfl⟩:=H;go_enter Tryz.func63,Tryz.ntmps63
  go_wp2_with (first | ((with_reducible refine gate_callee (f:=60) rfl ?_);refine goesL_ (some 15) rfl rfl Tryz.func60 (by kernel_rfl) rfl #[.slice A0 l0.length c0] rfl Gc2 ?_;(with_reducible refine (Z1g.calls _ _ l0 t486 _ ?s1 HC0.out A5.out).mono ?_);(case s1 => exact Gc3);rintro e w16 ⟨v487,rfl,ho0,hb⟩;refine ⟨_,rfl,?_⟩;have n0_:=am (Kd.R_lower ho0 (tS HB));have n1_:=am (below_step (tB HB) hb);revert n0_ n1_;clear HB;intro HO488 HB;(try clear hb);(try clear hb2);(try clear hk);(try clear hi);(try clear ho0);obtain ⟨Ao17,co17,eo17⟩:=Kd.R_slice HO488.out;subst eo17) | ((with_reducible refine gate_callee (f:=82) rfl ?_);refine goesL_ (some 22) rfl rfl Tryz.func82 (by kernel_rfl) rfl #[.slice Ao17 t486.length co17,.string ((a2 ++ (⟨#[61]⟩:ByteArray)) ++ a3)] rfl Gc2 ?_;(with_reducible refine (Z15.calls _ _ t486 ((a2 ++ (⟨#[61]⟩:ByteArray)) ++ a3) false _ ?sT ?s1 ?s2 A8.out).mono ?_);(case sT => exact Gc1);(case s1 => exact Gc16);(case s2 => exact (Kd.R_reads' HO488.out).2.1);rintro e w18 ⟨rfl,hb⟩;refine ⟨_,rfl,?_⟩;have n0_:=am (Kd.R_below (dR HO488) hb);have n1_:=am (below_step (tB HB) hb);revert n0_ n1_;clear HO488 HB;intro HO488 HB;(try clear hb);(try clear hb2);(try clear hk);(try clear hi)))
  go_ret2;exact ⟨tE,by repeat (first | (with_reducible first | exact HB.out | apply below_alloc | apply pw_below_drewN | apply below_drew1) | exact HB.out)⟩
def Z0y.l0:Nat → List (S68) → List (S73) → ByteArray → Int → ByteArray → List ByteArray → Option (ByteArray × Int)
 | 0,_,_,_,_,_,_ => none
 | k + 1,x0,x1,x8,x9,x494000,x494001 => if x9 < (x494001.length:Int) then (if 0 ≤ x9 then ((Z27.f k x0 x1 x8 (rdOf ByteArray.empty x494001 x9)).bind fun bt495 => (if bt495.2 = 0 then (Z0y.l0 k x0 x1 bt495.1 (wrap64 (x9 + 1)) x494000 x494001) else (some ((⟨#[]⟩:ByteArray),bt495.2)))) else (none)) else (some (x8,0))
def Z0y.f (k:Nat) (l0:List (S68)) (l1:List (S73)) (a2_0:ByteArray) (l2_1:List ByteArray):Option (ByteArray × Int):=Z0y.l0 k l0 l1 a2_0 0 a2_0 l2_1
theorem Zgy {p:Prop} (h:p:=by
  go_ret2
  exact ⟨tE,by repeat (first | (with_reducible first | exact HB.out | apply below_alloc | apply pw_below_drewN | apply below_drew1 | refine below_set ?_ GE493.out) | exact HB.out)⟩):p:=h
theorem Zdi {p:Prop} (h:p:=by
  obtain ⟨z1_,z2_,z3_,z4_⟩:=bx2 BK493;have z5_:0 ≤ (x9_1:Int):=oD;have z6_:x9_1 < (l2_1.length:Int):=oD;obtain ⟨z7_,z8_,z9_⟩:=Kd.at_string HR2_1.out x9_1 z5_ z6_;cases z8_;replace z9_:=celB HB z9_;replace z5_:=eq_true z5_;replace z6_:=eq_true z6_
  go_wp2_with (first | ((with_reducible refine gate_callee (f:=63) rfl ?_);refine goesL_ (some 30) rfl rfl Tryz.func63 (by kernel_rfl) rfl #[.slice A0 l0.length c0,.slice A1 l1.length c1,.string x8_1,.string (rdOf ByteArray.empty l2_1 x9_1)] rfl Gc2 ?_;(with_reducible refine (Z27.calls k1 _ _ l0 _ _ l1 x8_1 (rdOf ByteArray.empty l2_1 x9_1) t495 t496 _ ?sT (tC HR0 HB) HC0.out (tC HR1 HB) HC1.out A8.out).mono ?_);(case sT => exact Gc1);rintro e z10_ ⟨rfl,hb⟩;refine ⟨_,rfl,?_⟩;have z11_:=am (blk_below (tK BK493) hb);have z12_:=am (below_step (tB HB) hb);revert z11_ z12_;clear BK493 HB;intro BK493 HB;(try clear hb);(try clear hb2);(try clear hk);(try clear hi)))
  first
  | (have mk_:=mk0_
     go_roundg k1
     case measure => have:=HK1.out;omega
     case rel => exact ⟨(t495),(wrap64 (x9_1 + 1)),tV1,tV1,H',⟨by have:=HK1.out;omega⟩,⟨tK BK493⟩,⟨tB HB⟩⟩)
  | (have mk_:=mk1_
     exact Zgy)):p:=h
set_option maxHeartbeats 8000000 in
set_option maxRecDepth 100000 in
theorem Z0y.calls (k:Nat) (A0:Option Addr) (c0:Nat) (l0:List (S68)) (A1:Option Addr) (c1:Nat) (l1:List (S73)) (a2_0:ByteArray) (A2_1:Option Addr) (c2_1:Nat) (l2_1:List ByteArray) (r1:ByteArray) (r2:Int) (w:World) (hT:Tabs w) (hr0:Kd.C k68 w A0 l0.length l0) (hc0:l0.length ≤ c0) (hr1:Kd.C k73 w A1 l1.length l1) (hc1:l1.length ≤ c1) (hr2_1:Kd.C Kd.string w A2_1 l2_1.length l2_1) (hc2_1:l2_1.length ≤ c2_1) (h:Z0y.f k l0 l1 a2_0 l2_1 = some (r1,r2)) :
 Calls Tryz.prog 44 #[.slice A0 l0.length c0,.slice A1 l1.length c1,.agg #[.string a2_0,.slice A2_1 l2_1.length c2_1]] w fun e w' => e = .returned (.tuple #[.string r1,.int .i64 r2]) ∧ Below w.heap.size w w':=by
 have HT:=am hT;clear hT;have hu60:=Tryz.underlying60;have HR0:=am hr0;have HC0:=am hc0;clear hr0 hc0;have HR1:=am hr1;have HC1:=am hc1;clear hr1 hc1;have HR2_1:=am hr2_1;have HC2_1:=am hc2_1;clear hr2_1 hc2_1;have HB:=am (Below.refl w.heap.size w);have H:(Z0y.l0 k l0 l1 a2_0 0 a2_0 l2_1) = some (r1,r2):=h;clear h;have H':=am H;clear H;go_enter Tryz.func44,Tryz.ntmps44
 go_wp2_with (first | ((with_reducible refine gate_dst (N:=5) rfl ?_);refine box_event ?hg (N:=5) ?hd (cs:=#[.string a2_0,.slice A2_1 l2_1.length c2_1]) (t:=60) ?hr ?_;(case hd => rfl);(case hg => rfl);(case hr => exact Gc5);intro gb493 hg w4 hbox hb;have n0_:=am (below_step (tB HB) hb);have n1_:=am (hbox);have n2_:=tZ hg (tS HB);have n3_:=tZ hg (tS HB);revert n0_ n1_ n2_ n3_;clear HB;intro HB BK493 GW493 GE493;clear hb hbox hg;have hcz5_0:=cel2 BK493 0 rfl;have hcz5_1:=cel2 BK493 1 rfl;have hfz5_0:=blk_frozen BK493.out 0;have hfz5_1:=blk_frozen BK493.out 1))
 go_loopg [8,9] k (fun kq v8 v9 w' => ∃ (x8_1:ByteArray) (x9_1:Int),v8 = .string x8_1 ∧ v9 = .int .i64 x9_1 ∧ Aside0 (Z0y.l0 kq l0 l1 x8_1 x9_1 a2_0 l2_1 = some (r1,r2)) ∧ Aside0 (kq ≤ k) ∧ Aside0 (w'.heap[gb493]? = some (.cells #[.string a2_0,(.slice A2_1 l2_1.length c2_1)] 60 (0,0))) ∧ Aside0 (Below w.heap.size w w'))
 case atStart => exact ⟨(a2_0),(0),tV1,tV1,H',⟨Nat.le_refl _⟩,⟨tK BK493⟩,⟨tB HB⟩⟩
 case round =>
  clear H';(try clear hcz5_0);(try clear hcz5_1);(try clear hfz5_0);(try clear hfz5_1);obtain ⟨x8_1,x9_1,rfl,rfl,HA,HK1,BK493,HB⟩:=hrel
  cases gk with
  | zero => exact absurd HA.out (by simp [Z0y.l0])
  | succ k1 =>
   have H:=HA.out;clear HA;simp only [Z0y.l0] at H
   replace H:=iF H;obtain ⟨c6,H⟩ | ⟨c6,H⟩:=H
   ·
    have c6b0:decide (x9_1 < (l2_1.length:Int)) = true:=decide_eq_true c6;clear c6;replace H:=iFn H;obtain ⟨c7,H⟩:=H;have c7b0:decide (0 ≤ x9_1) = true:=decide_eq_true c7;clear c7;replace H:=bI H;obtain ⟨⟨t495,t496⟩,A8,H⟩:=H;(try dsimp only at H)
    replace H:=iE H;obtain ⟨-,c9b0,c9b1,H⟩ | ⟨c9,c9b0,c9b1,H⟩:=H
    ·
     have H':=am H;clear H;have mk0_:=trivial;exact Zdi
    ·
     simp only [Option.some.injEq,Prod.mk.injEq] at H;obtain ⟨rfl,rfl⟩:=H;have mk1_:=trivial;exact Zdi
   ·
    have c6b0:decide (x9_1 < (l2_1.length:Int)) = false:=decide_eq_false c6;clear c6;simp only [Option.some.injEq,Prod.mk.injEq] at H;obtain ⟨rfl,rfl⟩:=H;obtain ⟨hcz14_0,hcz14_1,hfz14_0,hfz14_1⟩:=bx2 BK493;go_wp2;exact Zgy
mutual
def Z09.l0:Nat → List (S60) → List ByteArray → Int → Lg → Option (List ByteArray × Int)
 | 0,_,_,_,_ => none
 | k + 1,x6,x7,x8,gx498 => if x8 < (x6.length:Int) then (if 0 ≤ x8 then ((Z0y.f k gx498.v2 gx498.v9 ((Z1w x6 x8).f0) ((Z1w x6 x8).f1)).bind fun bt505 => (if bt505.2 = 0 then (if x7.length < 8796093022208 then (Z09.l0 k x6 (x7 ++ [bt505.1]) (wrap64 (x8 + 1)) gx498) else (none)) else (some (([]:List ByteArray),bt505.2)))) else (none)) else (Z09.l1 k x7 0)
def Z09.l1:Nat → List ByteArray → Int → Option (List ByteArray × Int)
 | 0,_,_ => none
 | k + 1,x7,x11 => if x11 < (x7.length:Int) then (if 0 ≤ x11 then (if (rdOf ByteArray.empty x7 x11).toList = ([]:List UInt8) then (some (([]:List ByteArray),1)) else (Z09.l1 k x7 (wrap64 (x11 + 1)))) else (none)) else (some (x7,0))
end
def Z09.f (k:Nat) (gL:Lg) (l1:List ByteArray):Option (List ByteArray × Int):=(Z0b.f k gL l1).bind fun t498 => (Z09.l0 k t498 (([]:List ByteArray)) 0 gL)
def Z09.T6:Bool × List (List Nat × List Nat):=(true,[([],[]),([0],[0]),([1],[1]),([],[]),([3],[3]),([],[]),([],[]),([5,6],[5,6]),([7],[7]),([2,4,8],[2,4,8]),([9],[9]),([10],[10]),([10],[10]),([11,9,0,1,2,3,4,5,6,7,8,9,10,11],[11]),([12,13,0,1,2,3,4,5,6,7,8,9,10,11,12,13],[12])])
def Z09.B6:List Nat:=[0,1,3,0,8,0,0,96,224,511,1023,2047,2047,4095,16383]
theorem Z09.tab6:rtab .any (opsOf Tryz.f23 6) = Z09.T6:=by kernel_rfl
theorem Z09.bits6:waitsOk Z09.T6.2 Z09.B6 = true:=by kernel_rfl
theorem Zc0 {p:Prop} (h:p:=by
  rintro w' ⟨z1_,z2_,z3_⟩
  first | (refine Eq.trans (Z5b 41 (.tmp 2) (by rfl) gb497 (by rfl) 41 _ _ z1_ Tryz.underlying41 (by rfl) (by kernel_rfl)) ?_;with_reducible rfl) | (clear z1_;go_simp;with_reducible rfl) | (have z4_:World.cell? w' ⟨gb497,2,none⟩ = some (.slice pL.A2 gL.v2.length pL.c2):=(blk_cell z1_ 2).trans rfl;have z5_:World.cell? w' ⟨gb497,9,none⟩ = some (.slice pL.A9 gL.v9.length pL.c9):=(blk_cell z1_ 9).trans rfl;go_simp;with_reducible rfl)
  skip):p:=h
theorem Zgz {p:Prop} (h:p:=by
  go_ret2
  exact ⟨_,tE,by first | exact Kd.R_nil _ _ _ _ _ | exact Kd.N_nil _ _ _ _ _ | exact Kd.V_nil _ _ _ _ _ | exact Kd.Q_nil _ _ _ _ _ | exact Kd.S_nil _ _ _ _ _,by repeat (first | (with_reducible first | exact HB.out | apply below_alloc | apply pw_below_drewN | apply below_drew1 | refine below_set ?_ GE497.out) | exact HB.out)⟩):p:=h
set_option maxRecDepth 1000000 in
theorem Zdj {p:Prop} (h:p:=by
  refine pT 0 23 ?_
  refine pT 1 24 ?_
  refine pT 3 26 ?_
  refine pT 5 28 ?_
  refine pT 6 29 ?_
  refine pT 7 30 ?_
  refine take_ (i:=2) (N:=some 25) (v:=?_) (a':=?_) #[true,true,true,true,false,true,true,true,false,false,false,false,false,false,false] rfl rfl (take_ofW HT_.out HW_.out (by kernel_rfl)) (fun _ _ _ h => h) (Or.inl ⟨by rfl,?_⟩) hHeld ?_ ?_
  rotate_left
  ·
   exact Zc0
  rotate_left
  ·
   exact GpR
  refine take_ (i:=4) (N:=some 27) (v:=?_) (a':=?_) #[true,true,true,true,true,true,true,true,false,false,false,false,false,false,false] rfl rfl (take_ofW HT_.out HW_.out (by kernel_rfl)) (fun _ _ _ h => h) (Or.inl ⟨by rfl,?_⟩) hHeld ?_ ?_
  rotate_left
  ·
   exact Zc0
  rotate_left
  ·
   exact GpR
  refine take_ (i:=8) (N:=some 31) (v:=?_) (a':=?_) #[true,true,true,true,true,true,true,true,true,false,false,false,false,false,false] rfl rfl (take_ofW HT_.out HW_.out (by kernel_rfl)) (fun _ _ _ h => h) (Or.inl ⟨by rfl,?_⟩) hHeld ?_ ?_
  rotate_left
  ·
   exact Zc0
  rotate_left
  ·
   exact GpR
  refine one_ (i:=9) (N:=some 32) #[true,true,true,true,true,true,true,true,true,true,false,false,false,false,false] rfl rfl (one_of HT_.out (by kernel_rfl)) (by decide) (fun K hK => ?_)
  refine goes_ Tryz.func44 (by kernel_rfl) rfl #[.slice pL.A2 gL.v2.length pL.c2,.slice pL.A9 gL.v9.length pL.c9,.agg #[.string ((Z1w t498 x8_1).f0),.slice A504_1 ((Z1w t498 x8_1).f1).length c504_1]] (by rfl) rfl rfl Gc2 ?_
  with_reducible refine (Z0y.calls k1 _ _ gL.v2 _ _ gL.v9 ((Z1w t498 x8_1).f0) _ _ ((Z1w t498 x8_1).f1) t505 t506 _ ?sT (tC ⟨HL.out.r2⟩ HB) HL.out.c2 (tC ⟨HL.out.r9⟩ HB) HL.out.c9 ?s5 ?s6 A11.out).mono ?_
  (case sT => exact Gc1);(case s5 => repeat (first | exact Gc15 | (with_reducible refine Kd.C_alloc ?_ _) | (with_reducible refine Kd.C_drewN ?_ _) | (with_reducible refine Kd.C_drew ?_)));(case s6 => exact HC504_1.out)
  first
  | (have mk_:=mk0_
     rintro e w16 ⟨rfl,hb⟩;have HS30_:=(hb.cell (World.block_lt_of_cell? _ _ (hHeld.2.1))).trans (hHeld.2.1);have HS31_:=(hb.cell (World.block_lt_of_cell? _ _ (hHeld.2.2))).trans (hHeld.2.2)
     refine ⟨_,rfl,?_⟩
     have n0_:=am (Kd.S_below (dS HO_6) hb);have n1_:=am (Kd.R_below (dR HO_7) hb);have n2_:=am (Kd.R_below (dR HL504_1) hb);have n3_:=am (blk_below (tK BK497) hb);have n4_:=am (Kd.C_below Gc15 hb);have n5_:=am (below_step (tB HB) hb);revert n0_ n1_ n2_ n3_ n4_ n5_;clear HO_6 HO_7 HL504_1 BK497 HR504_1 HB;intro HO_6 HO_7 HL504_1 BK497 HR504_1 HB
     (try clear hb);(try clear hk)
     refine hK.out _ _ ⟨BK497.out,HS30_,HS31_⟩ (fun hHeld => ?_)
     clear hK K
     refine nR 32 ?_
     refine pT 10 22 ?_
     refine pT 11 33 ?_
     refine pT 12 34 ?_
     refine pT 13 9 ?_
     refine pT 14 10 ?_
     refine done_ (done_of HT_.out (by kernel_rfl)) ?_
     try go_wp2_with (first | ((with_reducible refine Z0z (t:=41) (p:=2) rfl ?_);(try (refine gate_guard (by rfl) ?_;dsimp only));refine wpList_load_row rfl 41 (.tmp 2) rfl gb497 rfl 41 _ (0,0) _ (tK BK497) Tryz.underlying41 rfl (by kernel_rfl) ?_) | ((with_reducible refine gate_builtin (b:=.append) (xs:=#[.tmp 38,.tmp 40]) rfl ?_);at_builtin;refine Kd.R_append Kd.string (w0:=w) w.heap.size rfl (.tmp 38) (.tmp 40) 31 9 (.string ⟨#[]⟩) 16 rfl Tryz.underlying31 Z95 rfl (by decide) (by omega) u7 x7_1 t505 [.string t505] (fun _ => True) (fun _ => False) rfl rfl ?aP (fun _ hk => hk.elim) ?aF ?aO ?aB ?aS ?aL ?_;(case aP => exact rfl);(case aB => exact (tB HB));(case aF => exact Gc25);(case aO => exact (dR HO_7));(case aS => exact (tS HB));(case aL => have:=LMc13.out;omega);intro v508 w17 ho hb hg hat;rw [← Ny507.out] at ho;have n0_:=am (Kd.S_after (ok:=(fun _ => True)) (dS HO_6) hg hat);have n1_:=am (blk_grown (tK BK497) hg (Kd.R_ne HO_7.out BK497.out (by decide)));have n2_:=am (Kd.R_after (ok:=(fun k_ => some k_ ≠ (.slice (some ad504) t498.length co14:Value).ownBlock)) (dR HL504_1) hg hat);have n3_:=am (hb);have n4_:=am (ho);revert n0_ n1_ n2_ n3_ n4_;clear HO_6 BK497 HL504_1 HB HO_7;intro HO_6 BK497 HL504_1 HB HO509;clear ho hb hg hat))
     go_roundg k1
     case measure => have:=HK1.out;omega
     case rel => exact ⟨(y507),(wrap64 (x8_1 + 1)),tV1,H',⟨by have:=HK1.out;omega⟩,⟨dS HO_6⟩,⟨dR HO509⟩,⟨tK BK497⟩,⟨tB HB⟩⟩)
  | (have mk_:=mk1_
     rintro e w20 ⟨rfl,hb⟩;have HS30_:=(hb.cell (World.block_lt_of_cell? _ _ (hHeld.2.1))).trans (hHeld.2.1);have HS31_:=(hb.cell (World.block_lt_of_cell? _ _ (hHeld.2.2))).trans (hHeld.2.2)
     refine ⟨_,rfl,?_⟩
     have n0_:=am (Kd.S_below (dS HO_6) hb);have n1_:=am (Kd.R_below (dR HO_7) hb);have n2_:=am (Kd.R_below (dR HL504_1) hb);have n3_:=am (blk_below (tK BK497) hb);have n4_:=am (Kd.C_below Gc15 hb);have n5_:=am (below_step (tB HB) hb);revert n0_ n1_ n2_ n3_ n4_ n5_;clear HO_6 HO_7 HL504_1 BK497 HR504_1 HB;intro HO_6 HO_7 HL504_1 BK497 HR504_1 HB
     (try clear hb);(try clear hk)
     refine hK.out _ _ ⟨BK497.out,HS30_,HS31_⟩ (fun hHeld => ?_)
     clear hK K
     refine nR 32 ?_
     refine pT 10 22 ?_
     refine pT 11 33 ?_
     refine pT 12 34 ?_
     refine pT 13 9 ?_
     refine pT 14 10 ?_
     refine done_ (done_of HT_.out (by kernel_rfl)) ?_
     try go_wp2
     exact Zgz)):p:=h
theorem Zdk {p:Prop} (h:p:=by
  try go_wp2
  have n0_:=am (Kd.S_drew HO_6.out);have n1_:=am (Kd.R_drew HO_7.out);have n2_:=am (blk_drew BK497.out);have n3_:=am (below_drew1 HB.out);revert n0_ n1_ n2_ n3_;clear HO_6 HO_7 BK497 HB;intro HO_6 HO_7 BK497 HB;have p504:0 ≤ (x8_1:Int):=oD;have q504:x8_1 < (t498.length:Int):=oD;obtain ⟨ad504,A504_1,c504_1,e504,hx504_0,hx504_1,hl504_1,hi504_1⟩:=Zfd (Kd.S_reads' HO_6.out).2.2 x8_1 p504 q504;cases e504;obtain ⟨ce504,hce504,hMe504,hcc504⟩:=Kd.S_get HO_6.out z60 x8_1 p504 (by first | exact q504 | exact oD | (have e_:=(Kd.S_reads' HO_6.out).1;omega));obtain ⟨ve504_1,rfl,ge504_1⟩:=Z61 hMe504;have hv504_1:=hcc504 1 _ rfl;rw [add_field _ _ 1 (by omega)] at hv504_1;replace hv504_1:=Option.some.inj (hv504_1.symm.trans hx504_1);rw [hv504_1] at ge504_1;have HL504_1:=am (show Kd.R Kd.string 9 _ _ _ _ ((Z1w t498 x8_1).f1) from ge504_1);clear hv504_1 ge504_1;clear hcc504 hce504;have HR504_1:=am hi504_1;have HC504_1:=am hl504_1;clear hi504_1 hl504_1;replace p504:=eq_true p504;replace q504:=eq_true q504
  refine start_ (n:=15) (S:=fun w' => w'.heap[gb497]? = some (.cells (lcs gL pL) 41 (0,0)) ∧ w'.cell? (ad504.add ((x8_1).toNat * 2)) = some (.string ((Z1w t498 x8_1).f0)) ∧ w'.cell? ⟨(ad504.add ((x8_1).toNat * 2)).block,(ad504.add ((x8_1).toNat * 2)).off + 1,none⟩ = some (.slice A504_1 ((Z1w t498 x8_1).f1).length c504_1)) (ds:=[]) #[false,false,false,false,false,false,false,false,false,false,false,false,false,false,false] (by kernel_rfl) rfl rfl ⟨BK497.out,hx504_0,hx504_1⟩ (fun hHeld => ?_);refine with_tabW Z09.tab6 Z09.bits6 (fun HT_ HW_ => ?_)
  first
  | (have mk_:=mk0_
     generalize wr.drew = w15 at HO_6 HO_7 BK497 HB HL504_1 HR504_1 hx504_0 hx504_1 hHeld ⊢;have mk0_:=trivial
     exact Zdj)
  | (have mk_:=mk1_
     generalize wr.drew = w19 at HO_6 HO_7 BK497 HB HL504_1 HR504_1 hx504_0 hx504_1 hHeld ⊢;have mk1_:=trivial
     exact Zdj)):p:=h
theorem Zdl {p:Prop} (h:p:=by
  obtain ⟨z1_,z2_,z3_⟩:=Kd.R_slice HO_7.out;subst z3_;have z4_:0 ≤ (x11_2:Int):=oD;have z5_:x11_2 < (x7_1.length:Int):=oD;obtain ⟨z6_,z7_,z8_⟩:=Kd.at_string (Kd.R_reads' HO_7.out).2.2 x11_2 z4_ z5_;cases z7_;replace z4_:=eq_true z4_;replace z5_:=eq_true z5_;go_wp2
  first
  | (have mk_:=mk0_
     go_roundg k2
     case measure => have:=HK1.out;have:=HK2.out;omega
     case rel => exact ⟨(wrap64 (x11_2 + 1)),tV1,H',⟨by have:=HK1.out;have:=HK2.out;omega⟩,⟨dR HO_7⟩,⟨tK BK497⟩,⟨tB HB⟩⟩)
  | (have mk_:=mk1_
     exact Zgz)):p:=h
set_option maxHeartbeats 8000000 in
set_option maxRecDepth 100000 in
theorem Z09.calls (k:Nat) (gL:Lg) (pL:La) (A1:Option Addr) (c1:Nat) (l1:List ByteArray) (r1:List ByteArray) (r2:Int) (w:World) (hT:Tabs w) (hL:Z2o gL pL w) (hr1:Kd.C Kd.string w A1 l1.length l1) (hc1:l1.length ≤ c1) (h:Z09.f k gL l1 = some (r1,r2)) :
 Calls Tryz.prog 23 #[.agg (lcs gL pL),.slice A1 l1.length c1] w fun e w' => ∃ v0_:Value,e = .returned (.tuple #[v0_,.int .i64 r2]) ∧ Kd.R Kd.string 9 w' w.heap.size (fun _ => True) v0_ r1 ∧ Below w.heap.size w w':=by
 have HT:=am hT;clear hT;have hu41:=Tryz.underlying41;have hu60:=Tryz.underlying60;have HL:=am hL;clear hL;have HR1:=am hr1;have HC1:=am hc1;clear hr1 hc1;have HB:=am (Below.refl w.heap.size w);have H:((Z0b.f k gL l1).bind fun t498 => (Z09.l0 k t498 (([]:List ByteArray)) 0 gL)) = some (r1,r2):=h;clear h;replace H:=bI H;obtain ⟨t498,A3,H⟩:=H;(try dsimp only at H);obtain ⟨y501,hy501⟩:∃ y_:List ByteArray,y_ = (([]:List ByteArray)):=⟨_,rfl⟩
 replace H:(Z09.l0 k t498 y501 0 gL) = some (r1,r2):=by first | (rw [hy501];with_reducible exact H) | (have H2_:=(Option.bind_some _ _).symm.trans H;rw [hy501];with_reducible exact H2_) | (have H2_:=(Option.bind_some _ _).symm.trans H;with_reducible exact H2_) | with_reducible exact H | (rw [hy501];exact H) | exact H
 have Ny501:=am hy501;clear hy501;have H':=am H;clear H;go_enter Tryz.func23,Tryz.ntmps23
 go_wp2_with (first | ((with_reducible refine Z0z (t:=41) (p:=2) rfl ?_);(try (refine gate_guard (by rfl) ?_;dsimp only));refine wpList_load_row rfl 41 (.tmp 2) rfl gb497 rfl 41 _ (0,0) _ (tK BK497) Tryz.underlying41 rfl (by kernel_rfl) ?_) | ((with_reducible refine gate_dst (N:=2) rfl ?_);refine box_event ?hg (N:=2) ?hd (cs:=?cs) (t:=41) ?hr ?_;(case hd => rfl);(case hg => rfl);(case hr => exact Gc5);intro gb497 hg w4 hbox hb;have n0_:=am (below_step (tB HB) hb);have n1_:=am (hbox);have n2_:=tZ hg (tS HB);have n3_:=tZ hg (tS HB);revert n0_ n1_ n2_ n3_;clear HB;intro HB BK497 GW497 GE497;clear hb hbox hg;have hcz5_2:=cel2 BK497 2 rfl;have hcz5_9:=cel2 BK497 9 rfl;have hfz5_2:=blk_frozen BK497.out 2;have hfz5_9:=blk_frozen BK497.out 9) | ((with_reducible refine gate_callee (f:=43) rfl ?_);refine goesL_ (some 14) rfl rfl Tryz.func43 (by kernel_rfl) rfl #[.agg _,.slice A1 l1.length c1] rfl Gc2 ?_;(with_reducible refine (Z0b.calls k gL pL _ _ l1 t498 _ (lB HL HB) (tC HR1 HB) HC1.out A3.out).mono ?_);rintro e w6 ⟨v499,rfl,ho0,hb⟩;refine ⟨_,rfl,?_⟩;have n0_:=am (Kd.S_lower ho0 (tS HB));have n1_:=am (blk_below (tK BK497) hb);have n2_:=am (below_step (tB HB) hb);revert n0_ n1_ n2_;clear BK497 HB;intro HO500 BK497 HB;(try clear hb);(try clear hb2);(try clear hk);(try clear hi);(try clear ho0)) | ((with_reducible refine gate_dst (N:=15) rfl ?_);refine Kd.R_lit Kd.string _ 9 ?hg (N:=15) ?hd (xs:=([]:List ByteArray)) (inner:=[]) (ok:=fun _ => True) (okp:=fun _ => True) ?hr ?hp (fun _ hk => hk) trivial (Below.refl _ _) (Nat.le_refl _) (by simp) ?_;(case hd => rfl);(case hg => rfl);(case hr => exact Gc5);(case hp => exact (Reps.none _ _));intro v502 w7 ho8 hb hg_ hnew_;clear hg_ hnew_;(first | rw [← Ny501.out] at ho8 | (simp only [Int.reduceToNat] at ho8;rw [← Ny501.out] at ho8));have n0_:=am (Kd.S_elder' (dS HO500) (Kd.R_base ho8) hb);have n1_:=am (Kd.R_lower ho8 (tS HB));have n2_:=am (blk_below (tK BK497) hb);have n3_:=am (below_step (tB HB) hb);revert n0_ n1_ n2_ n3_;clear HO500 BK497 HB;intro HO500 HO503 BK497 HB;clear hb ho8))
 go_loopg [7,8] k (fun kq v7 v8 w' => ∃ (x7_1:List ByteArray) (x8_1:Int),v8 = .int .i64 x8_1 ∧ Aside0 (Z09.l0 kq t498 x7_1 x8_1 gL = some (r1,r2)) ∧ Aside0 (kq ≤ k) ∧ Aside0 (Kd.S k60 60 w' w.heap.size (fun k_ => some k_ ≠ (v7:Value).ownBlock) v499 t498) ∧ Aside0 (Kd.R Kd.string 9 w' w.heap.size (fun _ => True) v7 x7_1) ∧ Aside0 (w'.heap[gb497]? = some (.cells (lcs gL pL) 41 (0,0))) ∧ Aside0 (Below w.heap.size w w'))
 case atStart => exact ⟨(y501),(0),tV1,H',⟨Nat.le_refl _⟩,⟨dS HO500⟩,⟨dR HO503⟩,⟨tK BK497⟩,⟨tB HB⟩⟩
 case round =>
  clear H';(try clear hcz5_2);(try clear hcz5_9);(try clear hfz5_2);(try clear hfz5_9);obtain ⟨x7_1,x8_1,rfl,HA,HK1,HO_6,HO_7,BK497,HB⟩:=hrel
  cases gk with
  | zero => exact absurd HA.out (by simp [Z09.l0])
  | succ k1 =>
   have H:=HA.out;clear HA;simp only [Z09.l0] at H
   replace H:=iF H;obtain ⟨c9,H⟩ | ⟨c9,H⟩:=H
   ·
    have c9b0:decide (x8_1 < (t498.length:Int)) = true:=decide_eq_true c9;clear c9;replace H:=iFn H;obtain ⟨c10,H⟩:=H;have c10b0:decide (0 ≤ x8_1) = true:=decide_eq_true c10;clear c10;replace H:=bI H;obtain ⟨⟨t505,t506⟩,A11,H⟩:=H;(try dsimp only at H)
    replace H:=iE H;obtain ⟨-,c12b0,c12b1,H⟩ | ⟨c12,c12b0,c12b1,H⟩:=H
    ·
     replace H:=iFn H;obtain ⟨c13,H⟩:=H;have LMc13:=am c13;clear c13;obtain ⟨y507,hy507⟩:∃ y_:List ByteArray,y_ = (x7_1 ++ [t505]):=⟨_,rfl⟩
     replace H:(Z09.l0 k1 t498 y507 (wrap64 (x8_1 + 1)) gL) = some (r1,r2):=by first | (rw [hy507];with_reducible exact H) | (have H2_:=(Option.bind_some _ _).symm.trans H;rw [hy507];with_reducible exact H2_) | (have H2_:=(Option.bind_some _ _).symm.trans H;with_reducible exact H2_) | with_reducible exact H | (rw [hy507];exact H) | exact H
     have Ny507:=am hy507;clear hy507;have H':=am H;clear H;obtain ⟨Ao14,co14,eo14⟩:=Kd.S_slice HO_6.out;subst eo14;have mk0_:=trivial;exact Zdk
    ·
     simp only [Option.some.injEq,Prod.mk.injEq] at H;obtain ⟨rfl,rfl⟩:=H;obtain ⟨Ao18,co18,eo18⟩:=Kd.S_slice HO_6.out;subst eo18;have mk1_:=trivial;exact Zdk
   ·
    have c9b0:decide (x8_1 < (t498.length:Int)) = false:=decide_eq_false c9;clear c9;have H':=am H;clear H;obtain ⟨Ao21,co21,eo21⟩:=Kd.S_slice HO_6.out;subst eo21;go_wp2
    go_loopg [11] k1 (fun kq v11 w' => ∃ (x11_2:Int),v11 = .int .i64 x11_2 ∧ Aside0 (Z09.l1 kq x7_1 x11_2 = some (r1,r2)) ∧ Aside0 (kq ≤ k1) ∧ Aside0 (Kd.R Kd.string 9 w' w.heap.size (fun _ => True) u7 x7_1) ∧ Aside0 (w'.heap[gb497]? = some (.cells (lcs gL pL) 41 (0,0))) ∧ Aside0 (Below w.heap.size w w'))
    case atStart => exact ⟨(0),tV1,H',⟨Nat.le_refl _⟩,⟨dR HO_7⟩,⟨tK BK497⟩,⟨tB HB⟩⟩
    case round =>
     clear H';(try clear c9);(try clear c9b0);(try clear hcz5_2);(try clear hcz5_9);(try clear hfz5_2);(try clear hfz5_9);obtain ⟨x11_2,rfl,HA,HK2,HO_7,BK497,HB⟩:=hrel
     cases gk with
     | zero => exact absurd HA.out (by simp [Z09.l1])
     | succ k2 =>
      have H:=HA.out;clear HA;simp only [Z09.l1] at H
      replace H:=iF H;obtain ⟨c22,H⟩ | ⟨c22,H⟩:=H
      ·
       have c22b0:decide (x11_2 < (x7_1.length:Int)) = true:=decide_eq_true c22;clear c22;replace H:=iFn H;obtain ⟨c23,H⟩:=H;have c23b0:decide (0 ≤ x11_2) = true:=decide_eq_true c23;clear c23
       replace H:=iE H;obtain ⟨-,c24b0,c24b1,H⟩ | ⟨c24,c24b0,c24b1,H⟩:=H
       ·
        simp only [Option.some.injEq,Prod.mk.injEq] at H;obtain ⟨rfl,rfl⟩:=H;have mk1_:=trivial;exact Zdl
       ·
        have H':=am H;clear H;have mk0_:=trivial;exact Zdl
      ·
       have c22b0:decide (x11_2 < (x7_1.length:Int)) = false:=decide_eq_false c22;clear c22;simp only [Option.some.injEq,Prod.mk.injEq] at H;obtain ⟨rfl,rfl⟩:=H;obtain ⟨Ao27,co27,eo27⟩:=Kd.R_slice HO_7.out;subst eo27;go_wp2;go_ret2;exact ⟨_,tE,by (with_reducible repeat (first | apply Kd.R_alloc | apply Kd.R_drewN | apply Kd.R_drew));exact HO_7.out,by repeat (first | (with_reducible first | exact HB.out | apply below_alloc | apply pw_below_drewN | apply below_drew1 | refine below_set ?_ GE497.out) | exact HB.out)⟩
end Go.Proofs.YtfbhdjflkaldgaaGreatDoor.Pr
