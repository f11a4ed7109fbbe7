/- Several texts in one: PrF111, PrF112, PrF105. -/
import Derived.Test.YtfbhdjflkaldgaaGreatDoorMg1
import Derived.Test.YtfbhdjflkaldgaaGreatDoorMg2
import Derived.Test.YtfbhdjflkaldgaaGreatDoorMg5
import Derived.Test.YtfbhdjflkaldgaaGreatDoorMg4
import Derived.Test.YtfbhdjflkaldgaaGreatDoorMg3

namespace Go.Proofs.YtfbhdjflkaldgaaGreatDoor.Pr
open Go.Proofs.YtfbhdjflkaldgaaGreatDoor.Ct Go.RowKit Go.Proofs.YtfbhdjflkaldgaaGreatDoorW.PrintWords Go.Proofs.YtfbhdjflkaldgaaGreatDoorW.PrintLast Go.Proofs.YtfbhdjflkaldgaaGreatDoorW.PrintMore
attribute [local go_sem] max2_int min2_int max_two min_two max_three min_three max_four min_four
set_option linter.unusedVariables false
set_option linter.unusedSimpArgs false
def Z1f.l0:Nat → List (S70) → Int → Int → Option ((List (S70)))
 | 0,_,_,_ => none
 | k + 1,x0,x2,x3 => if x2 < x3 then (if 0 ≤ x3 then (if x3 < (x0.length:Int) then (if 0 ≤ x2 then (if x2 < (x0.length:Int) then (Z1f.l0 k ((x0.set (x2:Int).toNat (⟨(Z16 x0 x3).f0,(Z16 x0 x3).f1,(Z16 x0 x3).f2,(Z16 x0 x3).f3⟩:S70)).set (x3:Int).toNat (⟨(Z16 x0 x2).f0,(Z16 x0 x2).f1,(Z16 x0 x2).f2,(Z16 x0 x2).f3⟩:S70)) (wrap64 (x2 + 1)) (wrap64 (x3 - 1))) else (none)) else (none)) else (none)) else (none)) else (some x0)
def Z1f.f (k:Nat) (l0:List (S70)):Option ((List (S70))):=Z1f.l0 k l0 0 (wrap64 ((l0.length:Int) - 1))
def Z1f.T3:Bool × List (List Nat × List Nat):=(true,[([],[]),([],[]),([],[]),([],[]),([],[]),([],[]),([4,5],[4,5]),([6],[6]),([],[]),([],[]),([8,9],[8,9]),([10],[10]),([0,1,0,1,4,5,6,7,11],[0,1]),([12,7,0,1,4,5,6,7,11],[7,12]),([2,3,0,1,2,3,4,5,6,7,8,9,10,11,12,13],[2,3]),([14,11,13,0,1,2,3,4,5,6,7,8,9,10,11,12,13],[11,14])])
def Z1f.B3:List Nat:=[0,0,0,0,0,0,48,112,0,0,768,1792,4083,8179,16383,32767]
theorem Z1f.tab3:rtab .any (opsOf Tryz.f111 3) = Z1f.T3:=by kernel_rfl
theorem Z1f.bits3:waitsOk Z1f.T3.2 Z1f.B3 = true:=by kernel_rfl
set_option maxHeartbeats 8000000 in
set_option maxRecDepth 100000 in
theorem Z1f.calls (k:Nat) (P0_:Nat → Prop) (u9000_:Value) (l0:List (S70)) (r:List (S70)) (w0 w:World) (hB:Below w0.heap.size w0 w) (ho0:Kd.R k70 70 w w0.heap.size P0_ u9000_ l0) (h:Z1f.f k l0 = some r) :
 Calls Tryz.prog 111 #[u9000_] w fun e w' => e = .returned (.tuple #[]) ∧ Kd.R k70 70 w' w0.heap.size (fun k_ => (P0_ k_ ∨ w.heap.size ≤ k_)) u9000_ r ∧ Below w0.heap.size w0 w' ∧ Kept w w' (fun k_ => P0_ k_):=by
 have hu70:=Tryz.underlying70;have HO0:=am (show Kd.R k70 70 w w0.heap.size (fun k_ => (P0_ k_ ∨ w.heap.size ≤ k_)) u9000_ l0 from Kd.R_mono ho0 (fun k_ hk => (.inl hk)));have HK:=am (Kept.refl w (fun k_ => P0_ k_));have HW0:=am hB.size;have HB:=am hB;clear hB;have H:(Z1f.l0 k l0 0 (wrap64 ((l0.length:Int) - 1))) = some r:=h;clear h;have H':=am H;clear H;obtain ⟨Ao2,co2,eo2⟩:=Kd.R_slice HO0.out;subst eo2;go_enter Tryz.func111,Tryz.ntmps111;go_wp2
 go_loopg [2,3] k (fun kq v2 v3 w' => ∃ (x0_1:List (S70)) (x2_1:Int) (x3_1:Int),v2 = .int .i64 x2_1 ∧ v3 = .int .i64 x3_1 ∧ Aside0 (Z1f.l0 kq x0_1 x2_1 x3_1 = some r) ∧ Aside0 (kq ≤ k) ∧ Aside0 (Kd.R k70 70 w' w0.heap.size (fun k_ => (P0_ k_ ∨ w.heap.size ≤ k_)) (.slice Ao2 l0.length co2) x0_1) ∧ Aside0 (Kept w w' (fun k_ => P0_ k_)) ∧ Aside0 (Below w0.heap.size w0 w'))
 case atStart => exact ⟨(l0),(0),(wrap64 ((l0.length:Int) - 1)),tV1,tV1,H',⟨Nat.le_refl _⟩,⟨dR HO0⟩,⟨by repeat (first | (with_reducible first | exact HK.out | apply Kept.alloc | apply Kept.drewN | apply Kept.drew) | exact HK.out)⟩,⟨tB HB⟩⟩
 case round =>
  clear H';obtain ⟨x0_1,x2_1,x3_1,rfl,rfl,HA,HK1,HO_0,HK,HB⟩:=hrel;have hl0_1:=(Kd.R_reads' HO_0.out).1;rw [hl0_1] at HO_0;(try simp only [hl0_1])
  cases gk with
  | zero => exact absurd HA.out (by simp [Z1f.l0])
  | succ k1 =>
   have H:=HA.out;clear HA;simp only [Z1f.l0] at H
   replace H:=iF H;obtain ⟨c3,H⟩ | ⟨c3,H⟩:=H
   ·
    have c3b0:decide (x2_1 < x3_1) = true:=decide_eq_true c3;clear c3;replace H:=iFn H;obtain ⟨c4,H⟩:=H;have c4b0:decide (0 ≤ x3_1) = true:=decide_eq_true c4;clear c4;replace H:=iFn H;obtain ⟨c5,H⟩:=H;have c5b0:decide (x3_1 < (x0_1.length:Int)) = true:=decide_eq_true c5;clear c5;replace H:=iFn H;obtain ⟨c6,H⟩:=H;have c6b0:decide (0 ≤ x2_1) = true:=decide_eq_true c6;clear c6;replace H:=iFn H;obtain ⟨c7,H⟩:=H;have c7b0:decide (x2_1 < (x0_1.length:Int)) = true:=decide_eq_true c7;clear c7;obtain ⟨y153,hy153⟩:∃ y_:List (S70),y_ = (x0_1.set (x2_1:Int).toNat (⟨(Z16 x0_1 x3_1).f0,(Z16 x0_1 x3_1).f1,(Z16 x0_1 x3_1).f2,(Z16 x0_1 x3_1).f3⟩:S70)):=⟨_,rfl⟩
    replace H:(Z1f.l0 k1 (y153.set (x3_1:Int).toNat (⟨(Z16 x0_1 x2_1).f0,(Z16 x0_1 x2_1).f1,(Z16 x0_1 x2_1).f2,(Z16 x0_1 x2_1).f3⟩:S70)) (wrap64 (x2_1 + 1)) (wrap64 (x3_1 - 1))) = some r:=by first | (rw [hy153];with_reducible exact H) | (have H2_:=(Option.bind_some _ _).symm.trans H;rw [hy153];with_reducible exact H2_) | (have H2_:=(Option.bind_some _ _).symm.trans H;with_reducible exact H2_) | with_reducible exact H | (rw [hy153];exact H) | exact H
    have Ny153:=am hy153;clear hy153;obtain ⟨y154,hy154⟩:∃ y_:List (S70),y_ = (y153.set (x3_1:Int).toNat (⟨(Z16 x0_1 x2_1).f0,(Z16 x0_1 x2_1).f1,(Z16 x0_1 x2_1).f2,(Z16 x0_1 x2_1).f3⟩:S70)):=⟨_,rfl⟩
    replace H:(Z1f.l0 k1 y154 (wrap64 (x2_1 + 1)) (wrap64 (x3_1 - 1))) = some r:=by first | (rw [hy154];with_reducible exact H) | (have H2_:=(Option.bind_some _ _).symm.trans H;rw [hy154];with_reducible exact H2_) | (have H2_:=(Option.bind_some _ _).symm.trans H;with_reducible exact H2_) | with_reducible exact H | (rw [hy154];exact H) | exact H
    have Ny154:=am hy154;clear hy154;have H':=am H;clear H
    try go_wp2
    have n0_:=am (Kd.R_drew HO_0.out);have n1_:=am (Kept.drew HK.out);have n2_:=am (below_drew1 HB.out);revert n0_ n1_ n2_;clear HO_0 HK HB;intro HO_0 HK HB;have p151:0 ≤ (x3_1:Int):=oD;have q151:x3_1 < (x0_1.length:Int):=oD;obtain ⟨ad151,e151,hx151_0,hx151_1,hx151_2,hx151_3⟩:=Z5x (Kd.R_reads' HO_0.out).2.2 x3_1 p151 q151;cases e151;replace p151:=eq_true p151;replace q151:=eq_true q151;have p152:0 ≤ (x2_1:Int):=oD;have q152:x2_1 < (x0_1.length:Int):=oD;obtain ⟨ad152,e152,hx152_0,hx152_1,hx152_2,hx152_3⟩:=Z5x (Kd.R_reads' HO_0.out).2.2 x2_1 p152 q152;obtain rfl:ad151 = ad152:=(by injection e152);replace p152:=eq_true p152;replace q152:=eq_true q152;have p8:0 ≤ (x2_1:Int):=oD;have q8:(x2_1:Int) < ((x0_1.length:Int):Int):=oD;obtain ⟨go8,co8,eo8,gb8,gl8,cl8,HG8⟩:=Kd.R_form HO_0.out (by omega)
    (first | cases eo8 | (injection eo8 with ea_ en_ ec_;(first | subst ea_ | (injection ea_ with ea_;subst ea_));subst ec_;clear en_))
    have GB8:=am gb8;have GG8:=am HG8;clear gb8 gl8 HG8;have HMgo8:=am (show (P0_ go8 ∨ w.heap.size ≤ go8) from (HO_0.out.1 _ rfl))
    (first | simp only [add_plain] at hx151_0 | skip)
    (first | simp only [add_plain] at hx151_1 | skip)
    (first | simp only [add_plain] at hx151_2 | skip)
    (first | simp only [add_plain] at hx151_3 | skip)
    (first | simp only [add_plain] at hx152_0 | skip)
    (first | simp only [add_plain] at hx152_1 | skip)
    (first | simp only [add_plain] at hx152_2 | skip)
    (first | simp only [add_plain] at hx152_3 | skip)
    obtain ⟨ce8,hcl8,hM8,hcc8,hfr8⟩:=Kd.R_elem HO_0.out z70 (x2_1:Int) p8 q8;obtain rfl:=Z7d hM8;have hx8_0:World.cell? _ ⟨go8,(x2_1:Int).toNat * 4,none⟩ = some (.int .u32 ((Z16 x0_1 x2_1).f0)):=hcc8 0 _ rfl;have hx8_1:World.cell? _ ⟨go8,(x2_1:Int).toNat * 4 + 1,none⟩ = some (.string ((Z16 x0_1 x2_1).f1)):=hcc8 1 _ rfl;have hx8_2:World.cell? _ ⟨go8,(x2_1:Int).toNat * 4 + 2,none⟩ = some (.bool ((Z16 x0_1 x2_1).f2)):=hcc8 2 _ rfl;have hx8_3:World.cell? _ ⟨go8,(x2_1:Int).toNat * 4 + 3,none⟩ = some (.bool ((Z16 x0_1 x2_1).f3)):=hcc8 3 _ rfl;have hf8_0:World.frozen? _ ⟨go8,(x2_1:Int).toNat * 4,none⟩ = false:=hfr8 0;have hf8_1:World.frozen? _ ⟨go8,(x2_1:Int).toNat * 4 + 1,none⟩ = false:=hfr8 1;have hf8_2:World.frozen? _ ⟨go8,(x2_1:Int).toNat * 4 + 2,none⟩ = false:=hfr8 2;have hf8_3:World.frozen? _ ⟨go8,(x2_1:Int).toNat * 4 + 3,none⟩ = false:=hfr8 3;clear hcl8 hcc8 hfr8 hM8;replace p8:=eq_true p8;replace q8:=eq_true q8;obtain ⟨ce11,hcl11,hM11,hcc11,hfr11⟩:=Kd.R_elem HO_0.out z70 (x2_1:Int) (oD) (by have h_:(x2_1:Int) < ((x0_1.length:Int):Int):=oD;first | exact h_ | (have e_:=(Kd.R_reads' HO_0.out).1;omega) | simpa using h_);obtain rfl:=Z7d hM11;have HP11:=(Kd.R_seg HO_0.out (x2_1:Int) (oD) (by have h_:(x2_1:Int) < ((x0_1.length:Int):Int):=oD;first | exact h_ | (have e_:=(Kd.R_reads' HO_0.out).1;omega) | simpa using h_) (seg:=[.int .u32 ((Z16 x0_1 x3_1).f0),.string ((Z16 x0_1 x3_1).f1),.bool ((Z16 x0_1 x3_1).f2),.bool ((Z16 x0_1 x3_1).f3)]) (j:=0) hcl11 hcc11 (show 4 ≤ 4 from by decide) (x':=(⟨(Z16 x0_1 x3_1).f0,(Z16 x0_1 x3_1).f1,(Z16 x0_1 x3_1).f2,(Z16 x0_1 x3_1).f3⟩:S70)) (Zi0 _ _ _ (⟨(Z16 x0_1 x3_1).f0,(Z16 x0_1 x3_1).f1,(Z16 x0_1 x3_1).f2,(Z16 x0_1 x3_1).f3⟩:S70) ) (fun _ hk => hk)).1;rw [← Ny153.out] at HP11;have HQ11:=am HP11;clear hcl11 hcc11 hfr11 hM11 HP11;have p9:0 ≤ (x3_1:Int):=oD;have q9:(x3_1:Int) < ((x0_1.length:Int):Int):=oD;obtain ⟨ce9,hcl9,hM9,hcc9,hfr9⟩:=Kd.R_elem HQ11.out z70 (x3_1:Int) p9 q9;obtain rfl:=Z7d hM9;have hx9_0:World.cell? _ ⟨go8,(x3_1:Int).toNat * 4,none⟩ = some (.int .u32 ((Z16 y153 x3_1).f0)):=hcc9 0 _ rfl;have hx9_1:World.cell? _ ⟨go8,(x3_1:Int).toNat * 4 + 1,none⟩ = some (.string ((Z16 y153 x3_1).f1)):=hcc9 1 _ rfl;have hx9_2:World.cell? _ ⟨go8,(x3_1:Int).toNat * 4 + 2,none⟩ = some (.bool ((Z16 y153 x3_1).f2)):=hcc9 2 _ rfl;have hx9_3:World.cell? _ ⟨go8,(x3_1:Int).toNat * 4 + 3,none⟩ = some (.bool ((Z16 y153 x3_1).f3)):=hcc9 3 _ rfl;have hf9_0:World.frozen? _ ⟨go8,(x3_1:Int).toNat * 4,none⟩ = false:=hfr9 0;have hf9_1:World.frozen? _ ⟨go8,(x3_1:Int).toNat * 4 + 1,none⟩ = false:=hfr9 1;have hf9_2:World.frozen? _ ⟨go8,(x3_1:Int).toNat * 4 + 2,none⟩ = false:=hfr9 2;have hf9_3:World.frozen? _ ⟨go8,(x3_1:Int).toNat * 4 + 3,none⟩ = false:=hfr9 3;clear hcl9 hcc9 hfr9 hM9
    have hne_:¬ ((x2_1:Int).toNat = (x3_1:Int).toNat):=by have h_:=of_decide_eq_true c3b0;have h2_:=of_decide_eq_true c6b0;omega
    obtain ⟨_,_,_,_,hfrX⟩:=Kd.R_elem HO_0.out z70 (x3_1:Int) (oD) Gc20;have hfX_0:World.frozen? _ ⟨go8,(x3_1:Int).toNat * 4,none⟩ = false:=hfrX 0;have hfX_1:World.frozen? _ ⟨go8,(x3_1:Int).toNat * 4 + 1,none⟩ = false:=hfrX 1;have hfX_2:World.frozen? _ ⟨go8,(x3_1:Int).toNat * 4 + 2,none⟩ = false:=hfrX 2;have hfX_3:World.frozen? _ ⟨go8,(x3_1:Int).toNat * 4 + 3,none⟩ = false:=hfrX 3;clear hfrX;replace p9:=eq_true p9;replace q9:=eq_true q9;obtain ⟨ce12,hcl12,hM12,hcc12,hfr12⟩:=Kd.R_elem HQ11.out z70 (x3_1:Int) (oD) Gc20;obtain rfl:=Z7d hM12;have HP12:=(Kd.R_seg HQ11.out (x3_1:Int) (oD) Gc20 (seg:=[.int .u32 ((Z16 x0_1 x2_1).f0),.string ((Z16 x0_1 x2_1).f1),.bool ((Z16 x0_1 x2_1).f2),.bool ((Z16 x0_1 x2_1).f3)]) (j:=0) hcl12 hcc12 (show 4 ≤ 4 from by decide) (x':=(⟨(Z16 x0_1 x2_1).f0,(Z16 x0_1 x2_1).f1,(Z16 x0_1 x2_1).f2,(Z16 x0_1 x2_1).f3⟩:S70)) (Zi0 _ _ _ (⟨(Z16 x0_1 x2_1).f0,(Z16 x0_1 x2_1).f1,(Z16 x0_1 x2_1).f2,(Z16 x0_1 x2_1).f3⟩:S70) ) (fun _ hk => hk)).1;rw [← Ny154.out] at HP12;have HQ12:=am HP12;clear hcl12 hcc12 hfr12 hM12 HP12
    refine start_ (n:=16) (S:=fun w' => w'.cell? ⟨go8,((x3_1).toNat * 4),none⟩ = some (.int .u32 ((Z16 x0_1 x3_1).f0)) ∧ w'.cell? ⟨go8,((x3_1).toNat * 4) + 1,none⟩ = some (.string ((Z16 x0_1 x3_1).f1)) ∧ w'.cell? ⟨go8,((x3_1).toNat * 4) + 2,none⟩ = some (.bool ((Z16 x0_1 x3_1).f2)) ∧ w'.cell? ⟨go8,((x3_1).toNat * 4) + 3,none⟩ = some (.bool ((Z16 x0_1 x3_1).f3)) ∧ w'.cell? ⟨go8,((x2_1).toNat * 4),none⟩ = some (.int .u32 ((Z16 x0_1 x2_1).f0)) ∧ w'.cell? ⟨go8,((x2_1).toNat * 4) + 1,none⟩ = some (.string ((Z16 x0_1 x2_1).f1)) ∧ w'.cell? ⟨go8,((x2_1).toNat * 4) + 2,none⟩ = some (.bool ((Z16 x0_1 x2_1).f2)) ∧ w'.cell? ⟨go8,((x2_1).toNat * 4) + 3,none⟩ = some (.bool ((Z16 x0_1 x2_1).f3))) (ds:=[13,15]) #[false,false,false,false,false,false,false,false,false,false,false,false,false,false,false,false] (by kernel_rfl) rfl rfl ⟨hx151_0,hx151_1,hx151_2,hx151_3,hx152_0,hx152_1,hx152_2,hx152_3⟩ (fun hHeld => ?_);refine with_tabW Z1f.tab3 Z1f.bits3 (fun HT_ HW_ => ?_)
    generalize wr.drew = w10 at hfX_0 hfX_1 hfX_2 hfX_3 HO_0 HK HB GG8 HQ11 HQ12 hf8_0 hf8_1 hf8_2 hf8_3 hf9_0 hf9_1 hf9_2 hf9_3 hx151_0 hx151_1 hx151_2 hx151_3 hx152_0 hx152_1 hx152_2 hx152_3 hx8_0 hx8_1 hx8_2 hx8_3 hx9_0 hx9_1 hx9_2 hx9_3 hHeld ⊢
    refine pT 0 14 ?_
    refine pT 1 15 ?_
    refine pT 2 16 ?_
    refine pT 3 17 ?_
    refine pT 4 18 ?_
    refine pT 5 19 ?_
    refine pT 6 20 ?_
    refine pT 8 22 ?_
    refine pT 9 23 ?_
    refine pT 10 24 ?_
    refine tTt 7 21 hHeld ?_
    refine tTt 11 25 hHeld ?_
    refine pT 12 26 ?_
    refine last_ (i:=13) (N:=none) #[true,true,true,true,true,true,true,true,true,true,true,true,true,true,false,false] rfl rfl (one_of HT_.out (by kernel_rfl)) (by decide) (fun K hK => ?_)
    refine skip_ (w1:=?_) (by rfl) rfl ?_ ?_
    rotate_left
    ·
     go_simp
     rfl
    refine hK.out _ _ ?_
    clear hK K
    refine pT 14 27 ?_
    refine last_ (i:=15) (N:=none) #[true,true,true,true,true,true,true,true,true,true,true,true,true,true,true,true] rfl rfl (one_of HT_.out (by kernel_rfl)) (by decide) (fun K hK => ?_)
    refine skip_ (w1:=?_) (by rfl) rfl ?_ ?_
    rotate_left
    ·
     go_simp
     rfl
    refine hK.out _ _ ?_
    clear hK K
    refine done_ (done_of HT_.out (by kernel_rfl)) ?_
    try go_wp2
    (try simp only [← hl0_1])
    go_roundg k1
    case measure => have:=HK1.out;omega
    case rel => exact ⟨(y154),(wrap64 (x2_1 + 1)),(wrap64 (x3_1 - 1)),tV1,tV1,H',⟨by have:=HK1.out;omega⟩,⟨by (try simp only [hl0_1]);(with_reducible repeat (first | apply Kd.R_alloc | apply Kd.R_drewN | apply Kd.R_drew));exact HQ12.out⟩,⟨by repeat (first | (with_reducible first | exact HK.out | apply Kept.alloc | apply Kept.drewN | apply Kept.drew | refine Kept.setCell ?_ HMgo8.out _ | refine Kept.setCell ?_ HMgo8.out _ | refine Kept.setCell ?_ HMgo8.out _ | refine Kept.setCell ?_ HMgo8.out _ | refine Kept.setCell ?_ HMgo8.out _ | refine Kept.setCell ?_ HMgo8.out _ | refine Kept.setCell ?_ HMgo8.out _ | refine Kept.setCell ?_ HMgo8.out _) | exact HK.out)⟩,⟨tB HB⟩⟩
   ·
    have c3b0:decide (x2_1 < x3_1) = false:=decide_eq_false c3;clear c3;obtain rfl:=Option.some.inj H;go_wp2
    first | go_end0 | ((try simp only [Exit.inBlock,Exit.then]);refine bodyPost_ret (results_none rfl _ _ _) rfl ?_)
    exact ⟨tE,(by first | exact (dR HO_0) | (simp only [hl0_1];exact (dR HO_0))),by repeat (first | (with_reducible first | exact HB.out | apply below_alloc | apply pw_below_drewN | apply below_drew1) | exact HB.out),by repeat (first | (with_reducible first | exact HK.out | apply Kept.alloc | apply Kept.drewN | apply Kept.drew) | exact HK.out)⟩
def Z0f.l0:Nat → List Int → Int → Int → Option (List Int)
 | 0,_,_,_ => none
 | k + 1,x0,x2,x3 => if x2 < x3 then (if 0 ≤ x3 then (if x3 < (x0.length:Int) then (if 0 ≤ x2 then (if x2 < (x0.length:Int) then (Z0f.l0 k ((x0.set (x2:Int).toNat (rd x0 x3)).set (x3:Int).toNat (rd x0 x2)) (wrap64 (x2 + 1)) (wrap64 (x3 - 1))) else (none)) else (none)) else (none)) else (none)) else (some x0)
def Z0f.f (k:Nat) (l0:List Int):Option (List Int):=Z0f.l0 k l0 0 (wrap64 ((l0.length:Int) - 1))
def Z0f.T3:Bool × List (List Nat × List Nat):=(true,[([],[]),([],[]),([],[]),([],[]),([],[]),([],[]),([4,5],[4,5]),([6],[6]),([],[]),([],[]),([8,9],[8,9]),([10],[10]),([0,1,0,1,4,5,6,7,11],[0,1]),([12,7,0,1,4,5,6,7,11],[7,12]),([2,3,0,1,2,3,4,5,6,7,8,9,10,11,12,13],[2,3]),([14,11,13,0,1,2,3,4,5,6,7,8,9,10,11,12,13],[11,14])])
def Z0f.B3:List Nat:=[0,0,0,0,0,0,48,112,0,0,768,1792,4083,8179,16383,32767]
theorem Z0f.tab3:rtab .any (opsOf Tryz.f112 3) = Z0f.T3:=by kernel_rfl
theorem Z0f.bits3:waitsOk Z0f.T3.2 Z0f.B3 = true:=by kernel_rfl
set_option maxHeartbeats 8000000 in
set_option maxRecDepth 100000 in
theorem Z0f.calls (k:Nat) (P0_:Nat → Prop) (u9000_:Value) (l0:List Int) (r:List Int) (w0 w:World) (hB:Below w0.heap.size w0 w) (ho0:Kd.R (Kd.int .i64) 3 w w0.heap.size P0_ u9000_ l0) (h:Z0f.f k l0 = some r) :
 Calls Tryz.prog 112 #[u9000_] w fun e w' => e = .returned (.tuple #[]) ∧ Kd.R (Kd.int .i64) 3 w' w0.heap.size (fun k_ => (P0_ k_ ∨ w.heap.size ≤ k_)) u9000_ r ∧ Below w0.heap.size w0 w' ∧ Kept w w' (fun k_ => P0_ k_):=by
 have HO0:=am (show Kd.R (Kd.int .i64) 3 w w0.heap.size (fun k_ => (P0_ k_ ∨ w.heap.size ≤ k_)) u9000_ l0 from Kd.R_mono ho0 (fun k_ hk => (.inl hk)));have HK:=am (Kept.refl w (fun k_ => P0_ k_));have HW0:=am hB.size;have HB:=am hB;clear hB;have H:(Z0f.l0 k l0 0 (wrap64 ((l0.length:Int) - 1))) = some r:=h;clear h;have H':=am H;clear H;obtain ⟨Ao2,co2,eo2⟩:=Kd.R_slice HO0.out;subst eo2;go_enter Tryz.func112,Tryz.ntmps112;go_wp2
 go_loopg [2,3] k (fun kq v2 v3 w' => ∃ (x0_1:List Int) (x2_1:Int) (x3_1:Int),v2 = .int .i64 x2_1 ∧ v3 = .int .i64 x3_1 ∧ Aside0 (Z0f.l0 kq x0_1 x2_1 x3_1 = some r) ∧ Aside0 (kq ≤ k) ∧ Aside0 (Kd.R (Kd.int .i64) 3 w' w0.heap.size (fun k_ => (P0_ k_ ∨ w.heap.size ≤ k_)) (.slice Ao2 l0.length co2) x0_1) ∧ Aside0 (Kept w w' (fun k_ => P0_ k_)) ∧ Aside0 (Below w0.heap.size w0 w'))
 case atStart => exact ⟨(l0),(0),(wrap64 ((l0.length:Int) - 1)),tV1,tV1,H',⟨Nat.le_refl _⟩,⟨dR HO0⟩,⟨by repeat (first | (with_reducible first | exact HK.out | apply Kept.alloc | apply Kept.drewN | apply Kept.drew) | exact HK.out)⟩,⟨tB HB⟩⟩
 case round =>
  clear H';obtain ⟨x0_1,x2_1,x3_1,rfl,rfl,HA,HK1,HO_0,HK,HB⟩:=hrel;have hl0_1:=(Kd.R_reads' HO_0.out).1;rw [hl0_1] at HO_0;(try simp only [hl0_1])
  cases gk with
  | zero => exact absurd HA.out (by simp [Z0f.l0])
  | succ k1 =>
   have H:=HA.out;clear HA;simp only [Z0f.l0] at H
   replace H:=iF H;obtain ⟨c3,H⟩ | ⟨c3,H⟩:=H
   ·
    have c3b0:decide (x2_1 < x3_1) = true:=decide_eq_true c3;clear c3;replace H:=iFn H;obtain ⟨c4,H⟩:=H;have c4b0:decide (0 ≤ x3_1) = true:=decide_eq_true c4;clear c4;replace H:=iFn H;obtain ⟨c5,H⟩:=H;have c5b0:decide (x3_1 < (x0_1.length:Int)) = true:=decide_eq_true c5;clear c5;replace H:=iFn H;obtain ⟨c6,H⟩:=H;have c6b0:decide (0 ≤ x2_1) = true:=decide_eq_true c6;clear c6;replace H:=iFn H;obtain ⟨c7,H⟩:=H;have c7b0:decide (x2_1 < (x0_1.length:Int)) = true:=decide_eq_true c7;clear c7;obtain ⟨y157,hy157⟩:∃ y_:List Int,y_ = (x0_1.set (x2_1:Int).toNat (rd x0_1 x3_1)):=⟨_,rfl⟩
    replace H:(Z0f.l0 k1 (y157.set (x3_1:Int).toNat (rd x0_1 x2_1)) (wrap64 (x2_1 + 1)) (wrap64 (x3_1 - 1))) = some r:=by first | (rw [hy157];with_reducible exact H) | (have H2_:=(Option.bind_some _ _).symm.trans H;rw [hy157];with_reducible exact H2_) | (have H2_:=(Option.bind_some _ _).symm.trans H;with_reducible exact H2_) | with_reducible exact H | (rw [hy157];exact H) | exact H
    have Ny157:=am hy157;clear hy157;obtain ⟨y158,hy158⟩:∃ y_:List Int,y_ = (y157.set (x3_1:Int).toNat (rd x0_1 x2_1)):=⟨_,rfl⟩
    replace H:(Z0f.l0 k1 y158 (wrap64 (x2_1 + 1)) (wrap64 (x3_1 - 1))) = some r:=by first | (rw [hy158];with_reducible exact H) | (have H2_:=(Option.bind_some _ _).symm.trans H;rw [hy158];with_reducible exact H2_) | (have H2_:=(Option.bind_some _ _).symm.trans H;with_reducible exact H2_) | with_reducible exact H | (rw [hy158];exact H) | exact H
    have Ny158:=am hy158;clear hy158;have H':=am H;clear H
    try go_wp2
    have n0_:=am (Kd.R_drew HO_0.out);have n1_:=am (Kept.drew HK.out);have n2_:=am (below_drew1 HB.out);revert n0_ n1_ n2_;clear HO_0 HK HB;intro HO_0 HK HB;have p155:0 ≤ (x3_1:Int):=oD;have q155:x3_1 < (x0_1.length:Int):=oD;obtain ⟨ad155,e155,hx155_0⟩:=Kd.at_int (Kd.R_reads' HO_0.out).2.2 x3_1 p155 q155;cases e155;replace p155:=eq_true p155;replace q155:=eq_true q155;have p156:0 ≤ (x2_1:Int):=oD;have q156:x2_1 < (x0_1.length:Int):=oD;obtain ⟨ad156,e156,hx156_0⟩:=Kd.at_int (Kd.R_reads' HO_0.out).2.2 x2_1 p156 q156;obtain rfl:ad155 = ad156:=(by injection e156);replace p156:=eq_true p156;replace q156:=eq_true q156;have p8:0 ≤ (x2_1:Int):=oD;have q8:(x2_1:Int) < ((x0_1.length:Int):Int):=oD;obtain ⟨go8,co8,eo8,gb8,gl8,cl8,HG8⟩:=Kd.R_form HO_0.out (by omega)
    (first | cases eo8 | (injection eo8 with ea_ en_ ec_;(first | subst ea_ | (injection ea_ with ea_;subst ea_));subst ec_;clear en_))
    have GB8:=am gb8;have GG8:=am HG8;clear gb8 gl8 HG8;have HMgo8:=am (show (P0_ go8 ∨ w.heap.size ≤ go8) from (HO_0.out.1 _ rfl))
    (first | simp only [add_plain] at hx155_0 | skip)
    (first | simp only [add_plain] at hx156_0 | skip)
    obtain ⟨hx8_0,hf8_0⟩:=Kd.R_celln 0 HO_0.out (x2_1:Int) p8 q8;replace p8:=eq_true p8;replace q8:=eq_true q8;have HP11:=Kd.R_putn HO_0.out (x2_1:Int) (rd x0_1 x3_1);rw [← Ny157.out] at HP11;have HQ11:=am HP11;clear HP11;have p9:0 ≤ (x3_1:Int):=oD;have q9:(x3_1:Int) < ((x0_1.length:Int):Int):=oD;obtain ⟨hx9_0,hf9_0⟩:=Kd.R_celln 0 HQ11.out (x3_1:Int) p9 q9;replace p9:=eq_true p9;replace q9:=eq_true q9;have HP12:=Kd.R_putn HQ11.out (x3_1:Int) (rd x0_1 x2_1);rw [← Ny158.out] at HP12;have HQ12:=am HP12;clear HP12
    refine start_ (n:=16) (S:=fun w' => w'.cell? ⟨go8,(x3_1).toNat,none⟩ = some (.int .i64 (rd x0_1 x3_1)) ∧ w'.cell? ⟨go8,(x2_1).toNat,none⟩ = some (.int .i64 (rd x0_1 x2_1))) (ds:=[13,15]) #[false,false,false,false,false,false,false,false,false,false,false,false,false,false,false,false] (by kernel_rfl) rfl rfl ⟨hx155_0,hx156_0⟩ (fun hHeld => ?_);refine with_tabW Z0f.tab3 Z0f.bits3 (fun HT_ HW_ => ?_)
    generalize wr.drew = w10 at HO_0 HK HB GG8 HQ11 HQ12 hf8_0 hf9_0 hx155_0 hx156_0 hx8_0 hx9_0 hHeld ⊢
    refine pT 0 14 ?_
    refine pT 1 15 ?_
    refine pT 2 16 ?_
    refine pT 3 17 ?_
    refine pT 4 18 ?_
    refine pT 5 19 ?_
    refine pT 6 20 ?_
    refine pT 8 22 ?_
    refine pT 9 23 ?_
    refine pT 10 24 ?_
    refine tTt 7 21 hHeld ?_
    refine tTt 11 25 hHeld ?_
    refine pT 12 26 ?_
    refine last_ (i:=13) (N:=none) #[true,true,true,true,true,true,true,true,true,true,true,true,true,true,false,false] rfl rfl (one_of HT_.out (by kernel_rfl)) (by decide) (fun K hK => ?_)
    refine skip_ (w1:=?_) (by rfl) rfl ?_ ?_
    rotate_left
    ·
     go_simp
     rfl
    refine hK.out _ _ ?_
    clear hK K
    refine pT 14 27 ?_
    refine last_ (i:=15) (N:=none) #[true,true,true,true,true,true,true,true,true,true,true,true,true,true,true,true] rfl rfl (one_of HT_.out (by kernel_rfl)) (by decide) (fun K hK => ?_)
    refine skip_ (w1:=?_) (by rfl) rfl ?_ ?_
    rotate_left
    ·
     go_simp
     rfl
    refine hK.out _ _ ?_
    clear hK K
    refine done_ (done_of HT_.out (by kernel_rfl)) ?_
    try go_wp2
    (try simp only [← hl0_1])
    go_roundg k1
    case measure => have:=HK1.out;omega
    case rel => exact ⟨(y158),(wrap64 (x2_1 + 1)),(wrap64 (x3_1 - 1)),tV1,tV1,H',⟨by have:=HK1.out;omega⟩,⟨by (try simp only [hl0_1]);(with_reducible repeat (first | apply Kd.R_alloc | apply Kd.R_drewN | apply Kd.R_drew));exact HQ12.out⟩,⟨by repeat (first | (with_reducible first | exact HK.out | apply Kept.alloc | apply Kept.drewN | apply Kept.drew | refine Kept.setCell ?_ HMgo8.out _ | refine Kept.setCell ?_ HMgo8.out _) | exact HK.out)⟩,⟨tB HB⟩⟩
   ·
    have c3b0:decide (x2_1 < x3_1) = false:=decide_eq_false c3;clear c3;obtain rfl:=Option.some.inj H;go_wp2
    first | go_end0 | ((try simp only [Exit.inBlock,Exit.then]);refine bodyPost_ret (results_none rfl _ _ _) rfl ?_)
    exact ⟨tE,(by first | exact (dR HO_0) | (simp only [hl0_1];exact (dR HO_0))),by repeat (first | (with_reducible first | exact HB.out | apply below_alloc | apply pw_below_drewN | apply below_drew1) | exact HB.out),by repeat (first | (with_reducible first | exact HK.out | apply Kept.alloc | apply Kept.drewN | apply Kept.drew) | exact HK.out)⟩
def Z2m.f (k:Nat) (l0:List (S68)) (l1:List (S70)) (a2:ByteArray):Option (List Int):=(Z24.f l0 l1 a2).bind fun bt159 => (if bt159.2 = true then ((Z3x.f l1).bind fun t163 => ((Z1f.f k t163).bind fun t166 => ((Z0f.f k bt159.1).bind fun t167 => ((Z1o.f l0 t166 t167).bind fun t168 => (some t168))))) else (some ([]:List Int)))
set_option maxHeartbeats 8000000 in
set_option maxRecDepth 100000 in
theorem Z2m.calls (k:Nat) (A0:Option Addr) (c0:Nat) (l0:List (S68)) (A1:Option Addr) (c1:Nat) (l1:List (S70)) (a2:ByteArray) (r:List Int) (w:World) (hT:Tabs w) (hr0:Kd.C k68 w A0 l0.length l0) (hc0:l0.length ≤ c0) (hr1:Kd.C k70 w A1 l1.length l1) (hc1:l1.length ≤ c1) (h:Z2m.f k l0 l1 a2 = some r) :
 Calls Tryz.prog 105 #[.slice A0 l0.length c0,.slice A1 l1.length c1,.string a2] w fun e w' => ∃ v0_:Value,e = .returned (v0_) ∧ Kd.R (Kd.int .i64) 3 w' w.heap.size (fun _ => True) v0_ r ∧ Below w.heap.size w w':=by
 have HT:=am hT;clear hT;have HR0:=am hr0;have HC0:=am hc0;clear hr0 hc0;have HR1:=am hr1;have HC1:=am hc1;clear hr1 hc1;have HB:=am (Below.refl w.heap.size w);have H:((Z24.f l0 l1 a2).bind fun bt159 => (if bt159.2 = true then ((Z3x.f l1).bind fun t163 => ((Z1f.f k t163).bind fun t166 => ((Z0f.f k bt159.1).bind fun t167 => ((Z1o.f l0 t166 t167).bind fun t168 => (some t168))))) else (some ([]:List Int)))) = some r:=h;clear h;replace H:=bI H;obtain ⟨⟨t159,t160⟩,A4,H⟩:=H;(try dsimp only at H)
 replace H:=iT H;obtain ⟨rfl,H⟩ | ⟨rfl,H⟩:=H
 ·
  replace H:=bI H;obtain ⟨t163,A6,H⟩:=H;(try dsimp only at H);replace H:=bI H;obtain ⟨t166,A7,H⟩:=H;(try dsimp only at H);replace H:=bI H;obtain ⟨t167,A8,H⟩:=H;(try dsimp only at H);replace H:=bI H;obtain ⟨t168,A9,H⟩:=H;(try dsimp only at H);obtain rfl:=Option.some.inj H;go_enter Tryz.func105,Tryz.ntmps105
  go_wp2_with (first | ((with_reducible refine gate_callee (f:=108) rfl ?_);refine goesL_ (some 14) rfl rfl Tryz.func108 (by kernel_rfl) rfl #[.slice A0 l0.length c0,.slice A1 l1.length c1,.string a2] rfl Gc2 ?_;(with_reducible refine (Z24.calls _ _ l0 _ _ l1 a2 t159 true _ ?sT ?s1 HC0.out ?s3 HC1.out A4.out).mono ?_);(case sT => exact Gc1);(case s1 => exact Gc3);(case s3 => exact Gc8);rintro e w10 ⟨v161,rfl,ho0,hb⟩;refine ⟨_,rfl,?_⟩;have n0_:=am (Kd.R_lower ho0 (tS HB));have n1_:=am (below_step (tB HB) hb);revert n0_ n1_;clear HB;intro HO162 HB;(try clear hb);(try clear hb2);(try clear hk);(try clear hi);(try clear ho0)) | ((with_reducible refine gate_callee (f:=110) rfl ?_);refine goesL_ (some 20) rfl rfl Tryz.func110 (by kernel_rfl) rfl #[.slice A1 l1.length c1] rfl Gc2 ?_;(with_reducible refine (Z3x.calls _ _ l1 t163 _ (tC HR1 HB) HC1.out A6.out).mono ?_);rintro e w11 ⟨v164,rfl,ho0,hb⟩;refine ⟨_,rfl,?_⟩;have n0_:=am (Kd.R_below (dR HO162) hb);have n1_:=am (Kd.R_lower ho0 (tS HB));have n2_:=am (below_step (tB HB) hb);revert n0_ n1_ n2_;clear HO162 HB;intro HO162 HO165 HB;(try clear hb);(try clear hb2);(try clear hk);(try clear hi);(try clear ho0);obtain ⟨Ao12,co12,eo12⟩:=Kd.R_slice HO165.out;subst eo12) | ((with_reducible refine gate_callee (f:=111) rfl ?_);refine goesL_ (some 22) rfl rfl Tryz.func111 (by kernel_rfl) rfl #[.slice Ao12 t163.length co12] rfl Gc2 ?_;(with_reducible refine (Z1f.calls k (fun k_ => some k_ = (.slice Ao12 t163.length co12:Value).ownBlock) (.slice Ao12 t163.length co12) t163 t166 w _ ?s1 ?s2 A7.out).mono ?_);(case s1 => repeat (first | (with_reducible first | exact HB.out | apply below_alloc | apply pw_below_drewN | apply below_drew1) | exact HB.out));(case s2 => exact Kd.R_tight rfl HO165.out);rintro e w13 ⟨rfl,hy0,hb,hkp⟩;refine ⟨_,rfl,?_⟩;have n0_:=am (Kd.R_mono (ok':=fun k_ => True) (Kd.R_keptB ((Kd.R_apart' HO162.out (Kd.R_typed HO165.out) (by decide))) hkp (fun k_ hk_ hs_ => (hk_.2) hs_)) (fun k_ hk_ => trivial));have n1_:=am (Kd.R_reok rfl hy0 (fun k_ e_ => HO165.out.1 k_ e_));have n2_:=am (hb);revert n0_ n1_ n2_;clear HO162 HO165 HB;intro HO162 HO165 HB;(try clear hb);(try clear hkp);(try clear hy0);obtain ⟨Ao14,co14,eo14⟩:=Kd.R_slice HO162.out;subst eo14) | ((with_reducible refine gate_callee (f:=112) rfl ?_);refine goesL_ (some 24) rfl rfl Tryz.func112 (by kernel_rfl) rfl #[.slice Ao14 t159.length co14] rfl Gc2 ?_;(with_reducible refine (Z0f.calls k (fun k_ => some k_ = (.slice Ao14 t159.length co14:Value).ownBlock) (.slice Ao14 t159.length co14) t159 t167 w _ ?s1 ?s2 A8.out).mono ?_);(case s1 => repeat (first | (with_reducible first | exact HB.out | apply below_alloc | apply pw_below_drewN | apply below_drew1) | exact HB.out));(case s2 => exact Kd.R_tight rfl HO162.out);rintro e w15 ⟨rfl,hy0,hb,hkp⟩;refine ⟨_,rfl,?_⟩;have n0_:=am (Kd.R_reok rfl hy0 (fun k_ e_ => HO162.out.1 k_ e_));have n1_:=am (Kd.R_mono (ok':=fun k_ => True) (Kd.R_keptB ((Kd.R_apart' HO165.out (Kd.R_typed HO162.out) (by decide))) hkp (fun k_ hk_ hs_ => (hk_.2) hs_)) (fun k_ hk_ => trivial));have n2_:=am (hb);revert n0_ n1_ n2_;clear HO162 HO165 HB;intro HO162 HO165 HB;(try clear hb);(try clear hkp);(try clear hy0)) | ((with_reducible refine gate_callee (f:=109) rfl ?_);refine goesL_ (some 28) rfl rfl Tryz.func109 (by kernel_rfl) rfl #[.slice A0 l0.length c0,.slice Ao12 t166.length co12,.slice Ao14 t167.length co14] rfl (by (try simp only [List.map_toArray,List.map_cons,List.map_nil]);first | done | (rw [show t166.length = t163.length from (Kd.R_reads' HO165.out).1.symm,show t167.length = t159.length from (Kd.R_reads' HO162.out).1.symm] <;> rfl) | rfl | (simp only [List.length_drop,List.length_take];rfl)) ?_;(with_reducible refine (Z1o.calls _ _ l0 _ _ t166 _ _ t167 t168 _ (tC HR0 HB) HC0.out ?s3 ?s4 ?s5 ?s6 A9.out).mono ?_);(case s3 => repeat (first | exact (Kd.R_reads' HO165.out).2.2 | (with_reducible refine Kd.C_alloc ?_ _) | (with_reducible refine Kd.C_drewN ?_ _) | (with_reducible refine Kd.C_drew ?_)));(case s4 => rw [show t166.length = t163.length from (Kd.R_reads' HO165.out).1.symm];exact (Kd.R_reads' HO165.out).2.1);(case s5 => repeat (first | exact (Kd.R_reads' HO162.out).2.2 | (with_reducible refine Kd.C_alloc ?_ _) | (with_reducible refine Kd.C_drewN ?_ _) | (with_reducible refine Kd.C_drew ?_)));(case s6 => rw [show t167.length = t159.length from (Kd.R_reads' HO162.out).1.symm];exact (Kd.R_reads' HO162.out).2.1);rintro e w16 ⟨v169,rfl,ho0,hb⟩;refine ⟨_,rfl,?_⟩;have n0_:=am (Kd.R_elder' (dR HO162) (Kd.R_base ho0) hb);have n1_:=am (Kd.R_below (dR HO165) hb);have n2_:=am (Kd.R_lower (Kd.R_new' ho0 (Kd.R_lt (dR HO162))) (tS HB));have n3_:=am (below_step (tB HB) hb);revert n0_ n1_ n2_ n3_;clear HO162 HO165 HB;intro HO162 HO165 HO170 HB;(try clear hb);(try clear hb2);(try clear hk);(try clear hi);(try clear ho0)))
  go_ret;exact ⟨_,tE,by (with_reducible repeat (first | apply Kd.R_alloc | apply Kd.R_drewN | apply Kd.R_drew));exact Kd.R_mono HO170.out (fun _ hk => trivial),by repeat (first | (with_reducible first | exact HB.out | apply below_alloc | apply pw_below_drewN | apply below_drew1) | exact HB.out)⟩
 ·
  obtain rfl:=Option.some.inj H;go_enter Tryz.func105,Tryz.ntmps105
  go_wp2_with (first | ((with_reducible refine gate_callee (f:=108) rfl ?_);refine goesL_ (some 14) rfl rfl Tryz.func108 (by kernel_rfl) rfl #[.slice A0 l0.length c0,.slice A1 l1.length c1,.string a2] rfl Gc2 ?_;(with_reducible refine (Z24.calls _ _ l0 _ _ l1 a2 t159 false _ ?sT ?s1 HC0.out ?s3 HC1.out A4.out).mono ?_);(case sT => exact Gc1);(case s1 => exact Gc3);(case s3 => exact Gc8);rintro e w17 ⟨v161,rfl,ho0,hb⟩;refine ⟨_,rfl,?_⟩;have n0_:=am (Kd.R_lower ho0 (tS HB));have n1_:=am (below_step (tB HB) hb);revert n0_ n1_;clear HB;intro HO162 HB;(try clear hb);(try clear hb2);(try clear hk);(try clear hi);(try clear ho0)))
  go_ret;exact ⟨_,tE,by first | exact Kd.R_nil _ _ _ _ _ | exact Kd.N_nil _ _ _ _ _ | exact Kd.V_nil _ _ _ _ _ | exact Kd.Q_nil _ _ _ _ _ | exact Kd.S_nil _ _ _ _ _,by repeat (first | (with_reducible first | exact HB.out | apply below_alloc | apply pw_below_drewN | apply below_drew1) | exact HB.out)⟩
end Go.Proofs.YtfbhdjflkaldgaaGreatDoor.Pr
