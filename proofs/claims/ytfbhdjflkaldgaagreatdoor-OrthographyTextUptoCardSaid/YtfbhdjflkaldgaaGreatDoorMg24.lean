/- Several texts in one: PrF9, PrF11. -/
import Derived.Test.YtfbhdjflkaldgaaGreatDoorMg1
import Derived.Test.YtfbhdjflkaldgaaGreatDoorMg2
import Derived.Test.YtfbhdjflkaldgaaGreatDoorMg19
import Derived.Test.YtfbhdjflkaldgaaGreatDoorMg23
import Derived.Test.YtfbhdjflkaldgaaGreatDoorMg15
import Derived.Test.YtfbhdjflkaldgaaGreatDoorMg3

namespace Go.Proofs.YtfbhdjflkaldgaaGreatDoor.Pr
open Go.Proofs.YtfbhdjflkaldgaaGreatDoor.Ct Go.RowKit Go.Proofs.YtfbhdjflkaldgaaGreatDoorW.PrintWords Go.Proofs.YtfbhdjflkaldgaaGreatDoorW.PrintLast Go.Proofs.YtfbhdjflkaldgaaGreatDoorW.PrintMore
attribute [local go_sem] max2_int min2_int max_two min_two max_three min_three max_four min_four
set_option linter.unusedVariables false
set_option linter.unusedSimpArgs false
def Z0k.j0:Nat → List ByteArray → Bool → Lg → Option (ByteArray × Int)
 | 0,_,_,_ => none
 | k + 1,x1,x16,gx514 => if x16 = true then (some ((⟨#[]⟩:ByteArray),1)) else ((Z09.f k gx514 x1).bind fun bt516 => (if bt516.2 = 0 then ((Z11.f k bt516.1).bind fun t520 => (if t520.size + gx514.vt.size ≤ 9223372036854775807 then (some (t520 ++ gx514.vt,0)) else (none))) else (some ((⟨#[]⟩:ByteArray),bt516.2))))
def Z0k.f (k:Nat) (gL:Lg) (l1:List ByteArray):Option (ByteArray × Int):=(Z13.f gL).bind fun t514 => (if t514 = true then ((Z0e.f k gL l1).bind fun t515 => (Z0k.j0 k l1 (!t515) gL)) else (Z0k.j0 k l1 true gL))
theorem Zen {p:Prop} (h:p:=by
  go_ret2
  exact ⟨tE,by repeat (first | (with_reducible first | exact HB.out | apply below_alloc | apply pw_below_drewN | apply below_drew1 | refine below_set ?_ GE513.out) | exact HB.out)⟩):p:=h
set_option maxHeartbeats 8000000 in
set_option maxRecDepth 100000 in
theorem Z0k.calls (k:Nat) (gL:Lg) (pL:La) (A1:Option Addr) (c1:Nat) (l1:List ByteArray) (r1:ByteArray) (r2:Int) (w:World) (hT:Tabs w) (hL:Z2o gL pL w) (hr1:Kd.C Kd.string w A1 l1.length l1) (hc1:l1.length ≤ c1) (h:Z0k.f k gL l1 = some (r1,r2)) :
 Calls Tryz.prog 9 #[.agg (lcs gL pL),.slice A1 l1.length c1] w fun e w' => e = .returned (.tuple #[.string r1,.int .i64 r2]) ∧ Below w.heap.size w w':=by
 have HT:=am hT;clear hT;have hu41:=Tryz.underlying41;have HL:=am hL;clear hL;have HR1:=am hr1;have HC1:=am hc1;clear hr1 hc1;have HB:=am (Below.refl w.heap.size w);have H:((Z13.f gL).bind fun t514 => (if t514 = true then ((Z0e.f k gL l1).bind fun t515 => (Z0k.j0 k l1 (!t515) gL)) else (Z0k.j0 k l1 true gL))) = some (r1,r2):=h;clear h;have HC3:=am H;clear H;go_enter Tryz.func9,Tryz.ntmps9
 go_upto_region 1 with (first | ((with_reducible refine Z0z (t:=41) (p:=2) rfl ?_);(try (refine gate_guard (by rfl) ?_;dsimp only));refine wpList_load_row rfl 41 (.tmp 2) rfl gb513 rfl 41 _ (0,0) _ (tK BK513) Tryz.underlying41 rfl (by kernel_rfl) ?_) | ((with_reducible refine gate_dst (N:=2) rfl ?_);refine box_event ?hg (N:=2) ?hd (cs:=?cs) (t:=41) ?hr ?_;(case hd => rfl);(case hg => rfl);(case hr => exact Gc5);intro gb513 hg w4 hbox hb;have n0_:=am (below_step (tB HB) hb);have n1_:=am (hbox);have n2_:=tZ hg (tS HB);have n3_:=tZ hg (tS HB);revert n0_ n1_ n2_ n3_;clear HB;intro HB BK513 GW513 GE513;clear hb hbox hg))
 repeat (go_quiet (first | ((with_reducible refine gate_dst (N:=2) rfl ?_);refine box_event ?hg (N:=2) ?hd (cs:=?cs) (t:=41) ?hr ?_;(case hd => rfl);(case hg => rfl);(case hr => exact Gc5);intro gb513 hg w4 hbox hb;have n0_:=am (below_step (tB HB) hb);have n1_:=am (hbox);have n2_:=tZ hg (tS HB);have n3_:=tZ hg (tS HB);revert n0_ n1_ n2_ n3_;clear HB;intro HB BK513 GW513 GE513;clear hb hbox hg));go_upto_region 1 with (first | ((with_reducible refine gate_dst (N:=2) rfl ?_);refine box_event ?hg (N:=2) ?hd (cs:=?cs) (t:=41) ?hr ?_;(case hd => rfl);(case hg => rfl);(case hr => exact Gc5);intro gb513 hg w4 hbox hb;have n0_:=am (below_step (tB HB) hb);have n1_:=am (hbox);have n2_:=tZ hg (tS HB);have n3_:=tZ hg (tS HB);revert n0_ n1_ n2_ n3_;clear HB;intro HB BK513 GW513 GE513;clear hb hbox hg)))
 (try simp only [Act.put,List.setIfInBounds_toArray,List.set_cons_zero,List.set_cons_succ])
 go_cut [16] (fun v16 wc => ∃ (kq:Nat) (x16_2:Bool),v16 = .bool x16_2 ∧ Aside0 (Z0k.j0 kq l1 x16_2 gL = some (r1,r2)) ∧ Aside0 (kq ≤ k) ∧ Aside0 (wc.heap[gb513]? = some (.cells (lcs gL pL) 41 (0,0))) ∧ Aside0 (Below w.heap.size w wc))
 case first =>
  have H:=HC3.out;clear HC3;replace H:=bI H;obtain ⟨t514,A5,H⟩:=H;(try dsimp only at H)
  replace H:=iT H;obtain ⟨rfl,H⟩ | ⟨rfl,H⟩:=H
  ·
   replace H:=bI H;obtain ⟨t515,A7,H⟩:=H;(try dsimp only at H);have H':=am H;clear H;have hcz8_29:=cel2 BK513 29 rfl;have hfz8_29:=blk_frozen BK513.out 29
   go_wp2_with (first | ((with_reducible refine Z0z (t:=41) (p:=2) rfl ?_);(try (refine gate_guard (by rfl) ?_;dsimp only));refine wpList_load_row rfl 41 (.tmp 2) rfl gb513 rfl 41 _ (0,0) _ (tK BK513) Tryz.underlying41 rfl (by kernel_rfl) ?_) | (go_at_call 21;(with_reducible refine (Z13.calls gL pL true _ ?sT (lB HL HB) A5.out).mono ?_);(case sT => exact Gc1);rintro e w9 ⟨rfl,hb⟩;have n0_:=am (blk_below (tK BK513) hb);have n1_:=am (below_step (tB HB) hb);revert n0_ n1_;clear BK513 HB;intro BK513 HB;(try clear hb);(try clear hb2);(try clear hk);(try clear hi);have hcz10_29:=cel2 BK513 29 rfl;have hfz10_29:=blk_frozen BK513.out 29) | (go_at_call 22;(with_reducible refine (Z0e.calls k gL pL _ _ l1 t515 _ (lB HL HB) (tC HR1 HB) HC1.out A7.out).mono ?_);rintro e w11 ⟨rfl,hb⟩;have n0_:=am (blk_below (tK BK513) hb);have n1_:=am (below_step (tB HB) hb);revert n0_ n1_;clear BK513 HB;intro BK513 HB;(try clear hb);(try clear hb2);(try clear hk);(try clear hi)))
   repeat (go_quiet (first | (go_at_call 21;(with_reducible refine (Z13.calls gL pL true _ ?sT (lB HL HB) A5.out).mono ?_);(case sT => exact Gc1);rintro e w9 ⟨rfl,hb⟩;have n0_:=am (blk_below (tK BK513) hb);have n1_:=am (below_step (tB HB) hb);revert n0_ n1_;clear BK513 HB;intro BK513 HB;(try clear hb);(try clear hb2);(try clear hk);(try clear hi);have hcz10_29:=cel2 BK513 29 rfl;have hfz10_29:=blk_frozen BK513.out 29) | (go_at_call 22;(with_reducible refine (Z0e.calls k gL pL _ _ l1 t515 _ (lB HL HB) (tC HR1 HB) HC1.out A7.out).mono ?_);rintro e w11 ⟨rfl,hb⟩;have n0_:=am (blk_below (tK BK513) hb);have n1_:=am (below_step (tB HB) hb);revert n0_ n1_;clear BK513 HB;intro BK513 HB;(try clear hb);(try clear hb2);(try clear hk);(try clear hi)));try go_wp2_with (first | (go_at_call 21;(with_reducible refine (Z13.calls gL pL true _ ?sT (lB HL HB) A5.out).mono ?_);(case sT => exact Gc1);rintro e w9 ⟨rfl,hb⟩;have n0_:=am (blk_below (tK BK513) hb);have n1_:=am (below_step (tB HB) hb);revert n0_ n1_;clear BK513 HB;intro BK513 HB;(try clear hb);(try clear hb2);(try clear hk);(try clear hi);have hcz10_29:=cel2 BK513 29 rfl;have hfz10_29:=blk_frozen BK513.out 29) | (go_at_call 22;(with_reducible refine (Z0e.calls k gL pL _ _ l1 t515 _ (lB HL HB) (tC HR1 HB) HC1.out A7.out).mono ?_);rintro e w11 ⟨rfl,hb⟩;have n0_:=am (blk_below (tK BK513) hb);have n1_:=am (below_step (tB HB) hb);revert n0_ n1_;clear BK513 HB;intro BK513 HB;(try clear hb);(try clear hb2);(try clear hk);(try clear hi))))
   go_meet
   case rel => exact ⟨_,(!t515),tV1,H',⟨tU⟩,⟨tK BK513⟩,⟨tB HB⟩⟩
  ·
   have H':=am H;clear H;have hcz12_29:=cel2 BK513 29 rfl;have hfz12_29:=blk_frozen BK513.out 29
   go_wp2_with (first | ((with_reducible refine Z0z (t:=41) (p:=2) rfl ?_);(try (refine gate_guard (by rfl) ?_;dsimp only));refine wpList_load_row rfl 41 (.tmp 2) rfl gb513 rfl 41 _ (0,0) _ (tK BK513) Tryz.underlying41 rfl (by kernel_rfl) ?_) | (go_at_call 21;(with_reducible refine (Z13.calls gL pL false _ ?sT (lB HL HB) A5.out).mono ?_);(case sT => exact Gc1);rintro e w13 ⟨rfl,hb⟩;have n0_:=am (blk_below (tK BK513) hb);have n1_:=am (below_step (tB HB) hb);revert n0_ n1_;clear BK513 HB;intro BK513 HB;(try clear hb);(try clear hb2);(try clear hk);(try clear hi)))
   repeat (go_quiet (first | (go_at_call 21;(with_reducible refine (Z13.calls gL pL false _ ?sT (lB HL HB) A5.out).mono ?_);(case sT => exact Gc1);rintro e w13 ⟨rfl,hb⟩;have n0_:=am (blk_below (tK BK513) hb);have n1_:=am (below_step (tB HB) hb);revert n0_ n1_;clear BK513 HB;intro BK513 HB;(try clear hb);(try clear hb2);(try clear hk);(try clear hi)));try go_wp2_with (first | (go_at_call 21;(with_reducible refine (Z13.calls gL pL false _ ?sT (lB HL HB) A5.out).mono ?_);(case sT => exact Gc1);rintro e w13 ⟨rfl,hb⟩;have n0_:=am (blk_below (tK BK513) hb);have n1_:=am (below_step (tB HB) hb);revert n0_ n1_;clear BK513 HB;intro BK513 HB;(try clear hb);(try clear hb2);(try clear hk);(try clear hi))))
   go_meet
   case rel => exact ⟨_,(true),tV1,H',⟨tU⟩,⟨tK BK513⟩,⟨tB HB⟩⟩
 case rest =>
  clear HC3;obtain ⟨kq,x16_2,rfl,HA,HJ2,BK513,HB⟩:=hcut
  cases kq with
  | zero => exact absurd HA.out (by simp [Z0k.j0])
  | succ kj2 =>
   have H:=HA.out;clear HA;simp only [Z0k.j0] at H
   replace H:=iT H;obtain ⟨rfl,H⟩ | ⟨rfl,H⟩:=H
   ·
    simp only [Option.some.injEq,Prod.mk.injEq] at H;obtain ⟨rfl,rfl⟩:=H;go_wp2
    repeat (go_quiet (fail);try go_wp2)
    exact Zen
   ·
    replace H:=bI H;obtain ⟨⟨t516,t519⟩,A15,H⟩:=H;(try dsimp only at H)
    replace H:=iE H;obtain ⟨-,c16b0,c16b1,H⟩ | ⟨c16,c16b0,c16b1,H⟩:=H
    ·
     replace H:=bI H;obtain ⟨t520,A17,H⟩:=H;(try dsimp only at H);replace H:=iFn H;obtain ⟨c18,H⟩:=H;have c18b0:=eq_true c18;have c18b1:decide (t520.size + gL.vt.size ≤ 9223372036854775807) = true:=decide_eq_true c18
     try have c18b2:(9223372036854775807 < t520.size + gL.vt.size) = False:=eq_false (Nat.not_lt.2 c18)
     simp only [Option.some.injEq,Prod.mk.injEq] at H;obtain ⟨rfl,rfl⟩:=H;have hcz19_29:=cel2 BK513 29 rfl;have hfz19_29:=blk_frozen BK513.out 29
     go_wp2_with (first | ((with_reducible refine Z0z (t:=41) (p:=2) rfl ?_);(try (refine gate_guard (by rfl) ?_;dsimp only));refine wpList_load_row rfl 41 (.tmp 2) rfl gb513 rfl 41 _ (0,0) _ (tK BK513) Tryz.underlying41 rfl (by kernel_rfl) ?_) | (go_at_call 23;(with_reducible refine (Z09.calls kj2 gL pL _ _ l1 t516 t519 _ ?sT (lB HL HB) (tC HR1 HB) HC1.out A15.out).mono ?_);(case sT => exact Gc1);rintro e w20 ⟨v517,rfl,ho0,hb⟩;have n0_:=am (Kd.R_lower ho0 (tS HB));have n1_:=am (blk_below (tK BK513) hb);have n2_:=am (below_step (tB HB) hb);revert n0_ n1_ n2_;clear BK513 HB;intro HO518 BK513 HB;(try clear hb);(try clear hb2);(try clear hk);(try clear hi);(try clear ho0);obtain ⟨Ao21,co21,eo21⟩:=Kd.R_slice HO518.out;subst eo21) | (go_at_call 24;(with_reducible refine (Z11.calls kj2 _ _ t516 t520 _ ?s1 ?s2 A17.out).mono ?_);(case s1 => exact Gc17);(case s2 => exact (Kd.R_reads' HO518.out).2.1);rintro e w' ⟨rfl,⟨nd,rfl⟩⟩;(try first | exact ⟨rfl,_,World.drewN_drewN _ _ _⟩ | exact ⟨rfl,_,Eq.trans (World.drewN_drewN _ _ _) (congrArg (World.drewN _) (Nat.add_assoc _ _ _))⟩);have hcz22_29:=cel2 BK513 29 rfl;have hfz22_29:=blk_frozen BK513.out 29))
     repeat (go_quiet (first | (go_at_call 23;(with_reducible refine (Z09.calls kj2 gL pL _ _ l1 t516 t519 _ ?sT (lB HL HB) (tC HR1 HB) HC1.out A15.out).mono ?_);(case sT => exact Gc1);rintro e w20 ⟨v517,rfl,ho0,hb⟩;have n0_:=am (Kd.R_lower ho0 (tS HB));have n1_:=am (blk_below (tK BK513) hb);have n2_:=am (below_step (tB HB) hb);revert n0_ n1_ n2_;clear BK513 HB;intro HO518 BK513 HB;(try clear hb);(try clear hb2);(try clear hk);(try clear hi);(try clear ho0);obtain ⟨Ao21,co21,eo21⟩:=Kd.R_slice HO518.out;subst eo21) | (go_at_call 24;(with_reducible refine (Z11.calls kj2 _ _ t516 t520 _ ?s1 ?s2 A17.out).mono ?_);(case s1 => exact Gc17);(case s2 => exact (Kd.R_reads' HO518.out).2.1);rintro e w' ⟨rfl,⟨nd,rfl⟩⟩;(try first | exact ⟨rfl,_,World.drewN_drewN _ _ _⟩ | exact ⟨rfl,_,Eq.trans (World.drewN_drewN _ _ _) (congrArg (World.drewN _) (Nat.add_assoc _ _ _))⟩);have hcz22_29:=cel2 BK513 29 rfl;have hfz22_29:=blk_frozen BK513.out 29));try go_wp2_with (first | (go_at_call 23;(with_reducible refine (Z09.calls kj2 gL pL _ _ l1 t516 t519 _ ?sT (lB HL HB) (tC HR1 HB) HC1.out A15.out).mono ?_);(case sT => exact Gc1);rintro e w20 ⟨v517,rfl,ho0,hb⟩;have n0_:=am (Kd.R_lower ho0 (tS HB));have n1_:=am (blk_below (tK BK513) hb);have n2_:=am (below_step (tB HB) hb);revert n0_ n1_ n2_;clear BK513 HB;intro HO518 BK513 HB;(try clear hb);(try clear hb2);(try clear hk);(try clear hi);(try clear ho0);obtain ⟨Ao21,co21,eo21⟩:=Kd.R_slice HO518.out;subst eo21) | (go_at_call 24;(with_reducible refine (Z11.calls kj2 _ _ t516 t520 _ ?s1 ?s2 A17.out).mono ?_);(case s1 => exact Gc17);(case s2 => exact (Kd.R_reads' HO518.out).2.1);rintro e w' ⟨rfl,⟨nd,rfl⟩⟩;(try first | exact ⟨rfl,_,World.drewN_drewN _ _ _⟩ | exact ⟨rfl,_,Eq.trans (World.drewN_drewN _ _ _) (congrArg (World.drewN _) (Nat.add_assoc _ _ _))⟩);have hcz22_29:=cel2 BK513 29 rfl;have hfz22_29:=blk_frozen BK513.out 29)))
     exact Zen
    ·
     simp only [Option.some.injEq,Prod.mk.injEq] at H;obtain ⟨rfl,rfl⟩:=H;have hcz23_29:=cel2 BK513 29 rfl;have hfz23_29:=blk_frozen BK513.out 29
     go_wp2_with (first | ((with_reducible refine Z0z (t:=41) (p:=2) rfl ?_);(try (refine gate_guard (by rfl) ?_;dsimp only));refine wpList_load_row rfl 41 (.tmp 2) rfl gb513 rfl 41 _ (0,0) _ (tK BK513) Tryz.underlying41 rfl (by kernel_rfl) ?_) | (go_at_call 23;(with_reducible refine (Z09.calls kj2 gL pL _ _ l1 t516 t519 _ ?sT (lB HL HB) (tC HR1 HB) HC1.out A15.out).mono ?_);(case sT => exact Gc1);rintro e w24 ⟨v517,rfl,ho0,hb⟩;have n0_:=am (Kd.R_lower ho0 (tS HB));have n1_:=am (blk_below (tK BK513) hb);have n2_:=am (below_step (tB HB) hb);revert n0_ n1_ n2_;clear BK513 HB;intro HO518 BK513 HB;(try clear hb);(try clear hb2);(try clear hk);(try clear hi);(try clear ho0)))
     repeat (go_quiet (first | (go_at_call 23;(with_reducible refine (Z09.calls kj2 gL pL _ _ l1 t516 t519 _ ?sT (lB HL HB) (tC HR1 HB) HC1.out A15.out).mono ?_);(case sT => exact Gc1);rintro e w24 ⟨v517,rfl,ho0,hb⟩;have n0_:=am (Kd.R_lower ho0 (tS HB));have n1_:=am (blk_below (tK BK513) hb);have n2_:=am (below_step (tB HB) hb);revert n0_ n1_ n2_;clear BK513 HB;intro HO518 BK513 HB;(try clear hb);(try clear hb2);(try clear hk);(try clear hi);(try clear ho0)));try go_wp2_with (first | (go_at_call 23;(with_reducible refine (Z09.calls kj2 gL pL _ _ l1 t516 t519 _ ?sT (lB HL HB) (tC HR1 HB) HC1.out A15.out).mono ?_);(case sT => exact Gc1);rintro e w24 ⟨v517,rfl,ho0,hb⟩;have n0_:=am (Kd.R_lower ho0 (tS HB));have n1_:=am (blk_below (tK BK513) hb);have n2_:=am (below_step (tB HB) hb);revert n0_ n1_ n2_;clear BK513 HB;intro HO518 BK513 HB;(try clear hb);(try clear hb2);(try clear hk);(try clear hi);(try clear ho0))))
     exact Zen
mutual
def Z08.j0:Nat → List (List ByteArray) → Bool → Lg → Option (ByteArray × Int)
 | 0,_,_,_ => none
 | k + 1,x1,x22,gx530 => if x22 = true then (some ((⟨#[]⟩:ByteArray),1)) else (Z08.l0 k x1 (([]:List ByteArray)) 0 gx530)
def Z08.l0:Nat → List (List ByteArray) → List ByteArray → Int → Lg → Option (ByteArray × Int)
 | 0,_,_,_,_ => none
 | k + 1,x1,x6,x7,gx530 => if x7 < (x1.length:Int) then (if 0 ≤ x7 then ((Z0k.f k gx530 (Z3h x1 x7)).bind fun bt535 => (if bt535.2 = 0 then (if x6.length < 8796093022208 then (Z08.l0 k x1 (x6 ++ [bt535.1]) (wrap64 (x7 + 1)) gx530) else (none)) else (some ((⟨#[]⟩:ByteArray),bt535.2)))) else (none)) else ((Z11.f k x6).bind fun t540 => (some (t540,0)))
end
def Z08.f (k:Nat) (gL:Lg) (l1:List (List ByteArray)):Option (ByteArray × Int):=(Z13.f gL).bind fun t530 => (if t530 = true then (if (l1.length:Int) < 1 then (Z08.j0 k l1 true gL) else (Z08.j0 k l1 (decide ((l1.length:Int) > 8)) gL)) else (Z08.j0 k l1 true gL))
def Z08.T7:Bool × List (List Nat × List Nat):=(true,[([],[]),([],[]),([],[]),([1,2],[1,2]),([3],[3]),([0,4],[0,4]),([5],[5]),([6],[6]),([6],[6]),([7,5,0,1,2,3,4,5,6,7],[7]),([8,9,0,1,2,3,4,5,6,7,8,9],[8])])
def Z08.B7:List Nat:=[0,0,0,6,14,31,63,127,127,255,1023]
theorem Z08.tab7:rtab .any (opsOf Tryz.f11 7) = Z08.T7:=by kernel_rfl
theorem Z08.bits7:waitsOk Z08.T7.2 Z08.B7 = true:=by kernel_rfl
theorem Zh3 {p:Prop} (h:p:=by
  rintro w' ⟨z1_,z2_⟩
  first | (refine Eq.trans (Z5b 41 (.tmp 2) (by rfl) gb529 (by rfl) 41 _ _ z1_ Tryz.underlying41 (by rfl) (by kernel_rfl)) ?_;with_reducible rfl) | (clear z1_;go_simp;with_reducible rfl)
  skip):p:=h
theorem Zc1 {p:Prop} (h:p:=by
  go_ret2
  exact ⟨tE,by repeat (first | (with_reducible first | exact HB.out | apply below_alloc | apply pw_below_drewN | apply below_drew1 | refine below_set ?_ GE529.out) | exact HB.out)⟩):p:=h
set_option maxRecDepth 1000000 in
theorem Zdr {p:Prop} (h:p:=by
  refine pT 1 32 ?_
  refine pT 2 33 ?_
  refine pT 3 34 ?_
  refine take_ (i:=0) (N:=some 31) (v:=?_) (a':=?_) #[true,true,true,true,false,false,false,false,false,false,false] rfl rfl (take_ofW HT_.out HW_.out (by kernel_rfl)) (fun _ _ _ h => h) (Or.inl ⟨by rfl,?_⟩) hHeld ?_ ?_
  rotate_left
  ·
   exact Zh3
  rotate_left
  ·
   exact GpR
  refine take_ (i:=4) (N:=some 35) (v:=?_) (a':=?_) #[true,true,true,true,true,false,false,false,false,false,false] rfl rfl (take_ofW HT_.out HW_.out (by kernel_rfl)) (fun _ _ _ h => h) (Or.inl ⟨by rfl,?_⟩) hHeld ?_ ?_
  rotate_left
  ·
   exact Zh3
  rotate_left
  ·
   exact GpR
  refine one_ (i:=5) (N:=some 36) #[true,true,true,true,true,true,false,false,false,false,false] rfl rfl (one_of HT_.out (by kernel_rfl)) (by decide) (fun K hK => ?_)
  refine goes_ Tryz.func9 (by kernel_rfl) rfl #[.agg _,.slice A534_0 (Z3h l1 x7_2).length c534_0] (by rfl) rfl rfl Gc2 ?_
  with_reducible refine (Z0k.calls k2 gL pL _ _ (Z3h l1 x7_2) t535 t536 _ ?sT (lB HL HB) ?s33 ?s34 A19.out).mono ?_
  (case sT => exact Gc1);(case s33 => exact tC HR534_0 HB);(case s34 => exact HC534_0.out)
  first
  | (have mk_:=mk0_
     rintro e w23 ⟨rfl,hb⟩
     refine ⟨_,rfl,?_⟩
     have n0_:=am (Kd.R_below (dR HO_6) hb);have n1_:=am (blk_below (tK BK529) hb);have n2_:=am (below_step (tB HB) hb);revert n0_ n1_ n2_;clear HO_6 BK529 HB;intro HO_6 BK529 HB
     (try clear hb);(try clear hk)
     refine hK.out _ _ ⟨BK529.out,((HB.out.cell (World.block_lt_of_cell? w _ hw534_0)).trans hw534_0)⟩ (fun hHeld => ?_)
     clear hK K
     refine nR 36 ?_
     refine pT 6 30 ?_
     refine pT 7 37 ?_
     refine pT 8 38 ?_
     refine pT 9 8 ?_
     refine pT 10 9 ?_
     refine done_ (done_of HT_.out (by kernel_rfl)) ?_
     try go_wp2_with (first | ((with_reducible refine Z0z (t:=41) (p:=2) rfl ?_);(try (refine gate_guard (by rfl) ?_;dsimp only));refine wpList_load_row rfl 41 (.tmp 2) rfl gb529 rfl 41 _ (0,0) _ (tK BK529) Tryz.underlying41 rfl (by kernel_rfl) ?_) | ((with_reducible refine gate_builtin (b:=.append) (xs:=#[.tmp 42,.tmp 44]) rfl ?_);(try (refine gate_guard (by rfl) ?_;dsimp only));at_builtin;refine Kd.R_append Kd.string (w0:=w) w.heap.size rfl (.tmp 42) (.tmp 44) 31 9 (.string ⟨#[]⟩) 16 rfl Tryz.underlying31 Z95 rfl (by decide) (by omega) u6 x6_2 t535 [.string t535] (fun _ => True) (fun _ => False) rfl rfl ?aP (fun _ hk => hk.elim) ?aF ?aO ?aB ?aS ?aL ?_;(case aP => exact rfl);(case aB => exact (tB HB));(case aF => exact Gc25);(case aO => exact (dR HO_6));(case aS => exact (tS HB));(case aL => have:=LMc21.out;omega);intro v538 w24 ho hb hg hat;rw [← Ny537.out] at ho;have n0_:=am (blk_grown (tK BK529) hg (Kd.R_ne HO_6.out BK529.out (by decide)));have n1_:=am (hb);have n2_:=am (ho);revert n0_ n1_ n2_;clear BK529 HB HO_6;intro BK529 HB HO539;clear ho hb hg hat))
     go_roundg k2
     case measure => have:=HJ2.out;have:=HK2.out;omega
     case rel => exact ⟨(y537),(wrap64 (x7_2 + 1)),tV1,H',⟨by have:=HJ2.out;have:=HK2.out;omega⟩,⟨dR HO539⟩,⟨tK BK529⟩,⟨tB HB⟩⟩)
  | (have mk_:=mk1_
     rintro e w26 ⟨rfl,hb⟩
     refine ⟨_,rfl,?_⟩
     have n0_:=am (Kd.R_below (dR HO_6) hb);have n1_:=am (blk_below (tK BK529) hb);have n2_:=am (below_step (tB HB) hb);revert n0_ n1_ n2_;clear HO_6 BK529 HB;intro HO_6 BK529 HB
     (try clear hb);(try clear hk)
     refine hK.out _ _ ⟨BK529.out,((HB.out.cell (World.block_lt_of_cell? w _ hw534_0)).trans hw534_0)⟩ (fun hHeld => ?_)
     clear hK K
     refine nR 36 ?_
     refine pT 6 30 ?_
     refine pT 7 37 ?_
     refine pT 8 38 ?_
     refine pT 9 8 ?_
     refine pT 10 9 ?_
     refine done_ (done_of HT_.out (by kernel_rfl)) ?_
     try go_wp2
     exact Zc1)):p:=h
theorem Zds {p:Prop} (h:p:=by
  clear c7
  (first | rw [c7b0] | (simp only [i64_w,i32_w];rw [c7b0]) | skip)
  have H':=am H;clear H
  go_wp2_with (first | ((with_reducible refine Z0z (t:=41) (p:=2) rfl ?_);(try (refine gate_guard (by rfl) ?_;dsimp only));refine wpList_load_row rfl 41 (.tmp 2) rfl gb529 rfl 41 _ (0,0) _ (tK BK529) Tryz.underlying41 rfl (by kernel_rfl) ?_) | ((with_reducible refine gate_callee (f:=21) rfl ?_);refine goesL_ (some 11) rfl rfl Tryz.func21 (by kernel_rfl) rfl #[.agg _] rfl Gc2 ?_;(with_reducible refine (Z13.calls gL pL true _ ?sT (lB HL HB) A5.out).mono ?_);(case sT => exact Gc1);rintro e z1_ ⟨rfl,hb⟩;refine ⟨_,rfl,?_⟩;have z2_:=am (blk_below (tK BK529) hb);have z3_:=am (below_step (tB HB) hb);revert z2_ z3_;clear BK529 HB;intro BK529 HB;(try clear hb);(try clear hb2);(try clear hk);(try clear hi)))
  go_meet
  first
  | (have mk_:=mk0_
     case rel => exact ⟨_,(decide ((l1.length:Int) > 8)),tV1,H',⟨tU⟩,⟨tK BK529⟩,⟨tB HB⟩⟩)
  | (have mk_:=mk1_
     case rel => exact ⟨_,(true),tV1,H',⟨tU⟩,⟨tK BK529⟩,⟨tB HB⟩⟩)):p:=h
theorem Zdt {p:Prop} (h:p:=by
  try go_wp2
  have n0_:=am (Kd.R_drew HO_6.out);have n1_:=am (blk_drew BK529.out);have n2_:=am (below_drew1 HB.out);revert n0_ n1_ n2_;clear HO_6 BK529 HB;intro HO_6 BK529 HB;have p534:0 ≤ (x7_2:Int):=oD;have q534:x7_2 < (l1.length:Int):=oD;obtain ⟨ad534,A534_0,c534_0,e534,hx534_0,hl534_0,hi534_0⟩:=Zi1 HR1.out x7_2 p534 q534;have hw534_0:=hx534_0;cases e534;replace hx534_0:=celB HB hx534_0;have HR534_0:=am hi534_0;have HC534_0:=am hl534_0;clear hi534_0 hl534_0;replace p534:=eq_true p534;replace q534:=eq_true q534
  refine start_ (n:=11) (S:=fun w' => w'.heap[gb529]? = some (.cells (lcs gL pL) 41 (0,0)) ∧ w'.cell? (ad534.add (x7_2).toNat) = some (.slice A534_0 (Z3h l1 x7_2).length c534_0)) (ds:=[]) #[false,false,false,false,false,false,false,false,false,false,false] (by kernel_rfl) rfl rfl ⟨BK529.out,((HB.out.cell (World.block_lt_of_cell? w _ hw534_0)).trans hw534_0)⟩ (fun hHeld => ?_);refine with_tabW Z08.tab7 Z08.bits7 (fun HT_ HW_ => ?_)
  first
  | (have mk_:=mk0_
     generalize wr.drew = w22 at HO_6 BK529 HB HR534_0 hx534_0 hHeld ⊢;have mk0_:=trivial
     exact Zdr)
  | (have mk_:=mk1_
     generalize wr.drew = w25 at HO_6 BK529 HB HR534_0 hx534_0 hHeld ⊢;have mk1_:=trivial
     exact Zdr)):p:=h
set_option maxHeartbeats 8000000 in
set_option maxRecDepth 100000 in
theorem Z08.calls (k:Nat) (gL:Lg) (pL:La) (A1:Option Addr) (c1:Nat) (l1:List (List ByteArray)) (r1:ByteArray) (r2:Int) (w:World) (hT:Tabs w) (hL:Z2o gL pL w) (hr1:Kd.C (Kd.slice 9 Kd.string) w A1 l1.length l1) (hc1:l1.length ≤ c1) (h:Z08.f k gL l1 = some (r1,r2)) :
 Calls Tryz.prog 11 #[.agg (lcs gL pL),.slice A1 l1.length c1] w fun e w' => e = .returned (.tuple #[.string r1,.int .i64 r2]) ∧ Below w.heap.size w w':=by
 have HT:=am hT;clear hT;have hu41:=Tryz.underlying41;have HL:=am hL;clear hL;have HR1:=am hr1;have HC1:=am hc1;clear hr1 hc1;have HB:=am (Below.refl w.heap.size w);have H:((Z13.f gL).bind fun t530 => (if t530 = true then (if (l1.length:Int) < 1 then (Z08.j0 k l1 true gL) else (Z08.j0 k l1 (decide ((l1.length:Int) > 8)) gL)) else (Z08.j0 k l1 true gL))) = some (r1,r2):=h;clear h;have HC3:=am H;clear H;go_enter Tryz.func11,Tryz.ntmps11
 go_upto_region 1 with (first | ((with_reducible refine Z0z (t:=41) (p:=2) rfl ?_);(try (refine gate_guard (by rfl) ?_;dsimp only));refine wpList_load_row rfl 41 (.tmp 2) rfl gb529 rfl 41 _ (0,0) _ (tK BK529) Tryz.underlying41 rfl (by kernel_rfl) ?_) | ((with_reducible refine gate_dst (N:=2) rfl ?_);(try (refine gate_guard (by rfl) ?_;dsimp only));refine box_event ?hg (N:=2) ?hd (cs:=?cs) (t:=41) ?hr ?_;(case hd => rfl);(case hg => rfl);(case hr => exact Gc5);intro gb529 hg w4 hbox hb;have n0_:=am (below_step (tB HB) hb);have n1_:=am (hbox);have n2_:=tZ hg (tS HB);have n3_:=tZ hg (tS HB);revert n0_ n1_ n2_ n3_;clear HB;intro HB BK529 GW529 GE529;clear hb hbox hg))
 (try simp only [Act.put,List.setIfInBounds_toArray,List.set_cons_zero,List.set_cons_succ])
 go_cut [22] (fun v22 wc => ∃ (kq:Nat) (x22_2:Bool),v22 = .bool x22_2 ∧ Aside0 (Z08.j0 kq l1 x22_2 gL = some (r1,r2)) ∧ Aside0 (kq ≤ k) ∧ Aside0 (wc.heap[gb529]? = some (.cells (lcs gL pL) 41 (0,0))) ∧ Aside0 (Below w.heap.size w wc))
 case first =>
  have H:=HC3.out;clear HC3;replace H:=bI H;obtain ⟨t530,A5,H⟩:=H;(try dsimp only at H)
  replace H:=iT H;obtain ⟨rfl,H⟩ | ⟨rfl,H⟩:=H
  ·
   replace H:=iF H;obtain ⟨c7,H⟩ | ⟨c7,H⟩:=H
   ·
    have c7b0:decide ((l1.length:Int) < 1) = true:=decide_eq_true c7;have c7b1:decide (l1.length < 1) = true:=decide_eq_true (by omega);have mk1_:=trivial;exact Zds
   ·
    have c7b0:decide ((l1.length:Int) < 1) = false:=decide_eq_false c7;have c7b1:decide (l1.length < 1) = false:=decide_eq_false (by omega);have mk0_:=trivial;exact Zds
  ·
   have H':=am H;clear H
   go_wp2_with (first | ((with_reducible refine Z0z (t:=41) (p:=2) rfl ?_);(try (refine gate_guard (by rfl) ?_;dsimp only));refine wpList_load_row rfl 41 (.tmp 2) rfl gb529 rfl 41 _ (0,0) _ (tK BK529) Tryz.underlying41 rfl (by kernel_rfl) ?_) | ((with_reducible refine gate_callee (f:=21) rfl ?_);refine goesL_ (some 11) rfl rfl Tryz.func21 (by kernel_rfl) rfl #[.agg _] rfl Gc2 ?_;(with_reducible refine (Z13.calls gL pL false _ ?sT (lB HL HB) A5.out).mono ?_);(case sT => exact Gc1);rintro e w13 ⟨rfl,hb⟩;refine ⟨_,rfl,?_⟩;have n0_:=am (blk_below (tK BK529) hb);have n1_:=am (below_step (tB HB) hb);revert n0_ n1_;clear BK529 HB;intro BK529 HB;(try clear hb);(try clear hb2);(try clear hk);(try clear hi)))
   go_meet
   case rel => exact ⟨_,(true),tV1,H',⟨tU⟩,⟨tK BK529⟩,⟨tB HB⟩⟩
 case rest =>
  clear HC3;obtain ⟨kq,x22_2,rfl,HA,HJ2,BK529,HB⟩:=hcut
  cases kq with
  | zero => exact absurd HA.out (by simp [Z08.j0])
  | succ kj2 =>
   have H:=HA.out;clear HA;simp only [Z08.j0] at H
   replace H:=iT H;obtain ⟨rfl,H⟩ | ⟨rfl,H⟩:=H
   ·
    simp only [Option.some.injEq,Prod.mk.injEq] at H;obtain ⟨rfl,rfl⟩:=H;go_wp2;exact Zc1
   ·
    obtain ⟨y531,hy531⟩:∃ y_:List ByteArray,y_ = (([]:List ByteArray)):=⟨_,rfl⟩
    replace H:(Z08.l0 kj2 l1 y531 0 gL) = some (r1,r2):=by first | (rw [hy531];with_reducible exact H) | (have H2_:=(Option.bind_some _ _).symm.trans H;rw [hy531];with_reducible exact H2_) | (have H2_:=(Option.bind_some _ _).symm.trans H;with_reducible exact H2_) | with_reducible exact H | (rw [hy531];exact H) | exact H
    have Ny531:=am hy531;clear hy531;have H':=am H;clear H
    go_wp2_with (first | ((with_reducible refine Z0z (t:=41) (p:=2) rfl ?_);(try (refine gate_guard (by rfl) ?_;dsimp only));refine wpList_load_row rfl 41 (.tmp 2) rfl gb529 rfl 41 _ (0,0) _ (tK BK529) Tryz.underlying41 rfl (by kernel_rfl) ?_) | ((with_reducible refine gate_dst (N:=23) rfl ?_);(try (refine gate_guard (by rfl) ?_;dsimp only));refine Kd.R_lit Kd.string _ 9 ?hg (N:=23) ?hd (xs:=([]:List ByteArray)) (inner:=[]) (ok:=fun _ => True) (okp:=fun _ => True) ?hr ?hp (fun _ hk => hk) trivial (Below.refl _ _) (Nat.le_refl _) (by simp) ?_;(case hd => rfl);(case hg => rfl);(case hr => exact Gc5);(case hp => exact (Reps.none _ _));intro v532 w15 ho16 hb hg_ hnew_;clear hg_ hnew_;(first | rw [← Ny531.out] at ho16 | (simp only [Int.reduceToNat] at ho16;rw [← Ny531.out] at ho16));have n0_:=am (Kd.R_lower ho16 (tS HB));have n1_:=am (blk_below (tK BK529) hb);have n2_:=am (below_step (tB HB) hb);revert n0_ n1_ n2_;clear BK529 HB;intro HO533 BK529 HB;clear hb ho16))
    go_loopg [6,7] kj2 (fun kq v6 v7 w' => ∃ (x6_2:List ByteArray) (x7_2:Int),v7 = .int .i64 x7_2 ∧ Aside0 (Z08.l0 kq l1 x6_2 x7_2 gL = some (r1,r2)) ∧ Aside0 (kq ≤ kj2) ∧ Aside0 (Kd.R Kd.string 9 w' w.heap.size (fun _ => True) v6 x6_2) ∧ Aside0 (w'.heap[gb529]? = some (.cells (lcs gL pL) 41 (0,0))) ∧ Aside0 (Below w.heap.size w w'))
    case atStart => exact ⟨(y531),(0),tV1,H',⟨Nat.le_refl _⟩,⟨dR HO533⟩,⟨tK BK529⟩,⟨tB HB⟩⟩
    case round =>
     clear H';(try clear c14);obtain ⟨x6_2,x7_2,rfl,HA,HK2,HO_6,BK529,HB⟩:=hrel
     cases gk with
     | zero => exact absurd HA.out (by simp [Z08.l0])
     | succ k2 =>
      have H:=HA.out;clear HA;simp only [Z08.l0] at H
      replace H:=iF H;obtain ⟨c17,H⟩ | ⟨c17,H⟩:=H
      ·
       have c17b0:decide (x7_2 < (l1.length:Int)) = true:=decide_eq_true c17;clear c17;replace H:=iFn H;obtain ⟨c18,H⟩:=H;have c18b0:decide (0 ≤ x7_2) = true:=decide_eq_true c18;clear c18;replace H:=bI H;obtain ⟨⟨t535,t536⟩,A19,H⟩:=H;(try dsimp only at H)
       replace H:=iE H;obtain ⟨-,c20b0,c20b1,H⟩ | ⟨c20,c20b0,c20b1,H⟩:=H
       ·
        replace H:=iFn H;obtain ⟨c21,H⟩:=H;have LMc21:=am c21;clear c21;obtain ⟨y537,hy537⟩:∃ y_:List ByteArray,y_ = (x6_2 ++ [t535]):=⟨_,rfl⟩
        replace H:(Z08.l0 k2 l1 y537 (wrap64 (x7_2 + 1)) gL) = some (r1,r2):=by first | (rw [hy537];with_reducible exact H) | (have H2_:=(Option.bind_some _ _).symm.trans H;rw [hy537];with_reducible exact H2_) | (have H2_:=(Option.bind_some _ _).symm.trans H;with_reducible exact H2_) | with_reducible exact H | (rw [hy537];exact H) | exact H
        have Ny537:=am hy537;clear hy537;have H':=am H;clear H;have mk0_:=trivial;exact Zdt
       ·
        simp only [Option.some.injEq,Prod.mk.injEq] at H;obtain ⟨rfl,rfl⟩:=H;have mk1_:=trivial;exact Zdt
      ·
       have c17b0:decide (x7_2 < (l1.length:Int)) = false:=decide_eq_false c17;clear c17;replace H:=bI H;obtain ⟨t540,A27,H⟩:=H;(try dsimp only at H);simp only [Option.some.injEq,Prod.mk.injEq] at H;obtain ⟨rfl,rfl⟩:=H;obtain ⟨Ao28,co28,eo28⟩:=Kd.R_slice HO_6.out;subst eo28
       go_wp2_with (first | ((with_reducible refine Z0z (t:=41) (p:=2) rfl ?_);(try (refine gate_guard (by rfl) ?_;dsimp only));refine wpList_load_row rfl 41 (.tmp 2) rfl gb529 rfl 41 _ (0,0) _ (tK BK529) Tryz.underlying41 rfl (by kernel_rfl) ?_) | ((with_reducible refine gate_callee (f:=24) rfl ?_);refine goesL_ (some 47) rfl rfl Tryz.func24 (by kernel_rfl) rfl #[.slice Ao28 x6_2.length co28] rfl Gc2 ?_;(with_reducible refine (Z11.calls k2 _ _ x6_2 t540 _ ?s1 ?s2 A27.out).mono ?_);(case s1 => repeat (first | exact (Kd.R_reads' HO_6.out).2.2 | (with_reducible refine Kd.C_alloc ?_ _) | (with_reducible refine Kd.C_drewN ?_ _) | (with_reducible refine Kd.C_drew ?_)));(case s2 => exact (Kd.R_reads' HO_6.out).2.1);rintro e w' ⟨rfl,⟨nd,rfl⟩⟩;refine ⟨_,rfl,?_⟩))
       exact Zc1
end Go.Proofs.YtfbhdjflkaldgaaGreatDoor.Pr
