/- Several texts in one: PrF41, PrF42, PrF22, PrF43. -/
import Derived.Test.YtfbhdjflkaldgaaGreatDoorMg1
import Derived.Test.YtfbhdjflkaldgaaGreatDoorCt
import Derived.Test.YtfbhdjflkaldgaaGreatDoorMg17

namespace Go.Proofs.YtfbhdjflkaldgaaGreatDoor.Pr
open Go.Proofs.YtfbhdjflkaldgaaGreatDoor.Ct Go.RowKit Go.Proofs.YtfbhdjflkaldgaaGreatDoorW.PrintWords Go.Proofs.YtfbhdjflkaldgaaGreatDoorW.PrintLast Go.Proofs.YtfbhdjflkaldgaaGreatDoorW.PrintMore
attribute [local go_sem] max2_int min2_int max_two min_two max_three min_three max_four min_four
set_option linter.unusedVariables false
set_option linter.unusedSimpArgs false
def Z1q.f (gL:Lg) (a1:ByteArray):Option (Bool):=if a1.toList = ([]:List UInt8) then (some false) else (if 0 < (a1.size:Int) then (if (bt a1 0) = 61 then (some false) else ((Z20.f gL.v2 a1).bind fun t366 => (some t366))) else (none))
theorem Zbz {p:Prop} (h:p:=by
  go_enter Tryz.func41,Tryz.ntmps41
  go_wp2_with (first | ((with_reducible refine Z0z (t:=41) (p:=2) rfl ?_);(try (refine gate_guard (by rfl) ?_;dsimp only));refine wpList_load_row rfl 41 (.tmp 2) rfl gb365 rfl 41 _ (0,0) _ (tK BK365) Tryz.underlying41 rfl (by kernel_rfl) ?_) | (have ma_:=ma1_;((with_reducible refine gate_dst (N:=2) rfl ?_);refine box_event ?hg (N:=2) ?hd (cs:=?cs) (t:=41) ?hr ?_;(case hd => rfl);(case hg => rfl);(case hr => exact Gc5);intro gb365 hg z2_ hbox hb;have n0_:=am (below_step (tB HB) hb);have n1_:=am (hbox);have z5_:=tZ hg (tS HB);have z6_:=tZ hg (tS HB);revert n0_ n1_ z5_ z6_;clear HB;intro HB BK365 z8_ GE365;clear hb hbox hg;have z10_:0 ≤ (0:Int):=(by omega);have z11_:0 < a1.size:=Gc34;have z12_:∀ h:0 < a1.size,((a1[0]'h).toNat:Int) = bt a1 0:=bt_at a1 0;clear z10_;have z13_:(0 < (a1.size:Int)) = True:=eq_true (oD);replace z11_:=eq_true z11_;have z14_:=cel2 BK365 2 rfl;have z15_:=blk_frozen BK365.out 2)) | (have ma_:=ma2_;(go_at_call 62;(with_reducible refine (Z20.calls _ _ gL.v2 a1 t366 _ (tC ⟨HL.out.r2⟩ HB) HL.out.c2 A9.out).mono ?_);rintro e z1_ ⟨rfl,hb⟩;have n0_:=am (blk_below (tK BK365) hb);have n1_:=am (below_step (tB HB) hb);revert n0_ n1_;clear BK365 HB;intro BK365 HB;(try clear hb);(try clear hb2);(try clear hk);(try clear hi))) | (have ma_:=ma3_;((with_reducible refine gate_dst (N:=2) rfl ?_);refine box_event ?hg (N:=2) ?hd (cs:=?cs) (t:=41) ?hr ?_;(case hd => rfl);(case hg => rfl);(case hr => exact Gc5);intro gb365 hg z2_ hbox hb;have z3_:=am (below_step (tB HB) hb);have z4_:=am (hbox);have z5_:=tZ hg (tS HB);have z6_:=tZ hg (tS HB);revert z3_ z4_ z5_ z6_;clear HB;intro HB BK365 z8_ GE365;clear hb hbox hg;have z10_:0 ≤ (0:Int):=(by omega);have z11_:0 < a1.size:=Gc34;have z12_:∀ h:0 < a1.size,((a1[0]'h).toNat:Int) = bt a1 0:=bt_at a1 0;clear z10_;have z13_:(0 < (a1.size:Int)) = True:=eq_true (oD);replace z11_:=eq_true z11_)) | (have ma_:=ma4_;((with_reducible refine gate_dst (N:=2) rfl ?_);refine box_event ?hg (N:=2) ?hd (cs:=?cs) (t:=41) ?hr ?_;(case hd => rfl);(case hg => rfl);(case hr => exact Gc5);intro gb365 hg z2_ hbox hb;have z3_:=am (below_step (tB HB) hb);have z4_:=am (hbox);have z5_:=tZ hg (tS HB);have z6_:=tZ hg (tS HB);revert z3_ z4_ z5_ z6_;clear HB;intro HB BK365 z8_ GE365;clear hb hbox hg)))
  go_ret
  exact ⟨tE,by repeat (first | (with_reducible first | exact HB.out | apply below_alloc | apply pw_below_drewN | apply below_drew1 | refine below_set ?_ GE365.out) | exact HB.out)⟩):p:=h
set_option maxHeartbeats 8000000 in
set_option maxRecDepth 100000 in
theorem Z1q.calls (gL:Lg) (pL:La) (a1:ByteArray) (r:Bool) (w:World) (hL:Z2o gL pL w) (h:Z1q.f gL a1 = some r) :
 Calls Tryz.prog 41 #[.agg (lcs gL pL),.string a1] w fun e w' => e = .returned (.bool r) ∧ Below w.heap.size w w':=by
 have hu41:=Tryz.underlying41;have HL:=am hL;clear hL;have HB:=am (Below.refl w.heap.size w);have H:(if a1.toList = ([]:List UInt8) then (some false) else (if 0 < (a1.size:Int) then (if (bt a1 0) = 61 then (some false) else ((Z20.f gL.v2 a1).bind fun t366 => (some t366))) else (none))) = some r:=h;clear h
 replace H:=iE H;obtain ⟨-,c3b0,c3b1,H⟩ | ⟨c3,c3b0,c3b1,H⟩:=H
 ·
  obtain rfl:=Option.some.inj H;have ma4_:=trivial;exact Zbz
 ·
  replace H:=iFn H;obtain ⟨c5,H⟩:=H;have c5b0:decide (0 < (a1.size:Int)) = true:=decide_eq_true c5;have c5b1:decide (0 < a1.size) = true:=decide_eq_true (by omega);clear c5
  replace H:=iE H;obtain ⟨-,c7b0,c7b1,H⟩ | ⟨c7,c7b0,c7b1,H⟩:=H
  ·
   obtain rfl:=Option.some.inj H;have ma3_:=trivial;exact Zbz
  ·
   replace H:=bI H;obtain ⟨t366,A9,H⟩:=H;(try dsimp only at H);obtain rfl:=Option.some.inj H;have ma1_:=trivial;have ma2_:=trivial;exact Zbz
def Z0r.f (gL:Lg) (a1:ByteArray):Option (Bool):=if (a1.size:Int) > 1 then (if 0 < (a1.size:Int) then (if (bt a1 0) = 61 then (if 1 ≤ (a1.size:Int) then ((Z20.f gL.v2 (a1.extract 1 a1.size)).bind fun t368 => (some t368)) else (none)) else (some false)) else (none)) else (some false)
def Z0r.T1:Bool × List (List Nat × List Nat):=(true,[([],[]),([0],[0]),([1],[1]),([2],[2]),([3],[3]),([4,3],[3,4]),([5,3],[3,5]),([3,6],[3,6]),([7,3],[7]),([8],[8]),([9,8],[8,9]),([10,8],[8,10]),([8],[8]),([12,8],[8,12]),([11,13,8,8],[8,11,13]),([8,14],[8,14]),([15,14,0,1,2,3,4,5,6,7,8,9,10,11,12,13,14,15],[15])])
def Z0r.B1:List Nat:=[0,1,3,7,15,31,63,127,255,511,1023,2047,511,4607,16383,32767,65535]
theorem Z0r.tab1:rtab .any (opsOf Tryz.f42 1) = Z0r.T1:=by kernel_rfl
theorem Z0r.bits1:waitsOk Z0r.T1.2 Z0r.B1 = true:=by kernel_rfl
theorem Zgo {p:Prop} (h:p:=by
  refine pT 15 20 ?_
  refine pT 16 4 ?_
  refine done_ (done_of HT_.out (by kernel_rfl)) ?_
  try go_wp2
  go_ret
  exact ⟨tE,by repeat (first | (with_reducible first | exact HB.out | apply below_alloc | apply pw_below_drewN | apply below_drew1 | refine below_set ?_ GE367.out) | exact HB.out)⟩):p:=h
theorem Zgp {p:Prop} (h:p:=by
  intro w' z1_
  first | refine Eq.trans (Z5b 41 (.tmp 2) (by rfl) gb367 (by rfl) 41 _ _ z1_ Tryz.underlying41 (by rfl) (by kernel_rfl)) ?_ | (have z2_:World.cell? w' ⟨gb367,2,none⟩ = some (.slice pL.A2 gL.v2.length pL.c2):=(blk_cell z1_ 2).trans rfl;go_simp)
  with_reducible rfl):p:=h
theorem Zgq {p:Prop} (h:p:=by
  refine pT 7 12 ?_
  refine pT 8 13 ?_
  refine uT 9 14 ?_
  refine uT 10 15 ?_
  refine uT 11 16 ?_
  refine uT 12 17 ?_
  refine uT 13 18 ?_
  refine uT 14 19 ?_
  exact Zgo):p:=h
theorem Zd9 {p:Prop} (h:p:=by
  obtain rfl:=Option.some.inj H;go_enter Tryz.func42,Tryz.ntmps42
  try go_wp2_with (first | ((with_reducible refine Z0z (t:=41) (p:=2) rfl ?_);(try (refine gate_guard (by rfl) ?_;dsimp only));refine wpList_load_row rfl 41 (.tmp 2) rfl gb367 rfl 41 _ (0,0) _ (tK BK367) Tryz.underlying41 rfl (by kernel_rfl) ?_) | ((with_reducible refine gate_dst (N:=2) rfl ?_);refine box_event ?hg (N:=2) ?hd (cs:=?cs) (t:=41) ?hr ?_;(case hd => rfl);(case hg => rfl);(case hr => exact Gc5);intro gb367 hg z1_ hbox hb;have z2_:=am (below_step (tB HB) hb);have z3_:=am (hbox);have z4_:=tZ hg (tS HB);have z5_:=tZ hg (tS HB);revert z2_ z3_ z4_ z5_;clear HB;intro HB BK367 z6_ GE367;clear hb hbox hg))
  have z2_:=am (blk_drew BK367.out);have z3_:=am (below_drew1 HB.out);revert z2_ z3_;clear BK367 HB;intro BK367 HB
  first
  | (have mk_:=mk0_
     have z7_:0 ≤ (0:Int):=(by omega);have z8_:0 < a1.size:=Gc34;have z9_:∀ h:0 < a1.size,((a1[0]'h).toNat:Int) = bt a1 0:=bt_at a1 0;clear z7_;have z10_:(0 < (a1.size:Int)) = True:=eq_true (oD);replace z8_:=eq_true z8_
     refine start_ (n:=17) (S:=fun w' => True) (ds:=[]) #[false,false,false,false,false,false,false,false,false,false,false,false,false,false,false,false,false] (by kernel_rfl) rfl rfl trivial (fun hHeld => ?_);refine with_tabW Z0r.tab1 Z0r.bits1 (fun HT_ HW_ => ?_)
     generalize z1_.drew = z11_ at BK367 HB hHeld ⊢
     refine pT 0 5 ?_
     refine pT 1 6 ?_
     refine pT 2 7 ?_
     refine pT 3 8 ?_
     refine pT 4 9 ?_
     refine tTt 5 10 hHeld ?_
     refine pT 6 11 ?_
     exact Zgq)
  | (have mk_:=mk1_
     refine start_ (n:=17) (S:=fun w' => True) (ds:=[]) #[false,false,false,false,false,false,false,false,false,false,false,false,false,false,false,false,false] (by kernel_rfl) rfl rfl trivial (fun hHeld => ?_);refine with_tabW Z0r.tab1 Z0r.bits1 (fun HT_ HW_ => ?_)
     generalize z1_.drew = z7_ at BK367 HB hHeld ⊢
     refine pT 0 5 ?_
     refine pT 1 6 ?_
     refine pT 2 7 ?_
     refine pT 3 8 ?_
     refine uT 4 9 ?_
     refine uT 5 10 ?_
     refine uT 6 11 ?_
     exact Zgq)):p:=h
set_option maxHeartbeats 8000000 in
set_option maxRecDepth 100000 in
theorem Z0r.calls (gL:Lg) (pL:La) (a1:ByteArray) (r:Bool) (w:World) (hL:Z2o gL pL w) (h:Z0r.f gL a1 = some r) :
 Calls Tryz.prog 42 #[.agg (lcs gL pL),.string a1] w fun e w' => e = .returned (.bool r) ∧ Below w.heap.size w w':=by
 have hu41:=Tryz.underlying41;have HL:=am hL;clear hL;have HB:=am (Below.refl w.heap.size w);have H:(if (a1.size:Int) > 1 then (if 0 < (a1.size:Int) then (if (bt a1 0) = 61 then (if 1 ≤ (a1.size:Int) then ((Z20.f gL.v2 (a1.extract 1 a1.size)).bind fun t368 => (some t368)) else (none)) else (some false)) else (none)) else (some false)) = some r:=h;clear h
 replace H:=iF H;obtain ⟨c3,H⟩ | ⟨c3,H⟩:=H
 ·
  have c3b0:decide (1 < (a1.size:Int)) = true:=decide_eq_true c3;have c3b1:decide (1 < a1.size) = true:=decide_eq_true (by omega);clear c3;replace H:=iFn H;obtain ⟨c4,H⟩:=H;have c4b0:decide (0 < (a1.size:Int)) = true:=decide_eq_true c4;have c4b1:decide (0 < a1.size) = true:=decide_eq_true (by omega);clear c4
  replace H:=iE H;obtain ⟨-,c6b0,c6b1,H⟩ | ⟨c6,c6b0,c6b1,H⟩:=H
  ·
   replace H:=iFn H;obtain ⟨c7,H⟩:=H;have c7b0:=eq_true c7;have c7b1:decide (1 ≤ (a1.size:Int)) = true:=decide_eq_true c7;clear c7;replace H:=bI H;obtain ⟨t368,A8,H⟩:=H;(try dsimp only at H);obtain rfl:=Option.some.inj H;go_enter Tryz.func42,Tryz.ntmps42
   try go_wp2_with (first | ((with_reducible refine Z0z (t:=41) (p:=2) rfl ?_);(try (refine gate_guard (by rfl) ?_;dsimp only));refine wpList_load_row rfl 41 (.tmp 2) rfl gb367 rfl 41 _ (0,0) _ (tK BK367) Tryz.underlying41 rfl (by kernel_rfl) ?_) | ((with_reducible refine gate_dst (N:=2) rfl ?_);refine box_event ?hg (N:=2) ?hd (cs:=?cs) (t:=41) ?hr ?_;(case hd => rfl);(case hg => rfl);(case hr => exact Gc5);intro gb367 hg w9 hbox hb;have n0_:=am (below_step (tB HB) hb);have n1_:=am (hbox);have n2_:=tZ hg (tS HB);have n3_:=tZ hg (tS HB);revert n0_ n1_ n2_ n3_;clear HB;intro HB BK367 GW367 GE367;clear hb hbox hg))
   have n0_:=am (blk_drew BK367.out);have n1_:=am (below_drew1 HB.out);revert n0_ n1_;clear BK367 HB;intro BK367 HB;have p5:0 ≤ (0:Int):=(by omega);have q5:0 < a1.size:=Gc34;have hx5:∀ h:0 < a1.size,((a1[0]'h).toNat:Int) = bt a1 0:=bt_at a1 0;clear p5;have qi5:(0 < (a1.size:Int)) = True:=eq_true (oD);replace q5:=eq_true q5
   refine start_ (n:=17) (S:=fun w' => w'.heap[gb367]? = some (.cells (lcs gL pL) 41 (0,0))) (ds:=[]) #[false,false,false,false,false,false,false,false,false,false,false,false,false,false,false,false,false] (by kernel_rfl) rfl rfl BK367.out (fun hHeld => ?_);refine with_tabW Z0r.tab1 Z0r.bits1 (fun HT_ HW_ => ?_)
   generalize w9.drew = w10 at BK367 HB hHeld ⊢
   refine pT 0 5 ?_
   refine pT 1 6 ?_
   refine pT 2 7 ?_
   refine pT 3 8 ?_
   refine pT 4 9 ?_
   refine take_ (i:=5) (N:=some 10) (v:=?_) (a':=?_) #[true,true,true,true,true,true,false,false,false,false,false,false,false,false,false,false,false] rfl rfl (take_ofW HT_.out HW_.out (by kernel_rfl)) (fun _ _ _ h => h) (Or.inl ⟨by rfl,?_⟩) hHeld ?_ ?_
   rotate_left
   ·
    exact Zgp
   rotate_left
   ·
    exact GpR
   refine pT 6 11 ?_
   refine pT 7 12 ?_
   refine pT 8 13 ?_
   refine pT 9 14 ?_
   refine pT 10 15 ?_
   refine pT 12 17 ?_
   refine pT 13 18 ?_
   refine take_ (i:=11) (N:=some 16) (v:=?_) (a':=?_) #[true,true,true,true,true,true,true,true,true,true,true,true,true,true,false,false,false] rfl rfl (take_ofW HT_.out HW_.out (by kernel_rfl)) (fun _ _ _ h => h) (Or.inl ⟨by rfl,?_⟩) hHeld ?_ ?_
   rotate_left
   ·
    exact Zgp
   rotate_left
   ·
    exact GpR
   refine one_ (i:=14) (N:=some 19) #[true,true,true,true,true,true,true,true,true,true,true,true,true,true,true,false,false] rfl rfl (one_of HT_.out (by kernel_rfl)) (by decide) (fun K hK => ?_)
   refine goes_ Tryz.func62 (by kernel_rfl) rfl #[.slice pL.A2 gL.v2.length pL.c2,.string (a1.extract 1 a1.size)] (by rfl) rfl rfl Gc2 ?_
   with_reducible refine (Z20.calls _ _ gL.v2 (a1.extract 1 a1.size) t368 _ (tC ⟨HL.out.r2⟩ HB) HL.out.c2 A8.out).mono ?_
   rintro e w11 ⟨rfl,hb⟩
   refine ⟨_,rfl,?_⟩
   have n0_:=am (blk_below (tK BK367) hb);have n1_:=am (below_step (tB HB) hb);revert n0_ n1_;clear BK367 HB;intro BK367 HB;(try clear hb)
   refine hK.out _ _ BK367.out (fun hHeld => ?_)
   clear hK K
   refine nR 19 ?_
   exact Zgo
  ·
   have mk0_:=trivial;exact Zd9
 ·
  have c3b0:decide (1 < (a1.size:Int)) = false:=decide_eq_false c3;have c3b1:decide (1 < a1.size) = false:=decide_eq_false (by omega);clear c3;have mk1_:=trivial;exact Zd9
def Z0e.l0:Nat → List ByteArray → Int → Int → Lg → Option (Bool)
 | 0,_,_,_,_ => none
 | k + 1,x1,x5,x6,gx370 => if x6 < (x1.length:Int) then (if 0 ≤ x6 then ((Z1q.f gx370 (rdOf ByteArray.empty x1 x6)).bind fun t371 => (if t371 = true then (Z0e.l0 k x1 0 (wrap64 (x6 + 1)) gx370) else ((Z0r.f gx370 (rdOf ByteArray.empty x1 x6)).bind fun t373 => (if t373 = true then (if x5 < 2 then (Z0e.l0 k x1 (wrap64 (x5 + 1)) (wrap64 (x6 + 1)) gx370) else (some false)) else (some false))))) else (none)) else (if (x1.length:Int) ≥ 1 then (some (decide ((x1.length:Int) ≤ 40))) else (some false))
def Z0e.f (k:Nat) (gL:Lg) (l1:List ByteArray):Option (Bool):=Z0e.l0 k l1 3 0 gL
def Z0e.T8:Bool × List (List Nat × List Nat):=(true,[([],[]),([],[]),([],[]),([1,2],[1,2]),([3],[3]),([0,4],[0,4]),([5,5],[5]),([6],[6]),([7,6],[6,7]),([6,8],[6,8]),([9,6],[9])])
def Z0e.B8:List Nat:=[0,0,0,6,14,31,63,127,255,511,1023]
theorem Z0e.tab8:rtab .any (opsOf Tryz.f22 8) = Z0e.T8:=by kernel_rfl
theorem Z0e.bits8:waitsOk Z0e.T8.2 Z0e.B8 = true:=by kernel_rfl
theorem Z57 {p:Prop} (h:p:=by
  rintro w' ⟨z1_,z2_⟩
  first | (refine Eq.trans (Z5b 41 (.tmp 2) (by rfl) gb369 (by rfl) 41 _ _ z1_ Tryz.underlying41 (by rfl) (by kernel_rfl)) ?_;with_reducible rfl) | (clear z1_;go_simp;with_reducible rfl)
  skip):p:=h
theorem Z91 {p:Prop} (h:p:=by
  go_ret
  exact ⟨tE,by repeat (first | (with_reducible first | exact HB.out | apply below_alloc | apply pw_below_drewN | apply below_drew1 | refine below_set ?_ GE369.out) | exact HB.out)⟩):p:=h
set_option maxRecDepth 1000000 in
theorem Z7x {p:Prop} (h:p:=by
  refine pK 1 15 ?_
  refine pK 2 16 ?_
  refine pK 3 17 ?_
  refine take_ (i:=0) (N:=some 14) (v:=?_) (a':=?_) #[true,true,true,true,false,false,false] rfl rfl (by kernel_rfl) (fun _ _ _ h => h) (Or.inl ⟨by rfl,?_⟩) hHeld ?_ ?_
  rotate_left
  ·
   exact Z57
  rotate_left
  ·
   exact GpR
  refine take_ (i:=4) (N:=some 18) (v:=?_) (a':=?_) #[true,true,true,true,true,false,false] rfl rfl (by kernel_rfl) (fun _ _ _ h => h) (Or.inl ⟨by rfl,?_⟩) hHeld ?_ ?_
  rotate_left
  ·
   exact Z57
  rotate_left
  ·
   exact GpR
  refine one_ (i:=5) (N:=some 19) #[true,true,true,true,true,true,false] rfl rfl (by kernel_rfl) (by decide) (fun K hK => ?_)
  refine goes_ Tryz.func41 (by kernel_rfl) rfl #[.agg _,.string (rdOf ByteArray.empty l1 x6_1)] (by rfl) rfl rfl Gc2 ?_
  first
  | (have mk_:=mk0_
     with_reducible refine (Z1q.calls gL pL (rdOf ByteArray.empty l1 x6_1) false _ (lB HL HB) A6.out).mono ?_
     rintro e w14 ⟨rfl,hb⟩
     refine ⟨_,rfl,?_⟩
     have n0_:=am (blk_below (tK BK369) hb);have n1_:=am (below_step (tB HB) hb);revert n0_ n1_;clear BK369 HB;intro BK369 HB;(try clear hb)
     refine hK.out _ _ ⟨BK369.out,((HB.out.cell (World.block_lt_of_cell? w _ hw370_0)).trans hw370_0)⟩ (fun hHeld => ?_)
     clear hK K
     refine nR 19 ?_
     refine pK 6 13 ?_
     refine done_ (by kernel_rfl) ?_
     try go_wp2
     have n0_:=am (blk_drew BK369.out);have n1_:=am (below_drew1 HB.out);revert n0_ n1_;clear BK369 HB;intro BK369 HB;have p372:0 ≤ (x6_1:Int):=oD;have q372:x6_1 < (l1.length:Int):=oD;obtain ⟨ad372,e372,hx372_0⟩:=Kd.at_string HR1.out x6_1 p372 q372;have hw372_0:=hx372_0;obtain rfl:ad370 = ad372:=(by injection e372);replace hx372_0:=celB HB hx372_0;replace p372:=eq_true p372;replace q372:=eq_true q372
     refine start_ (n:=11) (S:=fun w' => w'.heap[gb369]? = some (.cells (lcs gL pL) 41 (0,0)) ∧ w'.cell? (ad370.add (x6_1).toNat) = some (.string (rdOf ByteArray.empty l1 x6_1))) (ds:=[]) #[false,false,false,false,false,false,false,false,false,false,false] (by kernel_rfl) rfl rfl ⟨BK369.out,((HB.out.cell (World.block_lt_of_cell? w _ hw372_0)).trans hw372_0)⟩ (fun hHeld => ?_);refine with_tabW Z0e.tab8 Z0e.bits8 (fun HT_ HW_ => ?_)
     generalize w14.drew = w15 at BK369 HB hx372_0 hHeld ⊢
     refine pT 1 22 ?_
     refine pT 2 23 ?_
     refine pT 3 24 ?_
     refine take_ (i:=0) (N:=some 21) (v:=?_) (a':=?_) #[true,true,true,true,false,false,false,false,false,false,false] rfl rfl (take_ofW HT_.out HW_.out (by kernel_rfl)) (fun _ _ _ h => h) (Or.inl ⟨by rfl,?_⟩) hHeld ?_ ?_
     rotate_left
     ·
      exact Z57
     rotate_left
     ·
      exact GpR
     refine take_ (i:=4) (N:=some 25) (v:=?_) (a':=?_) #[true,true,true,true,true,false,false,false,false,false,false] rfl rfl (take_ofW HT_.out HW_.out (by kernel_rfl)) (fun _ _ _ h => h) (Or.inl ⟨by rfl,?_⟩) hHeld ?_ ?_
     rotate_left
     ·
      exact Z57
     rotate_left
     ·
      exact GpR
     refine one_ (i:=5) (N:=some 26) #[true,true,true,true,true,true,false,false,false,false,false] rfl rfl (one_of HT_.out (by kernel_rfl)) (by decide) (fun K hK => ?_)
     refine goes_ Tryz.func42 (by kernel_rfl) rfl #[.agg _,.string (rdOf ByteArray.empty l1 x6_1)] (by rfl) rfl rfl Gc2 ?_
     with_reducible refine (Z0r.calls gL pL (rdOf ByteArray.empty l1 x6_1) true _ (lB HL HB) A10.out).mono ?_
     rintro e w16 ⟨rfl,hb⟩
     refine ⟨_,rfl,?_⟩
     have n0_:=am (blk_below (tK BK369) hb);have n1_:=am (below_step (tB HB) hb);revert n0_ n1_;clear BK369 HB;intro BK369 HB;(try clear hb)
     refine hK.out _ _ ⟨BK369.out,((HB.out.cell (World.block_lt_of_cell? w _ hw372_0)).trans hw372_0)⟩ (fun hHeld => ?_)
     clear hK K
     refine nR 26 ?_
     refine pT 6 27 ?_
     refine pT 7 28 ?_
     refine pT 8 29 ?_
     refine pT 9 30 ?_
     refine pT 10 20 ?_
     refine done_ (done_of HT_.out (by kernel_rfl)) ?_
     try go_wp2
     go_roundg k1
     case measure => have:=HK1.out;omega
     case rel => exact ⟨(wrap64 (x5_1 + 1)),(wrap64 (x6_1 + 1)),tV1,tV1,H',⟨by have:=HK1.out;omega⟩,⟨tK BK369⟩,⟨tB HB⟩⟩)
  | (have mk_:=mk1_
     with_reducible refine (Z1q.calls gL pL (rdOf ByteArray.empty l1 x6_1) false _ (lB HL HB) A6.out).mono ?_
     rintro e w22 ⟨rfl,hb⟩
     refine ⟨_,rfl,?_⟩
     have n0_:=am (blk_below (tK BK369) hb);have n1_:=am (below_step (tB HB) hb);revert n0_ n1_;clear BK369 HB;intro BK369 HB;(try clear hb)
     refine hK.out _ _ ⟨BK369.out,((HB.out.cell (World.block_lt_of_cell? w _ hw370_0)).trans hw370_0)⟩ (fun hHeld => ?_)
     clear hK K
     refine nR 19 ?_
     refine pK 6 13 ?_
     refine done_ (by kernel_rfl) ?_
     try go_wp2
     have n0_:=am (blk_drew BK369.out);have n1_:=am (below_drew1 HB.out);revert n0_ n1_;clear BK369 HB;intro BK369 HB;have p372:0 ≤ (x6_1:Int):=oD;have q372:x6_1 < (l1.length:Int):=oD;obtain ⟨ad372,e372,hx372_0⟩:=Kd.at_string HR1.out x6_1 p372 q372;have hw372_0:=hx372_0;obtain rfl:ad370 = ad372:=(by injection e372);replace hx372_0:=celB HB hx372_0;replace p372:=eq_true p372;replace q372:=eq_true q372
     refine start_ (n:=11) (S:=fun w' => w'.heap[gb369]? = some (.cells (lcs gL pL) 41 (0,0)) ∧ w'.cell? (ad370.add (x6_1).toNat) = some (.string (rdOf ByteArray.empty l1 x6_1))) (ds:=[]) #[false,false,false,false,false,false,false,false,false,false,false] (by kernel_rfl) rfl rfl ⟨BK369.out,((HB.out.cell (World.block_lt_of_cell? w _ hw372_0)).trans hw372_0)⟩ (fun hHeld => ?_);refine with_tabW Z0e.tab8 Z0e.bits8 (fun HT_ HW_ => ?_)
     generalize w22.drew = w23 at BK369 HB hx372_0 hHeld ⊢
     refine pT 1 22 ?_
     refine pT 2 23 ?_
     refine pT 3 24 ?_
     refine take_ (i:=0) (N:=some 21) (v:=?_) (a':=?_) #[true,true,true,true,false,false,false,false,false,false,false] rfl rfl (take_ofW HT_.out HW_.out (by kernel_rfl)) (fun _ _ _ h => h) (Or.inl ⟨by rfl,?_⟩) hHeld ?_ ?_
     rotate_left
     ·
      exact Z57
     rotate_left
     ·
      exact GpR
     refine take_ (i:=4) (N:=some 25) (v:=?_) (a':=?_) #[true,true,true,true,true,false,false,false,false,false,false] rfl rfl (take_ofW HT_.out HW_.out (by kernel_rfl)) (fun _ _ _ h => h) (Or.inl ⟨by rfl,?_⟩) hHeld ?_ ?_
     rotate_left
     ·
      exact Z57
     rotate_left
     ·
      exact GpR
     refine one_ (i:=5) (N:=some 26) #[true,true,true,true,true,true,false,false,false,false,false] rfl rfl (one_of HT_.out (by kernel_rfl)) (by decide) (fun K hK => ?_)
     refine goes_ Tryz.func42 (by kernel_rfl) rfl #[.agg _,.string (rdOf ByteArray.empty l1 x6_1)] (by rfl) rfl rfl Gc2 ?_
     with_reducible refine (Z0r.calls gL pL (rdOf ByteArray.empty l1 x6_1) false _ (lB HL HB) A10.out).mono ?_
     rintro e w24 ⟨rfl,hb⟩
     refine ⟨_,rfl,?_⟩
     have n0_:=am (blk_below (tK BK369) hb);have n1_:=am (below_step (tB HB) hb);revert n0_ n1_;clear BK369 HB;intro BK369 HB;(try clear hb)
     refine hK.out _ _ ⟨BK369.out,((HB.out.cell (World.block_lt_of_cell? w _ hw372_0)).trans hw372_0)⟩ (fun hHeld => ?_)
     clear hK K
     refine nR 26 ?_
     refine pT 6 27 ?_
     refine uT 7 28 ?_
     refine uT 8 29 ?_
     refine pT 9 30 ?_
     refine pT 10 20 ?_
     refine done_ (done_of HT_.out (by kernel_rfl)) ?_
     try go_wp2
     exact Z91)
  | (have mk_:=mk2_
     with_reducible refine (Z1q.calls gL pL (rdOf ByteArray.empty l1 x6_1) false _ (lB HL HB) A6.out).mono ?_
     rintro e w18 ⟨rfl,hb⟩
     refine ⟨_,rfl,?_⟩
     have n0_:=am (blk_below (tK BK369) hb);have n1_:=am (below_step (tB HB) hb);revert n0_ n1_;clear BK369 HB;intro BK369 HB;(try clear hb)
     refine hK.out _ _ ⟨BK369.out,((HB.out.cell (World.block_lt_of_cell? w _ hw370_0)).trans hw370_0)⟩ (fun hHeld => ?_)
     clear hK K
     refine nR 19 ?_
     refine pK 6 13 ?_
     refine done_ (by kernel_rfl) ?_
     try go_wp2
     have n0_:=am (blk_drew BK369.out);have n1_:=am (below_drew1 HB.out);revert n0_ n1_;clear BK369 HB;intro BK369 HB;have p372:0 ≤ (x6_1:Int):=oD;have q372:x6_1 < (l1.length:Int):=oD;obtain ⟨ad372,e372,hx372_0⟩:=Kd.at_string HR1.out x6_1 p372 q372;have hw372_0:=hx372_0;obtain rfl:ad370 = ad372:=(by injection e372);replace hx372_0:=celB HB hx372_0;replace p372:=eq_true p372;replace q372:=eq_true q372
     refine start_ (n:=11) (S:=fun w' => w'.heap[gb369]? = some (.cells (lcs gL pL) 41 (0,0)) ∧ w'.cell? (ad370.add (x6_1).toNat) = some (.string (rdOf ByteArray.empty l1 x6_1))) (ds:=[]) #[false,false,false,false,false,false,false,false,false,false,false] (by kernel_rfl) rfl rfl ⟨BK369.out,((HB.out.cell (World.block_lt_of_cell? w _ hw372_0)).trans hw372_0)⟩ (fun hHeld => ?_);refine with_tabW Z0e.tab8 Z0e.bits8 (fun HT_ HW_ => ?_)
     generalize w18.drew = w19 at BK369 HB hx372_0 hHeld ⊢
     refine pT 1 22 ?_
     refine pT 2 23 ?_
     refine pT 3 24 ?_
     refine take_ (i:=0) (N:=some 21) (v:=?_) (a':=?_) #[true,true,true,true,false,false,false,false,false,false,false] rfl rfl (take_ofW HT_.out HW_.out (by kernel_rfl)) (fun _ _ _ h => h) (Or.inl ⟨by rfl,?_⟩) hHeld ?_ ?_
     rotate_left
     ·
      exact Z57
     rotate_left
     ·
      exact GpR
     refine take_ (i:=4) (N:=some 25) (v:=?_) (a':=?_) #[true,true,true,true,true,false,false,false,false,false,false] rfl rfl (take_ofW HT_.out HW_.out (by kernel_rfl)) (fun _ _ _ h => h) (Or.inl ⟨by rfl,?_⟩) hHeld ?_ ?_
     rotate_left
     ·
      exact Z57
     rotate_left
     ·
      exact GpR
     refine one_ (i:=5) (N:=some 26) #[true,true,true,true,true,true,false,false,false,false,false] rfl rfl (one_of HT_.out (by kernel_rfl)) (by decide) (fun K hK => ?_)
     refine goes_ Tryz.func42 (by kernel_rfl) rfl #[.agg _,.string (rdOf ByteArray.empty l1 x6_1)] (by rfl) rfl rfl Gc2 ?_
     with_reducible refine (Z0r.calls gL pL (rdOf ByteArray.empty l1 x6_1) true _ (lB HL HB) A10.out).mono ?_
     rintro e w20 ⟨rfl,hb⟩
     refine ⟨_,rfl,?_⟩
     have n0_:=am (blk_below (tK BK369) hb);have n1_:=am (below_step (tB HB) hb);revert n0_ n1_;clear BK369 HB;intro BK369 HB;(try clear hb)
     refine hK.out _ _ ⟨BK369.out,((HB.out.cell (World.block_lt_of_cell? w _ hw372_0)).trans hw372_0)⟩ (fun hHeld => ?_)
     clear hK K
     refine nR 26 ?_
     refine pT 6 27 ?_
     refine pT 7 28 ?_
     refine pT 8 29 ?_
     refine pT 9 30 ?_
     refine pT 10 20 ?_
     refine done_ (done_of HT_.out (by kernel_rfl)) ?_
     try go_wp2
     exact Z91)
  | (have mk_:=mk3_
     with_reducible refine (Z1q.calls gL pL (rdOf ByteArray.empty l1 x6_1) true _ (lB HL HB) A6.out).mono ?_
     rintro e w9 ⟨rfl,hb⟩
     refine ⟨_,rfl,?_⟩
     have n0_:=am (blk_below (tK BK369) hb);have n1_:=am (below_step (tB HB) hb);revert n0_ n1_;clear BK369 HB;intro BK369 HB;(try clear hb)
     refine hK.out _ _ ⟨BK369.out,((HB.out.cell (World.block_lt_of_cell? w _ hw370_0)).trans hw370_0)⟩ (fun hHeld => ?_)
     clear hK K
     refine nR 19 ?_
     refine pK 6 13 ?_
     refine done_ (by kernel_rfl) ?_
     try go_wp2
     go_roundg k1
     case measure => have:=HK1.out;omega
     case rel => exact ⟨(0),(wrap64 (x6_1 + 1)),tV1,tV1,H',⟨by have:=HK1.out;omega⟩,⟨tK BK369⟩,⟨tB HB⟩⟩)):p:=h
theorem Z7y {p:Prop} (h:p:=by
  try go_wp2
  have n0_:=am (blk_drew BK369.out);have n1_:=am (below_drew1 HB.out);revert n0_ n1_;clear BK369 HB;intro BK369 HB;have p370:0 ≤ (x6_1:Int):=oD;have q370:x6_1 < (l1.length:Int):=oD;obtain ⟨ad370,e370,hx370_0⟩:=Kd.at_string HR1.out x6_1 p370 q370;have hw370_0:=hx370_0;cases e370;replace hx370_0:=celB HB hx370_0;replace p370:=eq_true p370;replace q370:=eq_true q370
  refine start_ (n:=7) (S:=fun w' => w'.heap[gb369]? = some (.cells (lcs gL pL) 41 (0,0)) ∧ w'.cell? (ad370.add (x6_1).toNat) = some (.string (rdOf ByteArray.empty l1 x6_1))) (ds:=[]) #[false,false,false,false,false,false,false] (by kernel_rfl) rfl rfl ⟨BK369.out,((HB.out.cell (World.block_lt_of_cell? w _ hw370_0)).trans hw370_0)⟩ (fun hHeld => ?_)
  first
  | (have mk_:=mk0_
     generalize wr.drew = w13 at BK369 HB hx370_0 hHeld ⊢;have mk0_:=trivial
     exact Z7x)
  | (have mk_:=mk1_
     generalize wr.drew = w17 at BK369 HB hx370_0 hHeld ⊢;have mk2_:=trivial
     exact Z7x)
  | (have mk_:=mk2_
     generalize wr.drew = w21 at BK369 HB hx370_0 hHeld ⊢;have mk1_:=trivial
     exact Z7x)
  | (have mk_:=mk3_
     generalize wr.drew = w8 at BK369 HB hx370_0 hHeld ⊢;have mk3_:=trivial
     exact Z7x)):p:=h
set_option maxHeartbeats 8000000 in
set_option maxRecDepth 100000 in
theorem Z0e.calls (k:Nat) (gL:Lg) (pL:La) (A1:Option Addr) (c1:Nat) (l1:List ByteArray) (r:Bool) (w:World) (hL:Z2o gL pL w) (hr1:Kd.C Kd.string w A1 l1.length l1) (hc1:l1.length ≤ c1) (h:Z0e.f k gL l1 = some r) :
 Calls Tryz.prog 22 #[.agg (lcs gL pL),.slice A1 l1.length c1] w fun e w' => e = .returned (.bool r) ∧ Below w.heap.size w w':=by
 have hu41:=Tryz.underlying41;have HL:=am hL;clear hL;have HR1:=am hr1;have HC1:=am hc1;clear hr1 hc1;have HB:=am (Below.refl w.heap.size w);have H:(Z0e.l0 k l1 3 0 gL) = some r:=h;clear h;have H':=am H;clear H;go_enter Tryz.func22,Tryz.ntmps22
 go_wp2_with (first | ((with_reducible refine Z0z (t:=41) (p:=2) rfl ?_);(try (refine gate_guard (by rfl) ?_;dsimp only));refine wpList_load_row rfl 41 (.tmp 2) rfl gb369 rfl 41 _ (0,0) _ (tK BK369) Tryz.underlying41 rfl (by kernel_rfl) ?_) | ((with_reducible refine gate_dst (N:=2) rfl ?_);(try (refine gate_guard (by rfl) ?_;dsimp only));refine box_event ?hg (N:=2) ?hd (cs:=?cs) (t:=41) ?hr ?_;(case hd => rfl);(case hg => rfl);(case hr => exact Gc5);intro gb369 hg w3 hbox hb;have n0_:=am (below_step (tB HB) hb);have n1_:=am (hbox);have n2_:=tZ hg (tS HB);have n3_:=tZ hg (tS HB);revert n0_ n1_ n2_ n3_;clear HB;intro HB BK369 GW369 GE369;clear hb hbox hg))
 go_loopg [5,6] k (fun kq v5 v6 w' => ∃ (x5_1:Int) (x6_1:Int),v5 = .int .i64 x5_1 ∧ v6 = .int .i64 x6_1 ∧ Aside0 (Z0e.l0 kq l1 x5_1 x6_1 gL = some r) ∧ Aside0 (kq ≤ k) ∧ Aside0 (w'.heap[gb369]? = some (.cells (lcs gL pL) 41 (0,0))) ∧ Aside0 (Below w.heap.size w w'))
 case atStart => exact ⟨(3),(0),tV1,tV1,H',⟨Nat.le_refl _⟩,⟨tK BK369⟩,⟨tB HB⟩⟩
 case round =>
  clear H';obtain ⟨x5_1,x6_1,rfl,rfl,HA,HK1,BK369,HB⟩:=hrel
  cases gk with
  | zero => exact absurd HA.out (by simp [Z0e.l0])
  | succ k1 =>
   have H:=HA.out;clear HA;simp only [Z0e.l0] at H
   replace H:=iF H;obtain ⟨c4,H⟩ | ⟨c4,H⟩:=H
   ·
    have c4b0:decide (x6_1 < (l1.length:Int)) = true:=decide_eq_true c4;clear c4;replace H:=iFn H;obtain ⟨c5,H⟩:=H;have c5b0:decide (0 ≤ x6_1) = true:=decide_eq_true c5;clear c5;replace H:=bI H;obtain ⟨t371,A6,H⟩:=H;(try dsimp only at H)
    replace H:=iT H;obtain ⟨rfl,H⟩ | ⟨rfl,H⟩:=H
    ·
     have H':=am H;clear H;have mk3_:=trivial;exact Z7y
    ·
     replace H:=bI H;obtain ⟨t373,A10,H⟩:=H;(try dsimp only at H)
     replace H:=iT H;obtain ⟨rfl,H⟩ | ⟨rfl,H⟩:=H
     ·
      replace H:=iF H;obtain ⟨c12,H⟩ | ⟨c12,H⟩:=H
      ·
       have c12b0:decide (x5_1 < 2) = true:=decide_eq_true c12;clear c12;have H':=am H;clear H;have mk0_:=trivial;exact Z7y
      ·
       have c12b0:decide (x5_1 < 2) = false:=decide_eq_false c12;clear c12;obtain rfl:=Option.some.inj H;have mk1_:=trivial;exact Z7y
     ·
      obtain rfl:=Option.some.inj H;have mk2_:=trivial;exact Z7y
   ·
    have c4b0:decide (x6_1 < (l1.length:Int)) = false:=decide_eq_false c4;clear c4
    replace H:=iF H;obtain ⟨c25,H⟩ | ⟨c25,H⟩:=H
    ·
     have c25b0:decide (1 ≤ (l1.length:Int)) = true:=decide_eq_true c25;have c25b1:decide (1 ≤ l1.length) = true:=decide_eq_true (by omega);clear c25;obtain rfl:=Option.some.inj H;go_wp2;exact Z91
    ·
     have c25b0:decide (1 ≤ (l1.length:Int)) = false:=decide_eq_false c25;have c25b1:decide (1 ≤ l1.length) = false:=decide_eq_false (by omega);clear c25;obtain rfl:=Option.some.inj H;go_wp2;exact Z91
def Z0b.l0:Nat → List ByteArray → List (S60) → Int → Lg → Option ((List (S60)))
 | 0,_,_,_,_ => none
 | k + 1,x1,x5,x6,gx375 => if x6 < (x1.length:Int) then (if 0 ≤ x6 then ((Z1q.f gx375 (rdOf ByteArray.empty x1 x6)).bind fun t379 => (if t379 = true then (if x5.length < 3518437208883 then (Z0b.l0 k x1 (x5 ++ [(⟨rdOf ByteArray.empty x1 x6,([]:List ByteArray)⟩:S60)]) (wrap64 (x6 + 1)) gx375) else (none)) else (if 0 ≤ (wrap64 ((x5.length:Int) - 1)) then (if (wrap64 ((x5.length:Int) - 1)) < (x5.length:Int) then (if 1 ≤ ((rdOf ByteArray.empty x1 x6).size:Int) then (if ((Z1w x5 (wrap64 ((x5.length:Int) - 1))).f1).length < 8796093022208 then (Z0b.l0 k x1 (x5.set ((wrap64 ((x5.length:Int) - 1)):Int).toNat (⟨(Z1w x5 (wrap64 ((x5.length:Int) - 1))).f0,(((Z1w x5 (wrap64 ((x5.length:Int) - 1))).f1) ++ [(rdOf ByteArray.empty x1 x6).extract 1 (rdOf ByteArray.empty x1 x6).size])⟩:S60)) (wrap64 (x6 + 1)) gx375) else (none)) else (none)) else (none)) else (none)))) else (none)) else (some x5)
def Z0b.f (k:Nat) (gL:Lg) (l1:List ByteArray):Option ((List (S60))):=Z0b.l0 k l1 (([]:List (S60))) 0 gL
def Z0b.T8:Bool × List (List Nat × List Nat):=(true,[([],[]),([],[]),([],[]),([],[]),([2,3],[2,3]),([4],[4]),([5],[5]),([],[]),([],[]),([7,8],[7,8]),([9],[9]),([10],[10]),([11],[11]),([6,12],[6,12]),([0,1,0,1,2,3,4,5,6,7,8,9,10,11,12,13],[0,1]),([14,0,1,2,3,4,5,6,7,8,9,10,11,12,13],[14]),([15,13,13,0,1,2,3,4,5,6,7,8,9,10,11,12,13],[13,15])])
def Z0b.B8:List Nat:=[0,0,0,0,12,28,60,0,0,384,896,1920,3968,8188,16383,32767,65535]
theorem Z0b.tab8:rtab .any (opsOf Tryz.f43 8) = Z0b.T8:=by kernel_rfl
theorem Z0b.bits8:waitsOk Z0b.T8.2 Z0b.B8 = true:=by kernel_rfl
theorem Zgr {p:Prop} (h:p:=by
  rintro w' ⟨z1_,z2_⟩
  first | (refine Eq.trans (Z5b 41 (.tmp 2) (by rfl) gb374 (by rfl) 41 _ _ z1_ Tryz.underlying41 (by rfl) (by kernel_rfl)) ?_;with_reducible rfl) | (clear z1_;go_simp;with_reducible rfl)
  skip):p:=h
set_option maxRecDepth 1000000 in
theorem Zda {p:Prop} (h:p:=by
  refine pK 1 16 ?_
  refine pK 2 17 ?_
  refine pK 3 18 ?_
  refine take_ (i:=0) (N:=some 15) (v:=?_) (a':=?_) #[true,true,true,true,false,false] rfl rfl (by kernel_rfl) (fun _ _ _ h => h) (Or.inl ⟨by rfl,?_⟩) hHeld ?_ ?_
  rotate_left
  ·
   exact Zgr
  rotate_left
  ·
   exact GpR
  refine take_ (i:=4) (N:=some 19) (v:=?_) (a':=?_) #[true,true,true,true,true,false] rfl rfl (by kernel_rfl) (fun _ _ _ h => h) (Or.inl ⟨by rfl,?_⟩) hHeld ?_ ?_
  rotate_left
  ·
   exact Zgr
  rotate_left
  ·
   exact GpR
  refine one_ (i:=5) (N:=some 20) #[true,true,true,true,true,true] rfl rfl (by kernel_rfl) (by decide) (fun K hK => ?_)
  refine goes_ Tryz.func41 (by kernel_rfl) rfl #[.agg _,.string (rdOf ByteArray.empty l1 x6_1)] (by rfl) rfl rfl Gc2 ?_
  first
  | (have mk_:=mk0_
     with_reducible refine (Z1q.calls gL pL (rdOf ByteArray.empty l1 x6_1) false _ (lB HL HB) A8.out).mono ?_
     rintro e w21 ⟨rfl,hb⟩
     refine ⟨_,rfl,?_⟩
     have n0_:=am (Kd.S_below (dS HO_5) hb);have n1_:=am (blk_below (tK BK374) hb);have n2_:=am (below_step (tB HB) hb);revert n0_ n1_ n2_;clear HO_5 BK374 HB;intro HO_5 BK374 HB
     (try clear hb);(try clear hk)
     refine hK.out _ _ ⟨BK374.out,((HB.out.cell (World.block_lt_of_cell? w _ hw378_0)).trans hw378_0)⟩ (fun hHeld => ?_)
     clear hK K
     refine nR 20 ?_
     refine done_ (by kernel_rfl) ?_
     obtain ⟨Ao22,co22,eo22⟩:=Kd.S_slice HO_5.out;subst eo22
     try go_wp2
     have n0_:=am (Kd.S_drew HO_5.out);have n1_:=am (blk_drew BK374.out);have n2_:=am (below_drew1 HB.out);revert n0_ n1_ n2_;clear HO_5 BK374 HB;intro HO_5 BK374 HB;have p384:0 ≤ ((ji14):Int):=oD;have q384:(ji14) < (x5_1.length:Int):=oD;obtain ⟨ad384,A384_1,c384_1,e384,hx384_0,hx384_1,hl384_1,hi384_1⟩:=Zfd (Kd.S_reads' HO_5.out).2.2 (ji14) p384 q384;cases e384;obtain ⟨ce384,hce384,hMe384,hcc384⟩:=Kd.S_get HO_5.out z60 (ji14) p384 (by first | exact q384 | exact oD | (have e_:=(Kd.S_reads' HO_5.out).1;omega));obtain ⟨ve384_1,rfl,ge384_1⟩:=Z61 hMe384;have hv384_1:=hcc384 1 _ rfl;rw [add_field _ _ 1 (by omega)] at hv384_1;replace hv384_1:=Option.some.inj (hv384_1.symm.trans hx384_1);rw [hv384_1] at ge384_1;have HL384_1:=am (show Kd.R Kd.string 9 _ _ _ _ ((Z1w x5_1 (ji14)).f1) from ge384_1);clear hv384_1 ge384_1;have HX384_1:=am hx384_1;clear hcc384 hce384;have HR384_1:=am hi384_1;have HC384_1:=am hl384_1;clear hi384_1 hl384_1;replace p384:=eq_true p384;replace q384:=eq_true q384;have p385:0 ≤ (x6_1:Int):=oD;have q385:x6_1 < (l1.length:Int):=oD;obtain ⟨ad385,e385,hx385_0⟩:=Kd.at_string HR1.out x6_1 p385 q385;have hw385_0:=hx385_0;obtain rfl:ad378 = ad385:=(by injection e385);replace hx385_0:=celB HB hx385_0;replace p385:=eq_true p385;replace q385:=eq_true q385;obtain ⟨go24,co24,eo24,gb24,gl24,cl24,HG24⟩:=Kd.S_form HO_5.out (by have h_:((ji14):Int) < ((x5_1.length:Int):Int):=oD;have h2_:0 ≤ ((ji14):Int):=(oD);omega)
     (first | cases eo24 | (injection eo24 with ea_ en_ ec_;(first | subst ea_ | (injection ea_ with ea_;subst ea_));subst ec_;clear en_))
     have GB24:=am gb24;have GG24:=am HG24;clear gb24 gl24 HG24
     (first | simp only [add_plain] at hx384_0 | skip)
     (first | simp only [add_plain] at hx384_1 | skip)
     obtain ⟨oki24,ce24,hcl24,hM24,hcc24,_,_,hH24⟩:=Kd.S_elem HO_5.out z60 ((ji14):Int) (oD) (by have h_:((ji14):Int) < ((x5_1.length:Int):Int):=oD;first | exact h_ | (have e_:=(Kd.S_reads' HO_5.out).1;omega) | simpa using h_);obtain ⟨ve24_1,rfl,ge24_1⟩:=Z61 hM24;have hv24:=hcc24 1 _ rfl;have hX24:=HX384_1.out;(try simp only [add_plain] at hX24);(try simp only [Nat.add_zero] at hv24);replace hv24:=Option.some.inj (hv24.symm.trans hX24);subst hv24;clear hX24 hcc24 hcl24;have UU24:=am (show Kd.R Kd.string 9 _ w.heap.size oki24 (.slice A384_1 ((Z1w x5_1 (ji14)).f1).length c384_1) ((Z1w x5_1 (ji14)).f1) from ge24_1);have HH24:=am hH24;have HN24:=am (Kd.S_reads' HO_5.out).1;clear hH24 ge24_1
     refine start_ (n:=17) (S:=fun w' => w'.cell? ⟨go24,(((ji14)).toNat * 2),none⟩ = some (.string ((Z1w x5_1 (ji14)).f0)) ∧ w'.cell? ⟨go24,(((ji14)).toNat * 2) + 1,none⟩ = some (.slice A384_1 ((Z1w x5_1 (ji14)).f1).length c384_1) ∧ w'.cell? (ad378.add (x6_1).toNat) = some (.string (rdOf ByteArray.empty l1 x6_1))) (ds:=[16]) #[false,false,false,false,false,false,false,false,false,false,false,false,false,false,false,false,false] (by kernel_rfl) rfl rfl ⟨hx384_0,hx384_1,((HB.out.cell (World.block_lt_of_cell? w _ hw385_0)).trans hw385_0)⟩ (fun hHeld => ?_);refine with_tabW Z0b.tab8 Z0b.bits8 (fun HT_ HW_ => ?_)
     generalize w21.drew = w23 at HO_5 BK374 HB GG24 HH24 HL384_1 HR384_1 HX384_1 UU24 hx384_0 hx384_1 hx385_0 hHeld ⊢
     refine pT 0 32 ?_
     refine pT 1 33 ?_
     refine pT 2 34 ?_
     refine pT 3 35 ?_
     refine pT 4 36 ?_
     refine pT 5 37 ?_
     refine pT 7 39 ?_
     refine pT 8 40 ?_
     refine pT 9 41 ?_
     refine tTt 6 38 hHeld ?_
     refine tTt 10 42 hHeld ?_
     refine pT 11 43 ?_
     refine one_ (i:=12) (N:=some 44) #[true,true,true,true,true,true,true,true,true,true,true,true,true,false,false,false,false] rfl rfl (one_of HT_.out (by kernel_rfl)) (by decide) (fun K hK => ?_)
     refine value_ (w1:=?_) (v:=?_) (by rfl) rfl ?_ ?_
     rotate_left 2
     ·
      go_simp
      constructor
      ·
       rfl
      ·
       rfl
     refine hK.out _ _ ⟨(World.cell?_alloc_lt _ _ _ (World.block_lt_of_cell? _ _ (hHeld.1))).trans (hHeld.1),(World.cell?_alloc_lt _ _ _ (World.block_lt_of_cell? _ _ (hHeld.2.1))).trans (hHeld.2.1),(World.cell?_alloc_lt _ _ _ (World.block_lt_of_cell? _ _ (((HB.out.cell (World.block_lt_of_cell? w _ hw385_0)).trans hw385_0)))).trans (((HB.out.cell (World.block_lt_of_cell? w _ hw385_0)).trans hw385_0))⟩ (fun hHeld => ?_)
     clear hK K
     refine nR 44 ?_
     refine one_ (i:=13) (N:=some 45) #[true,true,true,true,true,true,true,true,true,true,true,true,true,true,false,false,false] rfl rfl (one_of HT_.out (by kernel_rfl)) (by decide) (fun K hK => ?_)
     refine Kd.R_append_step Kd.string (w0:=w) w.heap.size (by rfl) (.tmp 38) (.tmp 44) 31 9 (.string ⟨#[]⟩) 16 rfl Tryz.underlying31 Z95 rfl (by decide) (by omega) (.slice A384_1 ((Z1w x5_1 (ji14)).f1).length c384_1) ((Z1w x5_1 (ji14)).f1) ((rdOf ByteArray.empty l1 x6_1).extract 1 (rdOf ByteArray.empty l1 x6_1).size) [.string ((rdOf ByteArray.empty l1 x6_1).extract 1 (rdOf ByteArray.empty l1 x6_1).size)] (fun k_ => oki24 k_ ∨ ((fun _ => True)) k_ ∧ w23.heap.size ≤ k_) (fun _ => False) rfl rfl ?aP (fun _ hk => hk.elim) ?aF ?aO ?aB ?aS ?aL ?_
     (case aP => exact rfl);(case aB => exact (tB HB));(case aF => exact (fun k_ hk => .inr ⟨trivial,hk⟩));(case aO => exact (by (with_reducible repeat (first | apply Kd.R_alloc | apply Kd.R_drewN | apply Kd.R_drew));exact Kd.R_mono UU24.out (fun _ hk => .inl hk)));(case aS => exact (tS HB));(case aL => have:=LMc18.out;omega)
     intro v387 w25 ho hb hg hat
     (first | have HS0_:=cell_grown hg (hHeld.1) Gc11 | have HS0_:=cell_grown hg (cell_unalloc (hHeld.1) (by first | (rw [add_block];exact Kd.S_lt HO_5.out _ rfl) | (show (Addr.add _ _).block < _;rw [add_block];exact Kd.S_lt HO_5.out _ rfl) | exact Kd.S_lt HO_5.out _ rfl)) Gc11)
     (first | have HS1_:=cell_grown hg (hHeld.2.1) Gc11 | have HS1_:=cell_grown hg (cell_unalloc (hHeld.2.1) (by first | (rw [add_block];exact Kd.S_lt HO_5.out _ rfl) | (show (Addr.add _ _).block < _;rw [add_block];exact Kd.S_lt HO_5.out _ rfl) | exact Kd.S_lt HO_5.out _ rfl)) Gc11)
     rw [← Ny386.out] at ho;have n0_:=am (blk_grown (tK BK374) hg (Kd.R_ne HL384_1.out BK374.out (by decide)));have n1_:=am (hb);have n2_:=am (Kd.H_grown (Kd.H_widen (by repeat (first | exact HH24.out | refine Kd.H_alloc ?_ _ | refine Kd.H_drewN ?_ _ | refine Kd.H_drew ?_))) hg (fun k_ e_ => .inl (UU24.out.1 k_ e_)));have n3_:=am (ho);revert n0_ n1_ n2_ n3_;clear BK374 HB HH24 HO_5 UU24 HL384_1;intro BK374 HB HH24 HO388
     clear ho hb hg hat
     have p19:0 ≤ ((ji14):Int):=oD;have q19:((ji14):Int) < ((x5_1.length:Int):Int):=oD;replace p19:=eq_true p19;replace q19:=eq_true q19;obtain ⟨Ao28,co28,eo28⟩:=Kd.R_slice HO388.out
     (first | subst eo28 | (injection eo28 with f1_ f2_ f3_;have f4_:=f1_.symm;have f5_:=f3_.symm;clear f1_ f2_ f3_;subst f4_;subst f5_))
     obtain ⟨_,_,hraw26,_,_,hcc26,_⟩:=Kd.H_raw HH24.out (oD) Gc21;obtain ⟨_,hfr26⟩:=Kd.H_at HH24.out (oD) Gc21;have hx26_0:=hcc26 1 _ rfl;have hf26_0:=hfr26 1;(try rw [show (k60).sz = 2 from rfl] at hx26_0);(try rw [show (k60).sz = 2 from rfl] at hf26_0);have HP26:=Kd.S_seg0 HH24.out (oD) Gc21 (seg:=[.slice Ao28 y386.length co28]) (j:=1) (show 2 ≤ 2 from by decide) (x':=(⟨(Z1w x5_1 (ji14)).f0,y386⟩:S60)) (Zbi _ _ _ (⟨(Z1w x5_1 (ji14)).f0,y386⟩:S60) HO388.out) (fun _ hk => hk);clear hcc26 hfr26;have HNB374_go24:=am (show gb374 ≠ go24 from by have h_:=Kd.R_ne hraw26 BK374.out (by decide);intro e_;exact h_ (by rw [e_];rfl));have HS26:=HP26.1;(try simp only [show (k60).sz = 2 from rfl,World.setCells] at HS26);rw [← Ny389.out] at HS26;have HQ26:=am HS26;obtain ⟨_,hgg26⟩:=Kd.R_typed hraw26 go24 rfl;have GG26_:=am hgg26;clear HP26 HS26 hgg26
     refine hK.out _ _ ⟨HS0_,HS1_,((HB.out.cell (World.block_lt_of_cell? w _ hw385_0)).trans hw385_0)⟩ (fun hHeld => ?_)
     clear hK K
     refine nR 45 ?_
     refine pT 14 46 ?_
     refine pT 15 47 ?_
     refine last_ (i:=16) (N:=none) #[true,true,true,true,true,true,true,true,true,true,true,true,true,true,true,true,true] rfl rfl (one_of HT_.out (by kernel_rfl)) (by decide) (fun K hK => ?_)
     refine skip_ (w1:=?_) (by rfl) rfl ?_ ?_
     rotate_left
     ·
      go_simp
      rfl
     refine hK.out _ _ ?_
     clear hK K
     refine done_ (done_of HT_.out (by kernel_rfl)) ?_
     try go_wp2
     go_roundg k1
     case measure => have:=HK1.out;omega
     case rel => exact ⟨(y389),(wrap64 (x6_1 + 1)),tV1,H',⟨by have:=HK1.out;omega⟩,⟨dS HQ26⟩,⟨by (with_reducible repeat (first | refine blk_drewN ?_ _ | refine blk_drew ?_ | refine blk_alloc ?_ _));refine blk_far ?_ HNB374_go24.out _;(with_reducible repeat (first | refine blk_drewN ?_ _ | refine blk_drew ?_ | refine blk_alloc ?_ _));exact BK374.out⟩,⟨tB HB⟩⟩)
  | (have mk_:=mk1_
     with_reducible refine (Z1q.calls gL pL (rdOf ByteArray.empty l1 x6_1) true _ (lB HL HB) A8.out).mono ?_
     rintro e w12 ⟨rfl,hb⟩
     refine ⟨_,rfl,?_⟩
     have n0_:=am (Kd.S_below (dS HO_5) hb);have n1_:=am (blk_below (tK BK374) hb);have n2_:=am (below_step (tB HB) hb);revert n0_ n1_ n2_;clear HO_5 BK374 HB;intro HO_5 BK374 HB
     (try clear hb);(try clear hk)
     refine hK.out _ _ ⟨BK374.out,((HB.out.cell (World.block_lt_of_cell? w _ hw378_0)).trans hw378_0)⟩ (fun hHeld => ?_)
     clear hK K
     refine nR 20 ?_
     refine done_ (by kernel_rfl) ?_
     have p380:0 ≤ (x6_1:Int):=oD;have q380:x6_1 < (l1.length:Int):=oD;obtain ⟨ad380,e380,hx380_0⟩:=Kd.at_string HR1.out x6_1 p380 q380;obtain rfl:ad378 = ad380:=(by injection e380);replace hx380_0:=celB HB hx380_0;replace p380:=eq_true p380;replace q380:=eq_true q380
     try go_wp2_with (first | ((with_reducible refine Z0z (t:=41) (p:=2) rfl ?_);(try (refine gate_guard (by rfl) ?_;dsimp only));refine wpList_load_row rfl 41 (.tmp 2) rfl gb374 rfl 41 _ (0,0) _ (tK BK374) Tryz.underlying41 rfl (by kernel_rfl) ?_) | ((with_reducible refine gate_builtin (b:=.append) (xs:=#[.tmp 21,.tmp 27]) rfl ?_);at_builtin;refine Kd.S_append k60 (w0:=w) w.heap.size rfl (.tmp 21) (.tmp 27) 56 60 (.agg #[(.string ⟨#[]⟩),(.slice none 0 0)]) 40 rfl Tryz.underlying56 Zl1 rfl (by decide) (by omega) u5 x5_1 (⟨rdOf ByteArray.empty l1 x6_1,([]:List ByteArray)⟩:S60) [.string (rdOf ByteArray.empty l1 x6_1),.slice none 0 0] (fun _ => True) (fun _ => False) rfl rfl ?aP (fun k_ hk_ => hk_.elim) ?aF ?aO ?aB ?aS ?aL ?_;(case aP => exact Zbi _ _ _ (⟨rdOf ByteArray.empty l1 x6_1,([]:List ByteArray)⟩:S60) (Kd.R_nil _ _ _ _ _));(case aB => exact (tB HB));(case aF => exact Gc25);(case aO => exact (dS HO_5));(case aS => exact (tS HB));(case aL => have:=LMc10.out;omega);intro v382 w13 ho hb hg hat;rw [← Ny381.out] at ho;have n0_:=am (blk_grown (tK BK374) hg (Kd.S_ne HO_5.out BK374.out (by decide)));have n1_:=am (hb);have n2_:=am (ho);revert n0_ n1_ n2_;clear BK374 HB HO_5;intro BK374 HB HO383;clear ho hb hg hat))
     go_roundg k1
     case measure => have:=HK1.out;omega
     case rel => exact ⟨(y381),(wrap64 (x6_1 + 1)),tV1,H',⟨by have:=HK1.out;omega⟩,⟨dS HO383⟩,⟨tK BK374⟩,⟨tB HB⟩⟩)):p:=h
theorem Zdb {p:Prop} (h:p:=by
  have H':=am H;clear H
  try go_wp2
  have n0_:=am (Kd.S_drew HO_5.out);have n1_:=am (blk_drew BK374.out);have n2_:=am (below_drew1 HB.out);revert n0_ n1_ n2_;clear HO_5 BK374 HB;intro HO_5 BK374 HB;have p378:0 ≤ (x6_1:Int):=oD;have q378:x6_1 < (l1.length:Int):=oD;obtain ⟨ad378,e378,hx378_0⟩:=Kd.at_string HR1.out x6_1 p378 q378;have hw378_0:=hx378_0;cases e378;replace hx378_0:=celB HB hx378_0;replace p378:=eq_true p378;replace q378:=eq_true q378
  refine start_ (n:=6) (S:=fun w' => w'.heap[gb374]? = some (.cells (lcs gL pL) 41 (0,0)) ∧ w'.cell? (ad378.add (x6_1).toNat) = some (.string (rdOf ByteArray.empty l1 x6_1))) (ds:=[]) #[false,false,false,false,false,false] (by kernel_rfl) rfl rfl ⟨BK374.out,((HB.out.cell (World.block_lt_of_cell? w _ hw378_0)).trans hw378_0)⟩ (fun hHeld => ?_)
  first
  | (have mk_:=mk0_
     generalize wr.drew = w11 at HO_5 BK374 HB hx378_0 hHeld ⊢;have mk1_:=trivial
     exact Zda)
  | (have mk_:=mk1_
     generalize wr.drew = w20 at HO_5 BK374 HB hx378_0 hHeld ⊢;have mk0_:=trivial
     exact Zda)):p:=h
set_option maxHeartbeats 8000000 in
set_option maxRecDepth 100000 in
theorem Z0b.calls (k:Nat) (gL:Lg) (pL:La) (A1:Option Addr) (c1:Nat) (l1:List ByteArray) (r:List (S60)) (w:World) (hL:Z2o gL pL w) (hr1:Kd.C Kd.string w A1 l1.length l1) (hc1:l1.length ≤ c1) (h:Z0b.f k gL l1 = some r) :
 Calls Tryz.prog 43 #[.agg (lcs gL pL),.slice A1 l1.length c1] w fun e w' => ∃ v0_:Value,e = .returned (v0_) ∧ Kd.S k60 60 w' w.heap.size (fun _ => True) v0_ r ∧ Below w.heap.size w w':=by
 have hu41:=Tryz.underlying41;have hu60:=Tryz.underlying60;have HL:=am hL;clear hL;have HR1:=am hr1;have HC1:=am hc1;clear hr1 hc1;have HB:=am (Below.refl w.heap.size w);have H:(Z0b.l0 k l1 (([]:List (S60))) 0 gL) = some r:=h;clear h;obtain ⟨y375,hy375⟩:∃ y_:List (S60),y_ = (([]:List (S60))):=⟨_,rfl⟩
 replace H:(Z0b.l0 k l1 y375 0 gL) = some r:=by first | (rw [hy375];with_reducible exact H) | (have H2_:=(Option.bind_some _ _).symm.trans H;rw [hy375];with_reducible exact H2_) | (have H2_:=(Option.bind_some _ _).symm.trans H;with_reducible exact H2_) | with_reducible exact H | (rw [hy375];exact H) | exact H
 have Ny375:=am hy375;clear hy375;have H':=am H;clear H;go_enter Tryz.func43,Tryz.ntmps43
 go_wp2_with (first | ((with_reducible refine Z0z (t:=41) (p:=2) rfl ?_);(try (refine gate_guard (by rfl) ?_;dsimp only));refine wpList_load_row rfl 41 (.tmp 2) rfl gb374 rfl 41 _ (0,0) _ (tK BK374) Tryz.underlying41 rfl (by kernel_rfl) ?_) | ((with_reducible refine gate_dst (N:=2) rfl ?_);refine box_event ?hg (N:=2) ?hd (cs:=?cs) (t:=41) ?hr ?_;(case hd => rfl);(case hg => rfl);(case hr => exact Gc5);intro gb374 hg w3 hbox hb;have n0_:=am (below_step (tB HB) hb);have n1_:=am (hbox);have n2_:=tZ hg (tS HB);have n3_:=tZ hg (tS HB);revert n0_ n1_ n2_ n3_;clear HB;intro HB BK374 GW374 GE374;clear hb hbox hg) | ((with_reducible refine gate_dst (N:=8) rfl ?_);refine Kd.S_lit k60 _ 60 ?hg (N:=8) ?hd (xs:=([]:List (S60))) (inner:=[]) (ok:=fun _ => True) (okp:=fun _ => True) ?hr ?hp (fun _ hk => hk) trivial (Below.refl _ _) (Nat.le_refl _) (by simp) ?_;(case hd => rfl);(case hg => rfl);(case hr => exact Gc5);(case hp => exact (Reps.none _ _));intro v376 w4 ho5 hb hg_ hnew_;clear hg_ hnew_;(first | rw [← Ny375.out] at ho5 | (simp only [Int.reduceToNat] at ho5;rw [← Ny375.out] at ho5));have n0_:=am (Kd.S_lower ho5 (tS HB));have n1_:=am (blk_below (tK BK374) hb);have n2_:=am (below_step (tB HB) hb);revert n0_ n1_ n2_;clear BK374 HB;intro HO377 BK374 HB;clear hb ho5))
 go_loopg [5,6] k (fun kq v5 v6 w' => ∃ (x5_1:List (S60)) (x6_1:Int),v6 = .int .i64 x6_1 ∧ Aside0 (Z0b.l0 kq l1 x5_1 x6_1 gL = some r) ∧ Aside0 (kq ≤ k) ∧ Aside0 (Kd.S k60 60 w' w.heap.size (fun _ => True) v5 x5_1) ∧ Aside0 (w'.heap[gb374]? = some (.cells (lcs gL pL) 41 (0,0))) ∧ Aside0 (Below w.heap.size w w'))
 case atStart => exact ⟨(y375),(0),tV1,H',⟨Nat.le_refl _⟩,⟨dS HO377⟩,⟨tK BK374⟩,⟨tB HB⟩⟩
 case round =>
  clear H';obtain ⟨x5_1,x6_1,rfl,HA,HK1,HO_5,BK374,HB⟩:=hrel
  cases gk with
  | zero => exact absurd HA.out (by simp [Z0b.l0])
  | succ k1 =>
   have H:=HA.out;clear HA;simp only [Z0b.l0] at H
   replace H:=iF H;obtain ⟨c6,H⟩ | ⟨c6,H⟩:=H
   ·
    have c6b0:decide (x6_1 < (l1.length:Int)) = true:=decide_eq_true c6;clear c6;replace H:=iFn H;obtain ⟨c7,H⟩:=H;have c7b0:decide (0 ≤ x6_1) = true:=decide_eq_true c7;clear c7;replace H:=bI H;obtain ⟨t379,A8,H⟩:=H;(try dsimp only at H)
    replace H:=iT H;obtain ⟨rfl,H⟩ | ⟨rfl,H⟩:=H
    ·
     replace H:=iFn H;obtain ⟨c10,H⟩:=H;have LMc10:=am c10;clear c10;obtain ⟨y381,hy381⟩:∃ y_:List (S60),y_ = (x5_1 ++ [(⟨rdOf ByteArray.empty l1 x6_1,([]:List ByteArray)⟩:S60)]):=⟨_,rfl⟩
     replace H:(Z0b.l0 k1 l1 y381 (wrap64 (x6_1 + 1)) gL) = some r:=by first | (rw [hy381];with_reducible exact H) | (have H2_:=(Option.bind_some _ _).symm.trans H;rw [hy381];with_reducible exact H2_) | (have H2_:=(Option.bind_some _ _).symm.trans H;with_reducible exact H2_) | with_reducible exact H | (rw [hy381];exact H) | exact H
     have Ny381:=am hy381;clear hy381;have mk0_:=trivial;exact Zdb
    ·
     obtain ⟨ji14,hji14⟩:∃ j_:Int,(wrap64 ((x5_1.length:Int) - 1)) = j_:=⟨_,rfl⟩
     replace H:(if 0 ≤ (ji14) then (if (ji14) < (x5_1.length:Int) then (if 1 ≤ ((rdOf ByteArray.empty l1 x6_1).size:Int) then (if ((Z1w x5_1 (ji14)).f1).length < 8796093022208 then (Z0b.l0 k1 l1 (x5_1.set ((ji14):Int).toNat (⟨(Z1w x5_1 (ji14)).f0,(((Z1w x5_1 (ji14)).f1) ++ [(rdOf ByteArray.empty l1 x6_1).extract 1 (rdOf ByteArray.empty l1 x6_1).size])⟩:S60)) (wrap64 (x6_1 + 1)) gL) else (none)) else (none)) else (none)) else (none)) = some r:=by first | (rw [hji14] at H;exact H) | (simp only [hji14] at H ⊢;exact H)
     (try rw [hji14] at A8);have hji14w:(IntKind.i64.wrap ((x5_1.length:Int) - 1)) = ji14:=(i64_w _).trans hji14;replace H:=iFn H;obtain ⟨c15,H⟩:=H;have c15b0:decide (0 ≤ (ji14)) = true:=decide_eq_true c15;clear c15;replace H:=iFn H;obtain ⟨c16,H⟩:=H;have c16b0:decide ((ji14) < (x5_1.length:Int)) = true:=decide_eq_true c16;clear c16;replace H:=iFn H;obtain ⟨c17,H⟩:=H;have c17b0:=eq_true c17;have c17b1:decide (1 ≤ ((rdOf ByteArray.empty l1 x6_1).size:Int)) = true:=decide_eq_true c17;clear c17;replace H:=iFn H;obtain ⟨c18,H⟩:=H;have LMc18:=am c18;clear c18;obtain ⟨y386,hy386⟩:∃ y_:List ByteArray,y_ = (((Z1w x5_1 (ji14)).f1) ++ [(rdOf ByteArray.empty l1 x6_1).extract 1 (rdOf ByteArray.empty l1 x6_1).size]):=⟨_,rfl⟩
     replace H:(Z0b.l0 k1 l1 (x5_1.set ((ji14):Int).toNat (⟨(Z1w x5_1 (ji14)).f0,y386⟩:S60)) (wrap64 (x6_1 + 1)) gL) = some r:=by first | (rw [hy386];with_reducible exact H) | (have H2_:=(Option.bind_some _ _).symm.trans H;rw [hy386];with_reducible exact H2_) | (have H2_:=(Option.bind_some _ _).symm.trans H;with_reducible exact H2_) | with_reducible exact H | (rw [hy386];exact H) | exact H
     have Ny386:=am hy386;clear hy386;obtain ⟨y389,hy389⟩:∃ y_:List (S60),y_ = (x5_1.set ((ji14):Int).toNat (⟨(Z1w x5_1 (ji14)).f0,y386⟩:S60)):=⟨_,rfl⟩
     replace H:(Z0b.l0 k1 l1 y389 (wrap64 (x6_1 + 1)) gL) = some r:=by first | (rw [hy389];with_reducible exact H) | (have H2_:=(Option.bind_some _ _).symm.trans H;rw [hy389];with_reducible exact H2_) | (have H2_:=(Option.bind_some _ _).symm.trans H;with_reducible exact H2_) | with_reducible exact H | (rw [hy389];exact H) | exact H
     have Ny389:=am hy389;clear hy389;have mk1_:=trivial;exact Zdb
   ·
    have c6b0:decide (x6_1 < (l1.length:Int)) = false:=decide_eq_false c6;clear c6;obtain rfl:=Option.some.inj H;go_wp2;go_ret;exact ⟨_,tE,by (with_reducible repeat (first | apply Kd.S_alloc | apply Kd.S_drewN | apply Kd.S_drew));exact HO_5.out,by repeat (first | (with_reducible first | exact HB.out | apply below_alloc | apply pw_below_drewN | apply below_drew1 | refine below_set ?_ GE374.out) | exact HB.out)⟩
end Go.Proofs.YtfbhdjflkaldgaaGreatDoor.Pr
