/- Several texts in one: PrF43, PrF82, PrF95, PrF116, Cv, PrF113. -/
import Derived.Test.YtfbhdjflkaldgaaGreatDoorMg1
import Derived.Test.YtfbhdjflkaldgaaGreatDoorMg2
import Derived.Test.YtfbhdjflkaldgaaGreatDoorMg19
import Derived.Test.YtfbhdjflkaldgaaGreatDoorMg8
import Derived.Test.YtfbhdjflkaldgaaGreatDoorMg3
import Derived.Test.YtfbhdjflkaldgaaGreatDoorMg13
/- '[]rune(s)' as an event of a printed walk: a fresh row of the runes. -/
namespace Go.Proofs.YtfbhdjflkaldgaaGreatDoor.Pr
open Go.Proofs.YtfbhdjflkaldgaaGreatDoor.Ct Go.RowKit Go.Proofs.YtfbhdjflkaldgaaGreatDoorW.PrintWords Go.Proofs.YtfbhdjflkaldgaaGreatDoorW.PrintLast Go.Proofs.YtfbhdjflkaldgaaGreatDoorW.PrintMore
attribute [local go_sem] max2_int min2_int max_two min_two max_three min_three max_four min_four
set_option linter.unusedVariables false
set_option linter.unusedSimpArgs false
def Z0b.l0:Nat → List ByteArray → List (S60) → Int → Lg → Option ((List (S60)))
 | 0,_,_,_,_ => none
 | k + 1,x1,x5,x6,gx375 => if x6 < (x1.length:Int) then (if 0 ≤ x6 then ((Z1q.f gx375 (rdOf ByteArray.empty x1 x6)).bind fun t379 => (if t379 = true then (if x5.length < 3518437208883 then (Z0b.l0 k x1 (x5 ++ [(⟨rdOf ByteArray.empty x1 x6,([]:List ByteArray)⟩:S60)]) (wrap64 (x6 + 1)) gx375) else (none)) else (if 0 ≤ (wrap64 ((x5.length:Int) - 1)) then (if (wrap64 ((x5.length:Int) - 1)) < (x5.length:Int) then (if 1 ≤ ((rdOf ByteArray.empty x1 x6).size:Int) then (if ((Z1w x5 (wrap64 ((x5.length:Int) - 1))).f1).length < 8796093022208 then (Z0b.l0 k x1 (x5.set ((wrap64 ((x5.length:Int) - 1)):Int).toNat (⟨(Z1w x5 (wrap64 ((x5.length:Int) - 1))).f0,(((Z1w x5 (wrap64 ((x5.length:Int) - 1))).f1) ++ [(rdOf ByteArray.empty x1 x6).extract 1 (rdOf ByteArray.empty x1 x6).size])⟩:S60)) (wrap64 (x6 + 1)) gx375) else (none)) else (none)) else (none)) else (none)))) else (none)) else (some x5)
def Z0b.f (k:Nat) (gL:Lg) (l1:List ByteArray):Option ((List (S60))):=Z0b.l0 k l1 (([]:List (S60))) 0 gL
def Z0b.T8:Bool × List (List Nat × List Nat):=(true,[([],[]),([],[]),([],[]),([],[]),([2,3],[2,3]),([4],[4]),([5],[5]),([],[]),([],[]),([7,8],[7,8]),([9],[9]),([10],[10]),([11],[11]),([6,12],[6,12]),([0,1,0,1,2,3,4,5,6,7,8,9,10,11,12,13],[0,1]),([14,0,1,2,3,4,5,6,7,8,9,10,11,12,13],[14]),([15,13,13,0,1,2,3,4,5,6,7,8,9,10,11,12,13],[13,15])])
def Z0b.B8:List Nat:=[0,0,0,0,12,28,60,0,0,384,896,1920,3968,8188,16383,32767,65535]
theorem Z0b.tab8:rtab .any (opsOf Tryz.f43 8) = Z0b.T8:=by kernel_rfl
theorem Z0b.bits8:waitsOk Z0b.T8.2 Z0b.B8 = true:=by kernel_rfl
theorem Zgr {p:Prop} (h:p:=by
  rintro w' ⟨z1_,z2_⟩
  first | (refine Eq.trans (Z5b 41 (.tmp 2) (by rfl) gb374 (by rfl) 41 _ _ z1_ Tryz.underlying41 (by rfl) (by kernel_rfl)) ?_;with_reducible rfl) | (clear z1_;go_simp;with_reducible rfl)
  skip):p:=h
set_option maxRecDepth 1000000 in
theorem Zda {p:Prop} (h:p:=by
  refine pK 1 16 ?_
  refine pK 2 17 ?_
  refine pK 3 18 ?_
  refine take_ (i:=0) (N:=some 15) (v:=?_) (a':=?_) #[true,true,true,true,false,false] rfl rfl (by kernel_rfl) (fun _ _ _ h => h) (Or.inl ⟨by rfl,?_⟩) hHeld ?_ ?_
  rotate_left
  ·
   exact Zgr
  rotate_left
  ·
   exact GpR
  refine take_ (i:=4) (N:=some 19) (v:=?_) (a':=?_) #[true,true,true,true,true,false] rfl rfl (by kernel_rfl) (fun _ _ _ h => h) (Or.inl ⟨by rfl,?_⟩) hHeld ?_ ?_
  rotate_left
  ·
   exact Zgr
  rotate_left
  ·
   exact GpR
  refine one_ (i:=5) (N:=some 20) #[true,true,true,true,true,true] rfl rfl (by kernel_rfl) (by decide) (fun K hK => ?_)
  refine goes_ Tryz.func41 (by kernel_rfl) rfl #[.agg _,.string (rdOf ByteArray.empty l1 x6_1)] (by rfl) rfl rfl Gc2 ?_
  first
  | (have mk_:=mk0_
     with_reducible refine (Z1q.calls gL pL (rdOf ByteArray.empty l1 x6_1) false _ (lB HL HB) A8.out).mono ?_
     rintro e w21 ⟨rfl,hb⟩
     refine ⟨_,rfl,?_⟩
     have n0_:=am (Kd.S_below (dS HO_5) hb);have n1_:=am (blk_below (tK BK374) hb);have n2_:=am (below_step (tB HB) hb);revert n0_ n1_ n2_;clear HO_5 BK374 HB;intro HO_5 BK374 HB
     (try clear hb);(try clear hk)
     refine hK.out _ _ ⟨BK374.out,((HB.out.cell (World.block_lt_of_cell? w _ hw378_0)).trans hw378_0)⟩ (fun hHeld => ?_)
     clear hK K
     refine nR 20 ?_
     refine done_ (by kernel_rfl) ?_
     obtain ⟨Ao22,co22,eo22⟩:=Kd.S_slice HO_5.out;subst eo22
     try go_wp2
     have n0_:=am (Kd.S_drew HO_5.out);have n1_:=am (blk_drew BK374.out);have n2_:=am (below_drew1 HB.out);revert n0_ n1_ n2_;clear HO_5 BK374 HB;intro HO_5 BK374 HB;have p384:0 ≤ ((ji14):Int):=oD;have q384:(ji14) < (x5_1.length:Int):=oD;obtain ⟨ad384,A384_1,c384_1,e384,hx384_0,hx384_1,hl384_1,hi384_1⟩:=Zfd (Kd.S_reads' HO_5.out).2.2 (ji14) p384 q384;cases e384;obtain ⟨ce384,hce384,hMe384,hcc384⟩:=Kd.S_get HO_5.out z60 (ji14) p384 (by first | exact q384 | exact oD | (have e_:=(Kd.S_reads' HO_5.out).1;omega));obtain ⟨ve384_1,rfl,ge384_1⟩:=Z61 hMe384;have hv384_1:=hcc384 1 _ rfl;rw [add_field _ _ 1 (by omega)] at hv384_1;replace hv384_1:=Option.some.inj (hv384_1.symm.trans hx384_1);rw [hv384_1] at ge384_1;have HL384_1:=am (show Kd.R Kd.string 9 _ _ _ _ ((Z1w x5_1 (ji14)).f1) from ge384_1);clear hv384_1 ge384_1;have HX384_1:=am hx384_1;clear hcc384 hce384;have HR384_1:=am hi384_1;have HC384_1:=am hl384_1;clear hi384_1 hl384_1;replace p384:=eq_true p384;replace q384:=eq_true q384;have p385:0 ≤ (x6_1:Int):=oD;have q385:x6_1 < (l1.length:Int):=oD;obtain ⟨ad385,e385,hx385_0⟩:=Kd.at_string HR1.out x6_1 p385 q385;have hw385_0:=hx385_0;obtain rfl:ad378 = ad385:=(by injection e385);replace hx385_0:=celB HB hx385_0;replace p385:=eq_true p385;replace q385:=eq_true q385;obtain ⟨go24,co24,eo24,gb24,gl24,cl24,HG24⟩:=Kd.S_form HO_5.out (by have h_:((ji14):Int) < ((x5_1.length:Int):Int):=oD;have h2_:0 ≤ ((ji14):Int):=(oD);omega)
     (first | cases eo24 | (injection eo24 with ea_ en_ ec_;(first | subst ea_ | (injection ea_ with ea_;subst ea_));subst ec_;clear en_))
     have GB24:=am gb24;have GG24:=am HG24;clear gb24 gl24 HG24
     (first | simp only [add_plain] at hx384_0 | skip)
     (first | simp only [add_plain] at hx384_1 | skip)
     obtain ⟨oki24,ce24,hcl24,hM24,hcc24,_,_,hH24⟩:=Kd.S_elem HO_5.out z60 ((ji14):Int) (oD) (by have h_:((ji14):Int) < ((x5_1.length:Int):Int):=oD;first | exact h_ | (have e_:=(Kd.S_reads' HO_5.out).1;omega) | simpa using h_);obtain ⟨ve24_1,rfl,ge24_1⟩:=Z61 hM24;have hv24:=hcc24 1 _ rfl;have hX24:=HX384_1.out;(try simp only [add_plain] at hX24);(try simp only [Nat.add_zero] at hv24);replace hv24:=Option.some.inj (hv24.symm.trans hX24);subst hv24;clear hX24 hcc24 hcl24;have UU24:=am (show Kd.R Kd.string 9 _ w.heap.size oki24 (.slice A384_1 ((Z1w x5_1 (ji14)).f1).length c384_1) ((Z1w x5_1 (ji14)).f1) from ge24_1);have HH24:=am hH24;have HN24:=am (Kd.S_reads' HO_5.out).1;clear hH24 ge24_1
     refine start_ (n:=17) (S:=fun w' => w'.cell? ⟨go24,(((ji14)).toNat * 2),none⟩ = some (.string ((Z1w x5_1 (ji14)).f0)) ∧ w'.cell? ⟨go24,(((ji14)).toNat * 2) + 1,none⟩ = some (.slice A384_1 ((Z1w x5_1 (ji14)).f1).length c384_1) ∧ w'.cell? (ad378.add (x6_1).toNat) = some (.string (rdOf ByteArray.empty l1 x6_1))) (ds:=[16]) #[false,false,false,false,false,false,false,false,false,false,false,false,false,false,false,false,false] (by kernel_rfl) rfl rfl ⟨hx384_0,hx384_1,((HB.out.cell (World.block_lt_of_cell? w _ hw385_0)).trans hw385_0)⟩ (fun hHeld => ?_);refine with_tabW Z0b.tab8 Z0b.bits8 (fun HT_ HW_ => ?_)
     generalize w21.drew = w23 at HO_5 BK374 HB GG24 HH24 HL384_1 HR384_1 HX384_1 UU24 hx384_0 hx384_1 hx385_0 hHeld ⊢
     refine pT 0 32 ?_
     refine pT 1 33 ?_
     refine pT 2 34 ?_
     refine pT 3 35 ?_
     refine pT 4 36 ?_
     refine pT 5 37 ?_
     refine pT 7 39 ?_
     refine pT 8 40 ?_
     refine pT 9 41 ?_
     refine tTt 6 38 hHeld ?_
     refine tTt 10 42 hHeld ?_
     refine pT 11 43 ?_
     refine one_ (i:=12) (N:=some 44) #[true,true,true,true,true,true,true,true,true,true,true,true,true,false,false,false,false] rfl rfl (one_of HT_.out (by kernel_rfl)) (by decide) (fun K hK => ?_)
     refine value_ (w1:=?_) (v:=?_) (by rfl) rfl ?_ ?_
     rotate_left 2
     ·
      go_simp
      constructor
      ·
       rfl
      ·
       rfl
     refine hK.out _ _ ⟨(World.cell?_alloc_lt _ _ _ (World.block_lt_of_cell? _ _ (hHeld.1))).trans (hHeld.1),(World.cell?_alloc_lt _ _ _ (World.block_lt_of_cell? _ _ (hHeld.2.1))).trans (hHeld.2.1),(World.cell?_alloc_lt _ _ _ (World.block_lt_of_cell? _ _ (((HB.out.cell (World.block_lt_of_cell? w _ hw385_0)).trans hw385_0)))).trans (((HB.out.cell (World.block_lt_of_cell? w _ hw385_0)).trans hw385_0))⟩ (fun hHeld => ?_)
     clear hK K
     refine nR 44 ?_
     refine one_ (i:=13) (N:=some 45) #[true,true,true,true,true,true,true,true,true,true,true,true,true,true,false,false,false] rfl rfl (one_of HT_.out (by kernel_rfl)) (by decide) (fun K hK => ?_)
     refine Kd.R_append_step Kd.string (w0:=w) w.heap.size (by rfl) (.tmp 38) (.tmp 44) 31 9 (.string ⟨#[]⟩) 16 rfl Tryz.underlying31 Z95 rfl (by decide) (by omega) (.slice A384_1 ((Z1w x5_1 (ji14)).f1).length c384_1) ((Z1w x5_1 (ji14)).f1) ((rdOf ByteArray.empty l1 x6_1).extract 1 (rdOf ByteArray.empty l1 x6_1).size) [.string ((rdOf ByteArray.empty l1 x6_1).extract 1 (rdOf ByteArray.empty l1 x6_1).size)] (fun k_ => oki24 k_ ∨ ((fun _ => True)) k_ ∧ w23.heap.size ≤ k_) (fun _ => False) rfl rfl ?aP (fun _ hk => hk.elim) ?aF ?aO ?aB ?aS ?aL ?_
     (case aP => exact rfl);(case aB => exact (tB HB));(case aF => exact (fun k_ hk => .inr ⟨trivial,hk⟩));(case aO => exact (by (with_reducible repeat (first | apply Kd.R_alloc | apply Kd.R_drewN | apply Kd.R_drew));exact Kd.R_mono UU24.out (fun _ hk => .inl hk)));(case aS => exact (tS HB));(case aL => have:=LMc18.out;omega)
     intro v387 w25 ho hb hg hat
     (first | have HS0_:=cell_grown hg (hHeld.1) Gc11 | have HS0_:=cell_grown hg (cell_unalloc (hHeld.1) (by first | (rw [add_block];exact Kd.S_lt HO_5.out _ rfl) | (show (Addr.add _ _).block < _;rw [add_block];exact Kd.S_lt HO_5.out _ rfl) | exact Kd.S_lt HO_5.out _ rfl)) Gc11)
     (first | have HS1_:=cell_grown hg (hHeld.2.1) Gc11 | have HS1_:=cell_grown hg (cell_unalloc (hHeld.2.1) (by first | (rw [add_block];exact Kd.S_lt HO_5.out _ rfl) | (show (Addr.add _ _).block < _;rw [add_block];exact Kd.S_lt HO_5.out _ rfl) | exact Kd.S_lt HO_5.out _ rfl)) Gc11)
     rw [← Ny386.out] at ho;have n0_:=am (blk_grown (tK BK374) hg (Kd.R_ne HL384_1.out BK374.out (by decide)));have n1_:=am (hb);have n2_:=am (Kd.H_grown (Kd.H_widen (by repeat (first | exact HH24.out | refine Kd.H_alloc ?_ _ | refine Kd.H_drewN ?_ _ | refine Kd.H_drew ?_))) hg (fun k_ e_ => .inl (UU24.out.1 k_ e_)));have n3_:=am (ho);revert n0_ n1_ n2_ n3_;clear BK374 HB HH24 HO_5 UU24 HL384_1;intro BK374 HB HH24 HO388
     clear ho hb hg hat
     have p19:0 ≤ ((ji14):Int):=oD;have q19:((ji14):Int) < ((x5_1.length:Int):Int):=oD;replace p19:=eq_true p19;replace q19:=eq_true q19;obtain ⟨Ao28,co28,eo28⟩:=Kd.R_slice HO388.out
     (first | subst eo28 | (injection eo28 with f1_ f2_ f3_;have f4_:=f1_.symm;have f5_:=f3_.symm;clear f1_ f2_ f3_;subst f4_;subst f5_))
     obtain ⟨_,_,hraw26,_,_,hcc26,_⟩:=Kd.H_raw HH24.out (oD) Gc21;obtain ⟨_,hfr26⟩:=Kd.H_at HH24.out (oD) Gc21;have hx26_0:=hcc26 1 _ rfl;have hf26_0:=hfr26 1;(try rw [show (k60).sz = 2 from rfl] at hx26_0);(try rw [show (k60).sz = 2 from rfl] at hf26_0);have HP26:=Kd.S_seg0 HH24.out (oD) Gc21 (seg:=[.slice Ao28 y386.length co28]) (j:=1) (show 2 ≤ 2 from by decide) (x':=(⟨(Z1w x5_1 (ji14)).f0,y386⟩:S60)) (Zbi _ _ _ (⟨(Z1w x5_1 (ji14)).f0,y386⟩:S60) HO388.out) (fun _ hk => hk);clear hcc26 hfr26;have HNB374_go24:=am (show gb374 ≠ go24 from by have h_:=Kd.R_ne hraw26 BK374.out (by decide);intro e_;exact h_ (by rw [e_];rfl));have HS26:=HP26.1;(try simp only [show (k60).sz = 2 from rfl,World.setCells] at HS26);rw [← Ny389.out] at HS26;have HQ26:=am HS26;obtain ⟨_,hgg26⟩:=Kd.R_typed hraw26 go24 rfl;have GG26_:=am hgg26;clear HP26 HS26 hgg26
     refine hK.out _ _ ⟨HS0_,HS1_,((HB.out.cell (World.block_lt_of_cell? w _ hw385_0)).trans hw385_0)⟩ (fun hHeld => ?_)
     clear hK K
     refine nR 45 ?_
     refine pT 14 46 ?_
     refine pT 15 47 ?_
     refine last_ (i:=16) (N:=none) #[true,true,true,true,true,true,true,true,true,true,true,true,true,true,true,true,true] rfl rfl (one_of HT_.out (by kernel_rfl)) (by decide) (fun K hK => ?_)
     refine skip_ (w1:=?_) (by rfl) rfl ?_ ?_
     rotate_left
     ·
      go_simp
      rfl
     refine hK.out _ _ ?_
     clear hK K
     refine done_ (done_of HT_.out (by kernel_rfl)) ?_
     try go_wp2
     go_roundg k1
     case measure => have:=HK1.out;omega
     case rel => exact ⟨(y389),(wrap64 (x6_1 + 1)),tV1,H',⟨by have:=HK1.out;omega⟩,⟨dS HQ26⟩,⟨by (with_reducible repeat (first | refine blk_drewN ?_ _ | refine blk_drew ?_ | refine blk_alloc ?_ _));refine blk_far ?_ HNB374_go24.out _;(with_reducible repeat (first | refine blk_drewN ?_ _ | refine blk_drew ?_ | refine blk_alloc ?_ _));exact BK374.out⟩,⟨tB HB⟩⟩)
  | (have mk_:=mk1_
     with_reducible refine (Z1q.calls gL pL (rdOf ByteArray.empty l1 x6_1) true _ (lB HL HB) A8.out).mono ?_
     rintro e w12 ⟨rfl,hb⟩
     refine ⟨_,rfl,?_⟩
     have n0_:=am (Kd.S_below (dS HO_5) hb);have n1_:=am (blk_below (tK BK374) hb);have n2_:=am (below_step (tB HB) hb);revert n0_ n1_ n2_;clear HO_5 BK374 HB;intro HO_5 BK374 HB
     (try clear hb);(try clear hk)
     refine hK.out _ _ ⟨BK374.out,((HB.out.cell (World.block_lt_of_cell? w _ hw378_0)).trans hw378_0)⟩ (fun hHeld => ?_)
     clear hK K
     refine nR 20 ?_
     refine done_ (by kernel_rfl) ?_
     have p380:0 ≤ (x6_1:Int):=oD;have q380:x6_1 < (l1.length:Int):=oD;obtain ⟨ad380,e380,hx380_0⟩:=Kd.at_string HR1.out x6_1 p380 q380;obtain rfl:ad378 = ad380:=(by injection e380);replace hx380_0:=celB HB hx380_0;replace p380:=eq_true p380;replace q380:=eq_true q380
     try go_wp2_with (first | ((with_reducible refine Z0z (t:=41) (p:=2) rfl ?_);(try (refine gate_guard (by rfl) ?_;dsimp only));refine wpList_load_row rfl 41 (.tmp 2) rfl gb374 rfl 41 _ (0,0) _ (tK BK374) Tryz.underlying41 rfl (by kernel_rfl) ?_) | ((with_reducible refine gate_builtin (b:=.append) (xs:=#[.tmp 21,.tmp 27]) rfl ?_);at_builtin;refine Kd.S_append k60 (w0:=w) w.heap.size rfl (.tmp 21) (.tmp 27) 56 60 (.agg #[(.string ⟨#[]⟩),(.slice none 0 0)]) 40 rfl Tryz.underlying56 Zl1 rfl (by decide) (by omega) u5 x5_1 (⟨rdOf ByteArray.empty l1 x6_1,([]:List ByteArray)⟩:S60) [.string (rdOf ByteArray.empty l1 x6_1),.slice none 0 0] (fun _ => True) (fun _ => False) rfl rfl ?aP (fun k_ hk_ => hk_.elim) ?aF ?aO ?aB ?aS ?aL ?_;(case aP => exact Zbi _ _ _ (⟨rdOf ByteArray.empty l1 x6_1,([]:List ByteArray)⟩:S60) (Kd.R_nil _ _ _ _ _));(case aB => exact (tB HB));(case aF => exact Gc25);(case aO => exact (dS HO_5));(case aS => exact (tS HB));(case aL => have:=LMc10.out;omega);intro v382 w13 ho hb hg hat;rw [← Ny381.out] at ho;have n0_:=am (blk_grown (tK BK374) hg (Kd.S_ne HO_5.out BK374.out (by decide)));have n1_:=am (hb);have n2_:=am (ho);revert n0_ n1_ n2_;clear BK374 HB HO_5;intro BK374 HB HO383;clear ho hb hg hat))
     go_roundg k1
     case measure => have:=HK1.out;omega
     case rel => exact ⟨(y381),(wrap64 (x6_1 + 1)),tV1,H',⟨by have:=HK1.out;omega⟩,⟨dS HO383⟩,⟨tK BK374⟩,⟨tB HB⟩⟩)):p:=h
theorem Zdb {p:Prop} (h:p:=by
  have H':=am H;clear H
  try go_wp2
  have n0_:=am (Kd.S_drew HO_5.out);have n1_:=am (blk_drew BK374.out);have n2_:=am (below_drew1 HB.out);revert n0_ n1_ n2_;clear HO_5 BK374 HB;intro HO_5 BK374 HB;have p378:0 ≤ (x6_1:Int):=oD;have q378:x6_1 < (l1.length:Int):=oD;obtain ⟨ad378,e378,hx378_0⟩:=Kd.at_string HR1.out x6_1 p378 q378;have hw378_0:=hx378_0;cases e378;replace hx378_0:=celB HB hx378_0;replace p378:=eq_true p378;replace q378:=eq_true q378
  refine start_ (n:=6) (S:=fun w' => w'.heap[gb374]? = some (.cells (lcs gL pL) 41 (0,0)) ∧ w'.cell? (ad378.add (x6_1).toNat) = some (.string (rdOf ByteArray.empty l1 x6_1))) (ds:=[]) #[false,false,false,false,false,false] (by kernel_rfl) rfl rfl ⟨BK374.out,((HB.out.cell (World.block_lt_of_cell? w _ hw378_0)).trans hw378_0)⟩ (fun hHeld => ?_)
  first
  | (have mk_:=mk0_
     generalize wr.drew = w11 at HO_5 BK374 HB hx378_0 hHeld ⊢;have mk1_:=trivial
     exact Zda)
  | (have mk_:=mk1_
     generalize wr.drew = w20 at HO_5 BK374 HB hx378_0 hHeld ⊢;have mk0_:=trivial
     exact Zda)):p:=h
set_option maxHeartbeats 8000000 in
set_option maxRecDepth 100000 in
theorem Z0b.calls (k:Nat) (gL:Lg) (pL:La) (A1:Option Addr) (c1:Nat) (l1:List ByteArray) (r:List (S60)) (w:World) (hL:Z2o gL pL w) (hr1:Kd.C Kd.string w A1 l1.length l1) (hc1:l1.length ≤ c1) (h:Z0b.f k gL l1 = some r) :
 Calls Tryz.prog 43 #[.agg (lcs gL pL),.slice A1 l1.length c1] w fun e w' => ∃ v0_:Value,e = .returned (v0_) ∧ Kd.S k60 60 w' w.heap.size (fun _ => True) v0_ r ∧ Below w.heap.size w w':=by
 have hu41:=Tryz.underlying41;have hu60:=Tryz.underlying60;have HL:=am hL;clear hL;have HR1:=am hr1;have HC1:=am hc1;clear hr1 hc1;have HB:=am (Below.refl w.heap.size w);have H:(Z0b.l0 k l1 (([]:List (S60))) 0 gL) = some r:=h;clear h;obtain ⟨y375,hy375⟩:∃ y_:List (S60),y_ = (([]:List (S60))):=⟨_,rfl⟩
 replace H:(Z0b.l0 k l1 y375 0 gL) = some r:=by first | (rw [hy375];with_reducible exact H) | (have H2_:=(Option.bind_some _ _).symm.trans H;rw [hy375];with_reducible exact H2_) | (have H2_:=(Option.bind_some _ _).symm.trans H;with_reducible exact H2_) | with_reducible exact H | (rw [hy375];exact H) | exact H
 have Ny375:=am hy375;clear hy375;have H':=am H;clear H;go_enter Tryz.func43,Tryz.ntmps43
 go_wp2_with (first | ((with_reducible refine Z0z (t:=41) (p:=2) rfl ?_);(try (refine gate_guard (by rfl) ?_;dsimp only));refine wpList_load_row rfl 41 (.tmp 2) rfl gb374 rfl 41 _ (0,0) _ (tK BK374) Tryz.underlying41 rfl (by kernel_rfl) ?_) | ((with_reducible refine gate_dst (N:=2) rfl ?_);refine box_event ?hg (N:=2) ?hd (cs:=?cs) (t:=41) ?hr ?_;(case hd => rfl);(case hg => rfl);(case hr => exact Gc5);intro gb374 hg w3 hbox hb;have n0_:=am (below_step (tB HB) hb);have n1_:=am (hbox);have n2_:=tZ hg (tS HB);have n3_:=tZ hg (tS HB);revert n0_ n1_ n2_ n3_;clear HB;intro HB BK374 GW374 GE374;clear hb hbox hg) | ((with_reducible refine gate_dst (N:=8) rfl ?_);refine Kd.S_lit k60 _ 60 ?hg (N:=8) ?hd (xs:=([]:List (S60))) (inner:=[]) (ok:=fun _ => True) (okp:=fun _ => True) ?hr ?hp (fun _ hk => hk) trivial (Below.refl _ _) (Nat.le_refl _) (by simp) ?_;(case hd => rfl);(case hg => rfl);(case hr => exact Gc5);(case hp => exact (Reps.none _ _));intro v376 w4 ho5 hb hg_ hnew_;clear hg_ hnew_;(first | rw [← Ny375.out] at ho5 | (simp only [Int.reduceToNat] at ho5;rw [← Ny375.out] at ho5));have n0_:=am (Kd.S_lower ho5 (tS HB));have n1_:=am (blk_below (tK BK374) hb);have n2_:=am (below_step (tB HB) hb);revert n0_ n1_ n2_;clear BK374 HB;intro HO377 BK374 HB;clear hb ho5))
 go_loopg [5,6] k (fun kq v5 v6 w' => ∃ (x5_1:List (S60)) (x6_1:Int),v6 = .int .i64 x6_1 ∧ Aside0 (Z0b.l0 kq l1 x5_1 x6_1 gL = some r) ∧ Aside0 (kq ≤ k) ∧ Aside0 (Kd.S k60 60 w' w.heap.size (fun _ => True) v5 x5_1) ∧ Aside0 (w'.heap[gb374]? = some (.cells (lcs gL pL) 41 (0,0))) ∧ Aside0 (Below w.heap.size w w'))
 case atStart => exact ⟨(y375),(0),tV1,H',⟨Nat.le_refl _⟩,⟨dS HO377⟩,⟨tK BK374⟩,⟨tB HB⟩⟩
 case round =>
  clear H';obtain ⟨x5_1,x6_1,rfl,HA,HK1,HO_5,BK374,HB⟩:=hrel
  cases gk with
  | zero => exact absurd HA.out (by simp [Z0b.l0])
  | succ k1 =>
   have H:=HA.out;clear HA;simp only [Z0b.l0] at H
   replace H:=iF H;obtain ⟨c6,H⟩ | ⟨c6,H⟩:=H
   ·
    have c6b0:decide (x6_1 < (l1.length:Int)) = true:=decide_eq_true c6;clear c6;replace H:=iFn H;obtain ⟨c7,H⟩:=H;have c7b0:decide (0 ≤ x6_1) = true:=decide_eq_true c7;clear c7;replace H:=bI H;obtain ⟨t379,A8,H⟩:=H;(try dsimp only at H)
    replace H:=iT H;obtain ⟨rfl,H⟩ | ⟨rfl,H⟩:=H
    ·
     replace H:=iFn H;obtain ⟨c10,H⟩:=H;have LMc10:=am c10;clear c10;obtain ⟨y381,hy381⟩:∃ y_:List (S60),y_ = (x5_1 ++ [(⟨rdOf ByteArray.empty l1 x6_1,([]:List ByteArray)⟩:S60)]):=⟨_,rfl⟩
     replace H:(Z0b.l0 k1 l1 y381 (wrap64 (x6_1 + 1)) gL) = some r:=by first | (rw [hy381];with_reducible exact H) | (have H2_:=(Option.bind_some _ _).symm.trans H;rw [hy381];with_reducible exact H2_) | (have H2_:=(Option.bind_some _ _).symm.trans H;with_reducible exact H2_) | with_reducible exact H | (rw [hy381];exact H) | exact H
     have Ny381:=am hy381;clear hy381;have mk0_:=trivial;exact Zdb
    ·
     obtain ⟨ji14,hji14⟩:∃ j_:Int,(wrap64 ((x5_1.length:Int) - 1)) = j_:=⟨_,rfl⟩
     replace H:(if 0 ≤ (ji14) then (if (ji14) < (x5_1.length:Int) then (if 1 ≤ ((rdOf ByteArray.empty l1 x6_1).size:Int) then (if ((Z1w x5_1 (ji14)).f1).length < 8796093022208 then (Z0b.l0 k1 l1 (x5_1.set ((ji14):Int).toNat (⟨(Z1w x5_1 (ji14)).f0,(((Z1w x5_1 (ji14)).f1) ++ [(rdOf ByteArray.empty l1 x6_1).extract 1 (rdOf ByteArray.empty l1 x6_1).size])⟩:S60)) (wrap64 (x6_1 + 1)) gL) else (none)) else (none)) else (none)) else (none)) = some r:=by first | (rw [hji14] at H;exact H) | (simp only [hji14] at H ⊢;exact H)
     (try rw [hji14] at A8);have hji14w:(IntKind.i64.wrap ((x5_1.length:Int) - 1)) = ji14:=(i64_w _).trans hji14;replace H:=iFn H;obtain ⟨c15,H⟩:=H;have c15b0:decide (0 ≤ (ji14)) = true:=decide_eq_true c15;clear c15;replace H:=iFn H;obtain ⟨c16,H⟩:=H;have c16b0:decide ((ji14) < (x5_1.length:Int)) = true:=decide_eq_true c16;clear c16;replace H:=iFn H;obtain ⟨c17,H⟩:=H;have c17b0:=eq_true c17;have c17b1:decide (1 ≤ ((rdOf ByteArray.empty l1 x6_1).size:Int)) = true:=decide_eq_true c17;clear c17;replace H:=iFn H;obtain ⟨c18,H⟩:=H;have LMc18:=am c18;clear c18;obtain ⟨y386,hy386⟩:∃ y_:List ByteArray,y_ = (((Z1w x5_1 (ji14)).f1) ++ [(rdOf ByteArray.empty l1 x6_1).extract 1 (rdOf ByteArray.empty l1 x6_1).size]):=⟨_,rfl⟩
     replace H:(Z0b.l0 k1 l1 (x5_1.set ((ji14):Int).toNat (⟨(Z1w x5_1 (ji14)).f0,y386⟩:S60)) (wrap64 (x6_1 + 1)) gL) = some r:=by first | (rw [hy386];with_reducible exact H) | (have H2_:=(Option.bind_some _ _).symm.trans H;rw [hy386];with_reducible exact H2_) | (have H2_:=(Option.bind_some _ _).symm.trans H;with_reducible exact H2_) | with_reducible exact H | (rw [hy386];exact H) | exact H
     have Ny386:=am hy386;clear hy386;obtain ⟨y389,hy389⟩:∃ y_:List (S60),y_ = (x5_1.set ((ji14):Int).toNat (⟨(Z1w x5_1 (ji14)).f0,y386⟩:S60)):=⟨_,rfl⟩
     replace H:(Z0b.l0 k1 l1 y389 (wrap64 (x6_1 + 1)) gL) = some r:=by first | (rw [hy389];with_reducible exact H) | (have H2_:=(Option.bind_some _ _).symm.trans H;rw [hy389];with_reducible exact H2_) | (have H2_:=(Option.bind_some _ _).symm.trans H;with_reducible exact H2_) | with_reducible exact H | (rw [hy389];exact H) | exact H
     have Ny389:=am hy389;clear hy389;have mk1_:=trivial;exact Zdb
   ·
    have c6b0:decide (x6_1 < (l1.length:Int)) = false:=decide_eq_false c6;clear c6;obtain rfl:=Option.some.inj H;go_wp2;go_ret;exact ⟨_,tE,by (with_reducible repeat (first | apply Kd.S_alloc | apply Kd.S_drewN | apply Kd.S_drew));exact HO_5.out,by repeat (first | (with_reducible first | exact HB.out | apply below_alloc | apply pw_below_drewN | apply below_drew1 | refine below_set ?_ GE374.out) | exact HB.out)⟩
def Z15.f (l0:List (S68)) (a1:ByteArray):Option (Bool):=(Z0w.f l0 a1).bind fun bt390 => (if bt390.2 = true then (some (decide ((bt390.1.length:Int) ≤ 40))) else (some false))
set_option maxHeartbeats 8000000 in
set_option maxRecDepth 100000 in
theorem Z15.calls (A0:Option Addr) (c0:Nat) (l0:List (S68)) (a1:ByteArray) (r:Bool) (w:World) (hT:Tabs w) (hr0:Kd.C k68 w A0 l0.length l0) (hc0:l0.length ≤ c0) (h:Z15.f l0 a1 = some r) :
 Calls Tryz.prog 82 #[.slice A0 l0.length c0,.string a1] w fun e w' => e = .returned (.bool r) ∧ Below w.heap.size w w':=by
 have HT:=am hT;clear hT;have HR0:=am hr0;have HC0:=am hc0;clear hr0 hc0;have HB:=am (Below.refl w.heap.size w);have H:((Z0w.f l0 a1).bind fun bt390 => (if bt390.2 = true then (some (decide ((bt390.1.length:Int) ≤ 40))) else (some false))) = some r:=h;clear h;replace H:=bI H;obtain ⟨⟨t390,t391⟩,A3,H⟩:=H;(try dsimp only at H)
 replace H:=iT H;obtain ⟨rfl,H⟩ | ⟨rfl,H⟩:=H
 ·
  obtain rfl:=Option.some.inj H;go_enter Tryz.func82,Tryz.ntmps82
  go_wp2_with (first | ((with_reducible refine gate_callee (f:=78) rfl ?_);refine goesL_ (some 10) rfl rfl Tryz.func78 (by kernel_rfl) rfl #[.slice A0 l0.length c0,.string a1] rfl Gc2 ?_;(with_reducible refine (Z0w.calls _ _ l0 a1 t390 true _ ?sT ?s1 HC0.out A3.out).mono ?_);(case sT => exact Gc1);(case s1 => exact Gc3);rintro e w5 ⟨v392,rfl,ho0,hb⟩;refine ⟨_,rfl,?_⟩;have n0_:=am (Kd.R_lower ho0 (tS HB));have n1_:=am (below_step (tB HB) hb);revert n0_ n1_;clear HB;intro HO393 HB;(try clear hb);(try clear hb2);(try clear hk);(try clear hi);(try clear ho0);obtain ⟨Ao6,co6,eo6⟩:=Kd.R_slice HO393.out;subst eo6))
  go_ret;exact ⟨tE,by repeat (first | (with_reducible first | exact HB.out | apply below_alloc | apply pw_below_drewN | apply below_drew1) | exact HB.out)⟩
 ·
  obtain rfl:=Option.some.inj H;go_enter Tryz.func82,Tryz.ntmps82
  go_wp2_with (first | ((with_reducible refine gate_callee (f:=78) rfl ?_);refine goesL_ (some 10) rfl rfl Tryz.func78 (by kernel_rfl) rfl #[.slice A0 l0.length c0,.string a1] rfl Gc2 ?_;(with_reducible refine (Z0w.calls _ _ l0 a1 t390 false _ ?sT ?s1 HC0.out A3.out).mono ?_);(case sT => exact Gc1);(case s1 => exact Gc3);rintro e w7 ⟨v392,rfl,ho0,hb⟩;refine ⟨_,rfl,?_⟩;have n0_:=am (Kd.R_lower ho0 (tS HB));have n1_:=am (below_step (tB HB) hb);revert n0_ n1_;clear HB;intro HO393 HB;(try clear hb);(try clear hb2);(try clear hk);(try clear hi);(try clear ho0)))
  go_ret;exact ⟨tE,by repeat (first | (with_reducible first | exact HB.out | apply below_alloc | apply pw_below_drewN | apply below_drew1) | exact HB.out)⟩
def Z14.l0:Nat → List (S68) → List (S73) → ByteArray → Int → Option (Bool)
 | 0,_,_,_,_ => none
 | k + 1,x0,x1,x2,x7 => if x7 < (x1.length:Int) then (if 0 ≤ x7 then ((Z0s.f k x0 ((Z03 x1 x7).f0) ((Z03 x1 x7).f1) ((Z03 x1 x7).f2) ((Z03 x1 x7).f3) ((Z03 x1 x7).f4) ((Z03 x1 x7).f5)).bind fun t395 => (if t395 = true then (Z14.l0 k x0 x1 x2 (wrap64 (x7 + 1))) else (some false))) else (none)) else (if (x1.length:Int) ≤ 64 then ((Z0i.f k x0).bind fun t396 => (if t396 = true then ((Z15.f x0 x2).bind fun t397 => (some t397)) else (some false))) else (some false))
def Z14.f (k:Nat) (l0:List (S68)) (l1:List (S73)) (a2:ByteArray):Option (Bool):=Z14.l0 k l0 l1 a2 0
theorem Zdc {p:Prop} (h:p:=by
  have z1_:0 ≤ (x7_1:Int):=oD;have z2_:x7_1 < (l1.length:Int):=oD;obtain ⟨z3_,z4_,z5_,z6_,z7_,z8_,z9_,z10_,z11_,z12_,z13_,z14_,z15_,z16_,z17_,z18_⟩:=Zat HR1.out x7_1 z1_ z2_;cases z8_;replace z9_:=celB HB z9_;replace z10_:=celB HB z10_;replace z11_:=celB HB z11_;replace z12_:=celB HB z12_;replace z13_:=celB HB z13_;replace z14_:=celB HB z14_;have z19_:=am z16_;have z20_:=am z15_;clear z16_ z15_;have z21_:=am z18_;have z22_:=am z17_;clear z18_ z17_;replace z1_:=eq_true z1_;replace z2_:=eq_true z2_
  first
  | (have mk_:=mk0_
     go_wp2_with (first | ((with_reducible refine gate_callee (f:=61) rfl ?_);refine goesL_ (some 19) rfl rfl Tryz.func61 (by kernel_rfl) rfl #[.slice A0 l0.length c0,.agg #[.int .i32 ((Z03 l1 x7_1).f0),.string ((Z03 l1 x7_1).f1),.slice z4_ ((Z03 l1 x7_1).f2).length z5_,.slice z6_ ((Z03 l1 x7_1).f3).length z7_,.bool ((Z03 l1 x7_1).f4),.bool ((Z03 l1 x7_1).f5)]] rfl Gc2 ?_;(with_reducible refine (Z0s.calls k1 _ _ l0 ((Z03 l1 x7_1).f0) ((Z03 l1 x7_1).f1) _ _ ((Z03 l1 x7_1).f2) _ _ ((Z03 l1 x7_1).f3) ((Z03 l1 x7_1).f4) ((Z03 l1 x7_1).f5) false _ ?sT (tC HR0 HB) HC0.out ?s3 ?s4 ?s5 ?s6 A6.out).mono ?_);(case sT => exact Gc1);(case s3 => exact tC z19_ HB);(case s4 => exact z20_.out);(case s5 => exact tC z21_ HB);(case s6 => exact z22_.out);rintro e z23_ ⟨rfl,hb⟩;refine ⟨_,rfl,?_⟩;have z24_:=am (below_step (tB HB) hb);revert z24_;clear HB;intro HB;(try clear hb);(try clear hb2);(try clear hk);(try clear hi)))
     go_ret
     exact ⟨tE,by repeat (first | (with_reducible first | exact HB.out | apply below_alloc | apply pw_below_drewN | apply below_drew1) | exact HB.out)⟩)
  | (have mk_:=mk1_
     go_wp2_with (first | ((with_reducible refine gate_callee (f:=61) rfl ?_);refine goesL_ (some 19) rfl rfl Tryz.func61 (by kernel_rfl) rfl #[.slice A0 l0.length c0,.agg #[.int .i32 ((Z03 l1 x7_1).f0),.string ((Z03 l1 x7_1).f1),.slice z4_ ((Z03 l1 x7_1).f2).length z5_,.slice z6_ ((Z03 l1 x7_1).f3).length z7_,.bool ((Z03 l1 x7_1).f4),.bool ((Z03 l1 x7_1).f5)]] rfl Gc2 ?_;(with_reducible refine (Z0s.calls k1 _ _ l0 ((Z03 l1 x7_1).f0) ((Z03 l1 x7_1).f1) _ _ ((Z03 l1 x7_1).f2) _ _ ((Z03 l1 x7_1).f3) ((Z03 l1 x7_1).f4) ((Z03 l1 x7_1).f5) true _ ?sT (tC HR0 HB) HC0.out ?s3 ?s4 ?s5 ?s6 A6.out).mono ?_);(case sT => exact Gc1);(case s3 => exact tC z19_ HB);(case s4 => exact z20_.out);(case s5 => exact tC z21_ HB);(case s6 => exact z22_.out);rintro e z23_ ⟨rfl,hb⟩;refine ⟨_,rfl,?_⟩;have z24_:=am (below_step (tB HB) hb);revert z24_;clear HB;intro HB;(try clear hb);(try clear hb2);(try clear hk);(try clear hi)))
     go_roundg k1
     case measure => have:=HK1.out;omega
     case rel => exact ⟨(wrap64 (x7_1 + 1)),tV1,H',⟨by have:=HK1.out;omega⟩,⟨tB HB⟩⟩)):p:=h
set_option maxHeartbeats 8000000 in
set_option maxRecDepth 100000 in
theorem Z14.calls (k:Nat) (A0:Option Addr) (c0:Nat) (l0:List (S68)) (A1:Option Addr) (c1:Nat) (l1:List (S73)) (a2:ByteArray) (r:Bool) (w:World) (hT:Tabs w) (hr0:Kd.C k68 w A0 l0.length l0) (hc0:l0.length ≤ c0) (hr1:Kd.C k73 w A1 l1.length l1) (hc1:l1.length ≤ c1) (h:Z14.f k l0 l1 a2 = some r) :
 Calls Tryz.prog 95 #[.slice A0 l0.length c0,.slice A1 l1.length c1,.string a2] w fun e w' => e = .returned (.bool r) ∧ Below w.heap.size w w':=by
 have HT:=am hT;clear hT;have hu73:=Tryz.underlying73;have HR0:=am hr0;have HC0:=am hc0;clear hr0 hc0;have HR1:=am hr1;have HC1:=am hc1;clear hr1 hc1;have HB:=am (Below.refl w.heap.size w);have H:(Z14.l0 k l0 l1 a2 0) = some r:=h;clear h;have H':=am H;clear H;go_enter Tryz.func95,Tryz.ntmps95;go_wp2
 go_loopg [7] k (fun kq v7 w' => ∃ (x7_1:Int),v7 = .int .i64 x7_1 ∧ Aside0 (Z14.l0 kq l0 l1 a2 x7_1 = some r) ∧ Aside0 (kq ≤ k) ∧ Aside0 (Below w.heap.size w w'))
 case atStart => exact ⟨(0),tV1,H',⟨Nat.le_refl _⟩,⟨tB HB⟩⟩
 case round =>
  clear H';obtain ⟨x7_1,rfl,HA,HK1,HB⟩:=hrel
  cases gk with
  | zero => exact absurd HA.out (by simp [Z14.l0])
  | succ k1 =>
   have H:=HA.out;clear HA;simp only [Z14.l0] at H
   replace H:=iF H;obtain ⟨c4,H⟩ | ⟨c4,H⟩:=H
   ·
    have c4b0:decide (x7_1 < (l1.length:Int)) = true:=decide_eq_true c4;clear c4;replace H:=iFn H;obtain ⟨c5,H⟩:=H;have c5b0:decide (0 ≤ x7_1) = true:=decide_eq_true c5;clear c5;replace H:=bI H;obtain ⟨t395,A6,H⟩:=H;(try dsimp only at H)
    replace H:=iT H;obtain ⟨rfl,H⟩ | ⟨rfl,H⟩:=H
    ·
     have H':=am H;clear H;have mk1_:=trivial;exact Zdc
    ·
     obtain rfl:=Option.some.inj H;have mk0_:=trivial;exact Zdc
   ·
    have c4b0:decide (x7_1 < (l1.length:Int)) = false:=decide_eq_false c4;clear c4
    replace H:=iF H;obtain ⟨c10,H⟩ | ⟨c10,H⟩:=H;rotate_left
    ·
     have c10b0:decide ((l1.length:Int) ≤ 64) = false:=decide_eq_false c10;have c10b1:decide (l1.length ≤ 64) = false:=decide_eq_false (by omega);clear c10;obtain rfl:=Option.some.inj H;go_wp2;go_ret;exact ⟨tE,by repeat (first | (with_reducible first | exact HB.out | apply below_alloc | apply pw_below_drewN | apply below_drew1) | exact HB.out)⟩
    have c10b0:decide ((l1.length:Int) ≤ 64) = true:=decide_eq_true c10;have c10b1:decide (l1.length ≤ 64) = true:=decide_eq_true (by omega);clear c10;replace H:=bI H;obtain ⟨t396,A11,H⟩:=H;(try dsimp only at H)
    replace H:=iT H;obtain ⟨rfl,H⟩ | ⟨rfl,H⟩:=H
    ·
     replace H:=bI H;obtain ⟨t397,A13,H⟩:=H;(try dsimp only at H);obtain rfl:=Option.some.inj H
     go_wp2_with (first | (go_at_call 79;(with_reducible refine (Z0i.calls k1 _ _ l0 true _ (tC HR0 HB) HC0.out A11.out).mono ?_);rintro e w' ⟨rfl,⟨nd,rfl⟩⟩) | (go_at_call 82;(with_reducible refine (Z15.calls _ _ l0 a2 t397 _ ?sT ?s1 HC0.out A13.out).mono ?_);(case sT => exact Gc1);(case s1 => exact Gc9);rintro e w14 ⟨rfl,hb⟩;have n0_:=am (below_step (tB HB) hb);revert n0_;clear HB;intro HB;(try clear hb);(try clear hb2);(try clear hk);(try clear hi)))
     go_ret;exact ⟨tE,by repeat (first | (with_reducible first | exact HB.out | apply below_alloc | apply pw_below_drewN | apply below_drew1) | exact HB.out)⟩
    ·
     obtain rfl:=Option.some.inj H
     go_wp2_with (first | (go_at_call 79;(with_reducible refine (Z0i.calls k1 _ _ l0 false _ (tC HR0 HB) HC0.out A11.out).mono ?_);rintro e w' ⟨rfl,⟨nd,rfl⟩⟩))
     go_ret;exact ⟨tE,by repeat (first | (with_reducible first | exact HB.out | apply below_alloc | apply pw_below_drewN | apply below_drew1) | exact HB.out)⟩
def Z1d.l0:Nat → List Int → Int → Int → Option (Bool)
 | 0,_,_,_ => none
 | k + 1,x0,x1,x5 => if x5 < (x0.length:Int) then (if 0 ≤ x5 then (if (rd x0 x5) = x1 then (some true) else (Z1d.l0 k x0 x1 (wrap64 (x5 + 1)))) else (none)) else (some false)
def Z1d.f (k:Nat) (l0:List Int) (a1:Int):Option (Bool):=Z1d.l0 k l0 a1 0
set_option maxHeartbeats 8000000 in
set_option maxRecDepth 100000 in
theorem Z1d.calls (k:Nat) (A0:Option Addr) (c0:Nat) (l0:List Int) (a1:Int) (r:Bool) (w:World) (hr0:Kd.C (Kd.int .i32) w A0 l0.length l0) (hc0:l0.length ≤ c0) (h:Z1d.f k l0 a1 = some r) :
 Calls Tryz.prog 116 #[.slice A0 l0.length c0,.int .i32 a1] w fun e w' => e = .returned (.bool r) ∧ Drawn0 w w':=by
 have HR0:=am hr0;have HC0:=am hc0;clear hr0 hc0;have H:(Z1d.l0 k l0 a1 0) = some r:=h;clear h;have H':=am H;clear H;go_enter Tryz.func116,Tryz.ntmps116;go_wp2
 go_loopg [5] k (fun kq v5 w' => ∃ (x5_1:Int),v5 = .int .i64 x5_1 ∧ Aside0 (Z1d.l0 kq l0 a1 x5_1 = some r) ∧ Aside0 (kq ≤ k) ∧ Drawn0 w w')
 case atStart => exact ⟨(0),tV1,H',⟨Nat.le_refl _⟩,by repeat (first | exact Drawn0.refl _ | apply Drawn0.step)⟩
 case round =>
  clear H';obtain ⟨x5_1,rfl,HA,HK1,⟨m1,rfl⟩⟩:=hrel
  cases gk with
  | zero => exact absurd HA.out (by simp [Z1d.l0])
  | succ k1 =>
   have H:=HA.out;clear HA;simp only [Z1d.l0] at H
   replace H:=iF H;obtain ⟨c3,H⟩ | ⟨c3,H⟩:=H;rotate_left
   ·
    have c3b0:decide (x5_1 < (l0.length:Int)) = false:=decide_eq_false c3;clear c3;obtain rfl:=Option.some.inj H;go_wp2;go_ret;exact ⟨by first | rfl | (simp;done) | (simp [*];done),by repeat (first | exact Drawn0.refl _ | apply Drawn0.step)⟩
   have c3b0:decide (x5_1 < (l0.length:Int)) = true:=decide_eq_true c3;clear c3;replace H:=iFn H;obtain ⟨c4,H⟩:=H;have c4b0:decide (0 ≤ x5_1) = true:=decide_eq_true c4;clear c4
   replace H:=iE H;obtain ⟨-,c5b0,c5b1,H⟩ | ⟨c5,c5b0,c5b1,H⟩:=H
   ·
    obtain rfl:=Option.some.inj H;have p398:0 ≤ (x5_1:Int):=oD;have q398:x5_1 < (l0.length:Int):=oD;obtain ⟨ad398,e398,hx398_0⟩:=Kd.at_int HR0.out x5_1 p398 q398;cases e398;replace p398:=eq_true p398;replace q398:=eq_true q398;go_wp2;go_ret;exact ⟨by first | rfl | (simp;done) | (simp [*];done),by repeat (first | exact Drawn0.refl _ | apply Drawn0.step)⟩
   ·
    have H':=am H;clear H;have p398:0 ≤ (x5_1:Int):=oD;have q398:x5_1 < (l0.length:Int):=oD;obtain ⟨ad398,e398,hx398_0⟩:=Kd.at_int HR0.out x5_1 p398 q398;cases e398;replace p398:=eq_true p398;replace q398:=eq_true q398;go_wp2
    go_roundg k1
    case measure => have:=HK1.out;omega
    case rel => exact ⟨(wrap64 (x5_1 + 1)),tV1,H',⟨by have:=HK1.out;omega⟩,by repeat (first | exact Drawn0.refl _ | apply Drawn0.step)⟩
end Go.Proofs.YtfbhdjflkaldgaaGreatDoor.Pr

namespace Go.Proofs.YtfbhdjflkaldgaaGreatDoor.Pr
open Go.Proofs.YtfbhdjflkaldgaaGreatDoor.Ct Go.RowKit Go.Maps Go.Lib Go.Proofs.YtfbhdjflkaldgaaGreatDoorW.PrintWords Go.Proofs.YtfbhdjflkaldgaaGreatDoorW.PrintLast Go.Proofs.YtfbhdjflkaldgaaGreatDoorW.PrintMore
set_option linter.unusedVariables false
theorem Z79 {ops:Array Oper} {rest:List Oper} {o:Oper} {a:Act} {Q:Exit → Act → World → Prop} {w0 W:World} (base:Nat) (hgd:o.guard = none) {N:Tmp} (_hd:o.dst = some N) (x:Operand) (ho:o.op = .convert 9 109 x) (s:ByteArray) (hx:a.eval x = .string s) (hsz:s.size ≤ 70368744177664) (HB:Below base w0 W) (hbase:base ≤ W.heap.size)
    (h:∀ v1 w1,Kd.R (Kd.int .i32) 21 w1 base (fun _ => True) v1 (Z0d s) → Below base w0 w1 → W.grownBy w1 none → (∃ b,v1.ownBlock = some b ∧ W.heap.size ≤ b) → wpList Tryz.prog ops Q rest (a.put o.dst v1) w1):wpList Tryz.prog ops Q (o :: rest) a W:=by
  have hcv:=Z5d W 9 109 21 s Tryz.underlying9 Tryz.underlying109 Tryz.underlying21 hsz;have hcap:=grownCap_ge W (Z0d s).length 0 21;have hcapM:=grownCap_le_maxLen W (Z0d s).length 0 21 (by have:=Z23 s;simp only [maxLen];omega);obtain ⟨cap,hcapE⟩:∃ cap,grownCap W (Z0d s).length 0 21 = cap:=⟨_,rfl⟩;rw [hcapE] at hcv hcap hcapM
  have hrun:(execOp a.eval o).run Tryz.prog W = .ok (.value (.slice (some ⟨W.heap.size,0,none⟩) (Z0d s).length cap)) (W.drew.alloc (.cells (((Z0d s).map (Value.int .i32)).toArray ++ Array.replicate (cap - (Z0d s).length) (.int .i32 0)) 21)):=by
    unfold execOp
    simp [ho,hx,hcv]
  have hB1:Below W.heap.size W (W.drew.alloc (.cells (((Z0d s).map (Value.int .i32)).toArray ++ Array.replicate (cap - (Z0d s).length) (.int .i32 0)) 21)):=(Below.refl _ W).drew.alloc (Nat.le_refl _) _
  have hO:(W.drew.alloc (.cells (((Z0d s).map (Value.int .i32)).toArray ++ Array.replicate (cap - (Z0d s).length) (.int .i32 0)) 21)).ownsRow base 21 1 (.slice (some ⟨W.heap.size,0,none⟩) (Z0d s).length cap) (Z0d s).length ((Z0d s).map (Value.int .i32)):=by
    refine ⟨by simp,.inr ⟨W.heap.size,cap,_,rfl,hbase,World.alloc_heap_new W.drew _,hcap,hcapM,?_,?_⟩⟩
    · simp;omega
    · simp
  exact Kd.event_run hgd hrun (h _ _ (Zio hO) (HB.trans (hB1.mono hbase)) (grown_of_below hB1 none) ⟨W.heap.size,rfl,Nat.le_refl _⟩)
theorem Zhp {ops:Array Oper} {Kc:Act → World → Prop} {o:Oper} {a:Act} {Q:Exit → Act → World → Prop} {w0 W:World} (base:Nat) (hw:Region.wanted o (yielded ops a.tmps) = true) {N:Tmp} (_hd:o.dst = some N) (x:Operand) (ho:o.op = .convert 9 109 x) (s:ByteArray) (hx:a.eval x = .string s) (hsz:s.size ≤ 70368744177664) (HB:Below base w0 W) (hbase:base ≤ W.heap.size)
    (h:∀ v1 w1,Kd.R (Kd.int .i32) 21 w1 base (fun _ => True) v1 (Z0d s) → Below base w0 w1 → W.grownBy w1 none → (∃ b,v1.ownBlock = some b ∧ W.heap.size ≤ b) → Kc (a.put o.dst v1) w1):if Region.wanted o (yielded ops a.tmps) = true then Oper.wp Tryz.prog o a W Kc Q else Kc (a.put o.dst undef) W:=by
  have hcv:=Z5d W 9 109 21 s Tryz.underlying9 Tryz.underlying109 Tryz.underlying21 hsz;have hcap:=grownCap_ge W (Z0d s).length 0 21;have hcapM:=grownCap_le_maxLen W (Z0d s).length 0 21 (by have:=Z23 s;simp only [maxLen];omega);obtain ⟨cap,hcapE⟩:∃ cap,grownCap W (Z0d s).length 0 21 = cap:=⟨_,rfl⟩;rw [hcapE] at hcv hcap hcapM
  have hrun:(execOp a.eval o).run Tryz.prog W = .ok (.value (.slice (some ⟨W.heap.size,0,none⟩) (Z0d s).length cap)) (W.drew.alloc (.cells (((Z0d s).map (Value.int .i32)).toArray ++ Array.replicate (cap - (Z0d s).length) (.int .i32 0)) 21)):=by
    unfold execOp
    simp [ho,hx,hcv]
  have hB1:Below W.heap.size W (W.drew.alloc (.cells (((Z0d s).map (Value.int .i32)).toArray ++ Array.replicate (cap - (Z0d s).length) (.int .i32 0)) 21)):=(Below.refl _ W).drew.alloc (Nat.le_refl _) _
  have hO:(W.drew.alloc (.cells (((Z0d s).map (Value.int .i32)).toArray ++ Array.replicate (cap - (Z0d s).length) (.int .i32 0)) 21)).ownsRow base 21 1 (.slice (some ⟨W.heap.size,0,none⟩) (Z0d s).length cap) (Z0d s).length ((Z0d s).map (Value.int .i32)):=by
    refine ⟨by simp,.inr ⟨W.heap.size,cap,_,rfl,hbase,World.alloc_heap_new W.drew _,hcap,hcapM,?_,?_⟩⟩
    · simp;omega
    · simp
  exact event_step hw hrun (h _ _ (Zio hO) (HB.trans (hB1.mono hbase)) (grown_of_below hB1 none) ⟨W.heap.size,rfl,Nat.le_refl _⟩)
end Go.Proofs.YtfbhdjflkaldgaaGreatDoor.Pr

namespace Go.Proofs.YtfbhdjflkaldgaaGreatDoor.Pr
open Go.Proofs.YtfbhdjflkaldgaaGreatDoor.Ct Go.RowKit Go.Proofs.YtfbhdjflkaldgaaGreatDoorW.PrintWords Go.Proofs.YtfbhdjflkaldgaaGreatDoorW.PrintLast Go.Proofs.YtfbhdjflkaldgaaGreatDoorW.PrintMore
attribute [local go_sem] max2_int min2_int max_two min_two max_three min_three max_four min_four
set_option linter.unusedVariables false
set_option linter.unusedSimpArgs false
def Z1c.f (k:Nat) (l0:List (S68)) (a1_0:Int) (a1_1:ByteArray) (a1_2:Bool) (a1_3:Bool) (a2:Int):Option (Bool):=(Z0h.f k l0 a2).bind fun t400 => (if t400 < 0 then (some false) else (if 0 ≤ t400 then (if t400 < (l0.length:Int) then (if (Go.bits .and .u32 ((Z0v l0 t400).f1) a1_0) = a1_0 then (if a1_1.toList = ([]:List UInt8) then (some (true != a1_2)) else (if a1_1.size ≤ 70368744177664 then ((Z1d.f k (Z0d a1_1) a2).bind fun t405 => (some (t405 != a1_2))) else (none))) else (some (false != a1_2))) else (none)) else (none)))
def Z1c.T4:Bool × List (List Nat × List Nat):=(true,[([],[]),([],[]),([0,1],[0,1]),([2],[2]),([3],[3]),([],[]),([5],[5]),([4,6],[4,6]),([],[]),([8],[8]),([7,9],[7,9]),([10],[10]),([11],[11]),([12,11],[11,12]),([13,11],[11,13]),([14,11,11],[11,14]),([15],[15]),([16,15],[15,16]),([17,15],[15,17]),([15],[15]),([18,19,15,15],[15,18,19]),([15,20,11],[11,15,20]),([11,21],[11,21]),([22,20,0,1,2,3,4,5,6,7,8,9,10,11,12,13,14,15,16,17,18,19,20,21,22],[22])])
def Z1c.B4:List Nat:=[0,0,3,7,15,0,32,127,0,256,1023,2047,4095,8191,16383,32767,65535,131071,262143,65535,1048575,2097151,4194303,8388607]
theorem Z1c.tab4:rtab .any (opsOf Tryz.f113 4) = Z1c.T4:=by kernel_rfl
theorem Z1c.bits4:waitsOk Z1c.T4.2 Z1c.B4 = true:=by kernel_rfl
theorem Za5 {p:Prop} (h:p:=by
  refine pT 22 36 ?_
  refine pT 23 8 ?_
  refine done_ (done_of HT_.out (by kernel_rfl)) ?_
  obtain ⟨z1_,z2_,z3_,z4_,z5_,z6_,z7_,z8_⟩:=bx4 BK399
  try go_wp2
  go_ret
  exact ⟨tE,by repeat (first | (with_reducible first | exact HB.out | apply below_alloc | apply pw_below_drewN | apply below_drew1 | refine below_set ?_ GE399.out) | exact HB.out)⟩):p:=h
set_option maxRecDepth 1000000 in
theorem Z8f {p:Prop} (h:p:=by
  have n0_:=am (blk_drew BK399.out);have n1_:=am (below_drew1 HB.out);revert n0_ n1_;clear BK399 HB;intro BK399 HB;have p401:0 ≤ (t400:Int):=oD;have q401:t400 < (l0.length:Int):=oD;obtain ⟨ad401,e401,hx401_0,hx401_1⟩:=Z3s HR0.out t400 p401 q401;have hw401_1:=hx401_1;have hw401_0:=hx401_0;cases e401;replace hx401_0:=celB HB hx401_0;replace hx401_1:=celB HB hx401_1;replace p401:=eq_true p401;replace q401:=eq_true q401
  refine start_ (n:=24) (S:=fun w' => w'.cell? ⟨gb399,0,none⟩ = some (.int .u32 a1_0) ∧ w'.cell? ⟨gb399,1,none⟩ = some (.string a1_1) ∧ w'.cell? ⟨gb399,2,none⟩ = some (.bool a1_2) ∧ w'.cell? ⟨gb399,3,none⟩ = some (.bool a1_3) ∧ w'.cell? (ad401.add ((t400).toNat * 2)) = some (.int .i32 ((Z0v l0 t400).f0)) ∧ w'.cell? ⟨(ad401.add ((t400).toNat * 2)).block,(ad401.add ((t400).toNat * 2)).off + 1,none⟩ = some (.int .u32 ((Z0v l0 t400).f1))) (ds:=[]) #[false,false,false,false,false,false,false,false,false,false,false,false,false,false,false,false,false,false,false,false,false,false,false,false] (by kernel_rfl) rfl rfl ⟨(blk_cell BK399.out 0).trans rfl,(blk_cell BK399.out 1).trans rfl,(blk_cell BK399.out 2).trans rfl,(blk_cell BK399.out 3).trans rfl,((HB.out.cell (World.block_lt_of_cell? w _ hw401_0)).trans hw401_0),((HB.out.cell (World.block_lt_of_cell? w _ hw401_1)).trans hw401_1)⟩ (fun hHeld => ?_);refine with_tabW Z1c.tab4 Z1c.bits4 (fun HT_ HW_ => ?_)
  first
  | (have mk_:=mk0_
     generalize w16.drew = w17 at BK399 HB hx401_0 hx401_1 hHeld ⊢
     refine pT 0 14 ?_
     refine pT 1 15 ?_
     refine pT 2 16 ?_
     refine pT 3 17 ?_
     refine pT 5 19 ?_
     refine pT 8 22 ?_
     refine tTt 4 18 hHeld ?_
     refine tTt 6 20 hHeld ?_
     refine pT 7 21 ?_
     refine tTt 9 23 hHeld ?_
     refine pT 10 24 ?_
     refine pT 11 25 ?_
     refine pT 12 26 ?_
     refine tTt 13 27 hHeld ?_
     refine pT 14 28 ?_
     refine pT 15 29 ?_
     refine pT 16 30 ?_
     refine pT 19 33 ?_
     refine tTt 17 31 hHeld ?_
     refine one_ (i:=18) (N:=some 32) #[true,true,true,true,true,true,true,true,true,true,true,true,true,true,true,true,true,true,true,true,false,false,false,false] rfl rfl (one_of HT_.out (by kernel_rfl)) (by decide) (fun K hK => ?_)
     refine Zhp _ (by rfl) (N:=32) rfl _ rfl a1_1 rfl (oD) (Below.refl _ _) (Nat.le_refl _) ?_
     intro v403 w18 ho19 hb hg_ hnew_;clear hg_ hnew_
     (first | rw [← Ny402.out] at ho19 | (simp only [Int.reduceToNat] at ho19;rw [← Ny402.out] at ho19))
     have n0_:=am (Kd.R_lower ho19 (tS HB));have n1_:=am (blk_below (tK BK399) hb);have n2_:=am (below_step (tB HB) hb);revert n0_ n1_ n2_;clear BK399 HB;intro HO404 BK399 HB;clear hb ho19;obtain ⟨Ao20,co20,eo20⟩:=Kd.R_slice HO404.out
     (first | subst eo20 | (injection eo20 with f1_ f2_ f3_;have f4_:=f1_.symm;have f5_:=f3_.symm;clear f1_ f2_ f3_;subst f4_;subst f5_))
     refine hK.out _ _ ⟨(blk_cell BK399.out 0).trans rfl,(blk_cell BK399.out 1).trans rfl,(blk_cell BK399.out 2).trans rfl,(blk_cell BK399.out 3).trans rfl,((HB.out.cell (World.block_lt_of_cell? w _ hw401_0)).trans hw401_0),((HB.out.cell (World.block_lt_of_cell? w _ hw401_1)).trans hw401_1)⟩ (fun hHeld => ?_)
     clear hK K
     refine nR 32 ?_
     refine one_ (i:=20) (N:=some 34) #[true,true,true,true,true,true,true,true,true,true,true,true,true,true,true,true,true,true,true,true,true,false,false,false] rfl rfl (one_of HT_.out (by kernel_rfl)) (by decide) (fun K hK => ?_)
     refine goes_ Tryz.func116 (by kernel_rfl) rfl #[.slice Ao20 y402.length co20,.int .i32 a2] (by rfl) rfl rfl Gc2 ?_
     with_reducible refine (Z1d.calls k _ _ y402 a2 t405 _ ?s1 ?s2 A15.out).mono ?_
     (case s1 => repeat (first | exact (Kd.R_reads' HO404.out).2.2 | (with_reducible refine Kd.C_alloc ?_ _) | (with_reducible refine Kd.C_drewN ?_ _) | (with_reducible refine Kd.C_drew ?_)));(case s2 => exact (Kd.R_reads' HO404.out).2.1);rintro e w' ⟨rfl,⟨nd,rfl⟩⟩
     refine ⟨_,rfl,?_⟩
     refine hK.out _ _ ⟨(blk_cell BK399.out 0).trans rfl,(blk_cell BK399.out 1).trans rfl,(blk_cell BK399.out 2).trans rfl,(blk_cell BK399.out 3).trans rfl,((HB.out.cell (World.block_lt_of_cell? w _ hw401_0)).trans hw401_0),((HB.out.cell (World.block_lt_of_cell? w _ hw401_1)).trans hw401_1)⟩ (fun hHeld => ?_)
     clear hK K
     refine nR 34 ?_
     refine pT 21 35 ?_
     exact Za5)
  | (have mk_:=mk1_
     generalize w11.drew = w12 at BK399 HB hx401_0 hx401_1 hHeld ⊢
     refine pT 0 14 ?_
     refine pT 1 15 ?_
     refine pT 2 16 ?_
     refine pT 3 17 ?_
     refine pT 5 19 ?_
     refine pT 8 22 ?_
     refine tTt 4 18 hHeld ?_
     refine tTt 6 20 hHeld ?_
     refine pT 7 21 ?_
     refine tTt 9 23 hHeld ?_
     refine pT 10 24 ?_
     refine pT 11 25 ?_
     refine pT 12 26 ?_
     refine tTt 13 27 hHeld ?_
     refine pT 14 28 ?_
     refine pT 15 29 ?_
     refine uT 16 30 ?_
     refine uT 17 31 ?_
     refine uT 18 32 ?_
     refine uT 19 33 ?_
     refine uT 20 34 ?_
     refine pT 21 35 ?_
     exact Za5)
  | (have mk_:=mk2_
     generalize w22.drew = w23 at BK399 HB hx401_0 hx401_1 hHeld ⊢
     refine pT 0 14 ?_
     refine pT 1 15 ?_
     refine pT 2 16 ?_
     refine pT 3 17 ?_
     refine pT 5 19 ?_
     refine pT 8 22 ?_
     refine tTt 4 18 hHeld ?_
     refine tTt 6 20 hHeld ?_
     refine pT 7 21 ?_
     refine tTt 9 23 hHeld ?_
     refine pT 10 24 ?_
     refine pT 11 25 ?_
     refine uT 12 26 ?_
     refine uT 13 27 ?_
     refine uT 14 28 ?_
     refine uT 15 29 ?_
     refine uT 16 30 ?_
     refine uT 17 31 ?_
     refine uT 18 32 ?_
     refine uT 19 33 ?_
     refine uT 20 34 ?_
     refine uT 21 35 ?_
     exact Za5)):p:=h
set_option maxHeartbeats 8000000 in
set_option maxRecDepth 100000 in
theorem Z1c.calls (k:Nat) (A0:Option Addr) (c0:Nat) (l0:List (S68)) (a1_0:Int) (a1_1:ByteArray) (a1_2:Bool) (a1_3:Bool) (a2:Int) (r:Bool) (w:World) (hr0:Kd.C k68 w A0 l0.length l0) (hc0:l0.length ≤ c0) (h:Z1c.f k l0 a1_0 a1_1 a1_2 a1_3 a2 = some r) :
 Calls Tryz.prog 113 #[.slice A0 l0.length c0,.agg #[.int .u32 a1_0,.string a1_1,.bool a1_2,.bool a1_3],.int .i32 a2] w fun e w' => e = .returned (.bool r) ∧ Below w.heap.size w w':=by
 have hu70:=Tryz.underlying70;have HR0:=am hr0;have HC0:=am hc0;clear hr0 hc0;have HB:=am (Below.refl w.heap.size w);have H:((Z0h.f k l0 a2).bind fun t400 => (if t400 < 0 then (some false) else (if 0 ≤ t400 then (if t400 < (l0.length:Int) then (if (Go.bits .and .u32 ((Z0v l0 t400).f1) a1_0) = a1_0 then (if a1_1.toList = ([]:List UInt8) then (some (true != a1_2)) else (if a1_1.size ≤ 70368744177664 then ((Z1d.f k (Z0d a1_1) a2).bind fun t405 => (some (t405 != a1_2))) else (none))) else (some (false != a1_2))) else (none)) else (none)))) = some r:=h;clear h;replace H:=bI H;obtain ⟨t400,A4,H⟩:=H;(try dsimp only at H)
 replace H:=iF H;obtain ⟨c5,H⟩ | ⟨c5,H⟩:=H
 ·
  have c5b0:decide (t400 < 0) = true:=decide_eq_true c5;clear c5;obtain rfl:=Option.some.inj H;go_enter Tryz.func113,Tryz.ntmps113
  go_wp2_with (first | ((with_reducible refine gate_dst (N:=4) rfl ?_);(try (refine gate_guard (by rfl) ?_;dsimp only));refine box_event ?hg (N:=4) ?hd (cs:=#[.int .u32 a1_0,.string a1_1,.bool a1_2,.bool a1_3]) (t:=70) ?hr ?_;(case hd => rfl);(case hg => rfl);(case hr => exact Gc5);intro gb399 hg w6 hbox hb;have n0_:=am (below_step (tB HB) hb);have n1_:=am (hbox);have n2_:=tZ hg (tS HB);have n3_:=tZ hg (tS HB);revert n0_ n1_ n2_ n3_;clear HB;intro HB BK399 GW399 GE399;clear hb hbox hg) | ((with_reducible refine gate_callee (f:=59) rfl ?_);refine goesL_ (some 11) rfl rfl Tryz.func59 (by kernel_rfl) rfl #[.slice A0 l0.length c0,.int .i32 a2] rfl Gc2 ?_;(with_reducible refine (Z0h.calls k _ _ l0 a2 t400 _ (tC HR0 HB) HC0.out A4.out).mono ?_);rintro e w' ⟨rfl,⟨nd,rfl⟩⟩;refine ⟨_,rfl,?_⟩))
  go_ret;exact ⟨tE,by repeat (first | (with_reducible first | exact HB.out | apply below_alloc | apply pw_below_drewN | apply below_drew1 | refine below_set ?_ GE399.out) | exact HB.out)⟩
 ·
  have c5b0:decide (t400 < 0) = false:=decide_eq_false c5;clear c5;replace H:=iFn H;obtain ⟨c7,H⟩:=H;have c7b0:decide (0 ≤ t400) = true:=decide_eq_true c7;clear c7;replace H:=iFn H;obtain ⟨c8,H⟩:=H;have c8b0:decide (t400 < (l0.length:Int)) = true:=decide_eq_true c8;clear c8
  replace H:=iE H;obtain ⟨-,c9b0,c9b1,H⟩ | ⟨c9,c9b0,c9b1,H⟩:=H
  ·
   replace H:=iE H;obtain ⟨-,c10b0,c10b1,H⟩ | ⟨c10,c10b0,c10b1,H⟩:=H
   ·
    obtain rfl:=Option.some.inj H;go_enter Tryz.func113,Tryz.ntmps113
    try go_wp2_with (first | ((with_reducible refine gate_dst (N:=4) rfl ?_);(try (refine gate_guard (by rfl) ?_;dsimp only));refine box_event ?hg (N:=4) ?hd (cs:=#[.int .u32 a1_0,.string a1_1,.bool a1_2,.bool a1_3]) (t:=70) ?hr ?_;(case hd => rfl);(case hg => rfl);(case hr => exact Gc5);intro gb399 hg w11 hbox hb;have n0_:=am (below_step (tB HB) hb);have n1_:=am (hbox);have n2_:=tZ hg (tS HB);have n3_:=tZ hg (tS HB);revert n0_ n1_ n2_ n3_;clear HB;intro HB BK399 GW399 GE399;clear hb hbox hg) | ((with_reducible refine gate_callee (f:=59) rfl ?_);refine goesL_ (some 11) rfl rfl Tryz.func59 (by kernel_rfl) rfl #[.slice A0 l0.length c0,.int .i32 a2] rfl Gc2 ?_;(with_reducible refine (Z0h.calls k _ _ l0 a2 t400 _ (tC HR0 HB) HC0.out A4.out).mono ?_);rintro e w' ⟨rfl,⟨nd,rfl⟩⟩;refine ⟨_,rfl,?_⟩))
    (try (rw [drewN_self w11];generalize hq_:World.drewN w11 _ = w11;have n0_:Aside0 (w11.heap[gb399]? = some (.cells #[.int .u32 a1_0,.string a1_1,.bool a1_2,.bool a1_3] 70 (0,0))):=⟨by rw [← hq_];exact (tK BK399)⟩;have n1_:Aside0 (Below w.heap.size w w11):=⟨by rw [← hq_];exact (tB HB)⟩;clear BK399 HB hq_;have BK399:=n0_;have HB:=n1_;clear n0_ n1_));have mk1_:=trivial;exact Z8f
   ·
    replace H:=iFn H;obtain ⟨c14,H⟩:=H;have c14b0:=eq_true c14;have c14b1:decide (a1_1.size ≤ 70368744177664) = true:=decide_eq_true c14;clear c14;obtain ⟨y402,hy402⟩:∃ y_:List Int,y_ = (Z0d a1_1):=⟨_,rfl⟩
    replace H:((Z1d.f k y402 a2).bind fun t405 => (some (t405 != a1_2))) = some r:=by first | (rw [hy402];with_reducible exact H) | (have H2_:=(Option.bind_some _ _).symm.trans H;rw [hy402];with_reducible exact H2_) | (have H2_:=(Option.bind_some _ _).symm.trans H;with_reducible exact H2_) | with_reducible exact H | (rw [hy402];exact H) | exact H
    have Ny402:=am hy402;clear hy402;replace H:=bI H;obtain ⟨t405,A15,H⟩:=H;(try dsimp only at H);obtain rfl:=Option.some.inj H;go_enter Tryz.func113,Tryz.ntmps113
    try go_wp2_with (first | ((with_reducible refine gate_dst (N:=4) rfl ?_);(try (refine gate_guard (by rfl) ?_;dsimp only));refine box_event ?hg (N:=4) ?hd (cs:=#[.int .u32 a1_0,.string a1_1,.bool a1_2,.bool a1_3]) (t:=70) ?hr ?_;(case hd => rfl);(case hg => rfl);(case hr => exact Gc5);intro gb399 hg w16 hbox hb;have n0_:=am (below_step (tB HB) hb);have n1_:=am (hbox);have n2_:=tZ hg (tS HB);have n3_:=tZ hg (tS HB);revert n0_ n1_ n2_ n3_;clear HB;intro HB BK399 GW399 GE399;clear hb hbox hg) | ((with_reducible refine gate_callee (f:=59) rfl ?_);refine goesL_ (some 11) rfl rfl Tryz.func59 (by kernel_rfl) rfl #[.slice A0 l0.length c0,.int .i32 a2] rfl Gc2 ?_;(with_reducible refine (Z0h.calls k _ _ l0 a2 t400 _ (tC HR0 HB) HC0.out A4.out).mono ?_);rintro e w' ⟨rfl,⟨nd,rfl⟩⟩;refine ⟨_,rfl,?_⟩))
    (try (rw [drewN_self w16];generalize hq_:World.drewN w16 _ = w16;have n0_:Aside0 (w16.heap[gb399]? = some (.cells #[.int .u32 a1_0,.string a1_1,.bool a1_2,.bool a1_3] 70 (0,0))):=⟨by rw [← hq_];exact (tK BK399)⟩;have n1_:Aside0 (Below w.heap.size w w16):=⟨by rw [← hq_];exact (tB HB)⟩;clear BK399 HB hq_;have BK399:=n0_;have HB:=n1_;clear n0_ n1_));have mk0_:=trivial;exact Z8f
  ·
   obtain rfl:=Option.some.inj H;go_enter Tryz.func113,Tryz.ntmps113
   try go_wp2_with (first | ((with_reducible refine gate_dst (N:=4) rfl ?_);(try (refine gate_guard (by rfl) ?_;dsimp only));refine box_event ?hg (N:=4) ?hd (cs:=#[.int .u32 a1_0,.string a1_1,.bool a1_2,.bool a1_3]) (t:=70) ?hr ?_;(case hd => rfl);(case hg => rfl);(case hr => exact Gc5);intro gb399 hg w22 hbox hb;have n0_:=am (below_step (tB HB) hb);have n1_:=am (hbox);have n2_:=tZ hg (tS HB);have n3_:=tZ hg (tS HB);revert n0_ n1_ n2_ n3_;clear HB;intro HB BK399 GW399 GE399;clear hb hbox hg) | ((with_reducible refine gate_callee (f:=59) rfl ?_);refine goesL_ (some 11) rfl rfl Tryz.func59 (by kernel_rfl) rfl #[.slice A0 l0.length c0,.int .i32 a2] rfl Gc2 ?_;(with_reducible refine (Z0h.calls k _ _ l0 a2 t400 _ (tC HR0 HB) HC0.out A4.out).mono ?_);rintro e w' ⟨rfl,⟨nd,rfl⟩⟩;refine ⟨_,rfl,?_⟩))
   (try (rw [drewN_self w22];generalize hq_:World.drewN w22 _ = w22;have n0_:Aside0 (w22.heap[gb399]? = some (.cells #[.int .u32 a1_0,.string a1_1,.bool a1_2,.bool a1_3] 70 (0,0))):=⟨by rw [← hq_];exact (tK BK399)⟩;have n1_:Aside0 (Below w.heap.size w w22):=⟨by rw [← hq_];exact (tB HB)⟩;clear BK399 HB hq_;have BK399:=n0_;have HB:=n1_;clear n0_ n1_));have mk2_:=trivial;exact Z8f
end Go.Proofs.YtfbhdjflkaldgaaGreatDoor.Pr
