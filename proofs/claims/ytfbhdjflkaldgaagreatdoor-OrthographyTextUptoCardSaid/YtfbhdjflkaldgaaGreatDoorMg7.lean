/- Several texts in one: PrF100, PrF106, PrF101, PrF69, RewW, PrF66, PrF68. -/
import Derived.Test.YtfbhdjflkaldgaaGreatDoorMg1
import Derived.Test.YtfbhdjflkaldgaaGreatDoorMg2
import Derived.Test.YtfbhdjflkaldgaaGreatDoorMg5
import Derived.Test.YtfbhdjflkaldgaaGreatDoorMg6
import Derived.Test.YtfbhdjflkaldgaaGreatDoorMg3
import Derived.Test.YtfbhdjflkaldgaaGreatDoorMg4
/- rewrite: has, consists, isWord. -/
namespace Go.Proofs.YtfbhdjflkaldgaaGreatDoor.Pr
open Go.Proofs.YtfbhdjflkaldgaaGreatDoor.Ct Go.RowKit Go.Proofs.YtfbhdjflkaldgaaGreatDoorW.PrintWords Go.Proofs.YtfbhdjflkaldgaaGreatDoorW.PrintLast Go.Proofs.YtfbhdjflkaldgaaGreatDoorW.PrintMore
attribute [local go_sem] max2_int min2_int max_two min_two max_three min_three max_four min_four
set_option linter.unusedVariables false
set_option linter.unusedSimpArgs false
def Z38.f (k:Nat) (l0:List (S68)) (a1_0:Int) (a1_1:ByteArray) (l1_2:List (S70)) (l1_3:List (S70)) (a1_4:Bool) (a1_5:Bool) (a2:ByteArray):Option (Bool):=if a1_4 = true then ((Z2g.f l0 l1_2 a2).bind fun t172 => (some t172)) else ((Z2m.f k l0 l1_2 a2).bind fun t173 => (some (decide ((t173.length:Int) > 0))))
theorem Zcf {p:Prop} (h:p:=by
  go_ret
  exact ⟨tE,by repeat (first | (with_reducible first | exact HB.out | apply below_alloc | apply pw_below_drewN | apply below_drew1 | refine below_set ?_ GE171.out) | exact HB.out)⟩):p:=h
set_option maxHeartbeats 8000000 in
set_option maxRecDepth 100000 in
theorem Z38.calls (k:Nat) (A0:Option Addr) (c0:Nat) (l0:List (S68)) (a1_0:Int) (a1_1:ByteArray) (A1_2:Option Addr) (c1_2:Nat) (l1_2:List (S70)) (A1_3:Option Addr) (c1_3:Nat) (l1_3:List (S70)) (a1_4:Bool) (a1_5:Bool) (a2:ByteArray) (r:Bool) (w:World) (hT:Tabs w) (hr0:Kd.C k68 w A0 l0.length l0) (hc0:l0.length ≤ c0) (hr1_2:Kd.C k70 w A1_2 l1_2.length l1_2) (hc1_2:l1_2.length ≤ c1_2) (hr1_3:Kd.C k70 w A1_3 l1_3.length l1_3) (hc1_3:l1_3.length ≤ c1_3) (h:Z38.f k l0 a1_0 a1_1 l1_2 l1_3 a1_4 a1_5 a2 = some r) :
 Calls Tryz.prog 100 #[.slice A0 l0.length c0,.agg #[.int .i32 a1_0,.string a1_1,.slice A1_2 l1_2.length c1_2,.slice A1_3 l1_3.length c1_3,.bool a1_4,.bool a1_5],.string a2] w fun e w' => e = .returned (.bool r) ∧ Below w.heap.size w w':=by
 have HT:=am hT;clear hT;have hu73:=Tryz.underlying73;have HR0:=am hr0;have HC0:=am hc0;clear hr0 hc0;have HR1_2:=am hr1_2;have HC1_2:=am hc1_2;clear hr1_2 hc1_2;have HR1_3:=am hr1_3;have HC1_3:=am hc1_3;clear hr1_3 hc1_3;have HB:=am (Below.refl w.heap.size w);have H:(if a1_4 = true then ((Z2g.f l0 l1_2 a2).bind fun t172 => (some t172)) else ((Z2m.f k l0 l1_2 a2).bind fun t173 => (some (decide ((t173.length:Int) > 0))))) = some r:=h;clear h
 replace H:=iT H;obtain ⟨rfl,H⟩ | ⟨rfl,H⟩:=H
 ·
  replace H:=bI H;obtain ⟨t172,A5,H⟩:=H;(try dsimp only at H);obtain rfl:=Option.some.inj H;go_enter Tryz.func100,Tryz.ntmps100
  go_wp2_with (first | ((with_reducible refine gate_dst (N:=4) rfl ?_);refine box_event ?hg (N:=4) ?hd (cs:=#[.int .i32 a1_0,.string a1_1,.slice A1_2 l1_2.length c1_2,.slice A1_3 l1_3.length c1_3,.bool true,.bool a1_5]) (t:=73) ?hr ?_;(case hd => rfl);(case hg => rfl);(case hr => exact Gc5);intro gb171 hg w6 hbox hb;have n0_:=am (below_step (tB HB) hb);have n1_:=am (hbox);have n2_:=tZ hg (tS HB);have n3_:=tZ hg (tS HB);revert n0_ n1_ n2_ n3_;clear HB;intro HB BK171 GW171 GE171;clear hb hbox hg;have hcz7_0:=cel2 BK171 0 rfl;have hcz7_1:=cel2 BK171 1 rfl;have hcz7_2:=cel2 BK171 2 rfl;have hcz7_3:=cel2 BK171 3 rfl;have hcz7_4:=cel2 BK171 4 rfl;have hcz7_5:=cel2 BK171 5 rfl;have hfz7_0:=blk_frozen BK171.out 0;have hfz7_1:=blk_frozen BK171.out 1;have hfz7_2:=blk_frozen BK171.out 2;have hfz7_3:=blk_frozen BK171.out 3;have hfz7_4:=blk_frozen BK171.out 4;have hfz7_5:=blk_frozen BK171.out 5) | ((with_reducible refine gate_callee (f:=104) rfl ?_);refine goesL_ (some 13) rfl rfl Tryz.func104 (by kernel_rfl) rfl #[.slice A0 l0.length c0,.slice A1_2 l1_2.length c1_2,.string a2] rfl Gc2 ?_;(with_reducible refine (Z2g.calls _ _ l0 _ _ l1_2 a2 t172 _ ?sT (tC HR0 HB) HC0.out (tC HR1_2 HB) HC1_2.out A5.out).mono ?_);(case sT => exact Gc1);rintro e w8 ⟨rfl,hb⟩;refine ⟨_,rfl,?_⟩;have n0_:=am (blk_below (tK BK171) hb);have n1_:=am (below_step (tB HB) hb);revert n0_ n1_;clear BK171 HB;intro BK171 HB;(try clear hb);(try clear hb2);(try clear hk);(try clear hi)))
  exact Zcf
 ·
  replace H:=bI H;obtain ⟨t173,A9,H⟩:=H;(try dsimp only at H);obtain rfl:=Option.some.inj H;go_enter Tryz.func100,Tryz.ntmps100
  go_wp2_with (first | ((with_reducible refine gate_dst (N:=4) rfl ?_);refine box_event ?hg (N:=4) ?hd (cs:=#[.int .i32 a1_0,.string a1_1,.slice A1_2 l1_2.length c1_2,.slice A1_3 l1_3.length c1_3,.bool false,.bool a1_5]) (t:=73) ?hr ?_;(case hd => rfl);(case hg => rfl);(case hr => exact Gc5);intro gb171 hg w10 hbox hb;have n0_:=am (below_step (tB HB) hb);have n1_:=am (hbox);have n2_:=tZ hg (tS HB);have n3_:=tZ hg (tS HB);revert n0_ n1_ n2_ n3_;clear HB;intro HB BK171 GW171 GE171;clear hb hbox hg;have hcz11_0:=cel2 BK171 0 rfl;have hcz11_1:=cel2 BK171 1 rfl;have hcz11_2:=cel2 BK171 2 rfl;have hcz11_3:=cel2 BK171 3 rfl;have hcz11_4:=cel2 BK171 4 rfl;have hcz11_5:=cel2 BK171 5 rfl;have hfz11_0:=blk_frozen BK171.out 0;have hfz11_1:=blk_frozen BK171.out 1;have hfz11_2:=blk_frozen BK171.out 2;have hfz11_3:=blk_frozen BK171.out 3;have hfz11_4:=blk_frozen BK171.out 4;have hfz11_5:=blk_frozen BK171.out 5) | ((with_reducible refine gate_callee (f:=105) rfl ?_);refine goesL_ (some 18) rfl rfl Tryz.func105 (by kernel_rfl) rfl #[.slice A0 l0.length c0,.slice A1_2 l1_2.length c1_2,.string a2] rfl Gc2 ?_;(with_reducible refine (Z2m.calls k _ _ l0 _ _ l1_2 a2 t173 _ ?sT (tC HR0 HB) HC0.out (tC HR1_2 HB) HC1_2.out A9.out).mono ?_);(case sT => exact Gc1);rintro e w12 ⟨v174,rfl,ho0,hb⟩;refine ⟨_,rfl,?_⟩;have n0_:=am (Kd.R_lower ho0 (tS HB));have n1_:=am (blk_below (tK BK171) hb);have n2_:=am (below_step (tB HB) hb);revert n0_ n1_ n2_;clear BK171 HB;intro HO175 BK171 HB;(try clear hb);(try clear hb2);(try clear hk);(try clear hi);(try clear ho0);obtain ⟨Ao13,co13,eo13⟩:=Kd.R_slice HO175.out;subst eo13))
  exact Zcf
def Z31.f (l0:List (S68)) (l1:List (S70)) (a2:ByteArray):Option (List Int):=(Z24.f l0 l1 a2).bind fun bt176 => (if bt176.2 = true then ((Z1o.f l0 l1 bt176.1).bind fun t180 => (some t180)) else (some ([]:List Int)))
set_option maxHeartbeats 8000000 in
set_option maxRecDepth 100000 in
theorem Z31.calls (A0:Option Addr) (c0:Nat) (l0:List (S68)) (A1:Option Addr) (c1:Nat) (l1:List (S70)) (a2:ByteArray) (r:List Int) (w:World) (hT:Tabs w) (hr0:Kd.C k68 w A0 l0.length l0) (hc0:l0.length ≤ c0) (hr1:Kd.C k70 w A1 l1.length l1) (hc1:l1.length ≤ c1) (h:Z31.f l0 l1 a2 = some r) :
 Calls Tryz.prog 106 #[.slice A0 l0.length c0,.slice A1 l1.length c1,.string a2] w fun e w' => ∃ v0_:Value,e = .returned (v0_) ∧ Kd.R (Kd.int .i64) 3 w' w.heap.size (fun _ => True) v0_ r ∧ Below w.heap.size w w':=by
 have HT:=am hT;clear hT;have HR0:=am hr0;have HC0:=am hc0;clear hr0 hc0;have HR1:=am hr1;have HC1:=am hc1;clear hr1 hc1;have HB:=am (Below.refl w.heap.size w);have H:((Z24.f l0 l1 a2).bind fun bt176 => (if bt176.2 = true then ((Z1o.f l0 l1 bt176.1).bind fun t180 => (some t180)) else (some ([]:List Int)))) = some r:=h;clear h;replace H:=bI H;obtain ⟨⟨t176,t177⟩,A4,H⟩:=H;(try dsimp only at H)
 replace H:=iT H;obtain ⟨rfl,H⟩ | ⟨rfl,H⟩:=H
 ·
  replace H:=bI H;obtain ⟨t180,A6,H⟩:=H;(try dsimp only at H);obtain rfl:=Option.some.inj H;go_enter Tryz.func106,Tryz.ntmps106
  go_wp2_with (first | ((with_reducible refine gate_callee (f:=108) rfl ?_);refine goesL_ (some 13) rfl rfl Tryz.func108 (by kernel_rfl) rfl #[.slice A0 l0.length c0,.slice A1 l1.length c1,.string a2] rfl Gc2 ?_;(with_reducible refine (Z24.calls _ _ l0 _ _ l1 a2 t176 true _ ?sT ?s1 HC0.out ?s3 HC1.out A4.out).mono ?_);(case sT => exact Gc1);(case s1 => exact Gc3);(case s3 => exact Gc8);rintro e w7 ⟨v178,rfl,ho0,hb⟩;refine ⟨_,rfl,?_⟩;have n0_:=am (Kd.R_lower ho0 (tS HB));have n1_:=am (below_step (tB HB) hb);revert n0_ n1_;clear HB;intro HO179 HB;(try clear hb);(try clear hb2);(try clear hk);(try clear hi);(try clear ho0);obtain ⟨Ao8,co8,eo8⟩:=Kd.R_slice HO179.out;subst eo8) | ((with_reducible refine gate_callee (f:=109) rfl ?_);refine goesL_ (some 21) rfl rfl Tryz.func109 (by kernel_rfl) rfl #[.slice A0 l0.length c0,.slice A1 l1.length c1,.slice Ao8 t176.length co8] rfl Gc2 ?_;(with_reducible refine (Z1o.calls _ _ l0 _ _ l1 _ _ t176 t180 _ (tC HR0 HB) HC0.out (tC HR1 HB) HC1.out ?s5 ?s6 A6.out).mono ?_);(case s5 => repeat (first | exact (Kd.R_reads' HO179.out).2.2 | (with_reducible refine Kd.C_alloc ?_ _) | (with_reducible refine Kd.C_drewN ?_ _) | (with_reducible refine Kd.C_drew ?_)));(case s6 => exact (Kd.R_reads' HO179.out).2.1);rintro e w9 ⟨v181,rfl,ho0,hb⟩;refine ⟨_,rfl,?_⟩;have n0_:=am (Kd.R_elder' (dR HO179) (Kd.R_base ho0) hb);have n1_:=am (Kd.R_lower (Kd.R_new' ho0 (Kd.R_lt (dR HO179))) (tS HB));have n2_:=am (below_step (tB HB) hb);revert n0_ n1_ n2_;clear HO179 HB;intro HO179 HO182 HB;(try clear hb);(try clear hb2);(try clear hk);(try clear hi);(try clear ho0)))
  go_ret;exact ⟨_,tE,by (with_reducible repeat (first | apply Kd.R_alloc | apply Kd.R_drewN | apply Kd.R_drew));exact Kd.R_mono HO182.out (fun _ hk => trivial),by repeat (first | (with_reducible first | exact HB.out | apply below_alloc | apply pw_below_drewN | apply below_drew1) | exact HB.out)⟩
 ·
  obtain rfl:=Option.some.inj H;go_enter Tryz.func106,Tryz.ntmps106
  go_wp2_with (first | ((with_reducible refine gate_callee (f:=108) rfl ?_);refine goesL_ (some 13) rfl rfl Tryz.func108 (by kernel_rfl) rfl #[.slice A0 l0.length c0,.slice A1 l1.length c1,.string a2] rfl Gc2 ?_;(with_reducible refine (Z24.calls _ _ l0 _ _ l1 a2 t176 false _ ?sT ?s1 HC0.out ?s3 HC1.out A4.out).mono ?_);(case sT => exact Gc1);(case s1 => exact Gc3);(case s3 => exact Gc8);rintro e w10 ⟨v178,rfl,ho0,hb⟩;refine ⟨_,rfl,?_⟩;have n0_:=am (Kd.R_lower ho0 (tS HB));have n1_:=am (below_step (tB HB) hb);revert n0_ n1_;clear HB;intro HO179 HB;(try clear hb);(try clear hb2);(try clear hk);(try clear hi);(try clear ho0)))
  go_ret;exact ⟨_,tE,by first | exact Kd.R_nil _ _ _ _ _ | exact Kd.N_nil _ _ _ _ _ | exact Kd.V_nil _ _ _ _ _ | exact Kd.Q_nil _ _ _ _ _ | exact Kd.S_nil _ _ _ _ _,by repeat (first | (with_reducible first | exact HB.out | apply below_alloc | apply pw_below_drewN | apply below_drew1) | exact HB.out)⟩
def Z3d.f (l0:List (S68)) (a1_0:Int) (a1_1:ByteArray) (l1_2:List (S70)) (l1_3:List (S70)) (a1_4:Bool) (a1_5:Bool) (a2:ByteArray):Option (Bool):=if a1_5 = true then ((Z2g.f l0 l1_3 a2).bind fun t184 => (some t184)) else ((Z31.f l0 l1_3 a2).bind fun t185 => (some (decide ((t185.length:Int) > 0))))
theorem Zcg {p:Prop} (h:p:=by
  go_ret
  exact ⟨tE,by repeat (first | (with_reducible first | exact HB.out | apply below_alloc | apply pw_below_drewN | apply below_drew1 | refine below_set ?_ GE183.out) | exact HB.out)⟩):p:=h
set_option maxHeartbeats 8000000 in
set_option maxRecDepth 100000 in
theorem Z3d.calls (A0:Option Addr) (c0:Nat) (l0:List (S68)) (a1_0:Int) (a1_1:ByteArray) (A1_2:Option Addr) (c1_2:Nat) (l1_2:List (S70)) (A1_3:Option Addr) (c1_3:Nat) (l1_3:List (S70)) (a1_4:Bool) (a1_5:Bool) (a2:ByteArray) (r:Bool) (w:World) (hT:Tabs w) (hr0:Kd.C k68 w A0 l0.length l0) (hc0:l0.length ≤ c0) (hr1_2:Kd.C k70 w A1_2 l1_2.length l1_2) (hc1_2:l1_2.length ≤ c1_2) (hr1_3:Kd.C k70 w A1_3 l1_3.length l1_3) (hc1_3:l1_3.length ≤ c1_3) (h:Z3d.f l0 a1_0 a1_1 l1_2 l1_3 a1_4 a1_5 a2 = some r) :
 Calls Tryz.prog 101 #[.slice A0 l0.length c0,.agg #[.int .i32 a1_0,.string a1_1,.slice A1_2 l1_2.length c1_2,.slice A1_3 l1_3.length c1_3,.bool a1_4,.bool a1_5],.string a2] w fun e w' => e = .returned (.bool r) ∧ Below w.heap.size w w':=by
 have HT:=am hT;clear hT;have hu73:=Tryz.underlying73;have HR0:=am hr0;have HC0:=am hc0;clear hr0 hc0;have HR1_2:=am hr1_2;have HC1_2:=am hc1_2;clear hr1_2 hc1_2;have HR1_3:=am hr1_3;have HC1_3:=am hc1_3;clear hr1_3 hc1_3;have HB:=am (Below.refl w.heap.size w);have H:(if a1_5 = true then ((Z2g.f l0 l1_3 a2).bind fun t184 => (some t184)) else ((Z31.f l0 l1_3 a2).bind fun t185 => (some (decide ((t185.length:Int) > 0))))) = some r:=h;clear h
 replace H:=iT H;obtain ⟨rfl,H⟩ | ⟨rfl,H⟩:=H
 ·
  replace H:=bI H;obtain ⟨t184,A5,H⟩:=H;(try dsimp only at H);obtain rfl:=Option.some.inj H;go_enter Tryz.func101,Tryz.ntmps101
  go_wp2_with (first | ((with_reducible refine gate_dst (N:=4) rfl ?_);refine box_event ?hg (N:=4) ?hd (cs:=#[.int .i32 a1_0,.string a1_1,.slice A1_2 l1_2.length c1_2,.slice A1_3 l1_3.length c1_3,.bool a1_4,.bool true]) (t:=73) ?hr ?_;(case hd => rfl);(case hg => rfl);(case hr => exact Gc5);intro gb183 hg w6 hbox hb;have n0_:=am (below_step (tB HB) hb);have n1_:=am (hbox);have n2_:=tZ hg (tS HB);have n3_:=tZ hg (tS HB);revert n0_ n1_ n2_ n3_;clear HB;intro HB BK183 GW183 GE183;clear hb hbox hg;have hcz7_0:=cel2 BK183 0 rfl;have hcz7_1:=cel2 BK183 1 rfl;have hcz7_2:=cel2 BK183 2 rfl;have hcz7_3:=cel2 BK183 3 rfl;have hcz7_4:=cel2 BK183 4 rfl;have hcz7_5:=cel2 BK183 5 rfl;have hfz7_0:=blk_frozen BK183.out 0;have hfz7_1:=blk_frozen BK183.out 1;have hfz7_2:=blk_frozen BK183.out 2;have hfz7_3:=blk_frozen BK183.out 3;have hfz7_4:=blk_frozen BK183.out 4;have hfz7_5:=blk_frozen BK183.out 5) | ((with_reducible refine gate_callee (f:=104) rfl ?_);refine goesL_ (some 13) rfl rfl Tryz.func104 (by kernel_rfl) rfl #[.slice A0 l0.length c0,.slice A1_3 l1_3.length c1_3,.string a2] rfl Gc2 ?_;(with_reducible refine (Z2g.calls _ _ l0 _ _ l1_3 a2 t184 _ ?sT (tC HR0 HB) HC0.out (tC HR1_3 HB) HC1_3.out A5.out).mono ?_);(case sT => exact Gc1);rintro e w8 ⟨rfl,hb⟩;refine ⟨_,rfl,?_⟩;have n0_:=am (blk_below (tK BK183) hb);have n1_:=am (below_step (tB HB) hb);revert n0_ n1_;clear BK183 HB;intro BK183 HB;(try clear hb);(try clear hb2);(try clear hk);(try clear hi)))
  exact Zcg
 ·
  replace H:=bI H;obtain ⟨t185,A9,H⟩:=H;(try dsimp only at H);obtain rfl:=Option.some.inj H;go_enter Tryz.func101,Tryz.ntmps101
  go_wp2_with (first | ((with_reducible refine gate_dst (N:=4) rfl ?_);refine box_event ?hg (N:=4) ?hd (cs:=#[.int .i32 a1_0,.string a1_1,.slice A1_2 l1_2.length c1_2,.slice A1_3 l1_3.length c1_3,.bool a1_4,.bool false]) (t:=73) ?hr ?_;(case hd => rfl);(case hg => rfl);(case hr => exact Gc5);intro gb183 hg w10 hbox hb;have n0_:=am (below_step (tB HB) hb);have n1_:=am (hbox);have n2_:=tZ hg (tS HB);have n3_:=tZ hg (tS HB);revert n0_ n1_ n2_ n3_;clear HB;intro HB BK183 GW183 GE183;clear hb hbox hg;have hcz11_0:=cel2 BK183 0 rfl;have hcz11_1:=cel2 BK183 1 rfl;have hcz11_2:=cel2 BK183 2 rfl;have hcz11_3:=cel2 BK183 3 rfl;have hcz11_4:=cel2 BK183 4 rfl;have hcz11_5:=cel2 BK183 5 rfl;have hfz11_0:=blk_frozen BK183.out 0;have hfz11_1:=blk_frozen BK183.out 1;have hfz11_2:=blk_frozen BK183.out 2;have hfz11_3:=blk_frozen BK183.out 3;have hfz11_4:=blk_frozen BK183.out 4;have hfz11_5:=blk_frozen BK183.out 5) | ((with_reducible refine gate_callee (f:=106) rfl ?_);refine goesL_ (some 18) rfl rfl Tryz.func106 (by kernel_rfl) rfl #[.slice A0 l0.length c0,.slice A1_3 l1_3.length c1_3,.string a2] rfl Gc2 ?_;(with_reducible refine (Z31.calls _ _ l0 _ _ l1_3 a2 t185 _ ?sT (tC HR0 HB) HC0.out (tC HR1_3 HB) HC1_3.out A9.out).mono ?_);(case sT => exact Gc1);rintro e w12 ⟨v186,rfl,ho0,hb⟩;refine ⟨_,rfl,?_⟩;have n0_:=am (Kd.R_lower ho0 (tS HB));have n1_:=am (blk_below (tK BK183) hb);have n2_:=am (below_step (tB HB) hb);revert n0_ n1_ n2_;clear BK183 HB;intro HO187 BK183 HB;(try clear hb);(try clear hb2);(try clear hk);(try clear hi);(try clear ho0);obtain ⟨Ao13,co13,eo13⟩:=Kd.R_slice HO187.out;subst eo13))
  exact Zcg
def Z12.l0:Nat → Int → List (S68) → Int → Int → Option (Bool)
 | 0,_,_,_,_ => none
 | k + 1,x1,x7,x8,x9 => if x9 < x8 then (if 0 ≤ x9 then (if x9 < (x7.length:Int) then (if ((Z0v x7 x9).f0) = x1 then (some true) else (Z12.l0 k x1 x7 x8 (wrap64 (x9 + 1)))) else (none)) else (none)) else (some false)
def Z12.f (k:Nat) (l0:List (S68)) (a1:Int):Option (Bool):=Z12.l0 k a1 l0 (l0.length:Int) 0
theorem Zch {p:Prop} (h:p:=by
  have z1_:0 ≤ (x9_1:Int):=oD;have z2_:x9_1 < (l0.length:Int):=oD;obtain ⟨z3_,z4_,z5_,z6_⟩:=Z3s HR0.out x9_1 z1_ z2_;cases z4_;replace z5_:=celB HB z5_;replace z6_:=celB HB z6_;replace z1_:=eq_true z1_;replace z2_:=eq_true z2_
  go_wp2_with (first | ((with_reducible refine gate_dst (N:=6) rfl ?_);refine box_event ?hg (N:=6) ?hd (cs:=#[.int .i32 0,.int .u32 0]) (t:=68) ?hr ?_;(case hd => rfl);(case hg => rfl);(case hr => exact Gc5);intro z7_ hg z8_ hbox hb;have z9_:=am (below_step (tB HB) hb);have z10_:=am (hbox);have z11_:=tZ hg (tS HB);have z12_:=tZ hg (tS HB);revert z9_ z10_ z11_ z12_;clear HB;intro HB z13_ z14_ z15_;clear hb hbox hg;have z16_:=cel2 z13_ 0 rfl;have z17_:=cel2 z13_ 1 rfl;have z18_:=blk_frozen z13_.out 0;have z19_:=blk_frozen z13_.out 1))
  first
  | (have mk_:=mk0_
     go_ret
     exact ⟨tE,by repeat (first | (with_reducible first | exact HB.out | apply below_alloc | apply pw_below_drewN | apply below_drew1 | refine below_set ?_ z15_.out) | exact HB.out)⟩)
  | (have mk_:=mk1_
     go_roundg k1
     case measure => have:=HK1.out;omega
     case rel => exact ⟨(wrap64 (x9_1 + 1)),tV1,H',⟨by have:=HK1.out;omega⟩,⟨tB HB⟩⟩)):p:=h
set_option maxHeartbeats 8000000 in
set_option maxRecDepth 100000 in
theorem Z12.calls (k:Nat) (A0:Option Addr) (c0:Nat) (l0:List (S68)) (a1:Int) (r:Bool) (w:World) (hr0:Kd.C k68 w A0 l0.length l0) (hc0:l0.length ≤ c0) (h:Z12.f k l0 a1 = some r) :
 Calls Tryz.prog 69 #[.slice A0 l0.length c0,.int .i32 a1] w fun e w' => e = .returned (.bool r) ∧ Below w.heap.size w w':=by
 have hu68:=Tryz.underlying68;have HR0:=am hr0;have HC0:=am hc0;clear hr0 hc0;have HB:=am (Below.refl w.heap.size w);have H:(Z12.l0 k a1 l0 (l0.length:Int) 0) = some r:=h;clear h;have H':=am H;clear H;go_enter Tryz.func69,Tryz.ntmps69;go_wp2
 go_loopg [9] k (fun kq v9 w' => ∃ (x9_1:Int),v9 = .int .i64 x9_1 ∧ Aside0 (Z12.l0 kq a1 l0 (l0.length:Int) x9_1 = some r) ∧ Aside0 (kq ≤ k) ∧ Aside0 (Below w.heap.size w w'))
 case atStart => exact ⟨(0),tV1,H',⟨Nat.le_refl _⟩,⟨tB HB⟩⟩
 case round =>
  clear H';obtain ⟨x9_1,rfl,HA,HK1,HB⟩:=hrel
  cases gk with
  | zero => exact absurd HA.out (by simp [Z12.l0])
  | succ k1 =>
   have H:=HA.out;clear HA;simp only [Z12.l0] at H
   replace H:=iF H;obtain ⟨c3,H⟩ | ⟨c3,H⟩:=H;rotate_left
   ·
    have c3b0:decide (x9_1 < (l0.length:Int)) = false:=decide_eq_false c3;clear c3;obtain rfl:=Option.some.inj H;go_wp2;go_ret;exact ⟨tE,by repeat (first | (with_reducible first | exact HB.out | apply below_alloc | apply pw_below_drewN | apply below_drew1) | exact HB.out)⟩
   have c3b0:decide (x9_1 < (l0.length:Int)) = true:=decide_eq_true c3;clear c3;replace H:=iFn H;obtain ⟨c4,H⟩:=H;have c4b0:decide (0 ≤ x9_1) = true:=decide_eq_true c4;clear c4;replace H:=iFn H;obtain ⟨c5,H⟩:=H;have c5b0:decide (x9_1 < (l0.length:Int)) = true:=decide_eq_true c5;clear c5
   replace H:=iE H;obtain ⟨-,c6b0,c6b1,H⟩ | ⟨c6,c6b0,c6b1,H⟩:=H
   ·
    obtain rfl:=Option.some.inj H;have mk0_:=trivial;exact Zch
   ·
    have H':=am H;clear H;have mk1_:=trivial;exact Zch
end Go.Proofs.YtfbhdjflkaldgaaGreatDoor.Pr

namespace Go.Proofs.YtfbhdjflkaldgaaGreatDoor.Pr
open Go.Proofs.YtfbhdjflkaldgaaGreatDoor.Ct Go.RowKit Go.Maps Go.Lib Go.Proofs.YtfbhdjflkaldgaaGreatDoorW.PrintWords Go.Proofs.YtfbhdjflkaldgaaGreatDoorW.PrintLast Go.Proofs.YtfbhdjflkaldgaaGreatDoorW.PrintMore
set_option linter.unusedVariables false
set_option linter.unusedSimpArgs false
theorem Zlh (l:List S68) (r:Int) (hl:l.length ≤ 9223372036854775807):Ev (fun k => Z12.f k l r) (isL l r):=by
  have key:∀ d i,l.length - i = d → i ≤ l.length → look l i r = none → Ev (fun k => Z12.l0 k r l (l.length:Int) (i:Int)) (isL l r):=by
    intro d
    induction d with
    | zero =>
      intro i hd hi hn
      obtain rfl:i = l.length:=by omega
      refine Ev.step (f:=fun _ => some false) (fun k => ?_) ?_
      · simp only [Z12.l0];rw [if_neg (by omega)]
      · unfold isL;rw [hn];exact Ev.now _
    | succ d ih =>
      intro i hd hi hn
      have hlt:i < l.length:=by omega
      by_cases hr:(Z0v l (i:Int)).f0 = r
      · have h1:look l (i + 1) r = some i:=by unfold look;rw [hn];simp [hr]
        refine Ev.step (f:=fun _ => some true) (fun k => ?_) ?_
        · simp only [Z12.l0];rw [if_pos (by omega),if_pos (by omega),if_pos (by omega),if_pos hr]
        · unfold isL;rw [Z5c l r _ _ h1 l.length (by omega)];exact Ev.now _
      · refine Ev.step (fun k => ?_) (ih (i + 1) (by omega) (by omega) (by unfold look;rw [hn];simp [hr]))
        simp only [Z12.l0];rw [if_pos (by omega),if_pos (by omega),if_pos (by omega),if_neg hr,Z1a hlt hl]
  exact key _ 0 rfl (by omega) rfl
theorem Zci (A:Option Addr) (c:Nat) (l:List S68) (r:Int) (w:World) (hr0:Kd.C k68 w A l.length l) (hc0:l.length ≤ c) :
    Calls Tryz.prog 69 #[.slice A l.length c,.int .i32 r] w fun e w' => e = .returned (.bool (isL l r)) ∧ Below w.heap.size w w':=by
  obtain ⟨k,hk⟩:=(Zlh l r hr0.2.1).rounds;exact Z12.calls k A c l r _ w hr0 hc0 hk
def Z39 (l:List S68) (s:ByteArray) (n:Nat):Bool:=validD s.data.toList && ((Z0d s).all (isL l) && decide ((Z0d s).length ≤ n))
set_option maxRecDepth 100000 in
set_option maxHeartbeats 1000000 in
theorem Z6r (A0:Option Addr) (c0:Nat) (l0:List S68) (a1:ByteArray) (n:Nat) (w:World) (hT:Tabs w) (hr0:Kd.C k68 w A0 l0.length l0) (hc0:l0.length ≤ c0) (hsz:a1.size ≤ 1099511627776) :
    Calls Tryz.prog 70 #[.string a1,.int .i64 (n:Int),.func (.func 69) #[.slice A0 l0.length c0] #[]] w fun e w' => e = .returned (.bool (Z39 l0 a1 n)) ∧ Below w.heap.size w w':=by
  have hv:=Z2l.calls a1 (validD a1.data.toList) w hT Gc26;obtain ⟨r,hr⟩:∃ r,Z39 l0 a1 n = r:=⟨_,rfl⟩;rw [hr];have hR:=am hr0;have hC:=am hc0;have hG:=am hsz;have hr':=am hr;clear hr0 hc0 hr hsz hT
  cases hvd:validD a1.data.toList with
  | false =>
    rw [hvd] at hv
    obtain rfl:r = false:=by rw [← hr'.out];unfold Z39;rw [hvd];rfl
    clear hvd;go_enter Tryz.func70,Tryz.ntmps70
    go_wp2_with (go_at_call 46;refine hv.mono ?_;clear hv;rintro e w1 ⟨rfl,hB1⟩)
    go_ret;exact ⟨rfl,hB1⟩
  | true =>
    rw [hvd] at hv;have hrr:=am (show r = ((Z0d a1).all (isL l0) && decide ((Z0d a1).length ≤ n)) by rw [← hr'.out];unfold Z39;rw [hvd,Bool.true_and]);clear hvd;go_enter Tryz.func70,Tryz.ntmps70
    go_wp2_with (go_at_call 46;refine hv.mono ?_;clear hv;rintro e w1 ⟨rfl,hB1⟩)
    have hBK:Below w.heap.size w (w1.iter a1 0):=hB1.alloc hB1.size _;have hBK':=am hBK;have hs1:=am hB1.size;clear hBK hB1
    go_loopg [7] a1.size (fun kq v7 w' => ∃ (pos:Nat) (done:List Int),v7 = .int .i64 (done.length:Int) ∧ Aside0 (w'.heap[w1.heap.size]? = some (.stringIter a1 pos)) ∧ Aside0 (a1.size - pos ≤ kq) ∧ Aside0 (done ++ Z3b a1 pos = Z0d a1) ∧ Aside0 (done.all (isL l0) = true ∧ done.length ≤ n) ∧ Aside0 (Below w.heap.size w w'))
    case atStart => exact ⟨0,[],rfl,⟨World.iter_heap w1 a1 0⟩,⟨by omega⟩,⟨by rw [Z2t];rfl⟩,⟨⟨rfl,Nat.zero_le _⟩⟩,hBK'⟩
    case round =>
      obtain ⟨pos,done,rfl,hit,hq,hdone,hall,HB⟩:=hrel
      by_cases hp:pos < a1.size
      · obtain ⟨g1,rfl⟩:∃ g1,gk = g1 + 1:=⟨gk - 1,by have:=hq.out;omega⟩
        have hnx:∀ ty,(Instr.next (.pointer (some ⟨w1.heap.size,0,none⟩)) true ty).run Tryz.prog wr = _:=fun ty => run_next_any_at wr w1.heap.size a1 pos ty hit.out hp
        have hst:=Z34 hp;have hwd:=Z4k hp;obtain ⟨R,hRR⟩:∃ R:Int,((Utf8.decode a1 pos).1:Int) = R:=⟨_,rfl⟩;rw [hRR] at hst;simp only [hRR] at hnx;obtain ⟨pos2,hp2⟩:∃ p2,pos + (Utf8.decode a1 pos).2 = p2:=⟨_,rfl⟩;rw [hp2] at hst hnx;obtain ⟨W1,hW1⟩:∃ W1,wr.iterAt w1.heap.size a1 pos2 = W1:=⟨_,rfl⟩
        have hB1:Below w.heap.size w W1:=by rw [← hW1];exact below_iterAt HB.out hs1.out _ _
        have hit1:W1.heap[w1.heap.size]? = some (.stringIter a1 pos2):=by rw [← hW1];exact iterAt_heap _ _ _ _ _ hit.out
        simp only [hW1] at hnx;have hlt:w1.heap.size < W1.heap.size:=(Array.getElem?_eq_some_iff.1 hit1).1
        have hdl:done.length + 1 ≤ a1.size:=by
          have h1:=congrArg List.length hdone.out;have h2:=Z23 a1;rw [List.length_append,hst,List.length_cons] at h1;omega
        have hfin:wrap64 ((done.length:Int) + 1) = ((done.length + 1:Nat):Int):=Z1a (i:=done.length) (n:=a1.size) (by omega) (by have:=hG.out;omega);have hfin':=am hfin;have hst':=am hst;have hw':Aside0 (pos < pos2):=⟨by omega⟩;have hB1':=am hB1;have hit1':=am hit1;have hlt':=am hlt;have hhas:=Zci A0 c0 l0 R W1 (Kd.C_below hR.out hB1) hC.out;obtain ⟨D,hD⟩:∃ D,done.length = D:=⟨_,rfl⟩;rw [hD] at hfin ⊢;have hD':=am hD;clear hst hwd hp hB1 hit1 hW1 hp2 hRR hlt hdl hD
        by_cases hn:n ≤ D
        · have hnn:(n:Int) < (D:Int) + 1:=by omega
          obtain rfl:r = false:=by
            rw [hrr.out,decide_eq_false,Bool.and_false];have h1:=congrArg List.length hdone.out;rw [List.length_append,hst'.out,List.length_cons,hD'.out] at h1;omega
          go_wp2;go_ret;exact ⟨rfl,hB1'.out⟩
        · have hnn:¬ ((n:Int) < (D:Int) + 1):=by omega
          cases hL:isL l0 R with
          | false =>
            rw [hL] at hhas
            obtain rfl:r = false:=by
              rw [hrr.out,← hdone.out,List.all_append,hst'.out,List.all_cons,hL];simp
            clear hL
            go_wp2_with (go_at_call 69;refine hhas.mono ?_;clear hhas;rintro e w5 ⟨rfl,hB5⟩)
            go_ret;exact ⟨rfl,hB1'.out.trans (hB5.mono hB1'.out.size)⟩
          | true =>
            rw [hL] at hhas;have hL':=am hL;clear hL
            go_wp2_with (go_at_call 69;refine hhas.mono ?_;clear hhas;rintro e w5 ⟨rfl,hB5⟩)
            go_roundg g1
            case measure => omega
            case rel =>
              refine ⟨pos2,done ++ [R],?_,⟨?_⟩,⟨by have:=hq.out;have:=hw'.out;omega⟩,⟨by rw [List.append_assoc,List.singleton_append,← hst'.out];exact hdone.out⟩,⟨⟨by rw [List.all_append,hall.out.1];simp [hL'.out],?_⟩⟩,⟨hB1'.out.trans (hB5.mono hB1'.out.size)⟩⟩
              · rw [List.length_append,hD'.out]
                first | rfl | (rw [← hfin'.out,hD'.out])
              · exact (hB5.block _ hlt'.out).trans hit1'.out
              · rw [List.length_append,hD'.out];simp;omega
      · have hnx:∀ ty,(Instr.next (.pointer (some ⟨w1.heap.size,0,none⟩)) true ty).run Tryz.prog wr = _:=fun ty => run_next_end_at wr w1.heap.size a1 pos ty hit.out hp
        have hre:=Z2z hp
        have hd:done = Z0d a1:=by rw [← hdone.out,hre,List.append_nil]
        obtain rfl:r = true:=by rw [hrr.out,← hd,hall.out.1,decide_eq_true hall.out.2];rfl
        clear hre hd hp;go_wp2;go_ret;exact ⟨rfl,HB.out⟩
def Z19.f (l0:List S68) (a1:ByteArray):Option Bool:=if a1.size ≤ 1099511627776 then some (Z18 l0 a1) else none
set_option maxRecDepth 100000 in
theorem Z19.calls (A0:Option Addr) (c0:Nat) (l0:List S68) (a1:ByteArray) (r:Bool) (w:World) (hT:Tabs w) (hr0:Kd.C k68 w A0 l0.length l0) (hc0:l0.length ≤ c0) (h:Z19.f l0 a1 = some r) :
    Calls Tryz.prog 92 #[.slice A0 l0.length c0,.string a1] w fun e w' => e = .returned (.bool r) ∧ Below w.heap.size w w':=by
  unfold Z19.f at h
  by_cases hg:a1.size ≤ 1099511627776
  · rw [if_pos hg] at h
    obtain rfl:=Option.some.inj h;have hcs:=Z6r A0 c0 l0 a1 40 w hT hr0 hc0 hg
    have hmf:∀ W (v:Value),(Instr.makeFunc (.func 69) #[v] #[]).run Tryz.prog W = .ok (.func (.func 69) #[v] #[]) W:=by intro W v;rfl
    clear hr0 hc0 hT h;go_enter Tryz.func92,Tryz.ntmps92
    go_wp2_with (go_at_call 70;refine hcs.mono ?_;clear hcs;rintro e w1 ⟨rfl,hB1⟩)
    go_ret;exact ⟨rfl,hB1⟩
  · rw [if_neg hg] at h;cases h
end Go.Proofs.YtfbhdjflkaldgaaGreatDoor.Pr

namespace Go.Proofs.YtfbhdjflkaldgaaGreatDoor.Pr
open Go.Proofs.YtfbhdjflkaldgaaGreatDoor.Ct Go.RowKit Go.Proofs.YtfbhdjflkaldgaaGreatDoorW.PrintWords Go.Proofs.YtfbhdjflkaldgaaGreatDoorW.PrintLast Go.Proofs.YtfbhdjflkaldgaaGreatDoorW.PrintMore
attribute [local go_sem] max2_int min2_int max_two min_two max_three min_three max_four min_four
set_option linter.unusedVariables false
set_option linter.unusedSimpArgs false
def Z1b.j0:Nat → Int → Bool → Option (Bool)
 | 0,_,_ => none
 | k + 1,x0,x3 => if x3 = true then (some true) else (if 57343 < x0 then (if x0 ≤ 1114111 then (some true) else (some false)) else (some false))
def Z1b.f (k:Nat) (a0:Int):Option (Bool):=if 0 ≤ a0 then (Z1b.j0 k a0 (decide (a0 < 55296))) else (Z1b.j0 k a0 false)
theorem Z8w {p:Prop} (h:p:=by
  obtain rfl:=Option.some.inj H;go_wp2;go_ret
  exact ⟨by first | rfl | (simp;done) | (simp [*];done),by repeat (first | exact Drawn0.refl _ | apply Drawn0.step)⟩):p:=h
set_option maxHeartbeats 8000000 in
set_option maxRecDepth 100000 in
theorem Z1b.calls (k:Nat) (a0:Int) (r:Bool) (w:World) (h:Z1b.f k a0 = some r) :
 Calls Tryz.prog 66 #[.int .i32 a0] w fun e w' => e = .returned (.bool r) ∧ Drawn0 w w':=by
 have H:(if 0 ≤ a0 then (Z1b.j0 k a0 (decide (a0 < 55296))) else (Z1b.j0 k a0 false)) = some r:=h;clear h;have HC2:=am H;clear H;go_enter Tryz.func66,Tryz.ntmps66
 go_upto_region 1 with (fail)
 go_cut [3] (fun v3 wc => ∃ (kq:Nat) (x3_1:Bool),v3 = .bool x3_1 ∧ Aside0 (Z1b.j0 kq a0 x3_1 = some r) ∧ Aside0 (kq ≤ k) ∧ Drawn0 w wc)
 case first =>
  have H:=HC2.out;clear HC2
  replace H:=iF H;obtain ⟨c3,H⟩ | ⟨c3,H⟩:=H
  ·
   have c3b0:decide (0 ≤ a0) = true:=decide_eq_true c3;clear c3
   (first | rw [c3b0] | (simp only [i64_w,i32_w];rw [c3b0]) | skip)
   have H':=am H;clear H;go_wp2
   go_meet
   case rel => exact ⟨_,(decide (a0 < 55296)),tV1,H',⟨tU⟩,by repeat (first | exact Drawn0.refl _ | apply Drawn0.step)⟩
  ·
   have c3b0:decide (0 ≤ a0) = false:=decide_eq_false c3;clear c3
   (first | rw [c3b0] | (simp only [i64_w,i32_w];rw [c3b0]) | skip)
   have H':=am H;clear H;go_wp2
   go_meet
   case rel => exact ⟨_,(false),tV1,H',⟨tU⟩,by repeat (first | exact Drawn0.refl _ | apply Drawn0.step)⟩
 case rest =>
  clear HC2;obtain ⟨kq,x3_1,rfl,HA,HJ1,⟨mc1,rfl⟩⟩:=hcut
  cases kq with
  | zero => exact absurd HA.out (by simp [Z1b.j0])
  | succ kj1 =>
   have H:=HA.out;clear HA;simp only [Z1b.j0] at H
   replace H:=iT H;obtain ⟨rfl,H⟩ | ⟨rfl,H⟩:=H
   ·
    exact Z8w
   ·
    replace H:=iF H;obtain ⟨c5,H⟩ | ⟨c5,H⟩:=H
    ·
     have c5b0:decide (57343 < a0) = true:=decide_eq_true c5;clear c5
     replace H:=iF H;obtain ⟨c6,H⟩ | ⟨c6,H⟩:=H
     ·
      have c6b0:decide (a0 ≤ 1114111) = true:=decide_eq_true c6;clear c6;exact Z8w
     ·
      have c6b0:decide (a0 ≤ 1114111) = false:=decide_eq_false c6;clear c6;exact Z8w
    ·
     have c5b0:decide (57343 < a0) = false:=decide_eq_false c5;clear c5;exact Z8w
mutual
def Z02.j0:Nat → List (S68) → Bool → Option (Bool)
 | 0,_,_ => none
 | k + 1,x0,x12 => if x12 = true then (some false) else (Z02.l0 k x0 x0 (x0.length:Int) 0)
def Z02.l0:Nat → List (S68) → List (S68) → Int → Int → Option (Bool)
 | 0,_,_,_,_ => none
 | k + 1,x0,x13,x14,x15 => if x15 < x14 then (if 0 ≤ x15 then (if x15 < (x13.length:Int) then (if ((Z0v x13 x15).f0) ≤ 32 then (some false) else ((Z1b.f k ((Z0v x13 x15).f0)).bind fun t116 => (if t116 = true then (if x15 ≤ (x0.length:Int) then ((Z12.f k (x0.take (x15:Int).toNat) ((Z0v x13 x15).f0)).bind fun t121 => (if t121 = true then (some false) else (Z02.l0 k x0 x13 x14 (wrap64 (x15 + 1))))) else (none)) else (some false)))) else (none)) else (none)) else (some true)
end
def Z02.f (k:Nat) (l0:List (S68)):Option (Bool):=if (l0.length:Int) < 1 then (Z02.j0 k l0 true) else (Z02.j0 k l0 (decide ((l0.length:Int) > 65)))
def Z02.T6:Bool × List (List Nat × List Nat):=(true,[([],[]),([0],[0]),([1],[1]),([2],[2]),([3],[3]),([4,3],[3,4]),([5,3,3],[3,5]),([6,3],[3,6]),([3,7],[3,7]),([8,6],[8]),([9],[9]),([9],[9]),([10,11,9],[9,10,11]),([9],[9]),([13,9],[9,13]),([12,14,9,9],[9,12,14]),([9,15],[9,15])])
def Z02.B6:List Nat:=[0,1,3,7,15,31,63,127,255,511,1023,1023,4095,1023,9215,32767,65535]
theorem Z02.tab6:rtab .any (opsOf Tryz.f68 6) = Z02.T6:=by kernel_rfl
theorem Z02.bits6:waitsOk Z02.T6.2 Z02.B6 = true:=by kernel_rfl
theorem Zfz {p:Prop} (h:p:=by
  refine pT 16 36 ?_
  refine done_ (done_of HT_.out (by kernel_rfl)) ?_
  try go_wp2
  go_ret
  exact ⟨tE,by repeat (first | (with_reducible first | exact HB.out | apply below_alloc | apply pw_below_drewN | apply below_drew1 | refine below_set ?_ GE115.out) | exact HB.out)⟩):p:=h
theorem Zg0 {p:Prop} (h:p:=by
  obtain rfl:=Option.some.inj H;go_wp2;go_ret
  exact ⟨tE,by repeat (first | (with_reducible first | exact HB.out | apply below_alloc | apply pw_below_drewN | apply below_drew1) | exact HB.out)⟩):p:=h
theorem Zg1 {p:Prop} (h:p:=by
  refine pT 8 28 ?_
  refine pT 9 29 ?_
  refine uT 10 30 ?_
  refine uT 11 31 ?_
  refine uT 12 32 ?_
  refine uT 13 33 ?_
  refine uT 14 34 ?_
  refine uT 15 35 ?_
  exact Zfz):p:=h
set_option maxRecDepth 1000000 in
theorem Z9n {p:Prop} (h:p:=by
  obtain rfl:=Option.some.inj H;have z1_:0 ≤ (x15_2:Int):=oD;have z2_:x15_2 < (l0.length:Int):=oD;obtain ⟨z3_,z4_,z5_,z6_⟩:=Z3s HR0.out x15_2 z1_ z2_;cases z4_;replace z5_:=celB HB z5_;replace z6_:=celB HB z6_;replace z1_:=eq_true z1_;replace z2_:=eq_true z2_
  try go_wp2_with (first | ((with_reducible refine gate_dst (N:=4) rfl ?_);(try (refine gate_guard (by rfl) ?_;dsimp only));refine box_event ?hg (N:=4) ?hd (cs:=#[.int .i32 0,.int .u32 0]) (t:=68) ?hr ?_;(case hd => rfl);(case hg => rfl);(case hr => exact Gc5);intro z7_ hg z8_ hbox hb;have z9_:=am (below_step (tB HB) hb);have z10_:=am (hbox);have z11_:=tZ hg (tS HB);have z12_:=tZ hg (tS HB);revert z9_ z10_ z11_ z12_;clear HB;intro HB z13_ z14_ GE115;clear hb hbox hg;have z15_:=cel2 z13_ 0 rfl;have z16_:=cel2 z13_ 1 rfl;have z17_:=blk_frozen z13_.out 0;have z18_:=blk_frozen z13_.out 1))
  have z9_:Aside0 (((z8_.setCell ⟨z7_,0,none⟩ (.int .i32 ((Z0v l0 x15_2).f0))).setCell ⟨z7_,1,none⟩ (.int .u32 ((Z0v l0 x15_2).f1))).heap[z7_]? = some (.cells #[.int .i32 ((Z0v l0 x15_2).f0),.int .u32 ((Z0v l0 x15_2).f1)] 68 (0,0))):=⟨tKp z13_⟩;have z10_:Aside0 (Below w.heap.size w ((z8_.setCell ⟨z7_,0,none⟩ (.int .i32 ((Z0v l0 x15_2).f0))).setCell ⟨z7_,1,none⟩ (.int .u32 ((Z0v l0 x15_2).f1)))):=⟨tB HB⟩
  (try clear z13_);(try clear HB)
  generalize ((z8_.setCell ⟨z7_,0,none⟩ (.int .i32 ((Z0v l0 x15_2).f0))).setCell ⟨z7_,1,none⟩ (.int .u32 ((Z0v l0 x15_2).f1))) = z19_ at z9_ z10_ ⊢;have z13_:=z9_;have HB:=z10_;clear z9_ z10_;have z9_:=am (blk_drew z13_.out);have z10_:=am (below_drew1 HB.out);revert z9_ z10_;clear z13_ HB;intro z13_ HB
  refine start_ (n:=17) (S:=fun w' => w'.cell? ⟨z7_,0,none⟩ = some (.int .i32 ((Z0v l0 x15_2).f0)) ∧ w'.cell? ⟨z7_,1,none⟩ = some (.int .u32 ((Z0v l0 x15_2).f1))) (ds:=[]) #[false,false,false,false,false,false,false,false,false,false,false,false,false,false,false,false,false] (by kernel_rfl) rfl rfl ⟨(blk_cell z13_.out 0).trans rfl,(blk_cell z13_.out 1).trans rfl⟩ (fun hHeld => ?_);refine with_tabW Z02.tab6 Z02.bits6 (fun HT_ HW_ => ?_)
  generalize z19_.drew = z20_ at z13_ HB hHeld ⊢
  refine pT 0 20 ?_
  refine tTt 1 21 hHeld ?_
  refine pT 2 22 ?_
  refine pT 3 23 ?_
  first
  | (have mk_:=mk0_
     refine pT 4 24 ?_
     refine tTt 5 25 hHeld ?_
     refine one_ (i:=6) (N:=some 26) #[true,true,true,true,true,true,true,false,false,false,false,false,false,false,false,false,false] rfl rfl (one_of HT_.out (by kernel_rfl)) (by decide) (fun K hK => ?_)
     refine goes_ Tryz.func66 (by kernel_rfl) rfl #[.int .i32 ((Z0v l0 x15_2).f0)] (by rfl) rfl rfl Gc2 ?_
     with_reducible refine (Z1b.calls k2 ((Z0v l0 x15_2).f0) true _ A13.out).mono ?_
     rintro e w' ⟨rfl,⟨nd,rfl⟩⟩
     refine ⟨_,rfl,?_⟩
     have z21_:(x15_2:Int) ≤ ((l0.length:Int):Int):=oD;obtain ⟨z22_,z23_,_,z24_,_⟩:=info_parts Z7c;have z25_:l0.length ≤ c0:=HC0.out;have z26_:Kd.C k68 _ (some z3_) l0.length l0:=HR0.out;have z27_:=cut_to (P:=Tryz.prog) 128 68 .i64 Tryz.underlying128 z23_ (some z3_) l0.length c0 x15_2 (oD) z21_ z25_;have z28_:=Kd.C_take (m:=(x15_2:Int).toNat) z26_ (by omega);have z29_:y117.length = (x15_2:Int).toNat:=(by rw [Ny117.out,List.length_take];omega);rw [← Ny117.out] at z28_;rw [← z29_] at z27_;have z30_:=am z28_;have z31_:=am (show y117.length ≤ c0 from by omega);clear z28_ z26_ z25_ z23_ z24_;have z32_:=am z29_;clear z29_;replace z21_:=eq_true z21_
     refine hK.out _ _ ⟨(blk_cell z13_.out 0).trans rfl,(blk_cell z13_.out 1).trans rfl⟩ (fun hHeld => ?_)
     clear hK K
     refine nR 26 ?_
     refine pT 7 27 ?_
     refine pT 8 28 ?_
     refine pT 9 29 ?_
     refine pT 10 30 ?_
     refine pT 11 31 ?_
     refine pT 12 32 ?_
     refine pT 13 33 ?_
     refine tTt 14 34 hHeld ?_
     refine one_ (i:=15) (N:=some 35) #[true,true,true,true,true,true,true,true,true,true,true,true,true,true,true,true,false] rfl rfl (one_of HT_.out (by kernel_rfl)) (by decide) (fun K hK => ?_)
     refine goes_ Tryz.func69 (by kernel_rfl) rfl #[.slice (some z3_) y117.length c0,.int .i32 ((Z0v l0 x15_2).f0)] (by rfl) rfl rfl Gc2 ?_
     with_reducible refine (Z12.calls k2 _ _ y117 ((Z0v l0 x15_2).f0) true _ ?s1 ?s2 A17.out).mono ?_
     (case s1 => repeat (first | exact (Kd.C_below z30_.out (tB HB)) | (with_reducible refine Kd.C_alloc ?_ _) | (with_reducible refine Kd.C_drewN ?_ _) | (with_reducible refine Kd.C_drew ?_)));(case s2 => exact z31_.out);rintro e z33_ ⟨rfl,hb⟩
     refine ⟨_,rfl,?_⟩
     have z9_:=am (blk_below (tK z13_) hb);have z10_:=am (below_step (tB HB) hb);revert z9_ z10_;clear z13_ HB;intro z13_ HB;(try clear hb)
     refine hK.out _ _ ⟨(blk_cell z13_.out 0).trans rfl,(blk_cell z13_.out 1).trans rfl⟩ (fun hHeld => ?_)
     clear hK K
     refine nR 35 ?_
     exact Zfz)
  | (have mk_:=mk1_
     refine pT 4 24 ?_
     refine tTt 5 25 hHeld ?_
     refine one_ (i:=6) (N:=some 26) #[true,true,true,true,true,true,true,false,false,false,false,false,false,false,false,false,false] rfl rfl (one_of HT_.out (by kernel_rfl)) (by decide) (fun K hK => ?_)
     refine goes_ Tryz.func66 (by kernel_rfl) rfl #[.int .i32 ((Z0v l0 x15_2).f0)] (by rfl) rfl rfl Gc2 ?_
     with_reducible refine (Z1b.calls k2 ((Z0v l0 x15_2).f0) false _ A13.out).mono ?_
     rintro e w' ⟨rfl,⟨nd,rfl⟩⟩
     refine ⟨_,rfl,?_⟩
     refine hK.out _ _ ⟨(blk_cell z13_.out 0).trans rfl,(blk_cell z13_.out 1).trans rfl⟩ (fun hHeld => ?_)
     clear hK K
     refine nR 26 ?_
     refine pT 7 27 ?_
     exact Zg1)
  | (have mk_:=mk2_
     refine uT 4 24 ?_
     refine uT 5 25 ?_
     refine uT 6 26 ?_
     refine uT 7 27 ?_
     exact Zg1)):p:=h
set_option maxHeartbeats 8000000 in
set_option maxRecDepth 100000 in
theorem Z02.calls (k:Nat) (A0:Option Addr) (c0:Nat) (l0:List (S68)) (r:Bool) (w:World) (hr0:Kd.C k68 w A0 l0.length l0) (hc0:l0.length ≤ c0) (h:Z02.f k l0 = some r) :
 Calls Tryz.prog 68 #[.slice A0 l0.length c0] w fun e w' => e = .returned (.bool r) ∧ Below w.heap.size w w':=by
 have hu68:=Tryz.underlying68;have HR0:=am hr0;have HC0:=am hc0;clear hr0 hc0;have HB:=am (Below.refl w.heap.size w);have H:(if (l0.length:Int) < 1 then (Z02.j0 k l0 true) else (Z02.j0 k l0 (decide ((l0.length:Int) > 65)))) = some r:=h;clear h;have HC2:=am H;clear H;go_enter Tryz.func68,Tryz.ntmps68
 go_upto_region 1 with (fail)
 go_cut [12] (fun v12 wc => ∃ (kq:Nat) (x12_1:Bool),v12 = .bool x12_1 ∧ Aside0 (Z02.j0 kq l0 x12_1 = some r) ∧ Aside0 (kq ≤ k) ∧ Aside0 (Below w.heap.size w wc))
 case first =>
  have H:=HC2.out;clear HC2
  replace H:=iF H;obtain ⟨c3,H⟩ | ⟨c3,H⟩:=H
  ·
   have c3b0:decide ((l0.length:Int) < 1) = true:=decide_eq_true c3;have c3b1:decide (l0.length < 1) = true:=decide_eq_true (by omega);clear c3
   (first | rw [c3b0] | (simp only [i64_w,i32_w];rw [c3b0]) | skip)
   have H':=am H;clear H;go_wp2
   go_meet
   case rel => exact ⟨_,(true),tV1,H',⟨tU⟩,⟨tB HB⟩⟩
  ·
   have c3b0:decide ((l0.length:Int) < 1) = false:=decide_eq_false c3;have c3b1:decide (l0.length < 1) = false:=decide_eq_false (by omega);clear c3
   (first | rw [c3b0] | (simp only [i64_w,i32_w];rw [c3b0]) | skip)
   have H':=am H;clear H;go_wp2
   go_meet
   case rel => exact ⟨_,(decide ((l0.length:Int) > 65)),tV1,H',⟨tU⟩,⟨tB HB⟩⟩
 case rest =>
  clear HC2;obtain ⟨kq,x12_1,rfl,HA,HJ1,HB⟩:=hcut
  cases kq with
  | zero => exact absurd HA.out (by simp [Z02.j0])
  | succ kj1 =>
   have H:=HA.out;clear HA;simp only [Z02.j0] at H
   replace H:=iT H;obtain ⟨rfl,H⟩ | ⟨rfl,H⟩:=H
   ·
    exact Zg0
   ·
    have H':=am H;clear H;go_wp2
    go_loopg [15] kj1 (fun kq v15 w' => ∃ (x15_2:Int),v15 = .int .i64 x15_2 ∧ Aside0 (Z02.l0 kq l0 l0 (l0.length:Int) x15_2 = some r) ∧ Aside0 (kq ≤ kj1) ∧ Aside0 (Below w.heap.size w w'))
    case atStart => exact ⟨(0),tV1,H',⟨Nat.le_refl _⟩,⟨tB HB⟩⟩
    case round =>
     clear H';(try clear c4);obtain ⟨x15_2,rfl,HA,HK2,HB⟩:=hrel
     cases gk with
     | zero => exact absurd HA.out (by simp [Z02.l0])
     | succ k2 =>
      have H:=HA.out;clear HA;simp only [Z02.l0] at H
      replace H:=iF H;obtain ⟨c5,H⟩ | ⟨c5,H⟩:=H;rotate_left
      ·
       have c5b0:decide (x15_2 < (l0.length:Int)) = false:=decide_eq_false c5;clear c5;exact Zg0
      have c5b0:decide (x15_2 < (l0.length:Int)) = true:=decide_eq_true c5;clear c5;replace H:=iFn H;obtain ⟨c6,H⟩:=H;have c6b0:decide (0 ≤ x15_2) = true:=decide_eq_true c6;clear c6;replace H:=iFn H;obtain ⟨c7,H⟩:=H;have c7b0:decide (x15_2 < (l0.length:Int)) = true:=decide_eq_true c7;clear c7
      replace H:=iF H;obtain ⟨c8,H⟩ | ⟨c8,H⟩:=H
      ·
       have c8b0:decide (((Z0v l0 x15_2).f0) ≤ 32) = true:=decide_eq_true c8;clear c8;have mk2_:=trivial;exact Z9n
      ·
       have c8b0:decide (((Z0v l0 x15_2).f0) ≤ 32) = false:=decide_eq_false c8;clear c8;replace H:=bI H;obtain ⟨t116,A13,H⟩:=H;(try dsimp only at H)
       replace H:=iT H;obtain ⟨rfl,H⟩ | ⟨rfl,H⟩:=H
       ·
        have c15b0:=eq_true (oD:0 ≤ x15_2);replace H:=iFn H;obtain ⟨c16,H⟩:=H;have c16b0:=eq_true c16;have c16b1:decide (x15_2 ≤ (l0.length:Int)) = true:=decide_eq_true c16;clear c16;obtain ⟨y117,hy117⟩:∃ y_:List (S68),y_ = (l0.take (x15_2:Int).toNat):=⟨_,rfl⟩
        replace H:((Z12.f k2 y117 ((Z0v l0 x15_2).f0)).bind fun t121 => (if t121 = true then (some false) else (Z02.l0 k2 l0 l0 (l0.length:Int) (wrap64 (x15_2 + 1))))) = some r:=by first | (rw [hy117];with_reducible exact H) | (have H2_:=(Option.bind_some _ _).symm.trans H;rw [hy117];with_reducible exact H2_) | (have H2_:=(Option.bind_some _ _).symm.trans H;with_reducible exact H2_) | with_reducible exact H | (rw [hy117];exact H) | exact H
        have Ny117:=am hy117;clear hy117;replace H:=bI H;obtain ⟨t121,A17,H⟩:=H;(try dsimp only at H)
        replace H:=iT H;obtain ⟨rfl,H⟩ | ⟨rfl,H⟩:=H
        ·
         have mk0_:=trivial;exact Z9n
        ·
         have H':=am H;clear H;have p114:0 ≤ (x15_2:Int):=oD;have q114:x15_2 < (l0.length:Int):=oD;obtain ⟨ad114,e114,hx114_0,hx114_1⟩:=Z3s HR0.out x15_2 p114 q114;cases e114;replace hx114_0:=celB HB hx114_0;replace hx114_1:=celB HB hx114_1;replace p114:=eq_true p114;replace q114:=eq_true q114
         try go_wp2_with (first | ((with_reducible refine gate_dst (N:=4) rfl ?_);(try (refine gate_guard (by rfl) ?_;dsimp only));refine box_event ?hg (N:=4) ?hd (cs:=#[.int .i32 0,.int .u32 0]) (t:=68) ?hr ?_;(case hd => rfl);(case hg => rfl);(case hr => exact Gc5);intro gb115 hg w25 hbox hb;have n0_:=am (below_step (tB HB) hb);have n1_:=am (hbox);have n2_:=tZ hg (tS HB);have n3_:=tZ hg (tS HB);revert n0_ n1_ n2_ n3_;clear HB;intro HB BK115 GW115 GE115;clear hb hbox hg;have hcz26_0:=cel2 BK115 0 rfl;have hcz26_1:=cel2 BK115 1 rfl;have hfz26_0:=blk_frozen BK115.out 0;have hfz26_1:=blk_frozen BK115.out 1))
         have n0_:Aside0 (((w25.setCell ⟨gb115,0,none⟩ (.int .i32 ((Z0v l0 x15_2).f0))).setCell ⟨gb115,1,none⟩ (.int .u32 ((Z0v l0 x15_2).f1))).heap[gb115]? = some (.cells #[.int .i32 ((Z0v l0 x15_2).f0),.int .u32 ((Z0v l0 x15_2).f1)] 68 (0,0))):=⟨tKp BK115⟩;have n1_:Aside0 (Below w.heap.size w ((w25.setCell ⟨gb115,0,none⟩ (.int .i32 ((Z0v l0 x15_2).f0))).setCell ⟨gb115,1,none⟩ (.int .u32 ((Z0v l0 x15_2).f1)))):=⟨tB HB⟩
         (try clear BK115);(try clear HB)
         generalize ((w25.setCell ⟨gb115,0,none⟩ (.int .i32 ((Z0v l0 x15_2).f0))).setCell ⟨gb115,1,none⟩ (.int .u32 ((Z0v l0 x15_2).f1))) = w27 at n0_ n1_ ⊢;have BK115:=n0_;have HB:=n1_;clear n0_ n1_;have n0_:=am (blk_drew BK115.out);have n1_:=am (below_drew1 HB.out);revert n0_ n1_;clear BK115 HB;intro BK115 HB
         refine start_ (n:=17) (S:=fun w' => w'.cell? ⟨gb115,0,none⟩ = some (.int .i32 ((Z0v l0 x15_2).f0)) ∧ w'.cell? ⟨gb115,1,none⟩ = some (.int .u32 ((Z0v l0 x15_2).f1))) (ds:=[]) #[false,false,false,false,false,false,false,false,false,false,false,false,false,false,false,false,false] (by kernel_rfl) rfl rfl ⟨(blk_cell BK115.out 0).trans rfl,(blk_cell BK115.out 1).trans rfl⟩ (fun hHeld => ?_);refine with_tabW Z02.tab6 Z02.bits6 (fun HT_ HW_ => ?_)
         generalize w27.drew = w28 at BK115 HB hHeld ⊢
         refine pT 0 20 ?_
         refine tTt 1 21 hHeld ?_
         refine pT 2 22 ?_
         refine pT 3 23 ?_
         refine pT 4 24 ?_
         refine tTt 5 25 hHeld ?_
         refine one_ (i:=6) (N:=some 26) #[true,true,true,true,true,true,true,false,false,false,false,false,false,false,false,false,false] rfl rfl (one_of HT_.out (by kernel_rfl)) (by decide) (fun K hK => ?_)
         refine goes_ Tryz.func66 (by kernel_rfl) rfl #[.int .i32 ((Z0v l0 x15_2).f0)] (by rfl) rfl rfl Gc2 ?_
         with_reducible refine (Z1b.calls k2 ((Z0v l0 x15_2).f0) true _ A13.out).mono ?_
         rintro e w' ⟨rfl,⟨nd,rfl⟩⟩
         refine ⟨_,rfl,?_⟩
         have q29:(x15_2:Int) ≤ ((l0.length:Int):Int):=oD;obtain ⟨i029,hi029,_,hsz29,_⟩:=info_parts Z7c;have hroom29:l0.length ≤ c0:=HC0.out;have hC29:Kd.C k68 _ (some ad114) l0.length l0:=HR0.out;have hcut29:=cut_to (P:=Tryz.prog) 128 68 .i64 Tryz.underlying128 hi029 (some ad114) l0.length c0 x15_2 (oD) q29 hroom29;have hr29:=Kd.C_take (m:=(x15_2:Int).toNat) hC29 (by omega);have hy29:y117.length = (x15_2:Int).toNat:=(by rw [Ny117.out,List.length_take];omega);rw [← Ny117.out] at hr29;rw [← hy29] at hcut29;have HR120:=am hr29;have HC120:=am (show y117.length ≤ c0 from by omega);clear hr29 hC29 hroom29 hi029 hsz29;have KY29:=am hy29;clear hy29;replace q29:=eq_true q29
         refine hK.out _ _ ⟨(blk_cell BK115.out 0).trans rfl,(blk_cell BK115.out 1).trans rfl⟩ (fun hHeld => ?_)
         clear hK K
         refine nR 26 ?_
         refine pT 7 27 ?_
         refine pT 8 28 ?_
         refine pT 9 29 ?_
         refine pT 10 30 ?_
         refine pT 11 31 ?_
         refine pT 12 32 ?_
         refine pT 13 33 ?_
         refine tTt 14 34 hHeld ?_
         refine one_ (i:=15) (N:=some 35) #[true,true,true,true,true,true,true,true,true,true,true,true,true,true,true,true,false] rfl rfl (one_of HT_.out (by kernel_rfl)) (by decide) (fun K hK => ?_)
         refine goes_ Tryz.func69 (by kernel_rfl) rfl #[.slice (some ad114) y117.length c0,.int .i32 ((Z0v l0 x15_2).f0)] (by rfl) rfl rfl Gc2 ?_
         with_reducible refine (Z12.calls k2 _ _ y117 ((Z0v l0 x15_2).f0) false _ ?s1 ?s2 A17.out).mono ?_
         (case s1 => repeat (first | exact (Kd.C_below HR120.out (tB HB)) | (with_reducible refine Kd.C_alloc ?_ _) | (with_reducible refine Kd.C_drewN ?_ _) | (with_reducible refine Kd.C_drew ?_)));(case s2 => exact HC120.out);rintro e w30 ⟨rfl,hb⟩
         refine ⟨_,rfl,?_⟩
         have n0_:=am (blk_below (tK BK115) hb);have n1_:=am (below_step (tB HB) hb);revert n0_ n1_;clear BK115 HB;intro BK115 HB;(try clear hb)
         refine hK.out _ _ ⟨(blk_cell BK115.out 0).trans rfl,(blk_cell BK115.out 1).trans rfl⟩ (fun hHeld => ?_)
         clear hK K
         refine nR 35 ?_
         refine pT 16 36 ?_
         refine done_ (done_of HT_.out (by kernel_rfl)) ?_
         try go_wp2
         go_roundg k2
         case measure => have:=HJ1.out;have:=HK2.out;omega
         case rel => exact ⟨(wrap64 (x15_2 + 1)),tV1,H',⟨by have:=HJ1.out;have:=HK2.out;omega⟩,⟨tB HB⟩⟩
       ·
        have mk1_:=trivial;exact Z9n
end Go.Proofs.YtfbhdjflkaldgaaGreatDoor.Pr
