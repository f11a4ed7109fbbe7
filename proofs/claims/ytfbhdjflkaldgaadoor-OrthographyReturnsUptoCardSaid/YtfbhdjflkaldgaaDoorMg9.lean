/- Several texts in one: PrF90, PrF94, PrF91, PrF66, RewW, PrF63, PrF65. -/
import Derived.Test.YtfbhdjflkaldgaaDoorMg1
import Derived.Test.YtfbhdjflkaldgaaDoorCt
import Derived.Test.YtfbhdjflkaldgaaDoorMg7
import Derived.Test.YtfbhdjflkaldgaaDoorMg8
import Derived.Test.YtfbhdjflkaldgaaDoorMg3
import Derived.Test.YtfbhdjflkaldgaaDoorMg5
/- rewrite: has, consists, isWord. -/
namespace Go.Proofs.YtfbhdjflkaldgaaDoor.Pr
open Go.Proofs.YtfbhdjflkaldgaaDoor.Ct Go.RowKit Go.Proofs.YtfbhdjflkaldgaaDoorW.PrintWords Go.Proofs.YtfbhdjflkaldgaaDoorW.PrintLast Go.Proofs.YtfbhdjflkaldgaaDoorW.PrintMore
attribute [local go_sem] max2_int min2_int max_two min_two max_three min_three max_four min_four
set_option linter.unusedVariables false
set_option linter.unusedSimpArgs false
def rewrite_follows.f (k : Nat) (l0 : List (S80)) (a1_0 : Int) (a1_1 : ByteArray) (l1_2 : List (S82)) (l1_3 : List (S82)) (a1_4 : Bool) (a1_5 : Bool) (a2 : ByteArray) : Option (Bool) := if a1_4 = true then ((pattern_Matches.f l0 l1_2 a2).bind fun t169 => (some t169)) else ((pattern_Suffixes.f k l0 l1_2 a2).bind fun t170 => (some (decide ((t170.length : Int) > 0))))
theorem LPrF90x1 {p : Prop} (h : p := by
  go_ret
  exact ⟨tE, by repeat (first | (with_reducible first | exact HB.out | apply below_alloc | apply pw_below_drewN | apply below_drew1 | refine below_set ?_ GE168.out) | exact HB.out)⟩) : p := h
set_option maxHeartbeats 8000000 in
set_option maxRecDepth 100000 in
theorem rewrite_follows.calls (k : Nat) (A0 : Option Addr) (c0 : Nat) (l0 : List (S80)) (a1_0 : Int) (a1_1 : ByteArray) (A1_2 : Option Addr) (c1_2 : Nat) (l1_2 : List (S82)) (A1_3 : Option Addr) (c1_3 : Nat) (l1_3 : List (S82)) (a1_4 : Bool) (a1_5 : Bool) (a2 : ByteArray) (r : Bool) (w : World) (hT : Tabs w) (hr0 : Kd.C k80 w A0 l0.length l0) (hc0 : l0.length ≤ c0) (hr1_2 : Kd.C k82 w A1_2 l1_2.length l1_2) (hc1_2 : l1_2.length ≤ c1_2) (hr1_3 : Kd.C k82 w A1_3 l1_3.length l1_3) (hc1_3 : l1_3.length ≤ c1_3) (h : rewrite_follows.f k l0 a1_0 a1_1 l1_2 l1_3 a1_4 a1_5 a2 = some r) :
 Calls Tryd.prog 90 #[.slice A0 l0.length c0, .agg #[.int .i32 a1_0, .string a1_1, .slice A1_2 l1_2.length c1_2, .slice A1_3 l1_3.length c1_3, .bool a1_4, .bool a1_5], .string a2] w fun e w' => e = .returned (.bool r) ∧ Below w.heap.size w w' := by
 have HT := Aside0.mk hT
 clear hT
 have hu85 := Tryd.underlying85
 have HR0 := Aside0.mk hr0
 have HC0 := Aside0.mk hc0
 clear hr0 hc0
 have HR1_2 := Aside0.mk hr1_2
 have HC1_2 := Aside0.mk hc1_2
 clear hr1_2 hc1_2
 have HR1_3 := Aside0.mk hr1_3
 have HC1_3 := Aside0.mk hc1_3
 clear hr1_3 hc1_3
 have HB := Aside0.mk (Below.refl w.heap.size w)
 have H : (if a1_4 = true then ((pattern_Matches.f l0 l1_2 a2).bind fun t169 => (some t169)) else ((pattern_Suffixes.f k l0 l1_2 a2).bind fun t170 => (some (decide ((t170.length : Int) > 0))))) = some r := h
 clear h
 replace H := iT H; obtain ⟨rfl, H⟩ | ⟨rfl, H⟩ := H
 ·
  replace H := bI H; obtain ⟨t169, A5, H⟩ := H; (try dsimp only at H)
  obtain rfl := Option.some.inj H
  go_enter Tryd.func90, Tryd.ntmps90
  go_wp2_with (first | ((with_reducible refine gate_dst (N := 4) rfl ?_); refine box_event ?hg (N := 4) ?hd (cs := #[.int .i32 a1_0, .string a1_1, .slice A1_2 l1_2.length c1_2, .slice A1_3 l1_3.length c1_3, .bool true, .bool a1_5]) (t := 85) ?hr ?_; (case hd => rfl); (case hg => rfl); (case hr => exact Gc6); intro gb168 hg w6 hbox hb; have n0_ := Aside0.mk (below_step (tB HB) hb); have n1_ := Aside0.mk (hbox); have n2_ := tZ hg (tS HB); have n3_ := tZ hg (tS HB); revert n0_ n1_ n2_ n3_; clear HB; intro HB BK168 GW168 GE168; clear hb hbox hg; have hcz7_0 := cel2 BK168 0 rfl; have hcz7_1 := cel2 BK168 1 rfl; have hcz7_2 := cel2 BK168 2 rfl; have hcz7_3 := cel2 BK168 3 rfl; have hcz7_4 := cel2 BK168 4 rfl; have hcz7_5 := cel2 BK168 5 rfl; have hfz7_0 := blk_frozen BK168.out 0; have hfz7_1 := blk_frozen BK168.out 1; have hfz7_2 := blk_frozen BK168.out 2; have hfz7_3 := blk_frozen BK168.out 3; have hfz7_4 := blk_frozen BK168.out 4; have hfz7_5 := blk_frozen BK168.out 5) | ((with_reducible refine gate_callee (f := 92) rfl ?_); refine goesL_ (some 13) rfl rfl Tryd.func92 (by kernel_rfl) rfl #[.slice A0 l0.length c0, .slice A1_2 l1_2.length c1_2, .string a2] rfl Gc2 ?_; (with_reducible refine (pattern_Matches.calls _ _ l0 _ _ l1_2 a2 t169 _ ?sT (tC HR0 HB) HC0.out (tC HR1_2 HB) HC1_2.out A5.out).mono ?_); (case sT => exact Gc1); rintro e w8 ⟨rfl, hb⟩; refine ⟨_, rfl, ?_⟩; have n0_ := Aside0.mk (blk_below (tK BK168) hb); have n1_ := Aside0.mk (below_step (tB HB) hb); revert n0_ n1_; clear BK168 HB; intro BK168 HB; (try clear hb); (try clear hb2); (try clear hk); (try clear hi)))
  exact LPrF90x1
 ·
  replace H := bI H; obtain ⟨t170, A9, H⟩ := H; (try dsimp only at H)
  obtain rfl := Option.some.inj H
  go_enter Tryd.func90, Tryd.ntmps90
  go_wp2_with (first | ((with_reducible refine gate_dst (N := 4) rfl ?_); refine box_event ?hg (N := 4) ?hd (cs := #[.int .i32 a1_0, .string a1_1, .slice A1_2 l1_2.length c1_2, .slice A1_3 l1_3.length c1_3, .bool false, .bool a1_5]) (t := 85) ?hr ?_; (case hd => rfl); (case hg => rfl); (case hr => exact Gc6); intro gb168 hg w10 hbox hb; have n0_ := Aside0.mk (below_step (tB HB) hb); have n1_ := Aside0.mk (hbox); have n2_ := tZ hg (tS HB); have n3_ := tZ hg (tS HB); revert n0_ n1_ n2_ n3_; clear HB; intro HB BK168 GW168 GE168; clear hb hbox hg; have hcz11_0 := cel2 BK168 0 rfl; have hcz11_1 := cel2 BK168 1 rfl; have hcz11_2 := cel2 BK168 2 rfl; have hcz11_3 := cel2 BK168 3 rfl; have hcz11_4 := cel2 BK168 4 rfl; have hcz11_5 := cel2 BK168 5 rfl; have hfz11_0 := blk_frozen BK168.out 0; have hfz11_1 := blk_frozen BK168.out 1; have hfz11_2 := blk_frozen BK168.out 2; have hfz11_3 := blk_frozen BK168.out 3; have hfz11_4 := blk_frozen BK168.out 4; have hfz11_5 := blk_frozen BK168.out 5) | ((with_reducible refine gate_callee (f := 93) rfl ?_); refine goesL_ (some 18) rfl rfl Tryd.func93 (by kernel_rfl) rfl #[.slice A0 l0.length c0, .slice A1_2 l1_2.length c1_2, .string a2] rfl Gc2 ?_; (with_reducible refine (pattern_Suffixes.calls k _ _ l0 _ _ l1_2 a2 t170 _ ?sT (tC HR0 HB) HC0.out (tC HR1_2 HB) HC1_2.out A9.out).mono ?_); (case sT => exact Gc1); rintro e w12 ⟨v171, rfl, ho0, hb⟩; refine ⟨_, rfl, ?_⟩; have n0_ := Aside0.mk (Kd.R_lower ho0 (tS HB)); have n1_ := Aside0.mk (blk_below (tK BK168) hb); have n2_ := Aside0.mk (below_step (tB HB) hb); revert n0_ n1_ n2_; clear BK168 HB; intro HO172 BK168 HB; (try clear hb); (try clear hb2); (try clear hk); (try clear hi); (try clear ho0); obtain ⟨Ao13, co13, eo13⟩ := Kd.R_slice HO172.out; subst eo13))
  exact LPrF90x1
def pattern_Prefixes.f (l0 : List (S80)) (l1 : List (S82)) (a2 : ByteArray) : Option (List Int) := (pattern_read.f l0 l1 a2).bind fun bt173 => (if bt173.2 = true then ((pattern_lengths.f l0 l1 bt173.1).bind fun t177 => (some t177)) else (some ([] : List Int)))
set_option maxHeartbeats 8000000 in
set_option maxRecDepth 100000 in
theorem pattern_Prefixes.calls (A0 : Option Addr) (c0 : Nat) (l0 : List (S80)) (A1 : Option Addr) (c1 : Nat) (l1 : List (S82)) (a2 : ByteArray) (r : List Int) (w : World) (hT : Tabs w) (hr0 : Kd.C k80 w A0 l0.length l0) (hc0 : l0.length ≤ c0) (hr1 : Kd.C k82 w A1 l1.length l1) (hc1 : l1.length ≤ c1) (h : pattern_Prefixes.f l0 l1 a2 = some r) :
 Calls Tryd.prog 94 #[.slice A0 l0.length c0, .slice A1 l1.length c1, .string a2] w fun e w' => ∃ v0_ : Value, e = .returned (v0_) ∧ Kd.R (Kd.int .i64) 3 w' w.heap.size (fun _ => True) v0_ r ∧ Below w.heap.size w w' := by
 have HT := Aside0.mk hT
 clear hT
 have HR0 := Aside0.mk hr0
 have HC0 := Aside0.mk hc0
 clear hr0 hc0
 have HR1 := Aside0.mk hr1
 have HC1 := Aside0.mk hc1
 clear hr1 hc1
 have HB := Aside0.mk (Below.refl w.heap.size w)
 have H : ((pattern_read.f l0 l1 a2).bind fun bt173 => (if bt173.2 = true then ((pattern_lengths.f l0 l1 bt173.1).bind fun t177 => (some t177)) else (some ([] : List Int)))) = some r := h
 clear h
 replace H := bI H; obtain ⟨⟨t173, t174⟩, A4, H⟩ := H; (try dsimp only at H)
 replace H := iT H; obtain ⟨rfl, H⟩ | ⟨rfl, H⟩ := H
 ·
  replace H := bI H; obtain ⟨t177, A6, H⟩ := H; (try dsimp only at H)
  obtain rfl := Option.some.inj H
  go_enter Tryd.func94, Tryd.ntmps94
  go_wp2_with (first | ((with_reducible refine gate_callee (f := 95) rfl ?_); refine goesL_ (some 13) rfl rfl Tryd.func95 (by kernel_rfl) rfl #[.slice A0 l0.length c0, .slice A1 l1.length c1, .string a2] rfl Gc2 ?_; (with_reducible refine (pattern_read.calls _ _ l0 _ _ l1 a2 t173 true _ ?sT ?s1 HC0.out ?s3 HC1.out A4.out).mono ?_); (case sT => exact Gc1); (case s1 => exact Gc5); (case s3 => exact Gc8); rintro e w7 ⟨v175, rfl, ho0, hb⟩; refine ⟨_, rfl, ?_⟩; have n0_ := Aside0.mk (Kd.R_lower ho0 (tS HB)); have n1_ := Aside0.mk (below_step (tB HB) hb); revert n0_ n1_; clear HB; intro HO176 HB; (try clear hb); (try clear hb2); (try clear hk); (try clear hi); (try clear ho0); obtain ⟨Ao8, co8, eo8⟩ := Kd.R_slice HO176.out; subst eo8) | ((with_reducible refine gate_callee (f := 96) rfl ?_); refine goesL_ (some 21) rfl rfl Tryd.func96 (by kernel_rfl) rfl #[.slice A0 l0.length c0, .slice A1 l1.length c1, .slice Ao8 t173.length co8] rfl Gc2 ?_; (with_reducible refine (pattern_lengths.calls _ _ l0 _ _ l1 _ _ t173 t177 _ (tC HR0 HB) HC0.out (tC HR1 HB) HC1.out ?s5 ?s6 A6.out).mono ?_); (case s5 => repeat (first | exact (Kd.R_reads' HO176.out).2.2 | (with_reducible refine Kd.C_alloc ?_ _) | (with_reducible refine Kd.C_drewN ?_ _) | (with_reducible refine Kd.C_drew ?_))); (case s6 => exact (Kd.R_reads' HO176.out).2.1); rintro e w9 ⟨v178, rfl, ho0, hb⟩; refine ⟨_, rfl, ?_⟩; have n0_ := Aside0.mk (Kd.R_elder' (dR HO176) (Kd.R_base ho0) hb); have n1_ := Aside0.mk (Kd.R_lower (Kd.R_new' ho0 (Kd.R_lt (dR HO176))) (tS HB)); have n2_ := Aside0.mk (below_step (tB HB) hb); revert n0_ n1_ n2_; clear HO176 HB; intro HO176 HO179 HB; (try clear hb); (try clear hb2); (try clear hk); (try clear hi); (try clear ho0)))
  go_ret
  exact ⟨_, tE, by (with_reducible repeat (first | apply Kd.R_alloc | apply Kd.R_drewN | apply Kd.R_drew)); exact Kd.R_mono HO179.out (fun _ hk => trivial), by repeat (first | (with_reducible first | exact HB.out | apply below_alloc | apply pw_below_drewN | apply below_drew1) | exact HB.out)⟩
 ·
  obtain rfl := Option.some.inj H
  go_enter Tryd.func94, Tryd.ntmps94
  go_wp2_with (first | ((with_reducible refine gate_callee (f := 95) rfl ?_); refine goesL_ (some 13) rfl rfl Tryd.func95 (by kernel_rfl) rfl #[.slice A0 l0.length c0, .slice A1 l1.length c1, .string a2] rfl Gc2 ?_; (with_reducible refine (pattern_read.calls _ _ l0 _ _ l1 a2 t173 false _ ?sT ?s1 HC0.out ?s3 HC1.out A4.out).mono ?_); (case sT => exact Gc1); (case s1 => exact Gc5); (case s3 => exact Gc8); rintro e w10 ⟨v175, rfl, ho0, hb⟩; refine ⟨_, rfl, ?_⟩; have n0_ := Aside0.mk (Kd.R_lower ho0 (tS HB)); have n1_ := Aside0.mk (below_step (tB HB) hb); revert n0_ n1_; clear HB; intro HO176 HB; (try clear hb); (try clear hb2); (try clear hk); (try clear hi); (try clear ho0)))
  go_ret
  exact ⟨_, tE, by first | exact Kd.R_nil _ _ _ _ _ | exact Kd.N_nil _ _ _ _ _ | exact Kd.V_nil _ _ _ _ _ | exact Kd.Q_nil _ _ _ _ _ | exact Kd.S_nil _ _ _ _ _, by repeat (first | (with_reducible first | exact HB.out | apply below_alloc | apply pw_below_drewN | apply below_drew1) | exact HB.out)⟩
def rewrite_precedes.f (l0 : List (S80)) (a1_0 : Int) (a1_1 : ByteArray) (l1_2 : List (S82)) (l1_3 : List (S82)) (a1_4 : Bool) (a1_5 : Bool) (a2 : ByteArray) : Option (Bool) := if a1_5 = true then ((pattern_Matches.f l0 l1_3 a2).bind fun t181 => (some t181)) else ((pattern_Prefixes.f l0 l1_3 a2).bind fun t182 => (some (decide ((t182.length : Int) > 0))))
theorem LPrF91x1 {p : Prop} (h : p := by
  go_ret
  exact ⟨tE, by repeat (first | (with_reducible first | exact HB.out | apply below_alloc | apply pw_below_drewN | apply below_drew1 | refine below_set ?_ GE180.out) | exact HB.out)⟩) : p := h
set_option maxHeartbeats 8000000 in
set_option maxRecDepth 100000 in
theorem rewrite_precedes.calls (A0 : Option Addr) (c0 : Nat) (l0 : List (S80)) (a1_0 : Int) (a1_1 : ByteArray) (A1_2 : Option Addr) (c1_2 : Nat) (l1_2 : List (S82)) (A1_3 : Option Addr) (c1_3 : Nat) (l1_3 : List (S82)) (a1_4 : Bool) (a1_5 : Bool) (a2 : ByteArray) (r : Bool) (w : World) (hT : Tabs w) (hr0 : Kd.C k80 w A0 l0.length l0) (hc0 : l0.length ≤ c0) (hr1_2 : Kd.C k82 w A1_2 l1_2.length l1_2) (hc1_2 : l1_2.length ≤ c1_2) (hr1_3 : Kd.C k82 w A1_3 l1_3.length l1_3) (hc1_3 : l1_3.length ≤ c1_3) (h : rewrite_precedes.f l0 a1_0 a1_1 l1_2 l1_3 a1_4 a1_5 a2 = some r) :
 Calls Tryd.prog 91 #[.slice A0 l0.length c0, .agg #[.int .i32 a1_0, .string a1_1, .slice A1_2 l1_2.length c1_2, .slice A1_3 l1_3.length c1_3, .bool a1_4, .bool a1_5], .string a2] w fun e w' => e = .returned (.bool r) ∧ Below w.heap.size w w' := by
 have HT := Aside0.mk hT
 clear hT
 have hu85 := Tryd.underlying85
 have HR0 := Aside0.mk hr0
 have HC0 := Aside0.mk hc0
 clear hr0 hc0
 have HR1_2 := Aside0.mk hr1_2
 have HC1_2 := Aside0.mk hc1_2
 clear hr1_2 hc1_2
 have HR1_3 := Aside0.mk hr1_3
 have HC1_3 := Aside0.mk hc1_3
 clear hr1_3 hc1_3
 have HB := Aside0.mk (Below.refl w.heap.size w)
 have H : (if a1_5 = true then ((pattern_Matches.f l0 l1_3 a2).bind fun t181 => (some t181)) else ((pattern_Prefixes.f l0 l1_3 a2).bind fun t182 => (some (decide ((t182.length : Int) > 0))))) = some r := h
 clear h
 replace H := iT H; obtain ⟨rfl, H⟩ | ⟨rfl, H⟩ := H
 ·
  replace H := bI H; obtain ⟨t181, A5, H⟩ := H; (try dsimp only at H)
  obtain rfl := Option.some.inj H
  go_enter Tryd.func91, Tryd.ntmps91
  go_wp2_with (first | ((with_reducible refine gate_dst (N := 4) rfl ?_); refine box_event ?hg (N := 4) ?hd (cs := #[.int .i32 a1_0, .string a1_1, .slice A1_2 l1_2.length c1_2, .slice A1_3 l1_3.length c1_3, .bool a1_4, .bool true]) (t := 85) ?hr ?_; (case hd => rfl); (case hg => rfl); (case hr => exact Gc6); intro gb180 hg w6 hbox hb; have n0_ := Aside0.mk (below_step (tB HB) hb); have n1_ := Aside0.mk (hbox); have n2_ := tZ hg (tS HB); have n3_ := tZ hg (tS HB); revert n0_ n1_ n2_ n3_; clear HB; intro HB BK180 GW180 GE180; clear hb hbox hg; have hcz7_0 := cel2 BK180 0 rfl; have hcz7_1 := cel2 BK180 1 rfl; have hcz7_2 := cel2 BK180 2 rfl; have hcz7_3 := cel2 BK180 3 rfl; have hcz7_4 := cel2 BK180 4 rfl; have hcz7_5 := cel2 BK180 5 rfl; have hfz7_0 := blk_frozen BK180.out 0; have hfz7_1 := blk_frozen BK180.out 1; have hfz7_2 := blk_frozen BK180.out 2; have hfz7_3 := blk_frozen BK180.out 3; have hfz7_4 := blk_frozen BK180.out 4; have hfz7_5 := blk_frozen BK180.out 5) | ((with_reducible refine gate_callee (f := 92) rfl ?_); refine goesL_ (some 13) rfl rfl Tryd.func92 (by kernel_rfl) rfl #[.slice A0 l0.length c0, .slice A1_3 l1_3.length c1_3, .string a2] rfl Gc2 ?_; (with_reducible refine (pattern_Matches.calls _ _ l0 _ _ l1_3 a2 t181 _ ?sT (tC HR0 HB) HC0.out (tC HR1_3 HB) HC1_3.out A5.out).mono ?_); (case sT => exact Gc1); rintro e w8 ⟨rfl, hb⟩; refine ⟨_, rfl, ?_⟩; have n0_ := Aside0.mk (blk_below (tK BK180) hb); have n1_ := Aside0.mk (below_step (tB HB) hb); revert n0_ n1_; clear BK180 HB; intro BK180 HB; (try clear hb); (try clear hb2); (try clear hk); (try clear hi)))
  exact LPrF91x1
 ·
  replace H := bI H; obtain ⟨t182, A9, H⟩ := H; (try dsimp only at H)
  obtain rfl := Option.some.inj H
  go_enter Tryd.func91, Tryd.ntmps91
  go_wp2_with (first | ((with_reducible refine gate_dst (N := 4) rfl ?_); refine box_event ?hg (N := 4) ?hd (cs := #[.int .i32 a1_0, .string a1_1, .slice A1_2 l1_2.length c1_2, .slice A1_3 l1_3.length c1_3, .bool a1_4, .bool false]) (t := 85) ?hr ?_; (case hd => rfl); (case hg => rfl); (case hr => exact Gc6); intro gb180 hg w10 hbox hb; have n0_ := Aside0.mk (below_step (tB HB) hb); have n1_ := Aside0.mk (hbox); have n2_ := tZ hg (tS HB); have n3_ := tZ hg (tS HB); revert n0_ n1_ n2_ n3_; clear HB; intro HB BK180 GW180 GE180; clear hb hbox hg; have hcz11_0 := cel2 BK180 0 rfl; have hcz11_1 := cel2 BK180 1 rfl; have hcz11_2 := cel2 BK180 2 rfl; have hcz11_3 := cel2 BK180 3 rfl; have hcz11_4 := cel2 BK180 4 rfl; have hcz11_5 := cel2 BK180 5 rfl; have hfz11_0 := blk_frozen BK180.out 0; have hfz11_1 := blk_frozen BK180.out 1; have hfz11_2 := blk_frozen BK180.out 2; have hfz11_3 := blk_frozen BK180.out 3; have hfz11_4 := blk_frozen BK180.out 4; have hfz11_5 := blk_frozen BK180.out 5) | ((with_reducible refine gate_callee (f := 94) rfl ?_); refine goesL_ (some 18) rfl rfl Tryd.func94 (by kernel_rfl) rfl #[.slice A0 l0.length c0, .slice A1_3 l1_3.length c1_3, .string a2] rfl Gc2 ?_; (with_reducible refine (pattern_Prefixes.calls _ _ l0 _ _ l1_3 a2 t182 _ ?sT (tC HR0 HB) HC0.out (tC HR1_3 HB) HC1_3.out A9.out).mono ?_); (case sT => exact Gc1); rintro e w12 ⟨v183, rfl, ho0, hb⟩; refine ⟨_, rfl, ?_⟩; have n0_ := Aside0.mk (Kd.R_lower ho0 (tS HB)); have n1_ := Aside0.mk (blk_below (tK BK180) hb); have n2_ := Aside0.mk (below_step (tB HB) hb); revert n0_ n1_ n2_; clear BK180 HB; intro HO184 BK180 HB; (try clear hb); (try clear hb2); (try clear hk); (try clear hi); (try clear ho0); obtain ⟨Ao13, co13, eo13⟩ := Kd.R_slice HO184.out; subst eo13))
  exact LPrF91x1
def rewrite_letters_has.l0 : Nat → Int → List (S80) → Int → Int → Option (Bool)
 | 0, _, _, _, _ => none
 | k + 1, x1, x7, x8, x9 => if x9 < x8 then (if 0 ≤ x9 then (if x9 < (x7.length : Int) then (if ((rd_T80 x7 x9).f0) = x1 then (some true) else (rewrite_letters_has.l0 k x1 x7 x8 (wrap64 (x9 + 1)))) else (none)) else (none)) else (some false)
def rewrite_letters_has.f (k : Nat) (l0 : List (S80)) (a1 : Int) : Option (Bool) := rewrite_letters_has.l0 k a1 l0 (l0.length : Int) 0
theorem LPrF66xh1 {p : Prop} (h : p := by
  have z1_ : 0 ≤ (x9_1 : Int) := oD
  have z2_ : x9_1 < (l0.length : Int) := oD
  obtain ⟨z3_, z4_, z5_, z6_⟩ := at_T80 HR0.out x9_1 z1_ z2_
  cases z4_
  replace z5_ := celB HB z5_
  replace z6_ := celB HB z6_
  replace z1_ := eq_true z1_
  replace z2_ := eq_true z2_
  go_wp2_with (first | ((with_reducible refine gate_dst (N := 6) rfl ?_); refine box_event ?hg (N := 6) ?hd (cs := #[.int .i32 0, .int .u32 0]) (t := 80) ?hr ?_; (case hd => rfl); (case hg => rfl); (case hr => exact Gc6); intro z7_ hg z8_ hbox hb; have z9_ := Aside0.mk (below_step (tB HB) hb); have z10_ := Aside0.mk (hbox); have z11_ := tZ hg (tS HB); have z12_ := tZ hg (tS HB); revert z9_ z10_ z11_ z12_; clear HB; intro HB z13_ z14_ z15_; clear hb hbox hg; have z16_ := cel2 z13_ 0 rfl; have z17_ := cel2 z13_ 1 rfl; have z18_ := blk_frozen z13_.out 0; have z19_ := blk_frozen z13_.out 1))
  first
  | (have mk_ := mk0_
     go_ret
     exact ⟨tE, by repeat (first | (with_reducible first | exact HB.out | apply below_alloc | apply pw_below_drewN | apply below_drew1 | refine below_set ?_ z15_.out) | exact HB.out)⟩)
  | (have mk_ := mk1_
     go_roundg k1
     case measure => have := HK1.out; omega
     case rel => exact ⟨(wrap64 (x9_1 + 1)), tV1, H', ⟨by have := HK1.out; omega⟩, ⟨tB HB⟩⟩)) : p := h
set_option maxHeartbeats 8000000 in
set_option maxRecDepth 100000 in
theorem rewrite_letters_has.calls (k : Nat) (A0 : Option Addr) (c0 : Nat) (l0 : List (S80)) (a1 : Int) (r : Bool) (w : World) (hr0 : Kd.C k80 w A0 l0.length l0) (hc0 : l0.length ≤ c0) (h : rewrite_letters_has.f k l0 a1 = some r) :
 Calls Tryd.prog 66 #[.slice A0 l0.length c0, .int .i32 a1] w fun e w' => e = .returned (.bool r) ∧ Below w.heap.size w w' := by
 have hu80 := Tryd.underlying80
 have HR0 := Aside0.mk hr0
 have HC0 := Aside0.mk hc0
 clear hr0 hc0
 have HB := Aside0.mk (Below.refl w.heap.size w)
 have H : (rewrite_letters_has.l0 k a1 l0 (l0.length : Int) 0) = some r := h
 clear h
 have H' := Aside0.mk H
 clear H
 go_enter Tryd.func66, Tryd.ntmps66
 go_wp2
 go_loopg [9] k (fun kq v9 w' => ∃ (x9_1 : Int), v9 = .int .i64 x9_1 ∧ Aside0 (rewrite_letters_has.l0 kq a1 l0 (l0.length : Int) x9_1 = some r) ∧ Aside0 (kq ≤ k) ∧ Aside0 (Below w.heap.size w w'))
 case atStart => exact ⟨(0), tV1, H', ⟨Nat.le_refl _⟩, ⟨tB HB⟩⟩
 case round =>
  clear H'
  obtain ⟨x9_1, rfl, HA, HK1, HB⟩ := hrel
  cases gk with
  | zero => exact absurd HA.out (by simp [rewrite_letters_has.l0])
  | succ k1 =>
   have H := HA.out
   clear HA
   simp only [rewrite_letters_has.l0] at H
   replace H := iF H; obtain ⟨c3, H⟩ | ⟨c3, H⟩ := H
   ·
    have c3b0 : decide (x9_1 < (l0.length : Int)) = true := decide_eq_true c3
    clear c3
    replace H := iF H; obtain ⟨c4, H⟩ | ⟨c4, H⟩ := H
    ·
     have c4b0 : decide (0 ≤ x9_1) = true := decide_eq_true c4
     clear c4
     replace H := iF H; obtain ⟨c5, H⟩ | ⟨c5, H⟩ := H
     ·
      have c5b0 : decide (x9_1 < (l0.length : Int)) = true := decide_eq_true c5
      clear c5
      replace H := iE H; obtain ⟨-, c6b0, c6b1, H⟩ | ⟨c6, c6b0, c6b1, H⟩ := H
      ·
       obtain rfl := Option.some.inj H
       have mk0_ := trivial
       exact LPrF66xh1
      ·
       have H' := Aside0.mk H
       clear H
       have mk1_ := trivial
       exact LPrF66xh1
     ·
      exact absurd H (by simp)
    ·
     exact absurd H (by simp)
   ·
    have c3b0 : decide (x9_1 < (l0.length : Int)) = false := decide_eq_false c3
    clear c3
    obtain rfl := Option.some.inj H
    go_wp2
    go_ret
    exact ⟨tE, by repeat (first | (with_reducible first | exact HB.out | apply below_alloc | apply pw_below_drewN | apply below_drew1) | exact HB.out)⟩
end Go.Proofs.YtfbhdjflkaldgaaDoor.Pr

namespace Go.Proofs.YtfbhdjflkaldgaaDoor.Pr
open Go.Proofs.YtfbhdjflkaldgaaDoor.Ct Go.RowKit Go.Maps Go.Lib Go.Proofs.YtfbhdjflkaldgaaDoorW.PrintWords Go.Proofs.YtfbhdjflkaldgaaDoorW.PrintLast Go.Proofs.YtfbhdjflkaldgaaDoorW.PrintMore
set_option linter.unusedVariables false
set_option linter.unusedSimpArgs false
theorem has_ev (l : List S80) (r : Int) (hl : l.length ≤ 9223372036854775807) : Ev (fun k => rewrite_letters_has.f k l r) (isL l r) := by
  have key : ∀ d i, l.length - i = d → i ≤ l.length → look l i r = none → Ev (fun k => rewrite_letters_has.l0 k r l (l.length : Int) (i : Int)) (isL l r) := by
    intro d
    induction d with
    | zero =>
      intro i hd hi hn
      obtain rfl : i = l.length := by omega
      refine Ev.step (f := fun _ => some false) (fun k => ?_) ?_
      · simp only [rewrite_letters_has.l0]; rw [if_neg (by omega)]
      · unfold isL; rw [hn]; exact Ev.now _
    | succ d ih =>
      intro i hd hi hn
      have hlt : i < l.length := by omega
      by_cases hr : (rd_T80 l (i : Int)).f0 = r
      · have h1 : look l (i + 1) r = some i := by unfold look; rw [hn]; simp [hr]
        refine Ev.step (f := fun _ => some true) (fun k => ?_) ?_
        · simp only [rewrite_letters_has.l0]; rw [if_pos (by omega), if_pos (by omega), if_pos (by omega), if_pos hr]
        · unfold isL; rw [look_mono l r _ _ h1 l.length (by omega)]; exact Ev.now _
      · refine Ev.step (fun k => ?_) (ih (i + 1) (by omega) (by omega) (by unfold look; rw [hn]; simp [hr]))
        simp only [rewrite_letters_has.l0]; rw [if_pos (by omega), if_pos (by omega), if_pos (by omega), if_neg hr, idx_next hlt hl]
  exact key _ 0 rfl (by omega) rfl
theorem has_calls (A : Option Addr) (c : Nat) (l : List S80) (r : Int) (w : World) (hr0 : Kd.C k80 w A l.length l) (hc0 : l.length ≤ c) :
    Calls Tryd.prog 66 #[.slice A l.length c, .int .i32 r] w fun e w' => e = .returned (.bool (isL l r)) ∧ Below w.heap.size w w' := by
  obtain ⟨k, hk⟩ := (has_ev l r hr0.2.1).rounds
  exact rewrite_letters_has.calls k A c l r _ w hr0 hc0 hk
def consistsP (l : List S80) (s : ByteArray) (n : Nat) : Bool := validD s.data.toList && ((runesS s).all (isL l) && decide ((runesS s).length ≤ n))
set_option maxRecDepth 100000 in
set_option maxHeartbeats 1000000 in
theorem consists_calls (A0 : Option Addr) (c0 : Nat) (l0 : List S80) (a1 : ByteArray) (n : Nat) (w : World) (hT : Tabs w) (hr0 : Kd.C k80 w A0 l0.length l0) (hc0 : l0.length ≤ c0) (hsz : a1.size ≤ 1099511627776) :
    Calls Tryd.prog 67 #[.string a1, .int .i64 (n : Int), .func (.func 66) #[.slice A0 l0.length c0] #[]] w fun e w' => e = .returned (.bool (consistsP l0 a1 n)) ∧ Below w.heap.size w w' := by
  have hv := utf8_ValidString.calls a1 (validD a1.data.toList) w hT Gc21
  obtain ⟨r, hr⟩ : ∃ r, consistsP l0 a1 n = r := ⟨_, rfl⟩
  rw [hr]
  have hR := Aside0.mk hr0
  have hC := Aside0.mk hc0
  have hG := Aside0.mk hsz
  have hr' := Aside0.mk hr
  clear hr0 hc0 hr hsz hT
  cases hvd : validD a1.data.toList with
  | false =>
    rw [hvd] at hv
    obtain rfl : r = false := by rw [← hr'.out]; unfold consistsP; rw [hvd]; rfl
    clear hvd
    go_enter Tryd.func67, Tryd.ntmps67
    go_wp2_with (go_at_call 36; refine hv.mono ?_; clear hv; rintro e w1 ⟨rfl, hB1⟩)
    go_ret
    exact ⟨rfl, hB1⟩
  | true =>
    rw [hvd] at hv
    have hrr := Aside0.mk (show r = ((runesS a1).all (isL l0) && decide ((runesS a1).length ≤ n)) by rw [← hr'.out]; unfold consistsP; rw [hvd, Bool.true_and])
    clear hvd
    go_enter Tryd.func67, Tryd.ntmps67
    go_wp2_with (go_at_call 36; refine hv.mono ?_; clear hv; rintro e w1 ⟨rfl, hB1⟩)
    have hBK : Below w.heap.size w (w1.iter a1 0) := hB1.alloc hB1.size _
    have hBK' := Aside0.mk hBK
    have hs1 := Aside0.mk hB1.size
    clear hBK hB1
    go_loopg [7] a1.size (fun kq v7 w' => ∃ (pos : Nat) (done : List Int), v7 = .int .i64 (done.length : Int) ∧ Aside0 (w'.heap[w1.heap.size]? = some (.stringIter a1 pos)) ∧ Aside0 (a1.size - pos ≤ kq) ∧ Aside0 (done ++ runesAt a1 pos = runesS a1) ∧ Aside0 (done.all (isL l0) = true ∧ done.length ≤ n) ∧ Aside0 (Below w.heap.size w w'))
    case atStart => exact ⟨0, [], rfl, ⟨World.iter_heap w1 a1 0⟩, ⟨by omega⟩, ⟨by rw [runesAt_zero]; rfl⟩, ⟨⟨rfl, Nat.zero_le _⟩⟩, hBK'⟩
    case round =>
      obtain ⟨pos, done, rfl, hit, hq, hdone, hall, HB⟩ := hrel
      by_cases hp : pos < a1.size
      · obtain ⟨g1, rfl⟩ : ∃ g1, gk = g1 + 1 := ⟨gk - 1, by have := hq.out; omega⟩
        have hnx : ∀ ty, (Instr.next (.pointer (some ⟨w1.heap.size, 0, none⟩)) true ty).run Tryd.prog wr = _ := fun ty => run_next_any_at wr w1.heap.size a1 pos ty hit.out hp
        have hst := runesAt_step hp
        have hwd := width_at hp
        obtain ⟨R, hRR⟩ : ∃ R : Int, ((Utf8.decode a1 pos).1 : Int) = R := ⟨_, rfl⟩
        rw [hRR] at hst
        simp only [hRR] at hnx
        obtain ⟨pos2, hp2⟩ : ∃ p2, pos + (Utf8.decode a1 pos).2 = p2 := ⟨_, rfl⟩
        rw [hp2] at hst hnx
        obtain ⟨W1, hW1⟩ : ∃ W1, wr.iterAt w1.heap.size a1 pos2 = W1 := ⟨_, rfl⟩
        have hB1 : Below w.heap.size w W1 := by rw [← hW1]; exact below_iterAt HB.out hs1.out _ _
        have hit1 : W1.heap[w1.heap.size]? = some (.stringIter a1 pos2) := by rw [← hW1]; exact iterAt_heap _ _ _ _ _ hit.out
        simp only [hW1] at hnx
        have hlt : w1.heap.size < W1.heap.size := (Array.getElem?_eq_some_iff.1 hit1).1
        have hdl : done.length + 1 ≤ a1.size := by
          have h1 := congrArg List.length hdone.out
          have h2 := runesS_length a1
          rw [List.length_append, hst, List.length_cons] at h1
          omega
        have hfin : wrap64 ((done.length : Int) + 1) = ((done.length + 1 : Nat) : Int) := idx_next (i := done.length) (n := a1.size) (by omega) (by have := hG.out; omega)
        have hfin' := Aside0.mk hfin
        have hst' := Aside0.mk hst
        have hw' : Aside0 (pos < pos2) := ⟨by omega⟩
        have hB1' := Aside0.mk hB1
        have hit1' := Aside0.mk hit1
        have hlt' := Aside0.mk hlt
        have hhas := has_calls A0 c0 l0 R W1 (Kd.C_below hR.out hB1) hC.out
        obtain ⟨D, hD⟩ : ∃ D, done.length = D := ⟨_, rfl⟩
        rw [hD] at hfin ⊢
        have hD' := Aside0.mk hD
        clear hst hwd hp hB1 hit1 hW1 hp2 hRR hlt hdl hD
        by_cases hn : n ≤ D
        · have hnn : (n : Int) < (D : Int) + 1 := by omega
          obtain rfl : r = false := by
            rw [hrr.out, decide_eq_false, Bool.and_false]
            have h1 := congrArg List.length hdone.out
            rw [List.length_append, hst'.out, List.length_cons, hD'.out] at h1
            omega
          go_wp2
          go_ret
          exact ⟨rfl, hB1'.out⟩
        · have hnn : ¬ ((n : Int) < (D : Int) + 1) := by omega
          cases hL : isL l0 R with
          | false =>
            rw [hL] at hhas
            obtain rfl : r = false := by
              rw [hrr.out, ← hdone.out, List.all_append, hst'.out, List.all_cons, hL]; simp
            clear hL
            go_wp2_with (go_at_call 66; refine hhas.mono ?_; clear hhas; rintro e w5 ⟨rfl, hB5⟩)
            go_ret
            exact ⟨rfl, hB1'.out.trans (hB5.mono hB1'.out.size)⟩
          | true =>
            rw [hL] at hhas
            have hL' := Aside0.mk hL
            clear hL
            go_wp2_with (go_at_call 66; refine hhas.mono ?_; clear hhas; rintro e w5 ⟨rfl, hB5⟩)
            go_roundg g1
            case measure => omega
            case rel =>
              refine ⟨pos2, done ++ [R], ?_, ⟨?_⟩, ⟨by have := hq.out; have := hw'.out; omega⟩, ⟨by rw [List.append_assoc, List.singleton_append, ← hst'.out]; exact hdone.out⟩, ⟨⟨by rw [List.all_append, hall.out.1]; simp [hL'.out], ?_⟩⟩, ⟨hB1'.out.trans (hB5.mono hB1'.out.size)⟩⟩
              · rw [List.length_append, hD'.out]
                first | rfl | (rw [← hfin'.out, hD'.out])
              · exact (hB5.block _ hlt'.out).trans hit1'.out
              · rw [List.length_append, hD'.out]; simp; omega
      · have hnx : ∀ ty, (Instr.next (.pointer (some ⟨w1.heap.size, 0, none⟩)) true ty).run Tryd.prog wr = _ := fun ty => run_next_end_at wr w1.heap.size a1 pos ty hit.out hp
        have hre := runesAt_end hp
        have hd : done = runesS a1 := by rw [← hdone.out, hre, List.append_nil]
        obtain rfl : r = true := by rw [hrr.out, ← hd, hall.out.1, decide_eq_true hall.out.2]; rfl
        clear hre hd hp
        go_wp2
        go_ret
        exact ⟨rfl, HB.out⟩
def rewrite_letters_isWord.f (l0 : List S80) (a1 : ByteArray) : Option Bool := if a1.size ≤ 1099511627776 then some (isWordP l0 a1) else none
set_option maxRecDepth 100000 in
theorem rewrite_letters_isWord.calls (A0 : Option Addr) (c0 : Nat) (l0 : List S80) (a1 : ByteArray) (r : Bool) (w : World) (hT : Tabs w) (hr0 : Kd.C k80 w A0 l0.length l0) (hc0 : l0.length ≤ c0) (h : rewrite_letters_isWord.f l0 a1 = some r) :
    Calls Tryd.prog 85 #[.slice A0 l0.length c0, .string a1] w fun e w' => e = .returned (.bool r) ∧ Below w.heap.size w w' := by
  unfold rewrite_letters_isWord.f at h
  by_cases hg : a1.size ≤ 1099511627776
  · rw [if_pos hg] at h
    obtain rfl := Option.some.inj h
    have hcs := consists_calls A0 c0 l0 a1 40 w hT hr0 hc0 hg
    have hmf : ∀ W (v : Value), (Instr.makeFunc (.func 66) #[v] #[]).run Tryd.prog W = .ok (.func (.func 66) #[v] #[]) W := by intro W v; rfl
    clear hr0 hc0 hT h
    go_enter Tryd.func85, Tryd.ntmps85
    go_wp2_with (go_at_call 67; refine hcs.mono ?_; clear hcs; rintro e w1 ⟨rfl, hB1⟩)
    go_ret
    exact ⟨rfl, hB1⟩
  · rw [if_neg hg] at h; cases h
end Go.Proofs.YtfbhdjflkaldgaaDoor.Pr

namespace Go.Proofs.YtfbhdjflkaldgaaDoor.Pr
open Go.Proofs.YtfbhdjflkaldgaaDoor.Ct Go.RowKit Go.Proofs.YtfbhdjflkaldgaaDoorW.PrintWords Go.Proofs.YtfbhdjflkaldgaaDoorW.PrintLast Go.Proofs.YtfbhdjflkaldgaaDoorW.PrintMore
attribute [local go_sem] max2_int min2_int max_two min_two max_three min_three max_four min_four
set_option linter.unusedVariables false
set_option linter.unusedSimpArgs false
def utf8_ValidRune.j0 : Nat → Int → Bool → Option (Bool)
 | 0, _, _ => none
 | k + 1, x0, x3 => if x3 = true then (some true) else (if 57343 < x0 then (if x0 ≤ 1114111 then (some true) else (some false)) else (some false))
def utf8_ValidRune.f (k : Nat) (a0 : Int) : Option (Bool) := if 0 ≤ a0 then (utf8_ValidRune.j0 k a0 (decide (a0 < 55296))) else (utf8_ValidRune.j0 k a0 false)
theorem LPrF63x1 {p : Prop} (h : p := by
  obtain rfl := Option.some.inj H
  go_wp2
  go_ret
  exact ⟨by first | rfl | (simp; done) | (simp [*]; done), by repeat (first | exact Drawn0.refl _ | apply Drawn0.step)⟩) : p := h
set_option maxHeartbeats 8000000 in
set_option maxRecDepth 100000 in
theorem utf8_ValidRune.calls (k : Nat) (a0 : Int) (r : Bool) (w : World) (h : utf8_ValidRune.f k a0 = some r) :
 Calls Tryd.prog 63 #[.int .i32 a0] w fun e w' => e = .returned (.bool r) ∧ Drawn0 w w' := by
 have H : (if 0 ≤ a0 then (utf8_ValidRune.j0 k a0 (decide (a0 < 55296))) else (utf8_ValidRune.j0 k a0 false)) = some r := h
 clear h
 have HC2 := Aside0.mk H
 clear H
 go_enter Tryd.func63, Tryd.ntmps63
 go_upto_region 1 with (fail)
 go_cut [3] (fun v3 wc => ∃ (kq : Nat) (x3_1 : Bool), v3 = .bool x3_1 ∧ Aside0 (utf8_ValidRune.j0 kq a0 x3_1 = some r) ∧ Aside0 (kq ≤ k) ∧ Drawn0 w wc)
 case first =>
  have H := HC2.out
  clear HC2
  replace H := iF H; obtain ⟨c3, H⟩ | ⟨c3, H⟩ := H
  ·
   have c3b0 : decide (0 ≤ a0) = true := decide_eq_true c3
   clear c3
   (first | rw [c3b0] | (simp only [i64_w, i32_w]; rw [c3b0]) | skip)
   have H' := Aside0.mk H
   clear H
   go_wp2
   go_meet
   case rel => exact ⟨_, (decide (a0 < 55296)), tV1, H', ⟨tU⟩, by repeat (first | exact Drawn0.refl _ | apply Drawn0.step)⟩
  ·
   have c3b0 : decide (0 ≤ a0) = false := decide_eq_false c3
   clear c3
   (first | rw [c3b0] | (simp only [i64_w, i32_w]; rw [c3b0]) | skip)
   have H' := Aside0.mk H
   clear H
   go_wp2
   go_meet
   case rel => exact ⟨_, (false), tV1, H', ⟨tU⟩, by repeat (first | exact Drawn0.refl _ | apply Drawn0.step)⟩
 case rest =>
  clear HC2
  obtain ⟨kq, x3_1, rfl, HA, HJ1, ⟨mc1, rfl⟩⟩ := hcut
  cases kq with
  | zero => exact absurd HA.out (by simp [utf8_ValidRune.j0])
  | succ kj1 =>
   have H := HA.out
   clear HA
   simp only [utf8_ValidRune.j0] at H
   replace H := iT H; obtain ⟨rfl, H⟩ | ⟨rfl, H⟩ := H
   ·
    exact LPrF63x1
   ·
    replace H := iF H; obtain ⟨c5, H⟩ | ⟨c5, H⟩ := H
    ·
     have c5b0 : decide (57343 < a0) = true := decide_eq_true c5
     clear c5
     replace H := iF H; obtain ⟨c6, H⟩ | ⟨c6, H⟩ := H
     ·
      have c6b0 : decide (a0 ≤ 1114111) = true := decide_eq_true c6
      clear c6
      exact LPrF63x1
     ·
      have c6b0 : decide (a0 ≤ 1114111) = false := decide_eq_false c6
      clear c6
      exact LPrF63x1
    ·
     have c5b0 : decide (57343 < a0) = false := decide_eq_false c5
     clear c5
     exact LPrF63x1
mutual
def rewrite_letters_admissible.j0 : Nat → List (S80) → Bool → Option (Bool)
 | 0, _, _ => none
 | k + 1, x0, x12 => if x12 = true then (some false) else (rewrite_letters_admissible.l0 k x0 x0 (x0.length : Int) 0)
def rewrite_letters_admissible.l0 : Nat → List (S80) → List (S80) → Int → Int → Option (Bool)
 | 0, _, _, _, _ => none
 | k + 1, x0, x13, x14, x15 => if x15 < x14 then (if 0 ≤ x15 then (if x15 < (x13.length : Int) then (if ((rd_T80 x13 x15).f0) ≤ 32 then (some false) else ((utf8_ValidRune.f k ((rd_T80 x13 x15).f0)).bind fun t111 => (if t111 = true then (if x15 ≤ (x0.length : Int) then ((rewrite_letters_has.f k (x0.take (x15 : Int).toNat) ((rd_T80 x13 x15).f0)).bind fun t116 => (if t116 = true then (some false) else (rewrite_letters_admissible.l0 k x0 x13 x14 (wrap64 (x15 + 1))))) else (none)) else (some false)))) else (none)) else (none)) else (some true)
end
def rewrite_letters_admissible.f (k : Nat) (l0 : List (S80)) : Option (Bool) := if (l0.length : Int) < 1 then (rewrite_letters_admissible.j0 k l0 true) else (rewrite_letters_admissible.j0 k l0 (decide ((l0.length : Int) > 65)))
def rewrite_letters_admissible.T6 : Bool × List (List Nat × List Nat) := (true, [([], []), ([0], [0]), ([1], [1]), ([2], [2]), ([3], [3]), ([4, 3], [3, 4]), ([5, 3, 3], [3, 5]), ([6, 3], [3, 6]), ([3, 7], [3, 7]), ([8, 6], [8]), ([9], [9]), ([9], [9]), ([10, 11, 9], [9, 10, 11]), ([9], [9]), ([13, 9], [9, 13]), ([12, 14, 9, 9], [9, 12, 14]), ([9, 15], [9, 15])])
def rewrite_letters_admissible.B6 : List Nat := [0, 1, 3, 7, 15, 31, 63, 127, 255, 511, 1023, 1023, 4095, 1023, 9215, 32767, 65535]
theorem rewrite_letters_admissible.tab6 : rtab .any (opsOf Tryd.f65 6) = rewrite_letters_admissible.T6 := by kernel_rfl
theorem rewrite_letters_admissible.bits6 : waitsOk rewrite_letters_admissible.T6.2 rewrite_letters_admissible.B6 = true := by kernel_rfl
theorem LPrF65x1 {p : Prop} (h : p := by
  refine pT 16 36 ?_
  refine done_ (done_of HT_.out (by kernel_rfl)) ?_
  try go_wp2
  go_ret
  exact ⟨tE, by repeat (first | (with_reducible first | exact HB.out | apply below_alloc | apply pw_below_drewN | apply below_drew1 | refine below_set ?_ GE110.out) | exact HB.out)⟩) : p := h
theorem LPrF65x2 {p : Prop} (h : p := by
  obtain rfl := Option.some.inj H
  go_wp2
  go_ret
  exact ⟨tE, by repeat (first | (with_reducible first | exact HB.out | apply below_alloc | apply pw_below_drewN | apply below_drew1) | exact HB.out)⟩) : p := h
theorem LPrF65x3 {p : Prop} (h : p := by
  refine pT 8 28 ?_
  refine pT 9 29 ?_
  refine uT 10 30 ?_
  refine uT 11 31 ?_
  refine uT 12 32 ?_
  refine uT 13 33 ?_
  refine uT 14 34 ?_
  refine uT 15 35 ?_
  exact LPrF65x1) : p := h
set_option maxRecDepth 1000000 in
theorem LPrF65xh1 {p : Prop} (h : p := by
  obtain rfl := Option.some.inj H
  have z1_ : 0 ≤ (x15_2 : Int) := oD
  have z2_ : x15_2 < (l0.length : Int) := oD
  obtain ⟨z3_, z4_, z5_, z6_⟩ := at_T80 HR0.out x15_2 z1_ z2_
  cases z4_
  replace z5_ := celB HB z5_
  replace z6_ := celB HB z6_
  replace z1_ := eq_true z1_
  replace z2_ := eq_true z2_
  try go_wp2_with (first | ((with_reducible refine gate_dst (N := 4) rfl ?_); (try (refine gate_guard (by rfl) ?_; dsimp only)); refine box_event ?hg (N := 4) ?hd (cs := #[.int .i32 0, .int .u32 0]) (t := 80) ?hr ?_; (case hd => rfl); (case hg => rfl); (case hr => exact Gc6); intro z7_ hg z8_ hbox hb; have z9_ := Aside0.mk (below_step (tB HB) hb); have z10_ := Aside0.mk (hbox); have z11_ := tZ hg (tS HB); have z12_ := tZ hg (tS HB); revert z9_ z10_ z11_ z12_; clear HB; intro HB z13_ z14_ GE110; clear hb hbox hg; have z15_ := cel2 z13_ 0 rfl; have z16_ := cel2 z13_ 1 rfl; have z17_ := blk_frozen z13_.out 0; have z18_ := blk_frozen z13_.out 1))
  have z9_ : Aside0 (((z8_.setCell ⟨z7_, 0, none⟩ (.int .i32 ((rd_T80 l0 x15_2).f0))).setCell ⟨z7_, 1, none⟩ (.int .u32 ((rd_T80 l0 x15_2).f1))).heap[z7_]? = some (.cells #[.int .i32 ((rd_T80 l0 x15_2).f0), .int .u32 ((rd_T80 l0 x15_2).f1)] 80 (0, 0))) := ⟨tKp z13_⟩
  have z10_ : Aside0 (Below w.heap.size w ((z8_.setCell ⟨z7_, 0, none⟩ (.int .i32 ((rd_T80 l0 x15_2).f0))).setCell ⟨z7_, 1, none⟩ (.int .u32 ((rd_T80 l0 x15_2).f1)))) := ⟨tB HB⟩
  (try clear z13_); (try clear HB)
  generalize ((z8_.setCell ⟨z7_, 0, none⟩ (.int .i32 ((rd_T80 l0 x15_2).f0))).setCell ⟨z7_, 1, none⟩ (.int .u32 ((rd_T80 l0 x15_2).f1))) = z19_ at z9_ z10_ ⊢
  have z13_ := z9_
  have HB := z10_
  clear z9_ z10_
  have z9_ := Aside0.mk (blk_drew z13_.out)
  have z10_ := Aside0.mk (below_drew1 HB.out)
  revert z9_ z10_
  clear z13_ HB
  intro z13_ HB
  refine start_ (n := 17) (S := fun w' => w'.cell? ⟨z7_, 0, none⟩ = some (.int .i32 ((rd_T80 l0 x15_2).f0)) ∧ w'.cell? ⟨z7_, 1, none⟩ = some (.int .u32 ((rd_T80 l0 x15_2).f1))) (ds := []) #[false, false, false, false, false, false, false, false, false, false, false, false, false, false, false, false, false] (by kernel_rfl) rfl rfl ⟨(blk_cell z13_.out 0).trans rfl, (blk_cell z13_.out 1).trans rfl⟩ (fun hHeld => ?_); refine with_tabW rewrite_letters_admissible.tab6 rewrite_letters_admissible.bits6 (fun HT_ HW_ => ?_)
  generalize z19_.drew = z20_ at z13_ HB hHeld ⊢
  refine pT 0 20 ?_
  refine tTt 1 21 hHeld ?_
  refine pT 2 22 ?_
  refine pT 3 23 ?_
  first
  | (have mk_ := mk0_
     refine pT 4 24 ?_
     refine tTt 5 25 hHeld ?_
     refine one_ (i := 6) (N := some 26) #[true, true, true, true, true, true, true, false, false, false, false, false, false, false, false, false, false] rfl rfl (one_of HT_.out (by kernel_rfl)) (by decide) (fun K hK => ?_)
     refine goes_ Tryd.func63 (by kernel_rfl) rfl #[.int .i32 ((rd_T80 l0 x15_2).f0)] (by rfl) rfl rfl Gc2 ?_
     with_reducible refine (utf8_ValidRune.calls k2 ((rd_T80 l0 x15_2).f0) true _ A13.out).mono ?_
     rintro e w' ⟨rfl, ⟨nd, rfl⟩⟩
     refine ⟨_, rfl, ?_⟩
     have z21_ : (x15_2 : Int) ≤ ((l0.length : Int) : Int) := oD
     obtain ⟨z22_, z23_, _, z24_, _⟩ := info_parts info80
     have z25_ : l0.length ≤ c0 := HC0.out
     have z26_ : Kd.C k80 _ (some z3_) l0.length l0 := HR0.out
     have z27_ := cut_to (P := Tryd.prog) 128 80 .i64 Tryd.underlying128 z23_ (some z3_) l0.length c0 x15_2 (oD) z21_ z25_
     have z28_ := Kd.C_take (m := (x15_2 : Int).toNat) z26_ (by omega)
     have z29_ : y112.length = (x15_2 : Int).toNat := (by rw [Ny112.out, List.length_take]; omega)
     rw [← Ny112.out] at z28_
     rw [← z29_] at z27_
     have z30_ := Aside0.mk z28_
     have z31_ := Aside0.mk (show y112.length ≤ c0 from by omega)
     clear z28_ z26_ z25_ z23_ z24_
     have z32_ := Aside0.mk z29_
     clear z29_
     replace z21_ := eq_true z21_
     refine hK.out _ _ ⟨(blk_cell z13_.out 0).trans rfl, (blk_cell z13_.out 1).trans rfl⟩ (fun hHeld => ?_)
     clear hK K
     refine nR 26 ?_
     refine pT 7 27 ?_
     refine pT 8 28 ?_
     refine pT 9 29 ?_
     refine pT 10 30 ?_
     refine pT 11 31 ?_
     refine pT 12 32 ?_
     refine pT 13 33 ?_
     refine tTt 14 34 hHeld ?_
     refine one_ (i := 15) (N := some 35) #[true, true, true, true, true, true, true, true, true, true, true, true, true, true, true, true, false] rfl rfl (one_of HT_.out (by kernel_rfl)) (by decide) (fun K hK => ?_)
     refine goes_ Tryd.func66 (by kernel_rfl) rfl #[.slice (some z3_) y112.length c0, .int .i32 ((rd_T80 l0 x15_2).f0)] (by rfl) rfl rfl Gc2 ?_
     with_reducible refine (rewrite_letters_has.calls k2 _ _ y112 ((rd_T80 l0 x15_2).f0) true _ ?s1 ?s2 A17.out).mono ?_
     (case s1 => repeat (first | exact (Kd.C_below z30_.out (tB HB)) | (with_reducible refine Kd.C_alloc ?_ _) | (with_reducible refine Kd.C_drewN ?_ _) | (with_reducible refine Kd.C_drew ?_)))
     (case s2 => exact z31_.out)
     rintro e z33_ ⟨rfl, hb⟩
     refine ⟨_, rfl, ?_⟩
     have z9_ := Aside0.mk (blk_below (tK z13_) hb)
     have z10_ := Aside0.mk (below_step (tB HB) hb)
     revert z9_ z10_
     clear z13_ HB
     intro z13_ HB
     (try clear hb)
     refine hK.out _ _ ⟨(blk_cell z13_.out 0).trans rfl, (blk_cell z13_.out 1).trans rfl⟩ (fun hHeld => ?_)
     clear hK K
     refine nR 35 ?_
     exact LPrF65x1)
  | (have mk_ := mk1_
     refine pT 4 24 ?_
     refine tTt 5 25 hHeld ?_
     refine one_ (i := 6) (N := some 26) #[true, true, true, true, true, true, true, false, false, false, false, false, false, false, false, false, false] rfl rfl (one_of HT_.out (by kernel_rfl)) (by decide) (fun K hK => ?_)
     refine goes_ Tryd.func63 (by kernel_rfl) rfl #[.int .i32 ((rd_T80 l0 x15_2).f0)] (by rfl) rfl rfl Gc2 ?_
     with_reducible refine (utf8_ValidRune.calls k2 ((rd_T80 l0 x15_2).f0) false _ A13.out).mono ?_
     rintro e w' ⟨rfl, ⟨nd, rfl⟩⟩
     refine ⟨_, rfl, ?_⟩
     refine hK.out _ _ ⟨(blk_cell z13_.out 0).trans rfl, (blk_cell z13_.out 1).trans rfl⟩ (fun hHeld => ?_)
     clear hK K
     refine nR 26 ?_
     refine pT 7 27 ?_
     exact LPrF65x3)
  | (have mk_ := mk2_
     refine uT 4 24 ?_
     refine uT 5 25 ?_
     refine uT 6 26 ?_
     refine uT 7 27 ?_
     exact LPrF65x3)) : p := h
set_option maxHeartbeats 8000000 in
set_option maxRecDepth 100000 in
theorem rewrite_letters_admissible.calls (k : Nat) (A0 : Option Addr) (c0 : Nat) (l0 : List (S80)) (r : Bool) (w : World) (hr0 : Kd.C k80 w A0 l0.length l0) (hc0 : l0.length ≤ c0) (h : rewrite_letters_admissible.f k l0 = some r) :
 Calls Tryd.prog 65 #[.slice A0 l0.length c0] w fun e w' => e = .returned (.bool r) ∧ Below w.heap.size w w' := by
 have hu80 := Tryd.underlying80
 have HR0 := Aside0.mk hr0
 have HC0 := Aside0.mk hc0
 clear hr0 hc0
 have HB := Aside0.mk (Below.refl w.heap.size w)
 have H : (if (l0.length : Int) < 1 then (rewrite_letters_admissible.j0 k l0 true) else (rewrite_letters_admissible.j0 k l0 (decide ((l0.length : Int) > 65)))) = some r := h
 clear h
 have HC2 := Aside0.mk H
 clear H
 go_enter Tryd.func65, Tryd.ntmps65
 go_upto_region 1 with (fail)
 go_cut [12] (fun v12 wc => ∃ (kq : Nat) (x12_1 : Bool), v12 = .bool x12_1 ∧ Aside0 (rewrite_letters_admissible.j0 kq l0 x12_1 = some r) ∧ Aside0 (kq ≤ k) ∧ Aside0 (Below w.heap.size w wc))
 case first =>
  have H := HC2.out
  clear HC2
  replace H := iF H; obtain ⟨c3, H⟩ | ⟨c3, H⟩ := H
  ·
   have c3b0 : decide ((l0.length : Int) < 1) = true := decide_eq_true c3
   have c3b1 : decide (l0.length < 1) = true := decide_eq_true (by omega)
   clear c3
   (first | rw [c3b0] | (simp only [i64_w, i32_w]; rw [c3b0]) | skip)
   have H' := Aside0.mk H
   clear H
   go_wp2
   go_meet
   case rel => exact ⟨_, (true), tV1, H', ⟨tU⟩, ⟨tB HB⟩⟩
  ·
   have c3b0 : decide ((l0.length : Int) < 1) = false := decide_eq_false c3
   have c3b1 : decide (l0.length < 1) = false := decide_eq_false (by omega)
   clear c3
   (first | rw [c3b0] | (simp only [i64_w, i32_w]; rw [c3b0]) | skip)
   have H' := Aside0.mk H
   clear H
   go_wp2
   go_meet
   case rel => exact ⟨_, (decide ((l0.length : Int) > 65)), tV1, H', ⟨tU⟩, ⟨tB HB⟩⟩
 case rest =>
  clear HC2
  obtain ⟨kq, x12_1, rfl, HA, HJ1, HB⟩ := hcut
  cases kq with
  | zero => exact absurd HA.out (by simp [rewrite_letters_admissible.j0])
  | succ kj1 =>
   have H := HA.out
   clear HA
   simp only [rewrite_letters_admissible.j0] at H
   replace H := iT H; obtain ⟨rfl, H⟩ | ⟨rfl, H⟩ := H
   ·
    exact LPrF65x2
   ·
    have H' := Aside0.mk H
    clear H
    go_wp2
    go_loopg [15] kj1 (fun kq v15 w' => ∃ (x15_2 : Int), v15 = .int .i64 x15_2 ∧ Aside0 (rewrite_letters_admissible.l0 kq l0 l0 (l0.length : Int) x15_2 = some r) ∧ Aside0 (kq ≤ kj1) ∧ Aside0 (Below w.heap.size w w'))
    case atStart => exact ⟨(0), tV1, H', ⟨Nat.le_refl _⟩, ⟨tB HB⟩⟩
    case round =>
     clear H'; (try clear c4)
     obtain ⟨x15_2, rfl, HA, HK2, HB⟩ := hrel
     cases gk with
     | zero => exact absurd HA.out (by simp [rewrite_letters_admissible.l0])
     | succ k2 =>
      have H := HA.out
      clear HA
      simp only [rewrite_letters_admissible.l0] at H
      replace H := iF H; obtain ⟨c5, H⟩ | ⟨c5, H⟩ := H
      ·
       have c5b0 : decide (x15_2 < (l0.length : Int)) = true := decide_eq_true c5
       clear c5
       replace H := iF H; obtain ⟨c6, H⟩ | ⟨c6, H⟩ := H
       ·
        have c6b0 : decide (0 ≤ x15_2) = true := decide_eq_true c6
        clear c6
        replace H := iF H; obtain ⟨c7, H⟩ | ⟨c7, H⟩ := H
        ·
         have c7b0 : decide (x15_2 < (l0.length : Int)) = true := decide_eq_true c7
         clear c7
         replace H := iF H; obtain ⟨c8, H⟩ | ⟨c8, H⟩ := H
         ·
          have c8b0 : decide (((rd_T80 l0 x15_2).f0) ≤ 32) = true := decide_eq_true c8
          clear c8
          have mk2_ := trivial
          exact LPrF65xh1
         ·
          have c8b0 : decide (((rd_T80 l0 x15_2).f0) ≤ 32) = false := decide_eq_false c8
          clear c8
          replace H := bI H; obtain ⟨t111, A13, H⟩ := H; (try dsimp only at H)
          replace H := iT H; obtain ⟨rfl, H⟩ | ⟨rfl, H⟩ := H
          ·
           have c15b0 := eq_true (oD : 0 ≤ x15_2)
           replace H := iF H; obtain ⟨c16, H⟩ | ⟨c16, H⟩ := H
           ·
            have c16b0 := eq_true c16
            have c16b1 : decide (x15_2 ≤ (l0.length : Int)) = true := decide_eq_true c16
            clear c16
            obtain ⟨y112, hy112⟩ : ∃ y_ : List (S80), y_ = (l0.take (x15_2 : Int).toNat) := ⟨_, rfl⟩
            replace H : ((rewrite_letters_has.f k2 y112 ((rd_T80 l0 x15_2).f0)).bind fun t116 => (if t116 = true then (some false) else (rewrite_letters_admissible.l0 k2 l0 l0 (l0.length : Int) (wrap64 (x15_2 + 1))))) = some r := by first | (rw [hy112]; with_reducible exact H) | (have H2_ := (Option.bind_some _ _).symm.trans H; rw [hy112]; with_reducible exact H2_) | (have H2_ := (Option.bind_some _ _).symm.trans H; with_reducible exact H2_) | with_reducible exact H | (rw [hy112]; exact H) | exact H
            have Ny112 := Aside0.mk hy112
            clear hy112
            replace H := bI H; obtain ⟨t116, A17, H⟩ := H; (try dsimp only at H)
            replace H := iT H; obtain ⟨rfl, H⟩ | ⟨rfl, H⟩ := H
            ·
             have mk0_ := trivial
             exact LPrF65xh1
            ·
             have H' := Aside0.mk H
             clear H
             have p109 : 0 ≤ (x15_2 : Int) := oD
             have q109 : x15_2 < (l0.length : Int) := oD
             obtain ⟨ad109, e109, hx109_0, hx109_1⟩ := at_T80 HR0.out x15_2 p109 q109
             cases e109
             replace hx109_0 := celB HB hx109_0
             replace hx109_1 := celB HB hx109_1
             replace p109 := eq_true p109
             replace q109 := eq_true q109
             try go_wp2_with (first | ((with_reducible refine gate_dst (N := 4) rfl ?_); (try (refine gate_guard (by rfl) ?_; dsimp only)); refine box_event ?hg (N := 4) ?hd (cs := #[.int .i32 0, .int .u32 0]) (t := 80) ?hr ?_; (case hd => rfl); (case hg => rfl); (case hr => exact Gc6); intro gb110 hg w25 hbox hb; have n0_ := Aside0.mk (below_step (tB HB) hb); have n1_ := Aside0.mk (hbox); have n2_ := tZ hg (tS HB); have n3_ := tZ hg (tS HB); revert n0_ n1_ n2_ n3_; clear HB; intro HB BK110 GW110 GE110; clear hb hbox hg; have hcz26_0 := cel2 BK110 0 rfl; have hcz26_1 := cel2 BK110 1 rfl; have hfz26_0 := blk_frozen BK110.out 0; have hfz26_1 := blk_frozen BK110.out 1))
             have n0_ : Aside0 (((w25.setCell ⟨gb110, 0, none⟩ (.int .i32 ((rd_T80 l0 x15_2).f0))).setCell ⟨gb110, 1, none⟩ (.int .u32 ((rd_T80 l0 x15_2).f1))).heap[gb110]? = some (.cells #[.int .i32 ((rd_T80 l0 x15_2).f0), .int .u32 ((rd_T80 l0 x15_2).f1)] 80 (0, 0))) := ⟨tKp BK110⟩
             have n1_ : Aside0 (Below w.heap.size w ((w25.setCell ⟨gb110, 0, none⟩ (.int .i32 ((rd_T80 l0 x15_2).f0))).setCell ⟨gb110, 1, none⟩ (.int .u32 ((rd_T80 l0 x15_2).f1)))) := ⟨tB HB⟩
             (try clear BK110); (try clear HB)
             generalize ((w25.setCell ⟨gb110, 0, none⟩ (.int .i32 ((rd_T80 l0 x15_2).f0))).setCell ⟨gb110, 1, none⟩ (.int .u32 ((rd_T80 l0 x15_2).f1))) = w27 at n0_ n1_ ⊢
             have BK110 := n0_
             have HB := n1_
             clear n0_ n1_
             have n0_ := Aside0.mk (blk_drew BK110.out)
             have n1_ := Aside0.mk (below_drew1 HB.out)
             revert n0_ n1_
             clear BK110 HB
             intro BK110 HB
             refine start_ (n := 17) (S := fun w' => w'.cell? ⟨gb110, 0, none⟩ = some (.int .i32 ((rd_T80 l0 x15_2).f0)) ∧ w'.cell? ⟨gb110, 1, none⟩ = some (.int .u32 ((rd_T80 l0 x15_2).f1))) (ds := []) #[false, false, false, false, false, false, false, false, false, false, false, false, false, false, false, false, false] (by kernel_rfl) rfl rfl ⟨(blk_cell BK110.out 0).trans rfl, (blk_cell BK110.out 1).trans rfl⟩ (fun hHeld => ?_); refine with_tabW rewrite_letters_admissible.tab6 rewrite_letters_admissible.bits6 (fun HT_ HW_ => ?_)
             generalize w27.drew = w28 at BK110 HB hHeld ⊢
             refine pT 0 20 ?_
             refine tTt 1 21 hHeld ?_
             refine pT 2 22 ?_
             refine pT 3 23 ?_
             refine pT 4 24 ?_
             refine tTt 5 25 hHeld ?_
             refine one_ (i := 6) (N := some 26) #[true, true, true, true, true, true, true, false, false, false, false, false, false, false, false, false, false] rfl rfl (one_of HT_.out (by kernel_rfl)) (by decide) (fun K hK => ?_)
             refine goes_ Tryd.func63 (by kernel_rfl) rfl #[.int .i32 ((rd_T80 l0 x15_2).f0)] (by rfl) rfl rfl Gc2 ?_
             with_reducible refine (utf8_ValidRune.calls k2 ((rd_T80 l0 x15_2).f0) true _ A13.out).mono ?_
             rintro e w' ⟨rfl, ⟨nd, rfl⟩⟩
             refine ⟨_, rfl, ?_⟩
             have q29 : (x15_2 : Int) ≤ ((l0.length : Int) : Int) := oD
             obtain ⟨i029, hi029, _, hsz29, _⟩ := info_parts info80
             have hroom29 : l0.length ≤ c0 := HC0.out
             have hC29 : Kd.C k80 _ (some ad109) l0.length l0 := HR0.out
             have hcut29 := cut_to (P := Tryd.prog) 128 80 .i64 Tryd.underlying128 hi029 (some ad109) l0.length c0 x15_2 (oD) q29 hroom29
             have hr29 := Kd.C_take (m := (x15_2 : Int).toNat) hC29 (by omega)
             have hy29 : y112.length = (x15_2 : Int).toNat := (by rw [Ny112.out, List.length_take]; omega)
             rw [← Ny112.out] at hr29
             rw [← hy29] at hcut29
             have HR115 := Aside0.mk hr29
             have HC115 := Aside0.mk (show y112.length ≤ c0 from by omega)
             clear hr29 hC29 hroom29 hi029 hsz29
             have KY29 := Aside0.mk hy29
             clear hy29
             replace q29 := eq_true q29
             refine hK.out _ _ ⟨(blk_cell BK110.out 0).trans rfl, (blk_cell BK110.out 1).trans rfl⟩ (fun hHeld => ?_)
             clear hK K
             refine nR 26 ?_
             refine pT 7 27 ?_
             refine pT 8 28 ?_
             refine pT 9 29 ?_
             refine pT 10 30 ?_
             refine pT 11 31 ?_
             refine pT 12 32 ?_
             refine pT 13 33 ?_
             refine tTt 14 34 hHeld ?_
             refine one_ (i := 15) (N := some 35) #[true, true, true, true, true, true, true, true, true, true, true, true, true, true, true, true, false] rfl rfl (one_of HT_.out (by kernel_rfl)) (by decide) (fun K hK => ?_)
             refine goes_ Tryd.func66 (by kernel_rfl) rfl #[.slice (some ad109) y112.length c0, .int .i32 ((rd_T80 l0 x15_2).f0)] (by rfl) rfl rfl Gc2 ?_
             with_reducible refine (rewrite_letters_has.calls k2 _ _ y112 ((rd_T80 l0 x15_2).f0) false _ ?s1 ?s2 A17.out).mono ?_
             (case s1 => repeat (first | exact (Kd.C_below HR115.out (tB HB)) | (with_reducible refine Kd.C_alloc ?_ _) | (with_reducible refine Kd.C_drewN ?_ _) | (with_reducible refine Kd.C_drew ?_)))
             (case s2 => exact HC115.out)
             rintro e w30 ⟨rfl, hb⟩
             refine ⟨_, rfl, ?_⟩
             have n0_ := Aside0.mk (blk_below (tK BK110) hb)
             have n1_ := Aside0.mk (below_step (tB HB) hb)
             revert n0_ n1_
             clear BK110 HB
             intro BK110 HB
             (try clear hb)
             refine hK.out _ _ ⟨(blk_cell BK110.out 0).trans rfl, (blk_cell BK110.out 1).trans rfl⟩ (fun hHeld => ?_)
             clear hK K
             refine nR 35 ?_
             refine pT 16 36 ?_
             refine done_ (done_of HT_.out (by kernel_rfl)) ?_
             try go_wp2
             go_roundg k2
             case measure => have := HJ1.out; have := HK2.out; omega
             case rel => exact ⟨(wrap64 (x15_2 + 1)), tV1, H', ⟨by have := HJ1.out; have := HK2.out; omega⟩, ⟨tB HB⟩⟩
           ·
            exact absurd H (by simp)
          ·
           have mk1_ := trivial
           exact LPrF65xh1
        ·
         exact absurd H (by simp)
       ·
        exact absurd H (by simp)
      ·
       have c5b0 : decide (x15_2 < (l0.length : Int)) = false := decide_eq_false c5
       clear c5
       exact LPrF65x2
end Go.Proofs.YtfbhdjflkaldgaaDoor.Pr
