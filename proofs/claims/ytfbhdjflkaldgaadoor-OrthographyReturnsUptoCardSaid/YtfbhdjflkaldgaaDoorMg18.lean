/- Several texts in one: PrF13, PrF10, Aw0, Lng. -/
import Derived.Test.YtfbhdjflkaldgaaDoorMg1
import Derived.Test.YtfbhdjflkaldgaaDoorCt
import Derived.Test.YtfbhdjflkaldgaaDoorMg3
import Derived.Test.YtfbhdjflkaldgaaDoorPrF14
import Derived.Test.YtfbhdjflkaldgaaDoorMg14
import Derived.Test.YtfbhdjflkaldgaaDoorOrS
import Derived.KernelRfl
import Derived.WalkMore
/- awake of chapter 42: what its calls answer. -/
/- law42.language: the language of the chapter's example. -/
namespace Go.Proofs.YtfbhdjflkaldgaaDoor.Pr
open Go.Proofs.YtfbhdjflkaldgaaDoor.Ct Go.RowKit Go.Proofs.YtfbhdjflkaldgaaDoorW.PrintWords Go.Proofs.YtfbhdjflkaldgaaDoorW.PrintLast Go.Proofs.YtfbhdjflkaldgaaDoorW.PrintMore
attribute [local go_sem] max2_int min2_int max_two min_two max_three min_three max_four min_four
set_option linter.unusedVariables false
set_option linter.unusedSimpArgs false
mutual
def orthography_Text.j0 : Nat → List (List ByteArray) → Bool → ByteArray → Bool → List (S80) → List (S85) → List (S180) → List (S183) → List (List Int) → Int → Int → List (S85) → Int → List ByteArray → List ByteArray → Bool → ByteArray → Int → ByteArray → Bool → Int → Int → List (S186) → List (S186) → List ByteArray → List ByteArray → List ByteArray → Bool → List (S188) → List (S190) → List (S194) → ByteArray → Option (ByteArray × Int)
 | 0, _, _, _, _, _, _, _, _, _, _, _, _, _, _, _, _, _, _, _, _, _, _, _, _, _, _, _, _, _, _, _, _ => none
 | k + 1, x1, x23, x291000, x291001, x291002, x291003, x291004, x291005, x291006, x291007, x291008, x291009, x291010, x291011, x291012, x291013, x291014, x291015, x291016, x291017, x291018, x291019, x291020, x291021, x291022, x291023, x291024, x291025, x291026, x291027, x291028, x291029 => if x23 = true then (some ((⟨#[]⟩ : ByteArray), 1)) else (orthography_Text.l0 k ([] : List ByteArray) x1 (x1.length : Int) 0 x291000 x291001 x291002 x291003 x291004 x291005 x291006 x291007 x291008 x291009 x291010 x291011 x291012 x291013 x291014 x291015 x291016 x291017 x291018 x291019 x291020 x291021 x291022 x291023 x291024 x291025 x291026 x291027 x291028 x291029)
def orthography_Text.l0 : Nat → List ByteArray → List (List ByteArray) → Int → Int → ByteArray → Bool → List (S80) → List (S85) → List (S180) → List (S183) → List (List Int) → Int → Int → List (S85) → Int → List ByteArray → List ByteArray → Bool → ByteArray → Int → ByteArray → Bool → Int → Int → List (S186) → List (S186) → List ByteArray → List ByteArray → List ByteArray → Bool → List (S188) → List (S190) → List (S194) → ByteArray → Option (ByteArray × Int)
 | 0, _, _, _, _, _, _, _, _, _, _, _, _, _, _, _, _, _, _, _, _, _, _, _, _, _, _, _, _, _, _, _, _, _, _ => none
 | k + 1, x6, x24, x25, x26, x291000, x291001, x291002, x291003, x291004, x291005, x291006, x291007, x291008, x291009, x291010, x291011, x291012, x291013, x291014, x291015, x291016, x291017, x291018, x291019, x291020, x291021, x291022, x291023, x291024, x291025, x291026, x291027, x291028, x291029 => if x26 < x25 then (if 0 ≤ x26 then (if x26 < (x24.length : Int) then ((orthography_Sentence.f k x291000 x291001 x291002 x291003 x291004 x291005 x291006 x291007 x291008 x291009 x291010 x291011 x291012 x291013 x291014 x291015 x291016 x291017 x291018 x291019 x291020 x291021 x291022 x291023 x291024 x291025 x291026 x291027 x291028 x291029 (rd_L10 x24 x26)).bind fun bt293 => (if bt293.2 = 0 then (if x6.length < 8796093022208 then (orthography_Text.l0 k (x6 ++ [bt293.1]) x24 x25 (wrap64 (x26 + 1)) x291000 x291001 x291002 x291003 x291004 x291005 x291006 x291007 x291008 x291009 x291010 x291011 x291012 x291013 x291014 x291015 x291016 x291017 x291018 x291019 x291020 x291021 x291022 x291023 x291024 x291025 x291026 x291027 x291028 x291029) else (none)) else (some ((⟨#[]⟩ : ByteArray), bt293.2)))) else (none)) else (none)) else ((strings_Join.f x6 (⟨#[32]⟩ : ByteArray)).bind fun t298 => (some (t298, 0)))
end
def orthography_Text.f (k : Nat) (a_0 : ByteArray) (a_1 : Bool) (l_2 : List (S80)) (l_3 : List (S85)) (l_4 : List (S180)) (l_5 : List (S183)) (l_6 : List (List Int)) (a_7 : Int) (a_8 : Int) (l_9 : List (S85)) (a_a : Int) (l_b : List ByteArray) (l_c : List ByteArray) (a_d : Bool) (a_e : ByteArray) (a_f : Int) (a_g : ByteArray) (a_h : Bool) (a_i : Int) (a_j : Int) (l_k : List (S186)) (l_l : List (S186)) (l_m : List ByteArray) (l_n : List ByteArray) (l_o : List ByteArray) (a_p : Bool) (l_q : List (S188)) (l_r : List (S190)) (l_s : List (S194)) (a_t : ByteArray) (l1 : List (List ByteArray)) : Option (ByteArray × Int) := (orthography_valid.f k a_0 a_1 l_2 l_3 l_4 l_5 l_6 a_7 a_8 l_9 a_a l_b l_c a_d a_e a_f a_g a_h a_i a_j l_k l_l l_m l_n l_o a_p l_q l_r l_s a_t).bind fun t291 => (if t291 = true then (if (l1.length : Int) < 1 then (orthography_Text.j0 k l1 true a_0 a_1 l_2 l_3 l_4 l_5 l_6 a_7 a_8 l_9 a_a l_b l_c a_d a_e a_f a_g a_h a_i a_j l_k l_l l_m l_n l_o a_p l_q l_r l_s a_t) else (orthography_Text.j0 k l1 (decide ((l1.length : Int) > 8)) a_0 a_1 l_2 l_3 l_4 l_5 l_6 a_7 a_8 l_9 a_a l_b l_c a_d a_e a_f a_g a_h a_i a_j l_k l_l l_m l_n l_o a_p l_q l_r l_s a_t)) else (orthography_Text.j0 k l1 true a_0 a_1 l_2 l_3 l_4 l_5 l_6 a_7 a_8 l_9 a_a l_b l_c a_d a_e a_f a_g a_h a_i a_j l_k l_l l_m l_n l_o a_p l_q l_r l_s a_t))
theorem LPrF13x1 {p : Prop} (h : p := by
  go_ret2
  exact ⟨tE, by repeat (first | (with_reducible first | exact HB.out | apply below_alloc | apply pw_below_drewN | apply below_drew1 | refine below_set ?_ GE290.out) | exact HB.out)⟩) : p := h
theorem LPrF13xh1 {p : Prop} (h : p := by
  clear c7
  (first | rw [c7b0] | (simp only [i64_w, i32_w]; rw [c7b0]) | skip)
  have H' := Aside0.mk H
  clear H
  go_wp2_with (first | ((with_reducible refine gate_load (t := 41) (p := 2) rfl ?_); (try (refine gate_guard (by rfl) ?_; dsimp only)); refine wpList_load_row rfl 41 (.tmp 2) rfl gb290 rfl 41 _ (0, 0) _ (tK BK290) Tryd.underlying41 rfl (by kernel_rfl) ?_) | ((with_reducible refine gate_callee (f := 18) rfl ?_); refine goesL_ (some 12) rfl rfl Tryd.func18 (by kernel_rfl) rfl #[.agg _] rfl Gc2 ?_; (with_reducible refine (orthography_valid.calls k a_0 a_1 _ _ l_2 _ _ l_3 _ _ l_4 _ _ l_5 _ _ l_6 a_7 a_8 _ _ l_9 a_a _ _ l_b _ _ l_c a_d a_e a_f a_g a_h a_i a_j _ _ l_k _ _ l_l _ _ l_m _ _ l_n _ _ l_o a_p _ _ l_q _ _ l_r _ _ l_s a_t true _ ?sT (tC HR_2 HB) HC_2.out (tC HR_3 HB) HC_3.out (tC HR_4 HB) HC_4.out (tC HR_5 HB) HC_5.out (tC HR_6 HB) HC_6.out (tC HR_9 HB) HC_9.out (tC HR_b HB) HC_b.out (tC HR_c HB) HC_c.out (tC HR_k HB) HC_k.out (tC HR_l HB) HC_l.out (tC HR_m HB) HC_m.out (tC HR_n HB) HC_n.out (tC HR_o HB) HC_o.out (tC HR_q HB) HC_q.out (tC HR_r HB) HC_r.out (tC HR_s HB) HC_s.out A5.out).mono ?_); (case sT => exact Gc1); rintro e z1_ ⟨rfl, hb⟩; refine ⟨_, rfl, ?_⟩; have z2_ := Aside0.mk (blk_below (tK BK290) hb); have z3_ := Aside0.mk (below_step (tB HB) hb); revert z2_ z3_; clear BK290 HB; intro BK290 HB; (try clear hb); (try clear hb2); (try clear hk); (try clear hi)))
  go_meet
  first
  | (have mk_ := mk0_
     case rel => exact ⟨_, (decide ((l1.length : Int) > 8)), tV1, H', ⟨tU⟩, ⟨tK BK290⟩, ⟨tB HB⟩⟩)
  | (have mk_ := mk1_
     case rel => exact ⟨_, (true), tV1, H', ⟨tU⟩, ⟨tK BK290⟩, ⟨tB HB⟩⟩)) : p := h
set_option maxRecDepth 1000000 in
theorem LPrF13xh2 {p : Prop} (h : p := by
  have z1_ : 0 ≤ (x26_2 : Int) := oD
  have z2_ : x26_2 < (l1.length : Int) := oD
  obtain ⟨z3_, z4_, z5_, z6_, z7_, z8_, z9_⟩ := at_L10 HR1.out x26_2 z1_ z2_
  cases z6_
  replace z7_ := celB HB z7_
  have z10_ := Aside0.mk z9_
  have z11_ := Aside0.mk z8_
  clear z9_ z8_
  replace z1_ := eq_true z1_
  replace z2_ := eq_true z2_
  first
  | (have mk_ := mk0_
     go_wp2_with (first | ((with_reducible refine gate_load (t := 41) (p := 2) rfl ?_); (try (refine gate_guard (by rfl) ?_; dsimp only)); refine wpList_load_row rfl 41 (.tmp 2) rfl gb290 rfl 41 _ (0, 0) _ (tK BK290) Tryd.underlying41 rfl (by kernel_rfl) ?_) | ((with_reducible refine gate_callee (f := 14) rfl ?_); refine goesL_ (some 33) rfl rfl Tryd.func14 (by kernel_rfl) rfl #[.agg _, .slice z4_ (rd_L10 l1 x26_2).length z5_] rfl Gc2 ?_; (with_reducible refine (orthography_Sentence.calls k2 a_0 a_1 _ _ l_2 _ _ l_3 _ _ l_4 _ _ l_5 _ _ l_6 a_7 a_8 _ _ l_9 a_a _ _ l_b _ _ l_c a_d a_e a_f a_g a_h a_i a_j _ _ l_k _ _ l_l _ _ l_m _ _ l_n _ _ l_o a_p _ _ l_q _ _ l_r _ _ l_s a_t _ _ (rd_L10 l1 x26_2) t293 t294 _ ?sT (tC HR_2 HB) HC_2.out (tC HR_3 HB) HC_3.out (tC HR_4 HB) HC_4.out (tC HR_5 HB) HC_5.out (tC HR_6 HB) HC_6.out (tC HR_9 HB) HC_9.out (tC HR_b HB) HC_b.out (tC HR_c HB) HC_c.out (tC HR_k HB) HC_k.out (tC HR_l HB) HC_l.out (tC HR_m HB) HC_m.out (tC HR_n HB) HC_n.out (tC HR_o HB) HC_o.out (tC HR_q HB) HC_q.out (tC HR_r HB) HC_r.out (tC HR_s HB) HC_s.out (tC z10_ HB) z11_.out A18.out).mono ?_); (case sT => exact Gc1); rintro e z12_ ⟨rfl, hb⟩; refine ⟨_, rfl, ?_⟩; have z13_ := Aside0.mk (Kd.R_below (dR HO_6) hb); have z14_ := Aside0.mk (blk_below (tK BK290) hb); have z15_ := Aside0.mk (below_step (tB HB) hb); revert z13_ z14_ z15_; clear HO_6 BK290 HB; intro HO_6 BK290 HB; (try clear hb); (try clear hb2); (try clear hk); (try clear hi)) | ((with_reducible refine gate_builtin (b := .append) (xs := #[.tmp 39, .tmp 41]) rfl ?_); (try (refine gate_guard (by rfl) ?_; dsimp only)); at_builtin; refine Kd.R_append Kd.string (w0 := w) w.heap.size rfl (.tmp 39) (.tmp 41) 31 9 (.string ⟨#[]⟩) 16 rfl Tryd.underlying31 info9 rfl (by decide) (by omega) u6 x6_2 t293 [.string t293] (fun _ => True) (fun _ => False) rfl rfl ?aP (fun _ hk => hk.elim) ?aF ?aO ?aB ?aS ?aL ?_; (case aP => exact rfl); (case aB => exact (tB HB)); (case aF => exact Gc22); (case aO => exact (dR HO_6)); (case aS => exact (tS HB)); (case aL => have := LMc20.out; omega); intro z16_ z17_ ho hb hg hat; rw [← Ny295.out] at ho; have z13_ := Aside0.mk (blk_grown (tK BK290) hg (Kd.R_ne HO_6.out BK290.out (by decide))); have z14_ := Aside0.mk (hb); have z15_ := Aside0.mk (ho); revert z13_ z14_ z15_; clear BK290 HB HO_6; intro BK290 HB z18_; clear ho hb hg hat))
     go_roundg k2
     case measure => have := HJ2.out; have := HK2.out; omega
     case rel => exact ⟨(y295), (wrap64 (x26_2 + 1)), tV1, H', ⟨by have := HJ2.out; have := HK2.out; omega⟩, ⟨dR z18_⟩, ⟨tK BK290⟩, ⟨tB HB⟩⟩)
  | (have mk_ := mk1_
     go_wp2_with (first | ((with_reducible refine gate_load (t := 41) (p := 2) rfl ?_); (try (refine gate_guard (by rfl) ?_; dsimp only)); refine wpList_load_row rfl 41 (.tmp 2) rfl gb290 rfl 41 _ (0, 0) _ (tK BK290) Tryd.underlying41 rfl (by kernel_rfl) ?_) | ((with_reducible refine gate_callee (f := 14) rfl ?_); refine goesL_ (some 33) rfl rfl Tryd.func14 (by kernel_rfl) rfl #[.agg _, .slice z4_ (rd_L10 l1 x26_2).length z5_] rfl Gc2 ?_; (with_reducible refine (orthography_Sentence.calls k2 a_0 a_1 _ _ l_2 _ _ l_3 _ _ l_4 _ _ l_5 _ _ l_6 a_7 a_8 _ _ l_9 a_a _ _ l_b _ _ l_c a_d a_e a_f a_g a_h a_i a_j _ _ l_k _ _ l_l _ _ l_m _ _ l_n _ _ l_o a_p _ _ l_q _ _ l_r _ _ l_s a_t _ _ (rd_L10 l1 x26_2) t293 t294 _ ?sT (tC HR_2 HB) HC_2.out (tC HR_3 HB) HC_3.out (tC HR_4 HB) HC_4.out (tC HR_5 HB) HC_5.out (tC HR_6 HB) HC_6.out (tC HR_9 HB) HC_9.out (tC HR_b HB) HC_b.out (tC HR_c HB) HC_c.out (tC HR_k HB) HC_k.out (tC HR_l HB) HC_l.out (tC HR_m HB) HC_m.out (tC HR_n HB) HC_n.out (tC HR_o HB) HC_o.out (tC HR_q HB) HC_q.out (tC HR_r HB) HC_r.out (tC HR_s HB) HC_s.out (tC z10_ HB) z11_.out A18.out).mono ?_); (case sT => exact Gc1); rintro e z12_ ⟨rfl, hb⟩; refine ⟨_, rfl, ?_⟩; have z13_ := Aside0.mk (Kd.R_below (dR HO_6) hb); have z14_ := Aside0.mk (blk_below (tK BK290) hb); have z15_ := Aside0.mk (below_step (tB HB) hb); revert z13_ z14_ z15_; clear HO_6 BK290 HB; intro HO_6 BK290 HB; (try clear hb); (try clear hb2); (try clear hk); (try clear hi)))
     exact LPrF13x1)) : p := h
set_option maxHeartbeats 8000000 in
set_option maxRecDepth 100000 in
theorem orthography_Text.calls (k : Nat) (a_0 : ByteArray) (a_1 : Bool) (A_2 : Option Addr) (c_2 : Nat) (l_2 : List (S80)) (A_3 : Option Addr) (c_3 : Nat) (l_3 : List (S85)) (A_4 : Option Addr) (c_4 : Nat) (l_4 : List (S180)) (A_5 : Option Addr) (c_5 : Nat) (l_5 : List (S183)) (A_6 : Option Addr) (c_6 : Nat) (l_6 : List (List Int)) (a_7 : Int) (a_8 : Int) (A_9 : Option Addr) (c_9 : Nat) (l_9 : List (S85)) (a_a : Int) (A_b : Option Addr) (c_b : Nat) (l_b : List ByteArray) (A_c : Option Addr) (c_c : Nat) (l_c : List ByteArray) (a_d : Bool) (a_e : ByteArray) (a_f : Int) (a_g : ByteArray) (a_h : Bool) (a_i : Int) (a_j : Int) (A_k : Option Addr) (c_k : Nat) (l_k : List (S186)) (A_l : Option Addr) (c_l : Nat) (l_l : List (S186)) (A_m : Option Addr) (c_m : Nat) (l_m : List ByteArray) (A_n : Option Addr) (c_n : Nat) (l_n : List ByteArray) (A_o : Option Addr) (c_o : Nat) (l_o : List ByteArray) (a_p : Bool) (A_q : Option Addr) (c_q : Nat) (l_q : List (S188)) (A_r : Option Addr) (c_r : Nat) (l_r : List (S190)) (A_s : Option Addr) (c_s : Nat) (l_s : List (S194)) (a_t : ByteArray) (A1 : Option Addr) (c1 : Nat) (l1 : List (List ByteArray)) (r1 : ByteArray) (r2 : Int) (w : World) (hT : Tabs w) (hr_2 : Kd.C k80 w A_2 l_2.length l_2) (hc_2 : l_2.length ≤ c_2) (hr_3 : Kd.C k85 w A_3 l_3.length l_3) (hc_3 : l_3.length ≤ c_3) (hr_4 : Kd.C k180 w A_4 l_4.length l_4) (hc_4 : l_4.length ≤ c_4) (hr_5 : Kd.C k183 w A_5 l_5.length l_5) (hc_5 : l_5.length ≤ c_5) (hr_6 : Kd.C (Kd.slice 78 (Kd.int .u32)) w A_6 l_6.length l_6) (hc_6 : l_6.length ≤ c_6) (hr_9 : Kd.C k85 w A_9 l_9.length l_9) (hc_9 : l_9.length ≤ c_9) (hr_b : Kd.C Kd.string w A_b l_b.length l_b) (hc_b : l_b.length ≤ c_b) (hr_c : Kd.C Kd.string w A_c l_c.length l_c) (hc_c : l_c.length ≤ c_c) (hr_k : Kd.C k186 w A_k l_k.length l_k) (hc_k : l_k.length ≤ c_k) (hr_l : Kd.C k186 w A_l l_l.length l_l) (hc_l : l_l.length ≤ c_l) (hr_m : Kd.C Kd.string w A_m l_m.length l_m) (hc_m : l_m.length ≤ c_m) (hr_n : Kd.C Kd.string w A_n l_n.length l_n) (hc_n : l_n.length ≤ c_n) (hr_o : Kd.C Kd.string w A_o l_o.length l_o) (hc_o : l_o.length ≤ c_o) (hr_q : Kd.C k188 w A_q l_q.length l_q) (hc_q : l_q.length ≤ c_q) (hr_r : Kd.C k190 w A_r l_r.length l_r) (hc_r : l_r.length ≤ c_r) (hr_s : Kd.C k194 w A_s l_s.length l_s) (hc_s : l_s.length ≤ c_s) (hr1 : Kd.C (Kd.slice 9 Kd.string) w A1 l1.length l1) (hc1 : l1.length ≤ c1) (h : orthography_Text.f k a_0 a_1 l_2 l_3 l_4 l_5 l_6 a_7 a_8 l_9 a_a l_b l_c a_d a_e a_f a_g a_h a_i a_j l_k l_l l_m l_n l_o a_p l_q l_r l_s a_t l1 = some (r1, r2)) :
 Calls Tryd.prog 13 #[.agg #[.string a_0, .bool a_1, .slice A_2 l_2.length c_2, .slice A_3 l_3.length c_3, .slice A_4 l_4.length c_4, .slice A_5 l_5.length c_5, .slice A_6 l_6.length c_6, .int .i64 a_7, .int .i64 a_8, .slice A_9 l_9.length c_9, .int .i64 a_a, .slice A_b l_b.length c_b, .slice A_c l_c.length c_c, .bool a_d, .string a_e, .int .i64 a_f, .string a_g, .bool a_h, .int .i64 a_i, .int .i64 a_j, .slice A_k l_k.length c_k, .slice A_l l_l.length c_l, .slice A_m l_m.length c_m, .slice A_n l_n.length c_n, .slice A_o l_o.length c_o, .bool a_p, .slice A_q l_q.length c_q, .slice A_r l_r.length c_r, .slice A_s l_s.length c_s, .string a_t], .slice A1 l1.length c1] w fun e w' => e = .returned (.tuple #[.string r1, .int .i64 r2]) ∧ Below w.heap.size w w' := by
 have HT := Aside0.mk hT
 clear hT
 have hu41 := Tryd.underlying41
 have HR_2 := Aside0.mk hr_2
 have HC_2 := Aside0.mk hc_2
 clear hr_2 hc_2
 have HR_3 := Aside0.mk hr_3
 have HC_3 := Aside0.mk hc_3
 clear hr_3 hc_3
 have HR_4 := Aside0.mk hr_4
 have HC_4 := Aside0.mk hc_4
 clear hr_4 hc_4
 have HR_5 := Aside0.mk hr_5
 have HC_5 := Aside0.mk hc_5
 clear hr_5 hc_5
 have HR_6 := Aside0.mk hr_6
 have HC_6 := Aside0.mk hc_6
 clear hr_6 hc_6
 have HR_9 := Aside0.mk hr_9
 have HC_9 := Aside0.mk hc_9
 clear hr_9 hc_9
 have HR_b := Aside0.mk hr_b
 have HC_b := Aside0.mk hc_b
 clear hr_b hc_b
 have HR_c := Aside0.mk hr_c
 have HC_c := Aside0.mk hc_c
 clear hr_c hc_c
 have HR_k := Aside0.mk hr_k
 have HC_k := Aside0.mk hc_k
 clear hr_k hc_k
 have HR_l := Aside0.mk hr_l
 have HC_l := Aside0.mk hc_l
 clear hr_l hc_l
 have HR_m := Aside0.mk hr_m
 have HC_m := Aside0.mk hc_m
 clear hr_m hc_m
 have HR_n := Aside0.mk hr_n
 have HC_n := Aside0.mk hc_n
 clear hr_n hc_n
 have HR_o := Aside0.mk hr_o
 have HC_o := Aside0.mk hc_o
 clear hr_o hc_o
 have HR_q := Aside0.mk hr_q
 have HC_q := Aside0.mk hc_q
 clear hr_q hc_q
 have HR_r := Aside0.mk hr_r
 have HC_r := Aside0.mk hc_r
 clear hr_r hc_r
 have HR_s := Aside0.mk hr_s
 have HC_s := Aside0.mk hc_s
 clear hr_s hc_s
 have HR1 := Aside0.mk hr1
 have HC1 := Aside0.mk hc1
 clear hr1 hc1
 have HB := Aside0.mk (Below.refl w.heap.size w)
 have H : ((orthography_valid.f k a_0 a_1 l_2 l_3 l_4 l_5 l_6 a_7 a_8 l_9 a_a l_b l_c a_d a_e a_f a_g a_h a_i a_j l_k l_l l_m l_n l_o a_p l_q l_r l_s a_t).bind fun t291 => (if t291 = true then (if (l1.length : Int) < 1 then (orthography_Text.j0 k l1 true a_0 a_1 l_2 l_3 l_4 l_5 l_6 a_7 a_8 l_9 a_a l_b l_c a_d a_e a_f a_g a_h a_i a_j l_k l_l l_m l_n l_o a_p l_q l_r l_s a_t) else (orthography_Text.j0 k l1 (decide ((l1.length : Int) > 8)) a_0 a_1 l_2 l_3 l_4 l_5 l_6 a_7 a_8 l_9 a_a l_b l_c a_d a_e a_f a_g a_h a_i a_j l_k l_l l_m l_n l_o a_p l_q l_r l_s a_t)) else (orthography_Text.j0 k l1 true a_0 a_1 l_2 l_3 l_4 l_5 l_6 a_7 a_8 l_9 a_a l_b l_c a_d a_e a_f a_g a_h a_i a_j l_k l_l l_m l_n l_o a_p l_q l_r l_s a_t))) = some (r1, r2) := h
 clear h
 have HC3 := Aside0.mk H
 clear H
 go_enter Tryd.func13, Tryd.ntmps13
 go_upto_region 1 with (first | ((with_reducible refine gate_load (t := 41) (p := 2) rfl ?_); (try (refine gate_guard (by rfl) ?_; dsimp only)); refine wpList_load_row rfl 41 (.tmp 2) rfl gb290 rfl 41 _ (0, 0) _ (tK BK290) Tryd.underlying41 rfl (by kernel_rfl) ?_) | ((with_reducible refine gate_dst (N := 2) rfl ?_); (try (refine gate_guard (by rfl) ?_; dsimp only)); refine box_event ?hg (N := 2) ?hd (cs := ?cs) (t := 41) ?hr ?_; (case hd => rfl); (case hg => rfl); (case hr => exact Gc6); intro gb290 hg w4 hbox hb; have n0_ := Aside0.mk (below_step (tB HB) hb); have n1_ := Aside0.mk (hbox); have n2_ := tZ hg (tS HB); have n3_ := tZ hg (tS HB); revert n0_ n1_ n2_ n3_; clear HB; intro HB BK290 GW290 GE290; clear hb hbox hg))
 (try simp only [Act.put, List.setIfInBounds_toArray, List.set_cons_zero, List.set_cons_succ])
 go_cut [23] (fun v23 wc => ∃ (kq : Nat) (x23_2 : Bool), v23 = .bool x23_2 ∧ Aside0 (orthography_Text.j0 kq l1 x23_2 a_0 a_1 l_2 l_3 l_4 l_5 l_6 a_7 a_8 l_9 a_a l_b l_c a_d a_e a_f a_g a_h a_i a_j l_k l_l l_m l_n l_o a_p l_q l_r l_s a_t = some (r1, r2)) ∧ Aside0 (kq ≤ k) ∧ Aside0 (wc.heap[gb290]? = some (.cells #[.string a_0, .bool a_1, (.slice A_2 l_2.length c_2), (.slice A_3 l_3.length c_3), (.slice A_4 l_4.length c_4), (.slice A_5 l_5.length c_5), (.slice A_6 l_6.length c_6), .int .i64 a_7, .int .i64 a_8, (.slice A_9 l_9.length c_9), .int .i64 a_a, (.slice A_b l_b.length c_b), (.slice A_c l_c.length c_c), .bool a_d, .string a_e, .int .i64 a_f, .string a_g, .bool a_h, .int .i64 a_i, .int .i64 a_j, (.slice A_k l_k.length c_k), (.slice A_l l_l.length c_l), (.slice A_m l_m.length c_m), (.slice A_n l_n.length c_n), (.slice A_o l_o.length c_o), .bool a_p, (.slice A_q l_q.length c_q), (.slice A_r l_r.length c_r), (.slice A_s l_s.length c_s), .string a_t] 41 (0, 0))) ∧ Aside0 (Below w.heap.size w wc))
 case first =>
  have H := HC3.out
  clear HC3
  replace H := bI H; obtain ⟨t291, A5, H⟩ := H; (try dsimp only at H)
  replace H := iT H; obtain ⟨rfl, H⟩ | ⟨rfl, H⟩ := H
  ·
   replace H := iF H; obtain ⟨c7, H⟩ | ⟨c7, H⟩ := H
   ·
    have c7b0 : decide ((l1.length : Int) < 1) = true := decide_eq_true c7
    have c7b1 : decide (l1.length < 1) = true := decide_eq_true (by omega)
    have mk1_ := trivial
    exact LPrF13xh1
   ·
    have c7b0 : decide ((l1.length : Int) < 1) = false := decide_eq_false c7
    have c7b1 : decide (l1.length < 1) = false := decide_eq_false (by omega)
    have mk0_ := trivial
    exact LPrF13xh1
  ·
   have H' := Aside0.mk H
   clear H
   go_wp2_with (first | ((with_reducible refine gate_load (t := 41) (p := 2) rfl ?_); (try (refine gate_guard (by rfl) ?_; dsimp only)); refine wpList_load_row rfl 41 (.tmp 2) rfl gb290 rfl 41 _ (0, 0) _ (tK BK290) Tryd.underlying41 rfl (by kernel_rfl) ?_) | ((with_reducible refine gate_callee (f := 18) rfl ?_); refine goesL_ (some 12) rfl rfl Tryd.func18 (by kernel_rfl) rfl #[.agg _] rfl Gc2 ?_; (with_reducible refine (orthography_valid.calls k a_0 a_1 _ _ l_2 _ _ l_3 _ _ l_4 _ _ l_5 _ _ l_6 a_7 a_8 _ _ l_9 a_a _ _ l_b _ _ l_c a_d a_e a_f a_g a_h a_i a_j _ _ l_k _ _ l_l _ _ l_m _ _ l_n _ _ l_o a_p _ _ l_q _ _ l_r _ _ l_s a_t false _ ?sT (tC HR_2 HB) HC_2.out (tC HR_3 HB) HC_3.out (tC HR_4 HB) HC_4.out (tC HR_5 HB) HC_5.out (tC HR_6 HB) HC_6.out (tC HR_9 HB) HC_9.out (tC HR_b HB) HC_b.out (tC HR_c HB) HC_c.out (tC HR_k HB) HC_k.out (tC HR_l HB) HC_l.out (tC HR_m HB) HC_m.out (tC HR_n HB) HC_n.out (tC HR_o HB) HC_o.out (tC HR_q HB) HC_q.out (tC HR_r HB) HC_r.out (tC HR_s HB) HC_s.out A5.out).mono ?_); (case sT => exact Gc1); rintro e w13 ⟨rfl, hb⟩; refine ⟨_, rfl, ?_⟩; have n0_ := Aside0.mk (blk_below (tK BK290) hb); have n1_ := Aside0.mk (below_step (tB HB) hb); revert n0_ n1_; clear BK290 HB; intro BK290 HB; (try clear hb); (try clear hb2); (try clear hk); (try clear hi)))
   go_meet
   case rel => exact ⟨_, (true), tV1, H', ⟨tU⟩, ⟨tK BK290⟩, ⟨tB HB⟩⟩
 case rest =>
  clear HC3
  obtain ⟨kq, x23_2, rfl, HA, HJ2, BK290, HB⟩ := hcut
  cases kq with
  | zero => exact absurd HA.out (by simp [orthography_Text.j0])
  | succ kj2 =>
   have H := HA.out
   clear HA
   simp only [orthography_Text.j0] at H
   replace H := iT H; obtain ⟨rfl, H⟩ | ⟨rfl, H⟩ := H
   ·
    simp only [Option.some.injEq, Prod.mk.injEq] at H
    obtain ⟨rfl, rfl⟩ := H
    go_wp2
    exact LPrF13x1
   ·
    have H' := Aside0.mk H
    clear H
    go_wp2
    go_loopg [6, 26] kj2 (fun kq v6 v26 w' => ∃ (x6_2 : List ByteArray) (x26_2 : Int), v26 = .int .i64 x26_2 ∧ Aside0 (orthography_Text.l0 kq x6_2 l1 (l1.length : Int) x26_2 a_0 a_1 l_2 l_3 l_4 l_5 l_6 a_7 a_8 l_9 a_a l_b l_c a_d a_e a_f a_g a_h a_i a_j l_k l_l l_m l_n l_o a_p l_q l_r l_s a_t = some (r1, r2)) ∧ Aside0 (kq ≤ kj2) ∧ Aside0 (Kd.R Kd.string 9 w' w.heap.size (fun _ => True) v6 x6_2) ∧ Aside0 (w'.heap[gb290]? = some (.cells #[.string a_0, .bool a_1, (.slice A_2 l_2.length c_2), (.slice A_3 l_3.length c_3), (.slice A_4 l_4.length c_4), (.slice A_5 l_5.length c_5), (.slice A_6 l_6.length c_6), .int .i64 a_7, .int .i64 a_8, (.slice A_9 l_9.length c_9), .int .i64 a_a, (.slice A_b l_b.length c_b), (.slice A_c l_c.length c_c), .bool a_d, .string a_e, .int .i64 a_f, .string a_g, .bool a_h, .int .i64 a_i, .int .i64 a_j, (.slice A_k l_k.length c_k), (.slice A_l l_l.length c_l), (.slice A_m l_m.length c_m), (.slice A_n l_n.length c_n), (.slice A_o l_o.length c_o), .bool a_p, (.slice A_q l_q.length c_q), (.slice A_r l_r.length c_r), (.slice A_s l_s.length c_s), .string a_t] 41 (0, 0))) ∧ Aside0 (Below w.heap.size w w'))
    case atStart => exact ⟨(([] : List ByteArray)), (0), tV1, H', ⟨Nat.le_refl _⟩, ⟨by first | exact Kd.R_nil _ _ _ _ _ | exact Kd.N_nil _ _ _ _ _ | exact Kd.V_nil _ _ _ _ _ | exact Kd.Q_nil _ _ _ _ _ | exact Kd.S_nil _ _ _ _ _⟩, ⟨tK BK290⟩, ⟨tB HB⟩⟩
    case round =>
     clear H'; (try clear c14)
     obtain ⟨x6_2, x26_2, rfl, HA, HK2, HO_6, BK290, HB⟩ := hrel
     cases gk with
     | zero => exact absurd HA.out (by simp [orthography_Text.l0])
     | succ k2 =>
      have H := HA.out
      clear HA
      simp only [orthography_Text.l0] at H
      replace H := iF H; obtain ⟨c15, H⟩ | ⟨c15, H⟩ := H
      ·
       have c15b0 : decide (x26_2 < (l1.length : Int)) = true := decide_eq_true c15
       clear c15
       replace H := iF H; obtain ⟨c16, H⟩ | ⟨c16, H⟩ := H
       ·
        have c16b0 : decide (0 ≤ x26_2) = true := decide_eq_true c16
        clear c16
        replace H := iF H; obtain ⟨c17, H⟩ | ⟨c17, H⟩ := H
        ·
         have c17b0 : decide (x26_2 < (l1.length : Int)) = true := decide_eq_true c17
         clear c17
         replace H := bI H; obtain ⟨⟨t293, t294⟩, A18, H⟩ := H; (try dsimp only at H)
         replace H := iE H; obtain ⟨-, c19b0, c19b1, H⟩ | ⟨c19, c19b0, c19b1, H⟩ := H
         ·
          replace H := iF H; obtain ⟨c20, H⟩ | ⟨c20, H⟩ := H
          ·
           have LMc20 := Aside0.mk c20
           clear c20
           obtain ⟨y295, hy295⟩ : ∃ y_ : List ByteArray, y_ = (x6_2 ++ [t293]) := ⟨_, rfl⟩
           replace H : (orthography_Text.l0 k2 y295 l1 (l1.length : Int) (wrap64 (x26_2 + 1)) a_0 a_1 l_2 l_3 l_4 l_5 l_6 a_7 a_8 l_9 a_a l_b l_c a_d a_e a_f a_g a_h a_i a_j l_k l_l l_m l_n l_o a_p l_q l_r l_s a_t) = some (r1, r2) := by first | (rw [hy295]; with_reducible exact H) | (have H2_ := (Option.bind_some _ _).symm.trans H; rw [hy295]; with_reducible exact H2_) | (have H2_ := (Option.bind_some _ _).symm.trans H; with_reducible exact H2_) | with_reducible exact H | (rw [hy295]; exact H) | exact H
           have Ny295 := Aside0.mk hy295
           clear hy295
           have H' := Aside0.mk H
           clear H
           have mk0_ := trivial
           exact LPrF13xh2
          ·
           exact absurd H (by simp)
         ·
          simp only [Option.some.injEq, Prod.mk.injEq] at H
          obtain ⟨rfl, rfl⟩ := H
          have mk1_ := trivial
          exact LPrF13xh2
        ·
         exact absurd H (by simp)
       ·
        exact absurd H (by simp)
      ·
       have c15b0 : decide (x26_2 < (l1.length : Int)) = false := decide_eq_false c15
       clear c15
       replace H := bI H; obtain ⟨t298, A26, H⟩ := H; (try dsimp only at H)
       simp only [Option.some.injEq, Prod.mk.injEq] at H
       obtain ⟨rfl, rfl⟩ := H
       obtain ⟨Ao27, co27, eo27⟩ := Kd.R_slice HO_6.out
       subst eo27
       go_wp2_with (first | ((with_reducible refine gate_load (t := 41) (p := 2) rfl ?_); (try (refine gate_guard (by rfl) ?_; dsimp only)); refine wpList_load_row rfl 41 (.tmp 2) rfl gb290 rfl 41 _ (0, 0) _ (tK BK290) Tryd.underlying41 rfl (by kernel_rfl) ?_) | ((with_reducible refine gate_callee (f := 21) rfl ?_); refine goesL_ (some 45) rfl rfl Tryd.func21 (by kernel_rfl) rfl #[.slice Ao27 x6_2.length co27, .string (⟨#[32]⟩ : ByteArray)] rfl Gc2 ?_; (with_reducible refine (strings_Join.calls _ _ x6_2 (⟨#[32]⟩ : ByteArray) t298 _ ?s1 ?s2 A26.out).mono ?_); (case s1 => repeat (first | exact (Kd.R_reads' HO_6.out).2.2 | (with_reducible refine Kd.C_alloc ?_ _) | (with_reducible refine Kd.C_drewN ?_ _) | (with_reducible refine Kd.C_drew ?_))); (case s2 => exact (Kd.R_reads' HO_6.out).2.1); rintro e w28 ⟨rfl, hb⟩; refine ⟨_, rfl, ?_⟩; have n0_ := Aside0.mk (Kd.R_below (dR HO_6) hb); have n1_ := Aside0.mk (blk_below (tK BK290) hb); have n2_ := Aside0.mk (below_step (tB HB) hb); revert n0_ n1_ n2_; clear HO_6 BK290 HB; intro HO_6 BK290 HB; (try clear hb); (try clear hb2); (try clear hk); (try clear hi)))
       exact LPrF13x1
def pentaglotref42_Same.l0 : Nat → List ByteArray → List ByteArray → Int → Option (Bool)
 | 0, _, _, _ => none
 | k + 1, x0, x1, x5 => if x5 < (x0.length : Int) then (if 0 ≤ x5 then (if x5 < (x1.length : Int) then (if (rdOf ByteArray.empty x0 x5).toList = (rdOf ByteArray.empty x1 x5).toList then (pentaglotref42_Same.l0 k x0 x1 (wrap64 (x5 + 1))) else (some false)) else (none)) else (none)) else (some true)
def pentaglotref42_Same.f (k : Nat) (l0 : List ByteArray) (l1 : List ByteArray) : Option (Bool) := if (l0.length : Int) = (l1.length : Int) then (pentaglotref42_Same.l0 k l0 l1 0) else (some false)
theorem LPrF10x1 {p : Prop} (h : p := by
  go_wp2
  repeat (go_quiet (fail); try go_wp2)
  go_ret
  exact ⟨by first | rfl | (simp; done) | (simp [*]; done), by repeat (first | exact Drawn0.refl _ | apply Drawn0.step)⟩) : p := h
theorem LPrF10xh1 {p : Prop} (h : p := by
  have z1_ : 0 ≤ (x5_1 : Int) := oD
  have z2_ : x5_1 < (l0.length : Int) := oD
  obtain ⟨z3_, z4_, z5_⟩ := Kd.at_string HR0.out x5_1 z1_ z2_
  cases z4_
  replace z1_ := eq_true z1_
  replace z2_ := eq_true z2_
  have z6_ : 0 ≤ (x5_1 : Int) := oD
  have z7_ : x5_1 < (l1.length : Int) := oD
  obtain ⟨z8_, z9_, z10_⟩ := Kd.at_string HR1.out x5_1 z6_ z7_
  cases z9_
  replace z6_ := eq_true z6_
  replace z7_ := eq_true z7_
  first
  | (have mk_ := mk0_
     go_wp2
     repeat (go_quiet (fail); try go_wp2)
     go_roundg k1
     case measure => have := HK1.out; omega
     case rel => exact ⟨(wrap64 (x5_1 + 1)), tV1, H', ⟨by have := HK1.out; omega⟩, by repeat (first | exact Drawn0.refl _ | apply Drawn0.step)⟩)
  | (have mk_ := mk1_
     exact LPrF10x1)) : p := h
set_option maxHeartbeats 8000000 in
set_option maxRecDepth 100000 in
theorem pentaglotref42_Same.calls (k : Nat) (A0 : Option Addr) (c0 : Nat) (l0 : List ByteArray) (A1 : Option Addr) (c1 : Nat) (l1 : List ByteArray) (r : Bool) (w : World) (hr0 : Kd.C Kd.string w A0 l0.length l0) (hc0 : l0.length ≤ c0) (hr1 : Kd.C Kd.string w A1 l1.length l1) (hc1 : l1.length ≤ c1) (h : pentaglotref42_Same.f k l0 l1 = some r) :
 Calls Tryd.prog 10 #[.slice A0 l0.length c0, .slice A1 l1.length c1] w fun e w' => e = .returned (.bool r) ∧ Drawn0 w w' := by
 have HR0 := Aside0.mk hr0
 have HC0 := Aside0.mk hc0
 clear hr0 hc0
 have HR1 := Aside0.mk hr1
 have HC1 := Aside0.mk hc1
 clear hr1 hc1
 have H : (if (l0.length : Int) = (l1.length : Int) then (pentaglotref42_Same.l0 k l0 l1 0) else (some false)) = some r := h
 clear h
 replace H := iE H; obtain ⟨c3, c3b0, c3b1, H⟩ | ⟨c3, c3b0, c3b1, H⟩ := H
 ·
  obtain ⟨_, _, c3b2⟩ := eP2 c3
  clear c3
  have H' := Aside0.mk H
  clear H
  go_enter Tryd.func10, Tryd.ntmps10
  go_wp2
  repeat (go_quiet (fail); try go_wp2)
  go_loopg [5] k (fun kq v5 w' => ∃ (x5_1 : Int), v5 = .int .i64 x5_1 ∧ Aside0 (pentaglotref42_Same.l0 kq l0 l1 x5_1 = some r) ∧ Aside0 (kq ≤ k) ∧ Drawn0 w w')
  case atStart => exact ⟨(0), tV1, H', ⟨Nat.le_refl _⟩, by repeat (first | exact Drawn0.refl _ | apply Drawn0.step)⟩
  case round =>
   clear H'; (try clear c3); (try clear c3b0); (try clear c3b1); (try clear c3b2)
   obtain ⟨x5_1, rfl, HA, HK1, ⟨m1, rfl⟩⟩ := hrel
   cases gk with
   | zero => exact absurd HA.out (by simp [pentaglotref42_Same.l0])
   | succ k1 =>
    have H := HA.out
    clear HA
    simp only [pentaglotref42_Same.l0] at H
    replace H := iF H; obtain ⟨c4, H⟩ | ⟨c4, H⟩ := H
    ·
     have c4b0 : decide (x5_1 < (l0.length : Int)) = true := decide_eq_true c4
     clear c4
     replace H := iF H; obtain ⟨c5, H⟩ | ⟨c5, H⟩ := H
     ·
      have c5b0 : decide (0 ≤ x5_1) = true := decide_eq_true c5
      clear c5
      replace H := iF H; obtain ⟨c6, H⟩ | ⟨c6, H⟩ := H
      ·
       have c6b0 : decide (x5_1 < (l1.length : Int)) = true := decide_eq_true c6
       clear c6
       replace H := iE H; obtain ⟨-, c7b0, c7b1, H⟩ | ⟨c7, c7b0, c7b1, H⟩ := H
       ·
        have H' := Aside0.mk H
        clear H
        have mk0_ := trivial
        exact LPrF10xh1
       ·
        obtain rfl := Option.some.inj H
        have mk1_ := trivial
        exact LPrF10xh1
      ·
       exact absurd H (by simp)
     ·
      exact absurd H (by simp)
    ·
     have c4b0 : decide (x5_1 < (l0.length : Int)) = false := decide_eq_false c4
     clear c4
     obtain rfl := Option.some.inj H
     exact LPrF10x1
 ·
  obtain ⟨_, _, c3b2⟩ := eN2 c3
  obtain rfl := Option.some.inj H
  go_enter Tryd.func10, Tryd.ntmps10
  exact LPrF10x1
end Go.Proofs.YtfbhdjflkaldgaaDoor.Pr

namespace Go.Proofs.YtfbhdjflkaldgaaDoor.Pr
open Go.Proofs.YtfbhdjflkaldgaaDoor.Ct Go.RowKit Go.Maps Go.Lib Go.Proofs.YtfbhdjflkaldgaaDoorW.PrintWords Go.Proofs.YtfbhdjflkaldgaaDoorW.PrintLast Go.Proofs.YtfbhdjflkaldgaaDoorW.PrintMore
def awA : List S80 := [⟨97, 1⟩, ⟨101, 1⟩, ⟨116, 2⟩, ⟨110, 2⟩]
def awI : List S82 := [⟨2147483648, ⟨#[]⟩, false, false⟩]
def awR : List S85 := [⟨101, ⟨#[]⟩, [], awI, false, false⟩]
def awS : ByteArray := ⟨#[46]⟩
theorem aw1 : orthography_Sentence.f 60 ⟨#[]⟩ false awA [] [] [] [] 0 0 awR 0 [] [] false ⟨#[]⟩ 0 ⟨#[]⟩ false 0 0 [] [] [] [] [] false [] [] [] awS [⟨#[116, 97, 110, 101]⟩, ⟨#[61, 97]⟩, ⟨#[101, 116]⟩] = some (⟨#[116, 97, 110, 97, 32, 101, 116, 46]⟩, 0) := by kernel_rfl
theorem aw2 : orthography_Sentence.f 60 ⟨#[]⟩ false awA [] [] [] [] 0 0 awR 0 [] [] false ⟨#[]⟩ 0 ⟨#[]⟩ false 0 0 [] [] [] [] [] false [] [] [] awS [⟨#[61, 97]⟩, ⟨#[101, 116]⟩] = some (⟨#[]⟩, 1) := by kernel_rfl
theorem aw3 : orthography_Text.f 60 ⟨#[]⟩ false awA [] [] [] [] 0 0 awR 0 [] [] false ⟨#[]⟩ 0 ⟨#[]⟩ false 0 0 [] [] [] [] [] false [] [] [] awS [[⟨#[116, 97, 110]⟩], [⟨#[101, 116]⟩, ⟨#[61, 110, 97]⟩]] = some (⟨#[116, 97, 110, 46, 32, 101, 116, 110, 97, 46]⟩, 0) := by kernel_rfl
theorem aw4 : orthography_Sentences.f ⟨#[]⟩ false awA [] [] [] [] 0 0 awR 0 [] [] false ⟨#[]⟩ 0 ⟨#[]⟩ false 0 0 [] [] [] [] [] false [] [] [] awS ⟨#[116, 97, 110, 46, 32, 101, 116, 110, 97, 46]⟩ = some ([⟨#[116, 97, 110, 46]⟩, ⟨#[101, 116, 110, 97, 46]⟩], 0) := by kernel_rfl
theorem aw5 : orthography_Words.f ⟨#[]⟩ false awA [] [] [] [] 0 0 awR 0 [] [] false ⟨#[]⟩ 0 ⟨#[]⟩ false 0 0 [] [] [] [] [] false [] [] [] awS ⟨#[116, 97, 110, 97, 32, 101, 116, 46]⟩ = some ([⟨#[116, 97, 110, 97]⟩, ⟨#[101, 116]⟩], 0) := by kernel_rfl
theorem aw6 : orthography_Words.f ⟨#[]⟩ false awA [] [] [] [] 0 0 awR 0 [] [] false ⟨#[]⟩ 0 ⟨#[]⟩ false 0 0 [] [] [] [] [] false [] [] [] awS ⟨#[116, 97, 110, 32, 32, 101, 116, 46]⟩ = some ([], 3) := by kernel_rfl
theorem aw7 : pentaglotref42_Same.f 9 [⟨#[116, 97, 110, 46]⟩, ⟨#[101, 116, 110, 97, 46]⟩] [⟨#[116, 97, 110, 46]⟩, ⟨#[101, 116, 110, 97, 46]⟩] = some true := by kernel_rfl
theorem aw8 : pentaglotref42_Same.f 9 [⟨#[116, 97, 110, 97]⟩, ⟨#[101, 116]⟩] [⟨#[116, 97, 110, 97]⟩, ⟨#[101, 116]⟩] = some true := by kernel_rfl
set_option linter.unusedVariables false
set_option linter.unusedSimpArgs false
theorem C_lit {α : Type} {d : Kd α} {W : World} {g : Nat} {T : TypeId} {fr : Nat × Nat} {cells : Array Value} (hb : W.heap[g]? = some (.cells cells T fr)) (xs : List α) (hl : xs.length ≤ 9223372036854775807)
    (hk : ∀ j x, xs[j]? = some x → ∃ c, (cells.toList.drop (j * d.sz)).take d.sz = c ∧ c.length = d.sz ∧ d.K W x c) : d.C W (some ⟨g, 0, none⟩) xs.length xs := by
  refine ⟨rfl, hl, fun _ => ⟨_, rfl, fun j p hj => ?_⟩⟩
  obtain ⟨c, hc, hs, hK⟩ := hk j p hj
  refine ⟨c, hs, hK, fun i u hu => ?_⟩
  rw [add_plain, cell_of_row _ _ _ _ _ _ hb]
  subst hc
  rw [List.getElem?_take] at hu
  split at hu
  · rw [List.getElem?_drop] at hu
    simpa using hu
  · cases hu
theorem bel_trans {u v w : World} (h : Below u.heap.size u v) (h2 : Below v.heap.size v w) : Below u.heap.size u w := h.trans (h2.mono h.size)
section
variable {P : Program} {ops : Array Oper} {rest : List Oper} {o : Oper} {a : Act} {Q : Exit → Act → World → Prop}
theorem slice_event {W : World} (hgd : o.guard = none) {N : Tmp} (_hd : o.dst = some N) {cs : Array Value} {t : TypeId} {n : Nat}
    (hrun : (execOp a.eval o).run P W = .ok (.value (.slice (some ⟨W.heap.size, 0, none⟩) n n)) (W.alloc (.cells cs t (0, 0))))
    (h : ∀ g, g = W.heap.size → ∀ w1, w1.heap[g]? = some (.cells cs t (0, 0)) → Below W.heap.size W w1 → wpList P ops Q rest (a.put o.dst (.slice (some ⟨g, 0, none⟩) n n)) w1) : wpList P ops Q (o :: rest) a W :=
  Kd.event_run hgd hrun (h _ rfl _ (blk_new W _) (below_alloc (Below.refl _ _) _))
theorem bel_row {b g : Nat} {u w : World} (h : Below b u w) (hg : b ≤ g) (cs : Array Value) : Below b u (w.setRow g cs) :=
  h.trans ⟨rfl, rfl, rfl, by simp, fun k hk => setRow_other w g k cs (by omega)⟩
theorem row_event {W w0 : World} {b : Nat} (hgd : o.guard = none) (ty : TypeId) (x y : Operand) (ho : o.op = .store ty x y) (hd : o.dst = none) (g : Nat) (cs : Array Value) (hx : a.eval x = .pointer (some ⟨g, 0, none⟩)) (hy : a.eval y = .agg cs)
    (t : TypeId) (old : Array Value) (hg : W.heap[g]? = some (.cells old t (0, 0))) (hi : (P.info? ty).map (·.size) = some cs.size) (hold : old.size = cs.size) (h1 : cs.all (·.oneCell') = true) (HB : Below b w0 W) (hb : b ≤ g)
    (h : ∀ w1, w1.heap[g]? = some (.cells cs t (0, 0)) → (∀ k, k ≠ g → w1.heap[k]? = W.heap[k]?) → Below b w0 w1 → wpList P ops Q rest a w1) : wpList P ops Q (o :: rest) a W :=
  wpList_store_row hgd ty x y ho g cs hx hy t old hg hi hold h1 (by rw [hd]; exact h _ (setRow_heap W g old cs t (0, 0) hg) (fun k hk => setRow_other W g k cs hk) (bel_row HB hb cs))
theorem cell_event {W w0 : World} {b : Nat} (hgd : o.guard = none) (ty : TypeId) (x y : Operand) (ho : o.op = .store ty x y) (hd : o.dst = none) (g j : Nat) (v : Value) (hx : a.eval x = .pointer (some ⟨g, j, none⟩)) (hy : a.eval y = v) (h1 : v.oneCell' = true)
    (t : TypeId) (old cs : Array Value) (hg : W.heap[g]? = some (.cells old t (0, 0))) (hj : j < old.size) (hcs : old.setIfInBounds j v = cs) (hi : (P.info? ty).map (·.size) = some 1) (HB : Below b w0 W) (hb : b ≤ g)
    (h : ∀ w1, w1.heap[g]? = some (.cells cs t (0, 0)) → (∀ k, k ≠ g → w1.heap[k]? = W.heap[k]?) → Below b w0 w1 → wpList P ops Q rest a w1) : wpList P ops Q (o :: rest) a W := by
  have hrun : (storeVar ty ⟨g, j, none⟩ v).run P W = .ok () (W.setCell ⟨g, j, none⟩ v) := by
    have hc : v.cells = #[v] := by cases v <;> first | rfl | cases h1
    have h2 := run_storeCells_cells (P := P) g j [v] 0 W (fun i hi2 => by
        have : i = 0 := by simpa using hi2
        subst this
        show (W.cell? ⟨g, j, none⟩).isSome = true
        rw [blk_cell hg, Array.getElem?_eq_getElem hj]; rfl) (fun i hi2 => blk_frozen hg _) (fun x hx => by simp at hx; subst hx; exact h1)
    cases hq : P.info? ty with
    | none => simp [hq] at hi
    | some i =>
      have hs : i.size = 1 := by simpa [hq] using hi
      simp only [Nat.add_zero] at h2
      have h3 : W.setCells g j [v] = W.setCell ⟨g, j, none⟩ v := rfl
      rw [h3] at h2
      simp [storeVar, sizeOf, typeInfo, hq, hc, hs, h2]
  refine wpList_plain hgd fun _ hK => ?_
  unfold Oper.wp execOp
  simp only [ho, hx, hy, Instr.storeAt, Instr.sureAddr, Sem.run_bind, Sem.run_pure, Result.andThen_ok, hrun]
  refine hK _ _ ?_
  rw [hd]
  exact h _ (blk_put hg j v hcs) (fun k hk => Below.heap_setCell W _ v k hk) (HB.setCell hb v)
end
def awV (A2 A9 : Option Addr) (c2 c9 : Nat) : Value := .agg #[.string ⟨#[]⟩, .bool false, .slice A2 4 c2, .slice none 0 0, .slice none 0 0, .slice none 0 0, .slice none 0 0, .int .i64 0, .int .i64 0, .slice A9 1 c9, .int .i64 0, .slice none 0 0, .slice none 0 0, .bool false, .string ⟨#[]⟩, .int .i64 0, .string ⟨#[]⟩, .bool false, .int .i64 0, .int .i64 0, .slice none 0 0, .slice none 0 0, .slice none 0 0, .slice none 0 0, .slice none 0 0, .bool false, .slice none 0 0, .slice none 0 0, .slice none 0 0, .string ⟨#[46]⟩]
def AwL (w : World) (v : Value) : Prop := ∃ A2 A9 c2 c9, v = awV A2 A9 c2 c9 ∧ Kd.C k80 w A2 awA.length awA ∧ awA.length ≤ c2 ∧ Kd.C k85 w A9 awR.length awR ∧ awR.length ≤ c9
theorem AwL.below {w w' : World} {v : Value} (h : AwL w v) (hb : Below w.heap.size w w') : AwL w' v := by
  obtain ⟨A2, A9, c2, c9, e, h1, h2, h3, h4⟩ := h
  exact ⟨A2, A9, c2, c9, e, Kd.C_below h1 hb, h2, Kd.C_below h3 hb, h4⟩
theorem aw_let (W : World) (g : Nat) (h : W.heap[g]? = some (.cells #[.int .i32 97, .int .u32 1, .int .i32 101, .int .u32 1, .int .i32 116, .int .u32 2, .int .i32 110, .int .u32 2] 80 (0, 0))) : Kd.C k80 W (some ⟨g, 0, none⟩) awA.length awA := by
  refine C_lit h awA (by decide) fun j x hj => ?_
  match j, hj with
  | 0, hj => cases hj; exact ⟨_, rfl, rfl, k80_mk _ _⟩
  | 1, hj => cases hj; exact ⟨_, rfl, rfl, k80_mk _ _⟩
  | 2, hj => cases hj; exact ⟨_, rfl, rfl, k80_mk _ _⟩
  | 3, hj => cases hj; exact ⟨_, rfl, rfl, k80_mk _ _⟩
  | n + 4, hj => simp [awA] at hj
theorem aw_item (W : World) (g : Nat) (h : W.heap[g]? = some (.cells #[.int .u32 2147483648, .string ⟨#[]⟩, .bool false, .bool false] 82 (0, 0))) : Kd.C k82 W (some ⟨g, 0, none⟩) awI.length awI := by
  refine C_lit h awI (by decide) fun j x hj => ?_
  match j, hj with
  | 0, hj => cases hj; exact ⟨_, rfl, rfl, k82_mk _ _⟩
  | n + 1, hj => simp [awI] at hj
theorem aw_rule (W : World) (g3 g : Nat) (h3 : W.heap[g3]? = some (.cells #[.int .u32 2147483648, .string ⟨#[]⟩, .bool false, .bool false] 82 (0, 0))) (h : W.heap[g]? = some (.cells #[.int .i32 101, .string ⟨#[]⟩, .slice none 0 0, .slice (some ⟨g3, 0, none⟩) 1 1, .bool false, .bool false] 85 (0, 0))) : Kd.C k85 W (some ⟨g, 0, none⟩) awR.length awR := by
  refine C_lit h awR (by decide) fun j x hj => ?_
  match j, hj with
  | 0, hj => cases hj; exact ⟨_, rfl, rfl, k85_mk _ _ (Nat.le_refl _) ⟨rfl, by decide, fun h => absurd h (by decide)⟩ (Nat.le_refl _) (aw_item W g3 h3)⟩
  | n + 1, hj => simp [awR] at hj
set_option maxRecDepth 100000 in
set_option maxHeartbeats 4000000 in
theorem lang_calls (w : World) : Calls Tryd.prog 17 #[] w fun e w' => ∃ v, e = .returned v ∧ AwL w' v ∧ Below w.heap.size w w' := by
  go_enter Tryd.func17, Tryd.ntmps17
  go_wp2_with (first 
    | ((with_reducible refine gate_dst (N := 0) rfl ?_); refine box_event ?hg (N := 0) ?hd (cs := #[.string ⟨#[]⟩, .bool false, .slice none 0 0, .slice none 0 0, .slice none 0 0, .slice none 0 0, .slice none 0 0, .int .i64 0, .int .i64 0, .slice none 0 0, .int .i64 0, .slice none 0 0, .slice none 0 0, .bool false, .string ⟨#[]⟩, .int .i64 0, .string ⟨#[]⟩, .bool false, .int .i64 0, .int .i64 0, .slice none 0 0, .slice none 0 0, .slice none 0 0, .slice none 0 0, .slice none 0 0, .bool false, .slice none 0 0, .slice none 0 0, .slice none 0 0, .string ⟨#[]⟩]) (t := 41) ?hr ?_; (case hd => rfl); (case hg => rfl); (case hr => exact Gc6); intro g0 hg0 w1 hx0 hb0; have HB1 := Aside0.mk hb0; have GE0 := Aside0.mk (show w.heap.size ≤ g0 from by omega); have X0a := Aside0.mk hx0; clear hb0 hx0 hg0)
    | ((with_reducible refine gate_dst (N := 1) rfl ?_); refine box_event ?hg (N := 1) ?hd (cs := #[.string ⟨#[]⟩, .bool false, .slice none 0 0, .slice none 0 0, .slice none 0 0, .slice none 0 0, .slice none 0 0, .int .i64 0, .int .i64 0, .slice none 0 0, .int .i64 0, .slice none 0 0, .slice none 0 0, .bool false, .string ⟨#[]⟩, .int .i64 0, .string ⟨#[]⟩, .bool false, .int .i64 0, .int .i64 0, .slice none 0 0, .slice none 0 0, .slice none 0 0, .slice none 0 0, .slice none 0 0, .bool false, .slice none 0 0, .slice none 0 0, .slice none 0 0, .string ⟨#[]⟩]) (t := 41) ?hr ?_; (case hd => rfl); (case hg => rfl); (case hr => exact Gc6); intro g1 hg1 w2 hx1 hb1; have HB2 := Aside0.mk (bel_trans HB1.out hb1); have X0b := Aside0.mk (blk_below X0a.out hb1); have X1b := Aside0.mk hx1; have GE1 := Aside0.mk (show w.heap.size ≤ g1 from by have := HB1.out.size; omega); have NE := Aside0.mk (show g0 ≠ g1 from by have := blk_lt X0a.out; omega); clear hx1 hb1 hg1 X0a HB1)
    | ((with_reducible refine gate_store (t := 41) (p := 1) (v := .tmp 2) rfl ?_); refine row_event rfl 41 (.tmp 1) (.tmp 2) rfl rfl g1 (#[.string ⟨#[]⟩, .bool false, .slice none 0 0, .slice none 0 0, .slice none 0 0, .slice none 0 0, .slice none 0 0, .int .i64 0, .int .i64 0, .slice none 0 0, .int .i64 0, .slice none 0 0, .slice none 0 0, .bool false, .string ⟨#[]⟩, .int .i64 0, .string ⟨#[]⟩, .bool false, .int .i64 0, .int .i64 0, .slice none 0 0, .slice none 0 0, .slice none 0 0, .slice none 0 0, .slice none 0 0, .bool false, .slice none 0 0, .slice none 0 0, .slice none 0 0, .string ⟨#[46]⟩]) rfl rfl 41 _ X1b.out (by kernel_rfl) (by rfl) (by first | kernel_rfl | (simp [Value.oneCell']; done) | decide) HB2.out GE1.out ?_; intro w3 hx hk hb; have X1c := Aside0.mk hx; have X0c := Aside0.mk ((hk g0 NE.out).trans X0b.out); have HB3 := Aside0.mk hb; clear hx hk hb X0b X1b HB2)
    | ((with_reducible refine gate_dst (N := 7) rfl ?_); refine slice_event ?hg (N := 7) ?hd (cs := #[.int .i32 97, .int .u32 1, .int .i32 101, .int .u32 1, .int .i32 116, .int .u32 2, .int .i32 110, .int .u32 2]) (t := 80) (n := 4) ?hr ?_; (case hd => rfl); (case hg => rfl); (case hr => exact Gc6); intro g2 hg2 w4 hx hb; have X1d := Aside0.mk (blk_below X1c.out hb); have X0d := Aside0.mk (blk_below X0c.out hb); have X2d := Aside0.mk hx; have HB4 := Aside0.mk (bel_trans HB3.out hb); have NE2 := Aside0.mk (show g2 ≠ g1 from by have := blk_lt X1c.out; omega); have NE20 := Aside0.mk (show g2 ≠ g0 from by have := blk_lt X0c.out; omega); clear hx hb hg2 X1c X0c HB3)
    | ((with_reducible refine gate_store (t := 22) (p := 9) (v := .tmp 7) rfl ?_); refine cell_event rfl 22 (.tmp 9) (.tmp 7) rfl rfl g1 2 (.slice (some ⟨g2, 0, none⟩) 4 4) rfl rfl rfl 41 _ (#[.string ⟨#[]⟩, .bool false, .slice (some ⟨g2, 0, none⟩) 4 4, .slice none 0 0, .slice none 0 0, .slice none 0 0, .slice none 0 0, .int .i64 0, .int .i64 0, .slice none 0 0, .int .i64 0, .slice none 0 0, .slice none 0 0, .bool false, .string ⟨#[]⟩, .int .i64 0, .string ⟨#[]⟩, .bool false, .int .i64 0, .int .i64 0, .slice none 0 0, .slice none 0 0, .slice none 0 0, .slice none 0 0, .slice none 0 0, .bool false, .slice none 0 0, .slice none 0 0, .slice none 0 0, .string ⟨#[46]⟩]) X1d.out (show (_ : Nat) < 30 by decide) (by rfl) (by kernel_rfl) HB4.out GE1.out ?_; intro w5 hx hk hb; have X1e := Aside0.mk hx; have X0e := Aside0.mk ((hk g0 NE.out).trans X0d.out); have X2e := Aside0.mk ((hk g2 NE2.out).trans X2d.out); have HB5 := Aside0.mk hb; clear hx hk hb X0d X1d X2d HB4)
    | ((with_reducible refine gate_dst (N := 11) rfl ?_); refine slice_event ?hg (N := 11) ?hd (cs := #[.int .u32 2147483648, .string ⟨#[]⟩, .bool false, .bool false]) (t := 82) (n := 1) ?hr ?_; (case hd => rfl); (case hg => rfl); (case hr => exact Gc6); intro g3 hg3 w6 hx hb; have X1f := Aside0.mk (blk_below X1e.out hb); have X0f := Aside0.mk (blk_below X0e.out hb); have X2f := Aside0.mk (blk_below X2e.out hb); have X3f := Aside0.mk hx; have HB6 := Aside0.mk (bel_trans HB5.out hb); have NE3 := Aside0.mk (show g3 ≠ g1 from by have := blk_lt X1e.out; omega); have NE30 := Aside0.mk (show g3 ≠ g0 from by have := blk_lt X0e.out; omega); clear hx hb hg3 X1e X0e X2e HB5)
    | ((with_reducible refine gate_dst (N := 13) rfl ?_); refine slice_event ?hg (N := 13) ?hd (cs := #[.int .i32 101, .string ⟨#[]⟩, .slice none 0 0, .slice (some ⟨g3, 0, none⟩) 1 1, .bool false, .bool false]) (t := 85) (n := 1) ?hr ?_; (case hd => rfl); (case hg => rfl); (case hr => exact Gc6); intro g4 hg4 w7 hx hb; have X1g := Aside0.mk (blk_below X1f.out hb); have X0g := Aside0.mk (blk_below X0f.out hb); have X2g := Aside0.mk (blk_below X2f.out hb); have X3g := Aside0.mk (blk_below X3f.out hb); have X4g := Aside0.mk hx; have HB7 := Aside0.mk (bel_trans HB6.out hb); have NE4 := Aside0.mk (show g4 ≠ g1 from by have := blk_lt X1f.out; omega); have NE40 := Aside0.mk (show g4 ≠ g0 from by have := blk_lt X0f.out; omega); clear hx hb hg4 X1f X0f X2f X3f HB6)
    | ((with_reducible refine gate_store (t := 23) (p := 14) (v := .tmp 13) rfl ?_); refine cell_event rfl 23 (.tmp 14) (.tmp 13) rfl rfl g1 9 (.slice (some ⟨g4, 0, none⟩) 1 1) rfl rfl rfl 41 _ (#[.string ⟨#[]⟩, .bool false, .slice (some ⟨g2, 0, none⟩) 4 4, .slice none 0 0, .slice none 0 0, .slice none 0 0, .slice none 0 0, .int .i64 0, .int .i64 0, .slice (some ⟨g4, 0, none⟩) 1 1, .int .i64 0, .slice none 0 0, .slice none 0 0, .bool false, .string ⟨#[]⟩, .int .i64 0, .string ⟨#[]⟩, .bool false, .int .i64 0, .int .i64 0, .slice none 0 0, .slice none 0 0, .slice none 0 0, .slice none 0 0, .slice none 0 0, .bool false, .slice none 0 0, .slice none 0 0, .slice none 0 0, .string ⟨#[46]⟩]) X1g.out (show (_ : Nat) < 30 by decide) (by rfl) (by kernel_rfl) HB7.out GE1.out ?_; intro w8 hx hk hb; have X1h := Aside0.mk hx; have X0h := Aside0.mk ((hk g0 NE.out).trans X0g.out); have X2h := Aside0.mk ((hk g2 NE2.out).trans X2g.out); have X3h := Aside0.mk ((hk g3 NE3.out).trans X3g.out); have X4h := Aside0.mk ((hk g4 NE4.out).trans X4g.out); have HB8 := Aside0.mk hb; clear hx hk hb X0g X1g X2g X3g X4g HB7)
    | ((with_reducible refine gate_load (t := 41) (p := 1) rfl ?_); refine wpList_load_row rfl 41 (.tmp 1) rfl g1 rfl 41 _ (0, 0) _ X1h.out Tryd.underlying41 rfl (by kernel_rfl) ?_)
    | ((with_reducible refine gate_store (t := 41) (p := 0) (v := .tmp 15) rfl ?_); refine row_event rfl 41 (.tmp 0) (.tmp 15) rfl rfl g0 (#[.string ⟨#[]⟩, .bool false, .slice (some ⟨g2, 0, none⟩) 4 4, .slice none 0 0, .slice none 0 0, .slice none 0 0, .slice none 0 0, .int .i64 0, .int .i64 0, .slice (some ⟨g4, 0, none⟩) 1 1, .int .i64 0, .slice none 0 0, .slice none 0 0, .bool false, .string ⟨#[]⟩, .int .i64 0, .string ⟨#[]⟩, .bool false, .int .i64 0, .int .i64 0, .slice none 0 0, .slice none 0 0, .slice none 0 0, .slice none 0 0, .slice none 0 0, .bool false, .slice none 0 0, .slice none 0 0, .slice none 0 0, .string ⟨#[46]⟩]) rfl rfl 41 _ X0h.out (by kernel_rfl) (by rfl) (by first | kernel_rfl | (simp [Value.oneCell']; done) | decide) HB8.out GE0.out ?_; intro w9 hx hk hb; have X0i := Aside0.mk hx; have X2i := Aside0.mk ((hk g2 NE20.out).trans X2h.out); have X3i := Aside0.mk ((hk g3 NE30.out).trans X3h.out); have X4i := Aside0.mk ((hk g4 NE40.out).trans X4h.out); have HB9 := Aside0.mk hb; clear hx hk hb X0h X1h X2h X3h X4h HB8))
  refine bodyPost_ret (results_cell_row rfl _ _ g0 41 (#[.string ⟨#[]⟩, .bool false, .slice (some ⟨g2, 0, none⟩) 4 4, .slice none 0 0, .slice none 0 0, .slice none 0 0, .slice none 0 0, .int .i64 0, .int .i64 0, .slice (some ⟨g4, 0, none⟩) 1 1, .int .i64 0, .slice none 0 0, .slice none 0 0, .bool false, .string ⟨#[]⟩, .int .i64 0, .string ⟨#[]⟩, .bool false, .int .i64 0, .int .i64 0, .slice none 0 0, .slice none 0 0, .slice none 0 0, .slice none 0 0, .slice none 0 0, .bool false, .slice none 0 0, .slice none 0 0, .slice none 0 0, .string ⟨#[46]⟩]) (0, 0) _ rfl X0i.out Tryd.underlying41 rfl (by kernel_rfl)) rfl ?_
  exact ⟨_, rfl, ⟨_, _, _, _, rfl, aw_let _ _ X2i.out, Nat.le_refl _, aw_rule _ _ _ X3i.out X4i.out, Nat.le_refl _⟩, HB9.out⟩
end Go.Proofs.YtfbhdjflkaldgaaDoor.Pr
