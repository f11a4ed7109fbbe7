/- orthography.Sentences. -/
import Derived.Test.YtfbhdjflkaldgaaDoorMg16
namespace Go.Proofs.YtfbhdjflkaldgaaDoor.Pr
open Go.Proofs.YtfbhdjflkaldgaaDoor.Ct Go.RowKit Go.Maps Go.Lib Go.Proofs.YtfbhdjflkaldgaaDoorW.PrintWords Go.Proofs.YtfbhdjflkaldgaaDoorW.PrintLast Go.Proofs.YtfbhdjflkaldgaaDoorW.PrintMore
set_option linter.unusedVariables false
set_option linter.unusedSimpArgs false
theorem read_bound (L : Int → Bool) (stop : Int) : ∀ (R : List Int) (ws : List (List Int)) (cur : List Int) (ended blank : Bool) (o : List (List (List Int))), readOk L stop R ws cur ended blank = some o → (∀ x ∈ ws, x.length ≤ 40) → cur.length ≤ 40 → ∀ s ∈ o, s.length ≤ ws.length + R.length + 1 ∧ ∀ x ∈ s, x.length ≤ 40
  | [], ws, cur, ended, blank, o, h, hw, hc => by
    intro s hs
    rw [readOk] at h
    split at h
    · cases h; cases hs
    · cases h
  | r :: t, ws, cur, ended, blank, o, h, hw, hc => by
    intro s hs
    rw [readOk] at h
    split at h
    · rename_i c
      have ih := read_bound L stop t ws (cur ++ [r]) false false o h hw Gc18 s hs
      exact ⟨by rw [List.length_cons]; omega, ih.2⟩
    · split at h
      · have hw2 : ∀ x ∈ (if 0 < cur.length then ws ++ [cur] else ws), x.length ≤ 40 := by
          intro x hx
          split at hx
          · rcases List.mem_append.1 hx with h9 | h9
            · exact hw x h9
            · rw [List.mem_singleton.1 h9]; exact hc
          · exact hw x hx
        have ih := read_bound L stop t _ [] false true o h hw2 (by simp) s hs
        refine ⟨?_, ih.2⟩
        have h1 := ih.1
        rw [List.length_cons]
        have h2 : (if 0 < cur.length then ws ++ [cur] else ws).length ≤ ws.length + 1 := by split <;> simp
        omega
      · split at h
        · obtain ⟨o', ho', rfl⟩ := Option.map_eq_some_iff.1 h
          rcases List.mem_cons.1 hs with rfl | hs
          · refine ⟨by rw [List.length_append, List.length_singleton, List.length_cons]; omega, ?_⟩
            intro x hx
            rcases List.mem_append.1 hx with h9 | h9
            · exact hw x h9
            · rw [List.mem_singleton.1 h9]; exact hc
          · have ih := read_bound L stop t [] [] true blank o' ho' (by simp) (by simp) s hs
            exact ⟨by rw [List.length_cons]; have := ih.1; simp at this; omega, ih.2⟩
        · cases h
theorem readT_bound {l : List S80} {stop : Int} {text : ByteArray} {o : List (List ByteArray)} (h : readT l stop text = some o) : ∀ s ∈ o, s.length ≤ text.size + 1 ∧ ∀ x ∈ s, x.size ≤ 160 := by
  unfold readT at h
  split at h
  · obtain ⟨o', ho', rfl⟩ := Option.map_eq_some_iff.1 h
    intro s hs
    obtain ⟨s', hs', rfl⟩ := List.mem_map.1 hs
    obtain ⟨h1, h2⟩ := read_bound (isL l) stop (runesS text) [] [] false true o' ho' (by simp) (by simp) s' hs'
    have h3 := runesS_length text
    rw [List.length_nil, Nat.zero_add] at h1
    refine ⟨by rw [List.length_map]; omega, ?_⟩
    intro x hx
    obtain ⟨x', hx', rfl⟩ := List.mem_map.1 hx
    have := encS_size x'
    have := h2 x' hx'
    omega
  · cases h
theorem lens_le (m : Nat) : ∀ (xs : List (List UInt8)), (∀ x ∈ xs, x.length ≤ m) → lens xs ≤ m * xs.length
  | [], _ => by simp [lens]
  | x :: xs, h => by
    have ih := lens_le m xs (fun y hy => h y (by simp [hy]))
    have h1 := h x (by simp)
    unfold lens at ih ⊢
    rw [List.map_cons, List.sum_cons, List.length_cons, Nat.mul_succ]
    omega
def joinS (ws : List ByteArray) : ByteArray := ⟨(Lib.join (ws.map (·.data.toList)) [32]).toArray⟩
theorem joinS_size (ws : List ByteArray) (n : Nat) (h : ∀ x ∈ ws, x.size ≤ n) : (joinS ws).size ≤ (n + 1) * ws.length := by
  have e : (joinS ws).size = (Lib.join (ws.map (·.data.toList)) [32]).length := by unfold joinS; simp [ByteArray.size]
  rw [e]
  cases ws with
  | nil => simp [join_nil]
  | cons w ws =>
    rw [List.map_cons, join_length, List.length_map]
    have hl := lens_le n (w.data.toList :: ws.map (·.data.toList)) (fun x hx => by
      rcases List.mem_cons.1 hx with rfl | hx
      · rw [sizeL]; exact h w (by simp)
      · obtain ⟨y, hy, rfl⟩ := List.mem_map.1 hx
        rw [sizeL]; exact h y (by simp [hy]))
    rw [List.length_cons, List.length_map] at hl
    have e1 : ([32] : List UInt8).length = 1 := rfl
    have e2 : (w :: ws).length = ws.length + 1 := rfl
    rw [e1, Nat.one_mul, e2, Nat.add_mul n 1, Nat.one_mul]
    generalize n * (ws.length + 1) = q at hl ⊢
    omega
theorem join_f (ws : List ByteArray) (n : Nat) (h : ∀ x ∈ ws, x.size ≤ 160) (hn : ws.length ≤ 4294967296) : strings_Join.f ws ⟨#[32]⟩ = some (joinS ws) := by
  have h1 := joinS_size ws 160 h
  have e : (joinS ws).size = (Lib.join (ws.map (·.data.toList)) [32]).length := by unfold joinS; simp [ByteArray.size]
  unfold strings_Join.f
  rw [if_pos ⟨by omega, by show (Lib.join (ws.map (·.data.toList)) [32]).length ≤ _; rw [← e]; omega⟩]; rfl
def sentS (stop : ByteArray) (ws : List ByteArray) : ByteArray := joinS ws ++ stop
def sentencesP (l : List S80) (rules : List S85) (stop text : ByteArray) : List ByteArray × Int := if orthP l rules stop = true then (if 4096 < text.size then ([], 2) else match readT l ((decodeGo stop).1 : Int) text with | some o => if 8 < o.length then ([], 2) else (o.map (sentS stop), 0) | none => ([], 3)) else ([], 1)
def orthography_Sentences.f (a_0 : ByteArray) (a_1 : Bool) (l_2 : List (S80)) (l_3 : List (S85)) (l_4 : List (S180)) (l_5 : List (S183)) (l_6 : List (List Int)) (a_7 : Int) (a_8 : Int) (l_9 : List (S85)) (a_a : Int) (l_b : List ByteArray) (l_c : List ByteArray) (a_d : Bool) (a_e : ByteArray) (a_f : Int) (a_g : ByteArray) (a_h : Bool) (a_i : Int) (a_j : Int) (l_k : List (S186)) (l_l : List (S186)) (l_m : List ByteArray) (l_n : List ByteArray) (l_o : List ByteArray) (a_p : Bool) (l_q : List (S188)) (l_r : List (S190)) (l_s : List (S194)) (a_t : ByteArray) (a1 : ByteArray) : Option (List ByteArray × Int) := if (runesOk l_2 = true ∧ l_9.all smallR = true) ∧ a1.size ≤ 1099511627776 then some (sentencesP l_2 l_9 a_t a1) else none
theorem orth_stop {l : List S80} {rules : List S85} {s : ByteArray} (h : orthP l rules s = true) : s.size ≤ 4 := by
  unfold orthP at h
  rw [Bool.and_eq_true] at h
  have h1 := (stop_rune h.1).1
  have h2 := (encodeRuneZ_length ((decodeGo s).1 : Int)).2
  rw [← sizeL, h1]
  unfold encodeRune
  rw [List.length_map]; omega
theorem LOrSx1 {p : Prop} (h : p := by
  go_enter Tryd.func8, Tryd.ntmps8
  go_wp2_with (first | ((with_reducible refine gate_load (t := 41) (p := 2) rfl ?_); (try (refine gate_guard (by rfl) ?_; dsimp only)); refine wpList_load_row rfl 41 (.tmp 2) rfl w.heap.size rfl 41 _ (0, 0) _ hbk2 Tryd.underlying41 rfl (by kernel_rfl) ?_) | (go_at_call 18; with_reducible refine (hva'.out _ HB0).mono ?_; rw [cv]; rintro e z1_ ⟨rfl, z2_⟩; clear hbk2; have z3_ := HB0.trans (z2_.mono HB0.size); have hbk2 := hblk'.out _ z3_))
  go_ret2
  exact ⟨_, rfl, Kd.R_nil _ _ _ _ _, hB0'.out.trans (z3_.mono hB0'.out.size)⟩) : p := h
set_option maxRecDepth 1000000 in
theorem LOrSxh1 {p : Prop} (h : p := by
  go_enter Tryd.func8, Tryd.ntmps8
  go_wp2_with (first | ((with_reducible refine gate_load (t := 41) (p := 2) rfl ?_); (try (refine gate_guard (by rfl) ?_; dsimp only)); refine wpList_load_row rfl 41 (.tmp 2) rfl w.heap.size rfl 41 _ (0, 0) _ hbk2 Tryd.underlying41 rfl (by kernel_rfl) ?_) | (go_at_call 18; with_reducible refine (hva'.out _ HB0).mono ?_; rw [cv]; rintro e z1_ ⟨rfl, z2_⟩; clear hbk2; have z3_ := HB0.trans (z2_.mono HB0.size); have hbk2 := hblk'.out _ z3_) | (go_at_call 19; with_reducible refine (hnr'.out _ z3_).mono ?_; rintro e z4_ ⟨B, mb, rfl, hRA, z5_⟩; clear hbk2; have z6_ := z3_.trans (z5_.mono z3_.size); have hRA' := Aside0.mk hRA; clear hRA; have hbk2 := hblk'.out _ z6_) | (go_at_call 20; with_reducible refine (hrd'.out B mb _ z6_ hRA'.out).mono ?_; rw [ct]; rintro e z7_ ⟨z8_, z9_, rfl, ⟨z10_, z11_⟩, z12_⟩; subst z10_; obtain ⟨z13_, z14_, z15_⟩ := Kd.R_slice z11_; subst z15_; have z16_ := Aside0.mk (show Kd.R (Kd.slice 9 Kd.string) 31 z7_ z4_.heap.size (fun _ => True) (.slice z13_ OUT.length z14_) OUT from z11_); clear z11_; have z17_ := z6_.trans (z12_.mono z6_.size); clear hbk2; have hbk2 := hblk'.out _ z17_))
  first
  | (have mk_ := mk0_
     go_loopg [8, 10, 31] OUT.length (fun kq z18_ z19_ z20_ w' => ∃ i : Nat, z20_ = .int .i64 (i : Int) ∧ Aside0 (i + kq = OUT.length) ∧ Aside0 (Kd.R Kd.string 9 w' z7_.heap.size (fun _ => True) z18_ ((OUT.take i).map (sentS a_t))) ∧ Aside0 (Below z7_.heap.size z7_ w'))
     case atStart => exact ⟨0, rfl, ⟨by omega⟩, ⟨Kd.R_nil _ _ _ _ _⟩, ⟨Below.refl _ _⟩⟩
     case round =>
       obtain ⟨i, rfl, hik, hO, HB⟩ := hrel
       obtain ⟨z21_, z22_, z23_⟩ := Kd.R_slice hO.out
       subst z23_
       cases gk with
       | zero =>
         have hcd : ¬ ((i : Int) < (OUT.length : Int)) := by have := hik.out; omega
         have z24_ := Aside0.mk (show Kd.R Kd.string 9 wr z7_.heap.size (fun _ => True) (.slice z21_ ((OUT.take i).map (sentS a_t)).length z22_) r1 from by rw [← hr1.out]; have z25_ := hO.out; rw [List.take_of_length_le (by have := hik.out; omega)] at z25_ ⊢; exact z25_)
         obtain ⟨z26_, z27_⟩ : ∃ n, ((OUT.take i).map (sentS a_t)).length = n := ⟨_, rfl⟩
         rw [z27_] at z24_ ⊢
         clear z27_
         go_wp2
         go_ret2
         exact ⟨_, rfl, Kd.R_lower z24_.out (Nat.le_trans hB0'.out.size z17_.size), hB0'.out.trans ((z17_.trans (HB.out.mono z17_.size)).mono hB0'.out.size)⟩
       | succ g1 =>
         have hcd : (i : Int) < (OUT.length : Int) := by have := hik.out; omega
         have hlt : i < OUT.length := by omega
         obtain ⟨ws, hws⟩ : ∃ ws, OUT[i]? = some ws := ⟨_, List.getElem?_eq_getElem hlt⟩
         obtain ⟨z28_, z15_, z29_, z30_, z31_, z32_⟩ := R_row z16_.out i hlt ws hws
         subst z15_
         have z33_ := (HB.out.cell (World.block_lt_of_cell? _ _ z31_)).trans z31_
         have z34_ := Aside0.mk (Kd.R_below z32_ HB.out)
         have hmem : ws ∈ OUT := List.mem_of_getElem? hws
         have hbw := hbd.out ws hmem
         have hjf := join_f ws 0 hbw.2 (by have := h4s.out; omega)
         have hjs := joinS_size ws 160 hbw.2
         obtain ⟨Wd, hWd⟩ : ∃ Wd, wr.drew = Wd := ⟨_, rfl⟩
         have hRd := Kd.R_drew z34_.out
         have hOd := Kd.R_drew hO.out
         have hBd := HB.out.drew
         rw [hWd] at hRd hOd hBd
         have hrr := Kd.R_reads' hRd
         have hj := strings_Join.calls z29_ z30_ ws ⟨#[32]⟩ (joinS ws) Wd hrr.2.2 hrr.2.1 hjf
         obtain ⟨JN, hJN⟩ : ∃ j, joinS ws = j := ⟨_, rfl⟩
         rw [hJN] at hj hjs
         have hadd : ¬ 9223372036854775807 < JN.size + a_t.size := by have := hst4.out; have := hbw.1; have := h4s.out; omega
         have z35_ := z17_.trans (HB.out.mono z17_.size)
         have z36_ : wr.cell? ⟨w.heap.size, 29, none⟩ = some (.string a_t) := by rw [blk_cell (hblk'.out _ z35_)]; rfl
         have z37_ : Wd.cell? ⟨w.heap.size, 29, none⟩ = some (.string a_t) := by rw [← hWd]; exact z36_
         have htk : Aside0 ((OUT.take (i + 1)).map (sentS a_t) = (OUT.take i).map (sentS a_t) ++ [JN ++ a_t]) := ⟨by rw [List.take_add_one, hws, List.map_append]; simp [sentS, hJN]⟩
         obtain ⟨z38_, z39_⟩ : ∃ X, (OUT.take i).map (sentS a_t) = X := ⟨_, rfl⟩
         have z40_ := Aside0.mk (show z38_.length ≤ 8 by rw [← z39_, List.length_map, List.length_take]; have := h8s.out; omega)
         have z41_ := Aside0.mk z39_
         rw [z39_] at hOd ⊢
         have hOd' := Aside0.mk hOd
         have hBd' := Aside0.mk hBd
         have hfin := Aside0.mk (idx_next (i := i) (n := OUT.length) hlt (by have := h8s.out; omega))
         clear z31_ z32_ hmem hbw hjf hjs hRd hOd hBd hrr hJN hws z39_ hlt
         go_wp2
         refine start_ (n := 9) (S := fun w' => w'.cell? ⟨w.heap.size, 29, none⟩ = some (.string a_t)) (ds := []) #[false, false, false, false, false, false, false, false, false] (by kernel_rfl) rfl rfl (z36_) (fun hHeld => ?_)
         rw [hWd] at hHeld ⊢
         refine pK 0 35 ?_
         refine pK 1 36 ?_
         refine pK 3 38 ?_
         refine tKt 4 39 hHeld ?_
         refine one_ (i := 2) (N := some 37) #[true, true, true, true, true, false, false, false, false] rfl rfl (by kernel_rfl) (by decide) (fun K hK => ?_)
         refine goes_ Tryd.func21 (by kernel_rfl) rfl #[.slice z29_ ws.length z30_, .string ⟨#[32]⟩] (by rfl) rfl rfl Gc20 ?_
         with_reducible refine (hj).mono ?_
         rintro e z42_ ⟨rfl, z43_⟩
         refine ⟨_, rfl, ?_⟩
         have z44_ := (z43_.cell (World.block_lt_of_cell? _ _ z37_)).trans z37_
         have z45_ := Aside0.mk (Kd.R_below hOd'.out z43_)
         have z46_ := Aside0.mk (hBd'.out.trans (z43_.mono hBd'.out.size))
         refine hK.out _ _ (z44_) (fun hHeld => ?_)
         clear hK K
         refine nR 37 ?_
         refine pK 5 40 ?_
         refine one_ (i := 6) (N := some 41) #[true, true, true, true, true, true, true, false, false] rfl rfl (by kernel_rfl) (by decide) (fun K hK => ?_)
         refine value_ (w1 := ?_) (v := ?_) (by rfl) rfl ?_ ?_
         rotate_left 2
         · go_simp
           constructor
           · rfl
           · rfl
         refine hK.out _ _ (cell_keep _ z44_) (fun hHeld => ?_)
         clear hK K
         refine nR 41 ?_
         refine one_ (i := 7) (N := some 42) #[true, true, true, true, true, true, true, true, false] rfl rfl (by kernel_rfl) (by decide) (fun K hK => ?_)
         refine Kd.R_append_step Kd.string (w0 := z7_) z7_.heap.size (by rfl) (.tmp 35) (.tmp 41) 31 9 (.string ⟨#[]⟩) 16 rfl Tryd.underlying31 info9 rfl (by decide) (by omega) (.slice z21_ z38_.length z22_) z38_ (JN ++ a_t) [.string (JN ++ a_t)] (fun _ => True) (fun _ => False) rfl rfl ?aP (fun _ hk => hk.elim) (fun _ _ => trivial) ?aO ?aB ?aS ?aL ?_
         (case aP => exact rfl)
         (case aO => exact z45_.out)
         (case aB => exact z46_.out)
         (case aS => exact z46_.out.size)
         (case aL => have := z40_.out; omega)
         intro z47_ z48_ z49_ z50_ z51_ z52_
         have z53_ : z48_.cell? ⟨w.heap.size, 29, none⟩ = some (.string a_t) := by rw [blk_cell (hblk'.out _ (z17_.trans (z50_.mono z17_.size)))]; rfl
         have z54_ := Aside0.mk z49_
         have z55_ := Aside0.mk z50_
         clear z49_ z50_ z51_ z52_
         refine hK.out _ _ (z53_) (fun hHeld => ?_)
         clear hK K
         refine nR 42 ?_
         refine pK 8 8 ?_
         refine done_ (by kernel_rfl) ?_
         go_wp2
         go_roundg g1
         case measure => omega
         case rel => exact ⟨i + 1, by first | rw [hfin.out] | rfl, ⟨by have := hik.out; omega⟩, ⟨by rw [htk.out, z41_.out]; exact z54_.out⟩, z55_⟩)
  | (have mk_ := mk1_
     go_ret2
     exact ⟨_, rfl, Kd.R_nil _ _ _ _ _, hB0'.out.trans (z17_.mono hB0'.out.size)⟩)) : p := h
set_option maxRecDepth 100000 in
set_option maxHeartbeats 4000000 in
theorem orthography_Sentences.calls (a_0 : ByteArray) (a_1 : Bool) (A_2 : Option Addr) (c_2 : Nat) (l_2 : List (S80)) (A_3 : Option Addr) (c_3 : Nat) (l_3 : List (S85)) (A_4 : Option Addr) (c_4 : Nat) (l_4 : List (S180)) (A_5 : Option Addr) (c_5 : Nat) (l_5 : List (S183)) (A_6 : Option Addr) (c_6 : Nat) (l_6 : List (List Int)) (a_7 : Int) (a_8 : Int) (A_9 : Option Addr) (c_9 : Nat) (l_9 : List (S85)) (a_a : Int) (A_b : Option Addr) (c_b : Nat) (l_b : List ByteArray) (A_c : Option Addr) (c_c : Nat) (l_c : List ByteArray) (a_d : Bool) (a_e : ByteArray) (a_f : Int) (a_g : ByteArray) (a_h : Bool) (a_i : Int) (a_j : Int) (A_k : Option Addr) (c_k : Nat) (l_k : List (S186)) (A_l : Option Addr) (c_l : Nat) (l_l : List (S186)) (A_m : Option Addr) (c_m : Nat) (l_m : List ByteArray) (A_n : Option Addr) (c_n : Nat) (l_n : List ByteArray) (A_o : Option Addr) (c_o : Nat) (l_o : List ByteArray) (a_p : Bool) (A_q : Option Addr) (c_q : Nat) (l_q : List (S188)) (A_r : Option Addr) (c_r : Nat) (l_r : List (S190)) (A_s : Option Addr) (c_s : Nat) (l_s : List (S194)) (a_t : ByteArray) (a1 : ByteArray) (r1 : List ByteArray) (r2 : Int) (w : World) (hT : Tabs w) (hr_2 : Kd.C k80 w A_2 l_2.length l_2) (hc_2 : l_2.length ≤ c_2) (hr_3 : Kd.C k85 w A_3 l_3.length l_3) (hc_3 : l_3.length ≤ c_3) (hr_4 : Kd.C k180 w A_4 l_4.length l_4) (hc_4 : l_4.length ≤ c_4) (hr_5 : Kd.C k183 w A_5 l_5.length l_5) (hc_5 : l_5.length ≤ c_5) (hr_6 : Kd.C (Kd.slice 78 (Kd.int .u32)) w A_6 l_6.length l_6) (hc_6 : l_6.length ≤ c_6) (hr_9 : Kd.C k85 w A_9 l_9.length l_9) (hc_9 : l_9.length ≤ c_9) (hr_b : Kd.C Kd.string w A_b l_b.length l_b) (hc_b : l_b.length ≤ c_b) (hr_c : Kd.C Kd.string w A_c l_c.length l_c) (hc_c : l_c.length ≤ c_c) (hr_k : Kd.C k186 w A_k l_k.length l_k) (hc_k : l_k.length ≤ c_k) (hr_l : Kd.C k186 w A_l l_l.length l_l) (hc_l : l_l.length ≤ c_l) (hr_m : Kd.C Kd.string w A_m l_m.length l_m) (hc_m : l_m.length ≤ c_m) (hr_n : Kd.C Kd.string w A_n l_n.length l_n) (hc_n : l_n.length ≤ c_n) (hr_o : Kd.C Kd.string w A_o l_o.length l_o) (hc_o : l_o.length ≤ c_o) (hr_q : Kd.C k188 w A_q l_q.length l_q) (hc_q : l_q.length ≤ c_q) (hr_r : Kd.C k190 w A_r l_r.length l_r) (hc_r : l_r.length ≤ c_r) (hr_s : Kd.C k194 w A_s l_s.length l_s) (hc_s : l_s.length ≤ c_s) (h : orthography_Sentences.f a_0 a_1 l_2 l_3 l_4 l_5 l_6 a_7 a_8 l_9 a_a l_b l_c a_d a_e a_f a_g a_h a_i a_j l_k l_l l_m l_n l_o a_p l_q l_r l_s a_t a1 = some (r1, r2)) :
    Calls Tryd.prog 8 #[.agg #[.string a_0, .bool a_1, .slice A_2 l_2.length c_2, .slice A_3 l_3.length c_3, .slice A_4 l_4.length c_4, .slice A_5 l_5.length c_5, .slice A_6 l_6.length c_6, .int .i64 a_7, .int .i64 a_8, .slice A_9 l_9.length c_9, .int .i64 a_a, .slice A_b l_b.length c_b, .slice A_c l_c.length c_c, .bool a_d, .string a_e, .int .i64 a_f, .string a_g, .bool a_h, .int .i64 a_i, .int .i64 a_j, .slice A_k l_k.length c_k, .slice A_l l_l.length c_l, .slice A_m l_m.length c_m, .slice A_n l_n.length c_n, .slice A_o l_o.length c_o, .bool a_p, .slice A_q l_q.length c_q, .slice A_r l_r.length c_r, .slice A_s l_s.length c_s, .string a_t], .string a1] w fun e w' => ∃ v0_ : Value, e = .returned (.tuple #[v0_, .int .i64 r2]) ∧ Kd.R Kd.string 9 w' w.heap.size (fun _ => True) v0_ r1 ∧ Below w.heap.size w w' := by
  unfold orthography_Sentences.f at h
  by_cases hg : (runesOk l_2 = true ∧ l_9.all smallR = true) ∧ a1.size ≤ 1099511627776
  · rw [if_pos hg] at h
    have hr := Option.some.inj h
    clear h
    have hu41 := Tryd.underlying41
    obtain ⟨W0, hW0⟩ : ∃ W0, w.alloc (.cells #[.string a_0, .bool a_1, .slice A_2 l_2.length c_2, .slice A_3 l_3.length c_3, .slice A_4 l_4.length c_4, .slice A_5 l_5.length c_5, .slice A_6 l_6.length c_6, .int .i64 a_7, .int .i64 a_8, .slice A_9 l_9.length c_9, .int .i64 a_a, .slice A_b l_b.length c_b, .slice A_c l_c.length c_c, .bool a_d, .string a_e, .int .i64 a_f, .string a_g, .bool a_h, .int .i64 a_i, .int .i64 a_j, .slice A_k l_k.length c_k, .slice A_l l_l.length c_l, .slice A_m l_m.length c_m, .slice A_n l_n.length c_n, .slice A_o l_o.length c_o, .bool a_p, .slice A_q l_q.length c_q, .slice A_r l_r.length c_r, .slice A_s l_s.length c_s, .string a_t] 41) = W0 := ⟨_, rfl⟩
    have hB0 : Below w.heap.size w W0 := by rw [← hW0]; exact (Below.refl _ w).alloc (Nat.le_refl _) _
    have hsz0 : w.heap.size < W0.heap.size := by rw [← hW0]; simp
    have hblk : ∀ w1, Below W0.heap.size W0 w1 → w1.heap[w.heap.size]? = some (.cells #[.string a_0, .bool a_1, .slice A_2 l_2.length c_2, .slice A_3 l_3.length c_3, .slice A_4 l_4.length c_4, .slice A_5 l_5.length c_5, .slice A_6 l_6.length c_6, .int .i64 a_7, .int .i64 a_8, .slice A_9 l_9.length c_9, .int .i64 a_a, .slice A_b l_b.length c_b, .slice A_c l_c.length c_c, .bool a_d, .string a_e, .int .i64 a_f, .string a_g, .bool a_h, .int .i64 a_i, .int .i64 a_j, .slice A_k l_k.length c_k, .slice A_l l_l.length c_l, .slice A_m l_m.length c_m, .slice A_n l_n.length c_n, .slice A_o l_o.length c_o, .bool a_p, .slice A_q l_q.length c_q, .slice A_r l_r.length c_r, .slice A_s l_s.length c_s, .string a_t] 41 (0, 0)) := by
      intro w1 hB
      refine (hB.block _ hsz0).trans ?_
      rw [← hW0]; exact World.alloc_heap_new w _
    have hva := fun (w1 : World) (hB : Below W0.heap.size W0 w1) => valid_calls a_0 a_1 A_2 c_2 l_2 A_3 c_3 l_3 A_4 c_4 l_4 A_5 c_5 l_5 A_6 c_6 l_6 a_7 a_8 A_9 c_9 l_9 a_a A_b c_b l_b A_c c_c l_c a_d a_e a_f a_g a_h a_i a_j A_k c_k l_k A_l c_l l_l A_m c_m l_m A_n c_n l_n A_o c_o l_o a_p A_q c_q l_q A_r c_r l_r A_s c_s l_s a_t w1 (tabs_below hT (hB0.trans (hB.mono hB0.size))) (Kd.C_below hr_2 (hB0.trans (hB.mono hB0.size))) hc_2 (Kd.C_below hr_3 (hB0.trans (hB.mono hB0.size))) hc_3 (Kd.C_below hr_4 (hB0.trans (hB.mono hB0.size))) hc_4 (Kd.C_below hr_5 (hB0.trans (hB.mono hB0.size))) hc_5 (Kd.C_below hr_6 (hB0.trans (hB.mono hB0.size))) hc_6 (Kd.C_below hr_9 (hB0.trans (hB.mono hB0.size))) hc_9 (Kd.C_below hr_b (hB0.trans (hB.mono hB0.size))) hc_b (Kd.C_below hr_c (hB0.trans (hB.mono hB0.size))) hc_c (Kd.C_below hr_k (hB0.trans (hB.mono hB0.size))) hc_k (Kd.C_below hr_l (hB0.trans (hB.mono hB0.size))) hc_l (Kd.C_below hr_m (hB0.trans (hB.mono hB0.size))) hc_m (Kd.C_below hr_n (hB0.trans (hB.mono hB0.size))) hc_n (Kd.C_below hr_o (hB0.trans (hB.mono hB0.size))) hc_o (Kd.C_below hr_q (hB0.trans (hB.mono hB0.size))) hc_q (Kd.C_below hr_r (hB0.trans (hB.mono hB0.size))) hc_r (Kd.C_below hr_s (hB0.trans (hB.mono hB0.size))) hc_s hg.1.1 hg.1.2
    have hnr := fun (w1 : World) (hB : Below W0.heap.size W0 w1) => newReader_calls a_0 a_1 A_2 c_2 l_2 A_3 c_3 l_3 A_4 c_4 l_4 A_5 c_5 l_5 A_6 c_6 l_6 a_7 a_8 A_9 c_9 l_9 a_a A_b c_b l_b A_c c_c l_c a_d a_e a_f a_g a_h a_i a_j A_k c_k l_k A_l c_l l_l A_m c_m l_m A_n c_n l_n A_o c_o l_o a_p A_q c_q l_q A_r c_r l_r A_s c_s l_s a_t w1 (tabs_below hT (hB0.trans (hB.mono hB0.size))) (Kd.C_below hr_2 (hB0.trans (hB.mono hB0.size))) hc_2 (Kd.C_below hr_3 (hB0.trans (hB.mono hB0.size))) hc_3 (Kd.C_below hr_4 (hB0.trans (hB.mono hB0.size))) hc_4 (Kd.C_below hr_5 (hB0.trans (hB.mono hB0.size))) hc_5 (Kd.C_below hr_6 (hB0.trans (hB.mono hB0.size))) hc_6 (Kd.C_below hr_9 (hB0.trans (hB.mono hB0.size))) hc_9 (Kd.C_below hr_b (hB0.trans (hB.mono hB0.size))) hc_b (Kd.C_below hr_c (hB0.trans (hB.mono hB0.size))) hc_c (Kd.C_below hr_k (hB0.trans (hB.mono hB0.size))) hc_k (Kd.C_below hr_l (hB0.trans (hB.mono hB0.size))) hc_l (Kd.C_below hr_m (hB0.trans (hB.mono hB0.size))) hc_m (Kd.C_below hr_n (hB0.trans (hB.mono hB0.size))) hc_n (Kd.C_below hr_o (hB0.trans (hB.mono hB0.size))) hc_o (Kd.C_below hr_q (hB0.trans (hB.mono hB0.size))) hc_q (Kd.C_below hr_r (hB0.trans (hB.mono hB0.size))) hc_r (Kd.C_below hr_s (hB0.trans (hB.mono hB0.size))) hc_s hg.1.1
    have hrd := fun (B mb : Nat) (w1 : World) (hB : Below W0.heap.size W0 w1) (hR : ReaderAt w1 B mb l_2 ((decodeGo a_t).1 : Int)) => read_calls B mb l_2 ((decodeGo a_t).1 : Int) a1 w1 (tabs_below hT (hB0.trans (hB.mono hB0.size))) hR hg.2
    obtain ⟨S, hS⟩ : ∃ S : Int, ((decodeGo a_t).1 : Int) = S := ⟨_, rfl⟩
    rw [hS] at hnr hrd
    have hva' := Aside0.mk hva
    have hnr' := Aside0.mk hnr
    have hrd' := Aside0.mk hrd
    have hB0' := Aside0.mk hB0
    have hblk' := Aside0.mk hblk
    have hsz0' := Aside0.mk hsz0
    have hG := Aside0.mk hg.2
    have HB0 : Below W0.heap.size W0 W0 := Below.refl _ _
    have hbk2 := hblk _ HB0
    clear hT hr_2 hr_3 hr_4 hr_5 hr_6 hr_9 hr_b hr_c hr_k hr_l hr_m hr_n hr_o hr_q hr_r hr_s hg hva hnr hrd hB0 hblk hsz0
    unfold sentencesP at hr
    rw [hS] at hr
    clear hS
    cases cv : orthP l_2 l_9 a_t with
    | false =>
      rw [cv, if_neg (by decide)] at hr
      obtain ⟨e1, e2⟩ := Prod.mk.inj hr
      subst e1 e2
      clear hr
      exact LOrSx1
    | true =>
      have hst4 := Aside0.mk (orth_stop cv)
      rw [cv, if_pos rfl] at hr
      by_cases h4k : 4096 < a1.size
      · have h4k' : (4096 : Int) < (a1.size : Int) := by omega
        rw [if_pos h4k] at hr
        obtain ⟨e1, e2⟩ := Prod.mk.inj hr
        subst e1 e2
        clear hr h4k
        exact LOrSx1
      · have h4k' : ¬ (4096 : Int) < (a1.size : Int) := by omega
        rw [if_neg h4k] at hr
        have h4s := Aside0.mk (show a1.size ≤ 4096 by omega)
        clear h4k
        cases ct : readT l_2 S a1 with
        | none =>
          rw [ct] at hr
          obtain ⟨e1, e2⟩ := Prod.mk.inj hr
          subst e1 e2
          clear hr
          go_enter Tryd.func8, Tryd.ntmps8
          go_wp2_with (first | ((with_reducible refine gate_load (t := 41) (p := 2) rfl ?_); (try (refine gate_guard (by rfl) ?_; dsimp only)); refine wpList_load_row rfl 41 (.tmp 2) rfl w.heap.size rfl 41 _ (0, 0) _ hbk2 Tryd.underlying41 rfl (by kernel_rfl) ?_) | (go_at_call 18; with_reducible refine (hva'.out _ HB0).mono ?_; rw [cv]; rintro e w2 ⟨rfl, hB2⟩; clear hbk2; have HB2 := HB0.trans (hB2.mono HB0.size); have hbk2 := hblk'.out _ HB2) | (go_at_call 19; with_reducible refine (hnr'.out _ HB2).mono ?_; rintro e w3 ⟨B, mb, rfl, hRA, hB3⟩; clear hbk2; have HB3 := HB2.trans (hB3.mono HB2.size); have hRA' := Aside0.mk hRA; clear hRA; have hbk2 := hblk'.out _ HB3) | (go_at_call 20; with_reducible refine (hrd'.out B mb _ HB3 hRA'.out).mono ?_; rw [ct]; rintro e w4 ⟨v4, b4, rfl, hb4, hB4⟩; have hb5 : b4 = false := hb4; clear hb4; subst hb5; have HB4 := HB3.trans (hB4.mono HB3.size); clear hbk2; have hbk2 := hblk'.out _ HB4))
          go_ret2
          exact ⟨_, rfl, Kd.R_nil _ _ _ _ _, hB0'.out.trans (HB4.mono hB0'.out.size)⟩
        | some OUT =>
          have hbd := Aside0.mk (readT_bound ct)
          rw [ct] at hr
          simp only at hr
          by_cases h8 : 8 < OUT.length
          · have h8' : (8 : Int) < (OUT.length : Int) := by omega
            rw [if_pos h8] at hr
            obtain ⟨e1, e2⟩ := Prod.mk.inj hr
            subst e1 e2
            clear hr h8
            have mk1_ := trivial
            exact LOrSxh1
          · have h8' : ¬ (8 : Int) < (OUT.length : Int) := by omega
            rw [if_neg h8] at hr
            have h8s := Aside0.mk (show OUT.length ≤ 8 by omega)
            obtain ⟨e1, e2⟩ := Prod.mk.inj hr
            have hr1 := Aside0.mk e1
            subst e2
            clear hr h8 e1
            have mk0_ := trivial
            exact LOrSxh1
  · rw [if_neg hg] at h; cases h
end Go.Proofs.YtfbhdjflkaldgaaDoor.Pr
