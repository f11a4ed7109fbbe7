/- Several texts in one: StOrthographyDivides, Pls, Evs, Pub, PrF12, RfS, PureOrthographyDivides. -/
import Derived.Test.YtfbhdjflkaldgaaDoorMg1
import Derived.Test.YtfbhdjflkaldgaaDoorPrF3
import Derived.Test.YtfbhdjflkaldgaaDoorMg18
import Derived.Test.YtfbhdjflkaldgaaDoorMg11
import Derived.Test.YtfbhdjflkaldgaaDoorMg21
import Derived.Test.YtfbhdjflkaldgaaDoorMg22
import Derived.Test.YtfbhdjflkaldgaaDoorMg20
import Derived.Test.YtfbhdjflkaldgaaDoorMg2
import Derived.Test.YtfbhdjflkaldgaaDoorMg17
import Derived.Test.YtfbhdjflkaldgaaDoorMg3
import Derived.Test.YtfbhdjflkaldgaaDoorPrF9
/- What the reader reads: the parts between blanks. No program in sight. -/
/- The reference's split, stopped, join, Host and Same on strings. -/
/- What an input's weight and ranges tell: the bounds that the contracts ask. -/
/- The reference's Sentences and Words: what the code's readers tell. -/
/- OrthographyDivides, plainly. -/
namespace Go.Proofs.YtfbhdjflkaldgaaDoor.PuOrthographyDivides
open Go.RowKit Go.Proofs.YtfbhdjflkaldgaaDoor.Pr Go.Proofs.YtfbhdjflkaldgaaDoor.Opn
def Upto : Prop := ∀ (a_0 : ByteArray) (a_1 : Bool) (l_2 : List (S80)) (l_3 : List (S85)) (l_4 : List (S180)) (l_5 : List (S183)) (l_6 : List (List Int)) (a_7 : Int) (a_8 : Int) (l_9 : List (S85)) (a_a : Int) (l_b : List ByteArray) (l_c : List ByteArray) (a_d : Bool) (a_e : ByteArray) (a_f : Int) (a_g : ByteArray) (a_h : Bool) (a_i : Int) (a_j : Int) (l_k : List (S186)) (l_l : List (S186)) (l_m : List ByteArray) (l_n : List ByteArray) (l_o : List ByteArray) (a_p : Bool) (l_q : List (S188)) (l_r : List (S190)) (l_s : List (S194)) (a_t : ByteArray) (a1 : ByteArray), (Ms.pair Ms.string (Ms.pair Ms.bool (Ms.pair (Ms.pair (Ms.slice ms80) (Ms.pair (Ms.slice ms85) (Ms.pair (Ms.slice ms180) (Ms.slice ms183)))) (Ms.pair (Ms.pair (Ms.slice (Ms.slice (Ms.int .u32))) (Ms.pair (Ms.int .i64) (Ms.int .i64))) (Ms.pair (Ms.slice ms85) (Ms.pair (Ms.pair (Ms.int .i64) (Ms.pair (Ms.slice Ms.string) (Ms.pair (Ms.slice Ms.string) (Ms.pair Ms.bool (Ms.pair Ms.string (Ms.pair (Ms.int .i64) (Ms.pair Ms.string Ms.bool))))))) (Ms.pair (Ms.pair (Ms.int .i64) (Ms.pair (Ms.int .i64) (Ms.pair (Ms.slice ms186) (Ms.pair (Ms.slice ms186) (Ms.pair (Ms.slice Ms.string) (Ms.pair (Ms.slice Ms.string) (Ms.pair (Ms.slice Ms.string) Ms.bool))))))) (Ms.pair (Ms.slice ms188) (Ms.pair (Ms.slice ms190) (Ms.pair (Ms.slice ms194) Ms.string)))))))))).good (a_0, a_1, (l_2, l_3, l_4, l_5), (l_6, a_7, a_8), l_9, (a_a, l_b, l_c, a_d, a_e, a_f, a_g, a_h), (a_i, a_j, l_k, l_l, l_m, l_n, l_o, a_p), l_q, l_r, l_s, a_t) → Ms.string.good a1 → (Ms.pair Ms.string (Ms.pair Ms.bool (Ms.pair (Ms.pair (Ms.slice ms80) (Ms.pair (Ms.slice ms85) (Ms.pair (Ms.slice ms180) (Ms.slice ms183)))) (Ms.pair (Ms.pair (Ms.slice (Ms.slice (Ms.int .u32))) (Ms.pair (Ms.int .i64) (Ms.int .i64))) (Ms.pair (Ms.slice ms85) (Ms.pair (Ms.pair (Ms.int .i64) (Ms.pair (Ms.slice Ms.string) (Ms.pair (Ms.slice Ms.string) (Ms.pair Ms.bool (Ms.pair Ms.string (Ms.pair (Ms.int .i64) (Ms.pair Ms.string Ms.bool))))))) (Ms.pair (Ms.pair (Ms.int .i64) (Ms.pair (Ms.int .i64) (Ms.pair (Ms.slice ms186) (Ms.pair (Ms.slice ms186) (Ms.pair (Ms.slice Ms.string) (Ms.pair (Ms.slice Ms.string) (Ms.pair (Ms.slice Ms.string) Ms.bool))))))) (Ms.pair (Ms.slice ms188) (Ms.pair (Ms.slice ms190) (Ms.pair (Ms.slice ms194) Ms.string)))))))))).bulk (a_0, a_1, (l_2, l_3, l_4, l_5), (l_6, a_7, a_8), l_9, (a_a, l_b, l_c, a_d, a_e, a_f, a_g, a_h), (a_i, a_j, l_k, l_l, l_m, l_n, l_o, a_p), l_q, l_r, l_s, a_t) + Ms.string.bulk a1 ≤ 1048576 → ∃ k, pentaglotlaw42_OrthographyDivides.f k a_0 a_1 l_2 l_3 l_4 l_5 l_6 a_7 a_8 l_9 a_a l_b l_c a_d a_e a_f a_g a_h a_i a_j l_k l_l l_m l_n l_o a_p l_q l_r l_s a_t a1 = some true
end Go.Proofs.YtfbhdjflkaldgaaDoor.PuOrthographyDivides

namespace Go.Proofs.YtfbhdjflkaldgaaDoor.Pr
open Go.Proofs.YtfbhdjflkaldgaaDoor.Ct Go.RowKit Go.Maps Go.Lib Go.Proofs.YtfbhdjflkaldgaaDoorW.PrintWords Go.Proofs.YtfbhdjflkaldgaaDoorW.PrintLast Go.Proofs.YtfbhdjflkaldgaaDoorW.PrintMore
set_option linter.unusedVariables false
set_option linter.unusedSimpArgs false
def toB (l : List UInt8) : ByteArray := ⟨l.toArray⟩
theorem toB_list (l : List UInt8) : (toB l).data.toList = l := by unfold toB; simp
theorem toB_of (b : ByteArray) : toB b.data.toList = b := by unfold toB; simp
theorem encS_toB (rs : List Int) : encS rs = toB (encL rs) := rfl
theorem look_rune (l : List S80) (r : Int) : ∀ k, k ≤ l.length → ∀ j, look l k r = some j → ∃ x ∈ l, x.f0 = r
  | 0, _, j, h => by cases h
  | k + 1, hk, j, h => by
    unfold look at h
    split at h
    · rename_i j' e
      exact look_rune l r k (by omega) j' e
    · split at h
      · rename_i hr
        exact ⟨_, List.mem_of_mem_drop (i := k) (by rw [drop_rd l k (by omega)]; simp), hr⟩
      · cases h
theorem isL_32 {l : List S80} (h : validA l = true) : isL l 32 = false := by
  unfold isL
  cases e : look l l.length 32 with
  | none => rfl
  | some j =>
    obtain ⟨x, hx, hr⟩ := look_rune l 32 l.length (Nat.le_refl _) j e
    unfold validA at h
    simp only [Bool.and_eq_true, List.all_eq_true] at h
    have h1 := h.2.2.1 x hx
    rw [hr] at h1
    exact absurd h1 (by decide)
theorem okR_facts {l : List S80} {S : Int} (h : okR l S = true) : isL l S = false ∧ S ≠ 32 := by
  unfold okR at h
  simp only [Bool.and_eq_true, Bool.not_eq_true', decide_eq_false_iff_not] at h
  exact ⟨h.2.2.2, fun e => h.1 (by omega)⟩
theorem readT_ref {l : List S80} {rules : List S85} {stop : ByteArray} (h : orthP l rules stop = true) (text : ByteArray) : readT l ((decodeGo stop).1 : Int) text = (refG (stoppedB stop.data.toList) (hostB (isL l)) (splitB text.data.toList) []).map (fun o => o.map (fun ws => ws.map toB)) := by
  unfold orthP at h
  rw [Bool.and_eq_true] at h
  obtain ⟨h1, h2, h3⟩ := stop_rune h.1
  have hA : validA l = true := by
    have h4 := h.2
    unfold cliticP at h4
    simp only [Bool.and_eq_true] at h4
    exact h4.1.1
  obtain ⟨S, hS⟩ : ∃ S : Int, ((decodeGo stop).1 : Int) = S := ⟨_, rfl⟩
  rw [hS] at h1 h2 h3 ⊢
  rw [h1, refB_eq (isL l) S h2]
  unfold readT
  by_cases hv : validD text.data.toList = true
  · rw [if_pos hv, if_pos hv]
    obtain ⟨hL, h32⟩ := okR_facts h3
    obtain ⟨p, rest, hp⟩ := List.exists_cons_of_ne_nil (splitR_ne (runesL text.data.toList))
    have h5 := read_eq hL (isL_32 hA) h32 _ (runesL text.data.toList) (Nat.le_refl _) [] [] (by simp) (by simp) p rest hp
    rw [List.nil_append, ← hp] at h5
    show (readOk (isL l) S (runesL text.data.toList) [] [] false (decide (([] : List Int).length = 0))).map _ = _
    rw [h5, Option.map_map]
    congr 1
    funext o
    simp [encS_toB, Function.comp_def]
  · rw [if_neg hv, if_neg hv]; rfl
def splitS (s : ByteArray) : List ByteArray := (splitB s.data.toList).map toB
def stS (stop p : ByteArray) : ByteArray × Bool := (toB (stoppedB stop.data.toList p.data.toList).1, (stoppedB stop.data.toList p.data.toList).2)
def hostS (l : List S80) (p : ByteArray) : Bool := hostB (isL l) p.data.toList
theorem readT_S {l : List S80} {rules : List S85} {stop : ByteArray} (h : orthP l rules stop = true) (text : ByteArray) : readT l ((decodeGo stop).1 : Int) text = refG (stS stop) (hostS l) (splitS text) [] := by
  rw [readT_ref h]
  have := refG_map (st := stoppedB stop.data.toList) (host := hostB (isL l)) (st' := stS stop) (host' := hostS l) toB (splitB text.data.toList) [] (fun a _ => by unfold stS; rw [toB_list]) (fun a _ => by unfold hostS; rw [toB_list])
  exact this.symm
theorem st_not {stop p : ByteArray} (h : (stS stop p).2 = false) : (stS stop p).1 = p := by
  unfold stS stoppedB at *
  split at h
  · cases h
  · rename_i hc
    rw [if_neg hc]
    exact toB_of p
theorem st_is {stop p : ByteArray} (h : (stS stop p).2 = true) : p = (stS stop p).1 ++ stop := by
  unfold stS stoppedB at *
  split at h
  · rename_i hc
    rw [if_pos hc]
    apply ByteArray.ext
    apply Array.toList_inj.1
    rw [ByteArray.data_append, Array.toList_append, toB_list, ← hc.2]
    have h1 : (p.data.toList.drop (p.data.toList.length - stop.data.toList.length)) = stop.data.toList := hc.2
    conv => rhs; rw [h1]
    conv => lhs; rw [← List.take_append_drop (p.data.toList.length - stop.data.toList.length) p.data.toList, h1]
  · cases h
theorem join_snoc (ws : List ByteArray) (x y : ByteArray) : joinS (ws ++ [x ++ y]) = joinS (ws ++ [x]) ++ y := by
  apply ByteArray.ext
  apply Array.toList_inj.1
  rw [ByteArray.data_append, Array.toList_append]
  unfold joinS
  simp only [List.map_append, List.map_cons, List.map_nil, ByteArray.data_append, Array.toList_append]
  generalize ws.map (·.data.toList) = zs
  generalize x.data.toList = a
  generalize y.data.toList = b
  cases zs with
  | nil => rw [List.nil_append, List.nil_append, join_one, join_one]
  | cons z zs => rw [List.cons_append, List.cons_append, join_cons, join_cons]; simp [joinTail]
theorem toB_extract (s : ByteArray) (a b : Nat) : s.extract a b = toB ((s.data.toList.drop a).take (b - a)) := bytes_eq (by rw [extract_data, toB_list])
theorem bt_L (s : ByteArray) (i : Nat) (h : i < s.data.toList.length) : bt s (i : Int) = ((s.data.toList[i]).toNat : Int) := by
  unfold bt
  rw [Int.toNat_natCast, dif_pos (by rw [← sizeL]; exact h)]
  simp [ByteArray.getElem_eq_getElem_data]
theorem split_ev (s : ByteArray) (hs : s.size ≤ 1099511627776) : Ev (fun k => pentaglotref42_split.f k s) (splitS s) := by
  have hn := sizeL s
  have key : ∀ d i fr out p rest, s.size - i = d → i ≤ s.size → fr ≤ i → out.length ≤ i → splitB (s.data.toList.drop i) = p :: rest → Ev (fun k => pentaglotref42_split.l0 k s out (fr : Int) (i : Int)) (out ++ toB ((s.data.toList.drop fr).take (i - fr) ++ p) :: rest.map toB) := by
    intro d
    induction d with
    | zero =>
      intro i fr out p rest hd hi hf ho hp
      obtain rfl : i = s.size := by omega
      rw [List.drop_of_length_le (by omega), splitB] at hp
      obtain ⟨rfl, rfl⟩ := List.cons.inj hp
      refine Ev.step (f := fun k => pentaglotref42_split.l0 k s (out ++ [s.extract fr s.size]) ((s.size + 1 : Nat) : Int) ((s.size + 1 : Nat) : Int)) (fun k => ?_) (Ev.step (f := fun _ => some _) (fun k => ?_) (Ev.now _))
      · simp only [pentaglotref42_split.l0]
        rw [if_pos (by omega), if_pos trivial, if_pos (by omega), if_pos (by omega), if_pos (by omega), idx_next (n := s.size + 1) (by omega) (by omega), Int.toNat_natCast, Int.toNat_natCast]
      · simp only [pentaglotref42_split.l0]
        rw [if_neg (by omega), toB_extract, List.append_nil, List.map_nil]
    | succ d ih =>
      intro i fr out p rest hd hi hf ho hp
      have hlt : i < s.size := by omega
      have hlt2 : i < s.data.toList.length := by rw [hn]; exact hlt
      rw [List.drop_eq_getElem_cons hlt2, splitB] at hp
      obtain ⟨p', rest', hp'⟩ := List.exists_cons_of_ne_nil (splitB_ne (s.data.toList.drop (i + 1)))
      by_cases hb : s.data.toList[i] = 32
      · rw [if_pos hb] at hp
        obtain ⟨rfl, rfl⟩ := List.cons.inj hp
        refine Ev.step (fun k => ?_) (?_ : Ev (fun k => pentaglotref42_split.l0 k s (out ++ [s.extract fr i]) ((i + 1 : Nat) : Int) ((i + 1 : Nat) : Int)) _)
        · simp only [pentaglotref42_split.l0]
          rw [if_pos (by omega), if_neg (by omega), if_pos (by omega), if_pos (by omega), if_pos (by rw [bt_L s i hlt2, hb]; rfl), if_pos (by omega), if_pos (by omega), if_pos (by omega), idx_next (n := s.size) hlt (by omega), Int.toNat_natCast, Int.toNat_natCast]
        · have := ih (i + 1) (i + 1) (out ++ [s.extract fr i]) p' rest' (by omega) (by omega) (by omega) Gc13 hp'
          rw [Nat.sub_self, List.take_zero, List.nil_append, List.append_assoc, toB_extract] at this
          rw [hp', List.map_cons, List.append_nil, toB_extract]
          exact this
      · rw [if_neg hb, hp'] at hp
        obtain ⟨rfl, rfl⟩ := List.cons.inj hp
        refine Ev.step (fun k => ?_) (?_ : Ev (fun k => pentaglotref42_split.l0 k s out (fr : Int) ((i + 1 : Nat) : Int)) _)
        · simp only [pentaglotref42_split.l0]
          rw [if_pos (by omega), if_neg (by omega), if_pos (by omega), if_pos (by omega), if_neg, idx_next (n := s.size) hlt (by omega)]
          rw [bt_L s i hlt2]
          intro h9
          apply hb
          apply UInt8.toNat_inj.1
          have : (s.data.toList[i]'hlt2).toNat = 32 := by omega
          rw [this]; rfl
        · have := ih (i + 1) fr out p' rest' (by omega) (by omega) (by omega) (by omega) hp'
          have e : (s.data.toList.drop fr).take (i + 1 - fr) = (s.data.toList.drop fr).take (i - fr) ++ [s.data.toList[i]] := by
            rw [show i + 1 - fr = (i - fr) + 1 by omega, List.take_add_one, List.getElem?_drop, show fr + (i - fr) = i by omega, List.getElem?_eq_getElem hlt2]
            rfl
          rw [e, List.append_assoc] at this
          exact this
  obtain ⟨p, rest, hp⟩ := List.exists_cons_of_ne_nil (splitB_ne s.data.toList)
  have := key s.size 0 0 [] p rest (by omega) (by omega) (by omega) (by simp) (by rw [List.drop_zero]; exact hp)
  unfold splitS
  rw [hp]
  exact this
theorem splitB_len : ∀ t : List UInt8, (splitB t).length ≤ t.length + 1 ∧ ∀ p ∈ splitB t, p.length ≤ t.length
  | [] => by simp [splitB]
  | r :: t => by
    have ih := splitB_len t
    rw [splitB]
    split
    · refine ⟨by simp; omega, fun p hp => ?_⟩
      rcases List.mem_cons.1 hp with rfl | hp
      · simp
      · have := ih.2 p hp; simp; omega
    · split
      · rename_i e
        exact absurd e (splitB_ne t)
      · rename_i p rest e
        rw [e] at ih
        refine ⟨by simp at ih ⊢; omega, fun q hq => ?_⟩
        rcases List.mem_cons.1 hq with rfl | hq
        · have := ih.2 p (by simp); simp; omega
        · have := ih.2 q (by simp [hq]); simp; omega
theorem splitS_len (s : ByteArray) : (splitS s).length ≤ s.size + 1 ∧ ∀ p ∈ splitS s, p.size ≤ s.size := by
  have h := splitB_len s.data.toList
  rw [sizeL] at h
  unfold splitS
  refine ⟨by rw [List.length_map]; exact h.1, fun p hp => ?_⟩
  obtain ⟨q, hq, rfl⟩ := List.mem_map.1 hp
  have := h.2 q hq
  rw [← sizeL, toB_list]; exact this
theorem app_L (a b : ByteArray) : (a ++ b).data.toList = a.data.toList ++ b.data.toList := by rw [ByteArray.data_append, Array.toList_append]
theorem join_take (l : List ByteArray) (i : Nat) (h : i < l.length) : joinS (l.take (i + 1)) = (if 0 < i then joinS (l.take i) ++ (⟨#[32]⟩ : ByteArray) else joinS (l.take i)) ++ rdOf ByteArray.empty l (i : Int) := by
  have e : l.take (i + 1) = l.take i ++ [rdOf ByteArray.empty l (i : Int)] := by
    rw [List.take_add_one, List.getElem?_eq_getElem h]
    unfold rdOf
    rw [Int.toNat_natCast, List.getD_eq_getElem?_getD, List.getElem?_eq_getElem h]; rfl
  rw [e]
  generalize rdOf ByteArray.empty l (i : Int) = x
  by_cases c : 0 < i
  · rw [if_pos c]
    obtain ⟨y, ys, hy⟩ := List.exists_cons_of_ne_nil (show l.take i ≠ [] from fun e => by have := congrArg List.length e; rw [List.length_take, List.length_nil] at this; omega)
    rw [hy]
    apply bytes_eq
    unfold joinS
    rw [app_L, app_L]
    simp [join_cons, joinTail]
  · obtain rfl : i = 0 := by omega
    rw [if_neg c]
    apply bytes_eq
    unfold joinS
    rw [app_L]
    simp [join_one, join_nil]
theorem join_ev (l : List ByteArray) (h1 : ∀ x ∈ l, x.size ≤ 1099511627776) (h2 : l.length ≤ 1048576) : Ev (fun k => pentaglotref42_join.f k l) (joinS l) := by
  have hsz : ∀ i, i ≤ l.length → (joinS (l.take i)).size ≤ 1099511627777 * i := by
    intro i hi
    have := joinS_size (l.take i) 1099511627776 (fun x hx => h1 x (List.mem_of_mem_take hx))
    rw [List.length_take, Nat.min_eq_left hi] at this
    exact this
  have key : ∀ d i, l.length - i = d → i ≤ l.length → Ev (fun k => pentaglotref42_join.l0 k l (joinS (l.take i)) (i : Int)) (joinS l) := by
    intro d
    induction d with
    | zero =>
      intro i hd hi
      obtain rfl : i = l.length := by omega
      refine Ev.step (f := fun _ => some _) (fun k => ?_) (Ev.now _)
      simp only [pentaglotref42_join.l0]
      rw [if_neg (by omega), List.take_length]
    | succ d ih =>
      intro i hd hi
      have hlt : i < l.length := by omega
      refine Ev.step (fun k => ?_) (ih (i + 1) (by omega) (by omega))
      simp only [pentaglotref42_join.l0]
      have hb := hsz (i + 1) (by omega)
      have hb0 := hsz i hi
      rw [join_take l i hlt] at hb ⊢
      rw [if_pos (by omega)]
      by_cases c : 0 < i
      · rw [if_pos c] at hb ⊢
        rw [if_pos (by omega), if_pos (by omega), if_pos (by omega), if_pos (by rw [← ByteArray.size_append]; omega), idx_next hlt (by omega)]
      · rw [if_neg c] at hb ⊢
        rw [if_neg (by omega), if_pos (by omega), if_pos (by rw [← ByteArray.size_append]; omega), idx_next hlt (by omega)]
  have := key l.length 0 (by omega) (by omega)
  rw [List.take_zero] at this
  refine Ev.congr (fun k => ?_) this
  rfl
theorem toList_iff (a b : ByteArray) : a.toList = b.toList ↔ a = b := by
  rw [toList_data, toList_data]
  exact ⟨bytes_eq, fun h => by rw [h]⟩
theorem same_ev (x y : List ByteArray) (hx : x.length ≤ 9223372036854775807) : Ev (fun k => pentaglotref42_Same.f k x y) (decide (x = y)) := by
  unfold pentaglotref42_Same.f
  by_cases hl : x.length = y.length
  · refine Ev.congr (fun k => if_pos (by omega)) ?_
    have key : ∀ d i, x.length - i = d → i ≤ x.length → Ev (fun k => pentaglotref42_Same.l0 k x y (i : Int)) (decide (x.drop i = y.drop i)) := by
      intro d
      induction d with
      | zero =>
        intro i hd hi
        refine Ev.step (f := fun _ => some true) (fun k => ?_) ?_
        · simp only [pentaglotref42_Same.l0]
          rw [if_neg (by omega)]
        · rw [List.drop_of_length_le (by omega), List.drop_of_length_le (by omega)]
          exact Ev.now _
      | succ d ih =>
        intro i hd hi
        have hlt : i < x.length := by omega
        rw [drop_str x i hlt, drop_str y i (by omega)]
        by_cases c : rdOf ByteArray.empty x (i : Int) = rdOf ByteArray.empty y (i : Int)
        · refine Ev.step (fun k => ?_) (?_ : Ev (fun k => pentaglotref42_Same.l0 k x y ((i + 1 : Nat) : Int)) _)
          · simp only [pentaglotref42_Same.l0]
            rw [if_pos (by omega), if_pos (by omega), if_pos (by omega), if_pos ((toList_iff _ _).2 c), idx_next hlt hx]
          · have := ih (i + 1) (by omega) (by omega)
            rw [c]
            simpa using this
        · refine Ev.step (f := fun _ => some false) (fun k => ?_) ?_
          · simp only [pentaglotref42_Same.l0]
            rw [if_pos (by omega), if_pos (by omega), if_pos (by omega), if_neg (fun h => c ((toList_iff _ _).1 h))]
          · rw [decide_eq_false (fun h => c (List.cons.inj h).1)]
            exact Ev.now _
    have := key x.length 0 (by omega) (by omega)
    rw [List.drop_zero, List.drop_zero] at this
    exact this
  · refine Ev.congr (fun k => if_neg (by omega)) ?_
    rw [decide_eq_false (fun h => hl (by rw [h]))]
    exact Ev.now _
theorem stopped_f (a_0 : ByteArray) (a_1 : Bool) (l_2 : List (S80)) (l_3 : List (S85)) (l_4 : List (S180)) (l_5 : List (S183)) (l_6 : List (List Int)) (a_7 : Int) (a_8 : Int) (l_9 : List (S85)) (a_a : Int) (l_b : List ByteArray) (l_c : List ByteArray) (a_d : Bool) (a_e : ByteArray) (a_f : Int) (a_g : ByteArray) (a_h : Bool) (a_i : Int) (a_j : Int) (l_k : List (S186)) (l_l : List (S186)) (l_m : List ByteArray) (l_n : List ByteArray) (l_o : List ByteArray) (a_p : Bool) (l_q : List (S188)) (l_r : List (S190)) (l_s : List (S194)) (a_t : ByteArray) (a1 : ByteArray) (h1 : a_t.size ≤ 1099511627776) (h2 : a1.size ≤ 1099511627776) : pentaglotref42_stopped.f a_0 a_1 l_2 l_3 l_4 l_5 l_6 a_7 a_8 l_9 a_a l_b l_c a_d a_e a_f a_g a_h a_i a_j l_k l_l l_m l_n l_o a_p l_q l_r l_s a_t a1 = some (stS a_t a1) := by
  unfold pentaglotref42_stopped.f stS stoppedB
  rw [sizeL, sizeL]
  have hw : wrap64 ((a1.size : Int) - (a_t.size : Int)) = (a1.size : Int) - (a_t.size : Int) := by
    unfold wrap64; omega
  rw [hw]
  by_cases c : a_t.size ≤ a1.size
  · have e : ((a1.size : Int) - (a_t.size : Int)).toNat = a1.size - a_t.size := by omega
    have ex : (a1.extract (a1.size - a_t.size) a1.size).toList = a1.data.toList.drop (a1.size - a_t.size) := by
      rw [toList_data, extract_data, List.take_of_length_le (by rw [List.length_drop, sizeL]; omega)]
    rw [if_pos (by omega), if_pos (by omega), if_pos (by omega), e, ex, toList_data]
    by_cases c2 : a1.data.toList.drop (a1.size - a_t.size) = a_t.data.toList
    · rw [if_pos c2, if_pos ⟨c, c2⟩, toB_extract, List.drop_zero, Nat.sub_zero]
    · rw [if_neg c2, if_neg (fun h => c2 h.2), toB_of]
  · rw [if_neg (by omega), if_neg (fun h => c h.1), toB_of]
theorem isWord_ref (l : List S80) (a : ByteArray) (h : a.size ≤ 1099511627776) : pentaglotref10_Word.f l a = some (isWordP l a) := by
  unfold pentaglotref10_Word.f pentaglotref06_Over.f isWordP
  rw [if_pos h, Option.bind_some]
  unfold overP
  by_cases c : (runesS a).all (isL l) = true
  · rw [if_pos c, c]
    by_cases c2 : validD a.data.toList = true
    · rw [if_pos c2, c2, List.length_map]
      simp only [Bool.true_and]
      congr 1
      rw [decide_eq_decide]; omega
    · rw [if_neg c2]
      simp at c2
      rw [c2]; rfl
  · rw [if_neg c]
    simp only [Bool.false_eq_true, if_false]
    simp at c
    rw [show (runesS a).all (isL l) = false by simpa using c, Bool.false_and, Bool.and_false]
theorem host_f (a_0 : ByteArray) (a_1 : Bool) (l_2 : List (S80)) (l_3 : List (S85)) (l_4 : List (S180)) (l_5 : List (S183)) (l_6 : List (List Int)) (a_7 : Int) (a_8 : Int) (l_9 : List (S85)) (a_a : Int) (l_b : List ByteArray) (l_c : List ByteArray) (a_d : Bool) (a_e : ByteArray) (a_f : Int) (a_g : ByteArray) (a_h : Bool) (a_i : Int) (a_j : Int) (l_k : List (S186)) (l_l : List (S186)) (l_m : List ByteArray) (l_n : List ByteArray) (l_o : List ByteArray) (a_p : Bool) (l_q : List (S188)) (l_r : List (S190)) (l_s : List (S194)) (a_t : ByteArray) (a1 : ByteArray) (h61 : isL l_2 61 = false) (h : a1.size ≤ 1099511627776) : pentaglotref42_Host.f a_0 a_1 l_2 l_3 l_4 l_5 l_6 a_7 a_8 l_9 a_a l_b l_c a_d a_e a_f a_g a_h a_i a_j l_k l_l l_m l_n l_o a_p l_q l_r l_s a_t a1 = some (hostS l_2 a1) := by
  unfold pentaglotref42_Host.f hostS hostB
  by_cases c : a1 = ByteArray.empty
  · subst c
    rw [if_pos (by rw [toList_data]; rfl)]; rfl
  · have hne : a1.data.toList ≠ [] := fun e => c (bytes_eq (by rw [e]; rfl))
    have hz : 0 < a1.size := by
      rw [← sizeL]; exact List.length_pos_iff.2 hne
    rw [if_neg (by rw [toList_data]; exact hne), if_pos (by omega), decide_eq_true (by rw [sizeL]; exact hz), Bool.true_and]
    have hlt : 0 < a1.data.toList.length := by rw [sizeL]; exact hz
    have hbt := bt_L a1 0 hlt
    by_cases c2 : a1.data.toList[0] = 61
    · rw [if_pos (by rw [show (0 : Int) = ((0 : Nat) : Int) from rfl, hbt, c2]; rfl)]
      have e : a1.data.toList = encodeRune 61 ++ a1.data.toList.drop 1 := by
        rw [show encodeRune 61 = [61] by decide, ← c2]
        exact (List.drop_eq_getElem_cons hlt)
      have : (runesL a1.data.toList).all (isL l_2) = false := by
        rw [e, runes_enc 61 (by unfold scalar; omega), List.all_cons, h61, Bool.false_and]
      rw [this, Bool.false_and, Bool.and_false]
    · rw [if_neg, isWord_ref l_2 a1 h]
      · rfl
      · rw [show (0 : Int) = ((0 : Nat) : Int) from rfl, hbt]
        intro h9
        apply c2
        apply UInt8.toNat_inj.1
        have : (a1.data.toList[0]'hlt).toNat = 61 := by omega
        rw [this]; rfl
end Go.Proofs.YtfbhdjflkaldgaaDoor.Pr

namespace Go.Proofs.YtfbhdjflkaldgaaDoor.Pr
open Go.RowKit Go.Proofs.YtfbhdjflkaldgaaDoor.Ct Go.Proofs.YtfbhdjflkaldgaaDoor.Opn Go.Proofs.YtfbhdjflkaldgaaDoorW.PrintWords Go.Proofs.YtfbhdjflkaldgaaDoorW.PrintLast
set_option linter.unusedVariables false
theorem bulk_mem {α : Type} (m : Ms α) : ∀ (xs : List α) (x : α), x ∈ xs → m.bulk x ≤ (xs.map m.bulk).sum
  | y :: xs, x, h => by
    rw [List.map_cons, List.sum_cons]
    rcases List.mem_cons.1 h with rfl | h
    · omega
    · have := bulk_mem m xs x h; omega
theorem bulk_len {α : Type} (m : Ms α) (h : ∀ x, 1 ≤ m.bulk x) : ∀ xs : List α, xs.length ≤ (xs.map m.bulk).sum
  | [] => by simp
  | y :: xs => by
    rw [List.map_cons, List.sum_cons, List.length_cons]
    have := bulk_len m h xs
    have := h y
    omega
theorem items_small (l : List S82) (h : (Ms.slice ms82).bulk l ≤ 1048576) : smallP l = true ∧ l.length ≤ 1099511627776 := by
  have h1 : (l.map ms82.bulk).sum + 1 ≤ 1048576 := h
  refine ⟨?_, ?_⟩
  · unfold smallP
    rw [List.all_eq_true]
    intro x hx
    have h2 := Nat.le_trans (bulk_mem ms82 _ _ hx) (show (l.map ms82.bulk).sum ≤ 1048576 by omega)
    have h3 : 1 + ((x.f1.size + 1) + (1 + 1)) ≤ 1048576 := h2
    simp
    omega
  · have := bulk_len ms82 (fun x => by show 1 ≤ 1 + _; omega) l
    omega
theorem rules_small (l : List S85) (h : (Ms.slice ms85).bulk l ≤ 1048576) : l.all smallR = true ∧ okLen l = true := by
  have h1 : (l.map ms85.bulk).sum + 1 ≤ 1048576 := h
  have key : ∀ x ∈ l, x.f1.size ≤ 1048576 ∧ (Ms.slice ms82).bulk x.f2 ≤ 1048576 ∧ (Ms.slice ms82).bulk x.f3 ≤ 1048576 := by
    intro x hx
    have h2 := Nat.le_trans (bulk_mem ms85 _ _ hx) (show (l.map ms85.bulk).sum ≤ 1048576 by omega)
    have h3 : 1 + ((x.f1.size + 1) + ((Ms.slice ms82).bulk x.f2 + ((Ms.slice ms82).bulk x.f3 + (1 + 1)))) ≤ 1048576 := h2
    omega
  refine ⟨?_, ?_⟩
  · rw [List.all_eq_true]
    intro x hx
    obtain ⟨a, b, c⟩ := key x hx
    unfold smallR
    rw [(items_small _ b).1, (items_small _ c).1]
    simp
    omega
  · unfold okLen
    rw [List.all_eq_true]
    intro x hx
    obtain ⟨a, b, c⟩ := key x hx
    rw [Bool.and_eq_true]
    exact ⟨decide_eq_true (items_small _ b).2, decide_eq_true (items_small _ c).2⟩
theorem letters_ok (l : List S80) (h : (Ms.slice ms80).good l) : runesOk l = true := by
  unfold runesOk
  rw [List.all_eq_true]
  intro x hx
  exact (h.2 x hx).1
end Go.Proofs.YtfbhdjflkaldgaaDoor.Pr

namespace Go.Proofs.YtfbhdjflkaldgaaDoor.Pr
open Go.Proofs.YtfbhdjflkaldgaaDoor.Ct Go.RowKit Go.Proofs.YtfbhdjflkaldgaaDoorW.PrintWords Go.Proofs.YtfbhdjflkaldgaaDoorW.PrintLast Go.Proofs.YtfbhdjflkaldgaaDoorW.PrintMore
attribute [local go_sem] max2_int min2_int max_two min_two max_three min_three max_four min_four
set_option linter.unusedVariables false
set_option linter.unusedSimpArgs false
def pentaglotref42_Words.l0 : Nat → List ByteArray → List ByteArray → Int → ByteArray → Bool → List (S80) → List (S85) → List (S180) → List (S183) → List (List Int) → Int → Int → List (S85) → Int → List ByteArray → List ByteArray → Bool → ByteArray → Int → ByteArray → Bool → Int → Int → List (S186) → List (S186) → List ByteArray → List ByteArray → List ByteArray → Bool → List (S188) → List (S190) → List (S194) → ByteArray → Option (List ByteArray × Int)
 | 0, _, _, _, _, _, _, _, _, _, _, _, _, _, _, _, _, _, _, _, _, _, _, _, _, _, _, _, _, _, _, _, _, _ => none
 | k + 1, x6, x7, x8, x417000, x417001, x417002, x417003, x417004, x417005, x417006, x417007, x417008, x417009, x417010, x417011, x417012, x417013, x417014, x417015, x417016, x417017, x417018, x417019, x417020, x417021, x417022, x417023, x417024, x417025, x417026, x417027, x417028, x417029 => if x8 < (x7.length : Int) then (if 0 ≤ x8 then ((pentaglotref42_stopped.f x417000 x417001 x417002 x417003 x417004 x417005 x417006 x417007 x417008 x417009 x417010 x417011 x417012 x417013 x417014 x417015 x417016 x417017 x417018 x417019 x417020 x417021 x417022 x417023 x417024 x417025 x417026 x417027 x417028 x417029 (rdOf ByteArray.empty x7 x8)).bind fun bt425 => ((pentaglotref42_Host.f x417000 x417001 x417002 x417003 x417004 x417005 x417006 x417007 x417008 x417009 x417010 x417011 x417012 x417013 x417014 x417015 x417016 x417017 x417018 x417019 x417020 x417021 x417022 x417023 x417024 x417025 x417026 x417027 x417028 x417029 bt425.1).bind fun t427 => (if t427 = true then (if (bt425.2 != (x8 == (wrap64 ((x7.length : Int) - 1)))) = true then (some (([] : List ByteArray), 3)) else (if x6.length < 8796093022208 then (pentaglotref42_Words.l0 k (x6 ++ [bt425.1]) x7 (wrap64 (x8 + 1)) x417000 x417001 x417002 x417003 x417004 x417005 x417006 x417007 x417008 x417009 x417010 x417011 x417012 x417013 x417014 x417015 x417016 x417017 x417018 x417019 x417020 x417021 x417022 x417023 x417024 x417025 x417026 x417027 x417028 x417029) else (none))) else (some (([] : List ByteArray), 3))))) else (none)) else (if (x6.length : Int) > 40 then (some (([] : List ByteArray), 2)) else (some (x6, 0)))
end Go.Proofs.YtfbhdjflkaldgaaDoor.Pr

namespace Go.Proofs.YtfbhdjflkaldgaaDoor.Pr
open Go.Proofs.YtfbhdjflkaldgaaDoor.Ct Go.RowKit Go.Maps Go.Lib Go.Proofs.YtfbhdjflkaldgaaDoorW.PrintWords Go.Proofs.YtfbhdjflkaldgaaDoorW.PrintLast Go.Proofs.YtfbhdjflkaldgaaDoorW.PrintMore
set_option linter.unusedVariables false
set_option linter.unusedSimpArgs false
theorem orth_61 {l : List S80} {rules : List S85} {stop : ByteArray} (h : orthP l rules stop = true) : isL l 61 = false := by
  unfold orthP cliticP at h
  simp only [Bool.and_eq_true, Bool.not_eq_true'] at h
  exact h.2.1.2
theorem st_size (stop p : ByteArray) : (stS stop p).1.size ≤ p.size := by
  cases c : (stS stop p).2 with
  | true =>
    have := congrArg ByteArray.size (st_is c)
    rw [ByteArray.size_append] at this
    omega
  | false => rw [st_not c]; omega
set_option maxHeartbeats 2000000 in
theorem refSent_ev (a_0 : ByteArray) (a_1 : Bool) (l_2 : List (S80)) (l_3 : List (S85)) (l_4 : List (S180)) (l_5 : List (S183)) (l_6 : List (List Int)) (a_7 : Int) (a_8 : Int) (l_9 : List (S85)) (a_a : Int) (l_b : List ByteArray) (l_c : List ByteArray) (a_d : Bool) (a_e : ByteArray) (a_f : Int) (a_g : ByteArray) (a_h : Bool) (a_i : Int) (a_j : Int) (l_k : List (S186)) (l_l : List (S186)) (l_m : List ByteArray) (l_n : List ByteArray) (l_o : List ByteArray) (a_p : Bool) (l_q : List (S188)) (l_r : List (S190)) (l_s : List (S194)) (a_t : ByteArray) (a1 : ByteArray) (h2 : l_9.all smallR = true) (h3 : okLen l_9 = true) (h29 : a_t.size ≤ 1099511627776) : Ev (fun k => pentaglotref42_Sentences.f k a_0 a_1 l_2 l_3 l_4 l_5 l_6 a_7 a_8 l_9 a_a l_b l_c a_d a_e a_f a_g a_h a_i a_j l_k l_l l_m l_n l_o a_p l_q l_r l_s a_t a1) (sentencesP l_2 l_9 a_t a1) := by
  have hv : pentaglotref42_Valid.f a_0 a_1 l_2 l_3 l_4 l_5 l_6 a_7 a_8 l_9 a_a l_b l_c a_d a_e a_f a_g a_h a_i a_j l_k l_l l_m l_n l_o a_p l_q l_r l_s a_t = some (orthP l_2 l_9 a_t) := by
    unfold pentaglotref42_Valid.f
    rw [if_pos ⟨⟨h2, h3⟩, h29⟩]
  refine Ev.congr (f := fun k => if orthP l_2 l_9 a_t = true then (if (a1.size : Int) > 4096 then (some (([] : List ByteArray), 2)) else ((pentaglotref42_split.f k a1).bind fun t386 => (pentaglotref42_Sentences.l0 k (([] : List ByteArray)) (([] : List ByteArray)) t386 0 a_0 a_1 l_2 l_3 l_4 l_5 l_6 a_7 a_8 l_9 a_a l_b l_c a_d a_e a_f a_g a_h a_i a_j l_k l_l l_m l_n l_o a_p l_q l_r l_s a_t))) else (some (([] : List ByteArray), 1))) (fun k => ?_) ?_
  · unfold pentaglotref42_Sentences.f
    rw [hv, Option.bind_some]
  · unfold sentencesP
    by_cases c : orthP l_2 l_9 a_t = true
    · rw [if_pos c]
      refine Ev.congr (fun k => if_pos c) ?_
      by_cases c1 : 4096 < a1.size
      · rw [if_pos c1]
        refine Ev.congr (fun k => if_pos (by omega)) (Ev.now _)
      · rw [if_neg c1]
        refine Ev.congr (fun k => if_neg (by omega)) (Ev.bind (split_ev a1 (by omega)) ?_)
        have hp := splitS_len a1
        rw [readT_S c]
        generalize splitS a1 = parts at hp
        have h61 := orth_61 c
        have key : ∀ d i, parts.length - i = d → i ≤ parts.length → ∀ out opn : List ByteArray, out.length ≤ i → opn.length ≤ i → (∀ x ∈ opn, x.size ≤ 4096) → Ev (fun k => pentaglotref42_Sentences.l0 k out opn parts (i : Int) a_0 a_1 l_2 l_3 l_4 l_5 l_6 a_7 a_8 l_9 a_a l_b l_c a_d a_e a_f a_g a_h a_i a_j l_k l_l l_m l_n l_o a_p l_q l_r l_s a_t) (match refG (stS a_t) (hostS l_2) (parts.drop i) opn with | some o => (if 8 < out.length + o.length then ([], 2) else (out ++ o.map (sentS a_t), 0)) | none => ([], 3)) := by
          intro d
          induction d with
          | zero =>
            intro i hd hi out opn ho hop hsz
            obtain rfl : i = parts.length := by omega
            rw [List.drop_length, refG]
            by_cases c2 : opn.length = 0
            · rw [if_pos c2]
              by_cases c3 : 8 < out.length
              · refine Ev.step (f := fun _ => some _) (fun k => ?_) (Ev.now _)
                simp only [pentaglotref42_Sentences.l0]
                rw [if_neg (by omega), if_neg (by omega), if_pos (by omega)]
                simp [c3]
              · refine Ev.step (f := fun _ => some _) (fun k => ?_) (Ev.now _)
                simp only [pentaglotref42_Sentences.l0]
                rw [if_neg (by omega), if_neg (by omega), if_neg (by omega)]
                simp [c3]
            · rw [if_neg c2]
              refine Ev.step (f := fun _ => some _) (fun k => ?_) (Ev.now _)
              simp only [pentaglotref42_Sentences.l0]
              rw [if_neg (by omega), if_pos (by omega)]
          | succ d ih =>
            intro i hd hi out opn ho hop hsz
            have hlt : i < parts.length := by omega
            rw [drop_str parts i hlt]
            have hmem : rdOf ByteArray.empty parts (i : Int) ∈ parts := List.mem_of_mem_drop (i := i) (by rw [drop_str parts i hlt]; simp)
            have hPs := hp.2 _ hmem
            have hps := st_size a_t (rdOf ByteArray.empty parts (i : Int))
            have e1 := stopped_f a_0 a_1 l_2 l_3 l_4 l_5 l_6 a_7 a_8 l_9 a_a l_b l_c a_d a_e a_f a_g a_h a_i a_j l_k l_l l_m l_n l_o a_p l_q l_r l_s a_t (rdOf ByteArray.empty parts (i : Int)) h29 (by omega)
            have e2 := host_f a_0 a_1 l_2 l_3 l_4 l_5 l_6 a_7 a_8 l_9 a_a l_b l_c a_d a_e a_f a_g a_h a_i a_j l_k l_l l_m l_n l_o a_p l_q l_r l_s a_t (stS a_t (rdOf ByteArray.empty parts (i : Int))).1 h61 (by omega)
            have q1 : (i : Int) < (parts.length : Int) := by omega
            have q2 : (0 : Int) ≤ (i : Int) := by omega
            have q3 : opn.length < 8796093022208 := by omega
            have q4 : out.length < 8796093022208 := by omega
            have q5 : parts.length ≤ 9223372036854775807 := by omega
            have hst : ∀ k, pentaglotref42_Sentences.l0 (k + 1) out opn parts (i : Int) a_0 a_1 l_2 l_3 l_4 l_5 l_6 a_7 a_8 l_9 a_a l_b l_c a_d a_e a_f a_g a_h a_i a_j l_k l_l l_m l_n l_o a_p l_q l_r l_s a_t = (if hostS l_2 (stS a_t (rdOf ByteArray.empty parts (i : Int))).1 = true then (if (stS a_t (rdOf ByteArray.empty parts (i : Int))).2 = true then ((pentaglotref42_join.f k (opn ++ [rdOf ByteArray.empty parts (i : Int)])).bind fun t => pentaglotref42_Sentences.l0 k (out ++ [t]) [] parts ((i + 1 : Nat) : Int) a_0 a_1 l_2 l_3 l_4 l_5 l_6 a_7 a_8 l_9 a_a l_b l_c a_d a_e a_f a_g a_h a_i a_j l_k l_l l_m l_n l_o a_p l_q l_r l_s a_t) else pentaglotref42_Sentences.l0 k out (opn ++ [rdOf ByteArray.empty parts (i : Int)]) parts ((i + 1 : Nat) : Int) a_0 a_1 l_2 l_3 l_4 l_5 l_6 a_7 a_8 l_9 a_a l_b l_c a_d a_e a_f a_g a_h a_i a_j l_k l_l l_m l_n l_o a_p l_q l_r l_s a_t) else some ([], 3)) := by
              intro k
              simp only [pentaglotref42_Sentences.l0]
              rw [if_pos q1, if_pos q2, e1, Option.bind_some, e2, Option.bind_some, idx_next hlt q5]
              simp only [if_pos q3, if_pos q4, Option.bind_some]
            clear e1 e2
            generalize rdOf ByteArray.empty parts (i : Int) = P at hPs hps hst
            rw [refG]
            by_cases c2 : hostS l_2 (stS a_t P).1 = true
            · rw [if_pos c2]
              by_cases c3 : (stS a_t P).2 = true
              · rw [if_pos c3]
                refine Ev.step (fun k => (hst k).trans (by rw [if_pos c2, if_pos c3])) (Ev.bind (join_ev _ ?_ ?_) ?_)
                · intro x hx
                  rcases List.mem_append.1 hx with hx | hx
                  · have := hsz x hx; omega
                  · rw [List.mem_singleton.1 hx]; omega
                · rw [List.length_append, List.length_singleton]; omega
                · have h9 := ih (i + 1) (by omega) (by omega) (out ++ [joinS (opn ++ [P])]) [] Gc13 (by simp) (by simp)
                  have e3 : joinS (opn ++ [P]) = sentS a_t (opn ++ [(stS a_t P).1]) := by
                    have e4 := st_is c3
                    rw [show opn ++ [P] = opn ++ [(stS a_t P).1 ++ a_t] by rw [← e4], join_snoc]
                    rfl
                  rw [e3] at h9 ⊢
                  cases hr : refG (stS a_t) (hostS l_2) (parts.drop (i + 1)) [] with
                  | none => rw [hr] at h9; exact h9
                  | some o =>
                    rw [hr] at h9
                    have e5 : (out ++ [sentS a_t (opn ++ [(stS a_t P).1])]).length + o.length = out.length + ((opn ++ [(stS a_t P).1]) :: o).length := by simp; omega
                    have e6 : out ++ [sentS a_t (opn ++ [(stS a_t P).1])] ++ o.map (sentS a_t) = out ++ ((opn ++ [(stS a_t P).1]) :: o).map (sentS a_t) := by simp
                    simp only at h9
                    rw [e5, e6] at h9
                    exact h9
              · rw [if_neg c3]
                have e3 := st_not (by simpa using c3 : (stS a_t P).2 = false)
                refine Ev.step (fun k => (hst k).trans (by rw [if_pos c2, if_neg c3])) ?_
                rw [e3]
                refine ih (i + 1) (by omega) (by omega) out (opn ++ [P]) (by omega) Gc13 ?_
                intro x hx
                rcases List.mem_append.1 hx with hx | hx
                · exact hsz x hx
                · rw [List.mem_singleton.1 hx]; omega
            · rw [if_neg c2]
              exact Ev.step (fun k => (hst k).trans (by rw [if_neg c2])) (Ev.now _)
        have := key parts.length 0 (by omega) (by omega) [] [] (by simp) (by simp) (by simp)
        rw [List.drop_zero] at this
        refine Ev.congr (fun k => rfl) ?_
        cases hr : refG (stS a_t) (hostS l_2) parts [] with
        | none => rw [hr] at this; exact this
        | some o =>
          rw [hr] at this
          simp only [List.length_nil, Nat.zero_add, List.nil_append] at this
          exact this
    · rw [if_neg c]
      exact Ev.congr (fun k => if_neg c) (Ev.now _)
theorem sentencesP_len (l : List S80) (rules : List S85) (stop a1 : ByteArray) : (sentencesP l rules stop a1).1.length ≤ 9223372036854775807 := by
  unfold sentencesP
  split
  · split
    · simp
    · split
      · split
        · simp
        · rename_i o _ h
          show (o.map (sentS stop)).length ≤ _
          rw [List.length_map]
          omega
      · simp
  · simp
end Go.Proofs.YtfbhdjflkaldgaaDoor.Pr

namespace Go.Proofs.YtfbhdjflkaldgaaDoor.PuOrthographyDivides
open Go.RowKit Go.Proofs.YtfbhdjflkaldgaaDoor.Pr Go.Proofs.YtfbhdjflkaldgaaDoor.Ct Go.Proofs.YtfbhdjflkaldgaaDoor.Opn Go.Proofs.YtfbhdjflkaldgaaDoorW.PrintWords Go.Proofs.YtfbhdjflkaldgaaDoorW.PrintLast
set_option linter.unusedVariables false
theorem few_some (a_0 : ByteArray) (a_1 : Bool) (l_2 : List (S80)) (l_3 : List (S85)) (l_4 : List (S180)) (l_5 : List (S183)) (l_6 : List (List Int)) (a_7 : Int) (a_8 : Int) (l_9 : List (S85)) (a_a : Int) (l_b : List ByteArray) (l_c : List ByteArray) (a_d : Bool) (a_e : ByteArray) (a_f : Int) (a_g : ByteArray) (a_h : Bool) (a_i : Int) (a_j : Int) (l_k : List (S186)) (l_l : List (S186)) (l_m : List ByteArray) (l_n : List ByteArray) (l_o : List ByteArray) (a_p : Bool) (l_q : List (S188)) (l_r : List (S190)) (l_s : List (S194)) (a_t : ByteArray) : ∃ b, pentaglotlaw42_few.f a_0 a_1 l_2 l_3 l_4 l_5 l_6 a_7 a_8 l_9 a_a l_b l_c a_d a_e a_f a_g a_h a_i a_j l_k l_l l_m l_n l_o a_p l_q l_r l_s a_t = some b := by
  unfold pentaglotlaw42_few.f
  repeat' split
  all_goals exact ⟨_, rfl⟩
set_option maxHeartbeats 2000000 in
theorem ProvedUpto : Upto := by
  intro a_0 a_1 l_2 l_3 l_4 l_5 l_6 a_7 a_8 l_9 a_a l_b l_c a_d a_e a_f a_g a_h a_i a_j l_k l_l l_m l_n l_o a_p l_q l_r l_s a_t a1 g0 g1 hb
  have hL : runesOk l_2 = true := letters_ok _ g0.2.2.1.1
  have hb2 := hb
  simp only [Ms.pair] at hb2
  have h9 : (Ms.slice ms85).bulk l_9 ≤ 1048576 := by omega
  have h29 : a_t.size + 1 ≤ 1048576 := by
    have : Ms.string.bulk a_t ≤ 1048576 := by omega
    exact this
  have h1 : a1.size + 1 ≤ 1048576 := by
    have : Ms.string.bulk a1 ≤ 1048576 := by omega
    exact this
  obtain ⟨hs, ho⟩ := rules_small _ h9
  clear hb hb2 g0 g1 h9
  have hcode : orthography_Sentences.f a_0 a_1 l_2 l_3 l_4 l_5 l_6 a_7 a_8 l_9 a_a l_b l_c a_d a_e a_f a_g a_h a_i a_j l_k l_l l_m l_n l_o a_p l_q l_r l_s a_t a1 = some (sentencesP l_2 l_9 a_t a1) := by
    unfold orthography_Sentences.f
    rw [if_pos ⟨⟨hL, hs⟩, by omega⟩]
  have href := refSent_ev a_0 a_1 l_2 l_3 l_4 l_5 l_6 a_7 a_8 l_9 a_a l_b l_c a_d a_e a_f a_g a_h a_i a_j l_k l_l l_m l_n l_o a_p l_q l_r l_s a_t a1 hs ho (by omega)
  obtain ⟨r, hr⟩ : ∃ r, sentencesP l_2 l_9 a_t a1 = r := ⟨_, rfl⟩
  rw [hr] at hcode href
  have jt : Ev (fun k => pentaglotlaw42_OrthographyDivides.j0 k a1 true a_0 a_1 l_2 l_3 l_4 l_5 l_6 a_7 a_8 l_9 a_a l_b l_c a_d a_e a_f a_g a_h a_i a_j l_k l_l l_m l_n l_o a_p l_q l_r l_s a_t) true := Ev.step (f := fun _ => some true) (fun k => by simp only [pentaglotlaw42_OrthographyDivides.j0]; first | rfl | rw [if_pos trivial] | rw [if_pos rfl]) (Ev.now _)
  have jf : Ev (fun k => pentaglotlaw42_OrthographyDivides.j0 k a1 false a_0 a_1 l_2 l_3 l_4 l_5 l_6 a_7 a_8 l_9 a_a l_b l_c a_d a_e a_f a_g a_h a_i a_j l_k l_l l_m l_n l_o a_p l_q l_r l_s a_t) true := by
    refine Ev.step (f := fun k => (pentaglotref42_Sentences.f k a_0 a_1 l_2 l_3 l_4 l_5 l_6 a_7 a_8 l_9 a_a l_b l_c a_d a_e a_f a_g a_h a_i a_j l_k l_l l_m l_n l_o a_p l_q l_r l_s a_t a1).bind fun bt => if r.2 = bt.2 then ((pentaglotref42_Same.f k r.1 bt.1).bind fun t => some t) else some false) (fun k => ?_) ?_
    · simp only [pentaglotlaw42_OrthographyDivides.j0]
      first | rw [if_neg (by decide), hcode, Option.bind_some] | rw [if_neg (fun h => h), hcode, Option.bind_some] | (simp only [Bool.false_eq_true, if_false]; rw [hcode, Option.bind_some])
    · refine Ev.bind href (Ev.congr (fun k => if_pos rfl) ?_)
      have hlen : r.1.length ≤ 9223372036854775807 := by rw [← hr]; exact sentencesP_len l_2 l_9 a_t a1
      have := Ev.bind (same_ev r.1 r.1 hlen) (f := fun _ t => some t) (Ev.now _)
      rw [decide_eq_true rfl] at this
      exact this
  obtain ⟨b, hf⟩ := few_some a_0 a_1 l_2 l_3 l_4 l_5 l_6 a_7 a_8 l_9 a_a l_b l_c a_d a_e a_f a_g a_h a_i a_j l_k l_l l_m l_n l_o a_p l_q l_r l_s a_t
  have hall : Ev (fun k => pentaglotlaw42_OrthographyDivides.f k a_0 a_1 l_2 l_3 l_4 l_5 l_6 a_7 a_8 l_9 a_a l_b l_c a_d a_e a_f a_g a_h a_i a_j l_k l_l l_m l_n l_o a_p l_q l_r l_s a_t a1) true := by
    have e : ∀ k, pentaglotlaw42_OrthographyDivides.f k a_0 a_1 l_2 l_3 l_4 l_5 l_6 a_7 a_8 l_9 a_a l_b l_c a_d a_e a_f a_g a_h a_i a_j l_k l_l l_m l_n l_o a_p l_q l_r l_s a_t a1 = if b = true then pentaglotlaw42_OrthographyDivides.j0 k a1 (decide ((a1.size : Int) > 5000)) a_0 a_1 l_2 l_3 l_4 l_5 l_6 a_7 a_8 l_9 a_a l_b l_c a_d a_e a_f a_g a_h a_i a_j l_k l_l l_m l_n l_o a_p l_q l_r l_s a_t else pentaglotlaw42_OrthographyDivides.j0 k a1 true a_0 a_1 l_2 l_3 l_4 l_5 l_6 a_7 a_8 l_9 a_a l_b l_c a_d a_e a_f a_g a_h a_i a_j l_k l_l l_m l_n l_o a_p l_q l_r l_s a_t := by
      intro k
      unfold pentaglotlaw42_OrthographyDivides.f
      rw [hf]; rfl
    refine Ev.congr e ?_
    cases b with
    | true =>
      refine Ev.congr (fun k => if_pos rfl) ?_
      cases c : decide ((a1.size : Int) > 5000) with
      | true => exact jt
      | false => exact jf
    | false => exact Ev.congr (fun k => if_neg (by decide)) jt
  exact hall.rounds
end Go.Proofs.YtfbhdjflkaldgaaDoor.PuOrthographyDivides
