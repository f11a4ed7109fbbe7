/- Several texts in one: Awk, PrF42, PrF25. -/
import Derived.Test.YtfbhdjflkaldgaaDoorMg18
import Derived.Test.YtfbhdjflkaldgaaDoorMg1
import Derived.Test.YtfbhdjflkaldgaaDoorCt
import Derived.Test.YtfbhdjflkaldgaaDoorMg4
/- awake of chapter 42: true, in every world. -/
namespace Go.Proofs.YtfbhdjflkaldgaaDoor.Pr
open Go.Proofs.YtfbhdjflkaldgaaDoor.Ct Go.RowKit Go.Maps Go.Lib Go.Proofs.YtfbhdjflkaldgaaDoorW.PrintWords Go.Proofs.YtfbhdjflkaldgaaDoorW.PrintLast Go.Proofs.YtfbhdjflkaldgaaDoorW.PrintMore
set_option linter.unusedVariables false
set_option linter.unusedSimpArgs false
def Str (w : World) (v : Value) (l : List ByteArray) : Prop := ∃ A c, v = .slice A l.length c ∧ Kd.C Kd.string w A l.length l ∧ l.length ≤ c
theorem Str.below {w w' : World} {v : Value} {l : List ByteArray} (h : Str w v l) (hb : Below w.heap.size w w') : Str w' v l := by
  obtain ⟨A, c, e, h1, h2⟩ := h
  exact ⟨A, c, e, Kd.C_below h1 hb, h2⟩
theorem str_row {w : World} {e b : Nat} {ok : Nat → Prop} {v : Value} {l : List ByteArray} (h : Kd.R Kd.string e w b ok v l) : Str w v l := by
  obtain ⟨A, c, e, h1, h2⟩ := Kd.R_reads h
  exact ⟨A, c, e, h2, h1⟩
theorem C_no {α : Type} {d : Kd α} (w : World) : d.C w none ([] : List α).length [] := ⟨rfl, Nat.zero_le _, fun h => absurd h (Nat.lt_irrefl 0)⟩
theorem C_strs {W : World} {g : Nat} {T : TypeId} {fr : Nat × Nat} (xs : List ByteArray) (hb : W.heap[g]? = some (.cells (xs.map Value.string).toArray T fr)) (hl : xs.length ≤ 9223372036854775807) : Kd.C Kd.string W (some ⟨g, 0, none⟩) xs.length xs := by
  refine C_lit hb xs hl fun j x hj => ⟨[.string x], ?_, rfl, rfl⟩
  rw [show (Kd.string).sz = 1 from rfl, Nat.mul_one]
  have h1 : (xs.map Value.string)[j]? = some (.string x) := by rw [List.getElem?_map, hj]; rfl
  obtain ⟨h2, h3⟩ := List.getElem?_eq_some_iff.1 h1
  show List.take 1 (List.drop j (xs.map Value.string)) = _
  rw [List.drop_eq_getElem_cons h2, h3]; rfl
def Stt (w : World) (v : Value) (l : List (List ByteArray)) : Prop := ∃ A c, v = .slice A l.length c ∧ Kd.C (Kd.slice 9 Kd.string) w A l.length l ∧ l.length ≤ c
theorem Stt.below {w w' : World} {v : Value} {l : List (List ByteArray)} (h : Stt w v l) (hb : Below w.heap.size w w') : Stt w' v l := by
  obtain ⟨A, c, e, h1, h2⟩ := h
  exact ⟨A, c, e, Kd.C_below h1 hb, h2⟩
theorem sent_aw (l : List ByteArray) {t : Value} (w : World) (hT : Tabs w) {v : Value} (hv : AwL w v) (ht : Str w t l) {r1 : ByteArray} {r2 : Int} (h : orthography_Sentence.f 60 ⟨#[]⟩ false awA [] [] [] [] 0 0 awR 0 [] [] false ⟨#[]⟩ 0 ⟨#[]⟩ false 0 0 [] [] [] [] [] false [] [] [] awS l = some (r1, r2)) :
    Calls Tryd.prog 14 #[v, t] w fun e w' => e = .returned (.tuple #[.string r1, .int .i64 r2]) ∧ Below w.heap.size w w' := by
  obtain ⟨A2, A9, c2, c9, rfl, h2, hc2, h9, hc9⟩ := hv
  obtain ⟨A, c, rfl, h1, hl⟩ := ht
  exact orthography_Sentence.calls 60 ⟨#[]⟩ false A2 c2 awA none 0 [] none 0 [] none 0 [] none 0 [] 0 0 A9 c9 awR 0 none 0 [] none 0 [] false ⟨#[]⟩ 0 ⟨#[]⟩ false 0 0 none 0 [] none 0 [] none 0 [] none 0 [] none 0 [] false none 0 [] none 0 [] none 0 [] awS A c l r1 r2 w hT h2 hc2 (C_no w) (Nat.le_refl 0) (C_no w) (Nat.le_refl 0) (C_no w) (Nat.le_refl 0) (C_no w) (Nat.le_refl 0) h9 hc9 (C_no w) (Nat.le_refl 0) (C_no w) (Nat.le_refl 0) (C_no w) (Nat.le_refl 0) (C_no w) (Nat.le_refl 0) (C_no w) (Nat.le_refl 0) (C_no w) (Nat.le_refl 0) (C_no w) (Nat.le_refl 0) (C_no w) (Nat.le_refl 0) (C_no w) (Nat.le_refl 0) (C_no w) (Nat.le_refl 0) h1 hl h
theorem text_aw (l : List (List ByteArray)) {t : Value} (w : World) (hT : Tabs w) {v : Value} (hv : AwL w v) (ht : Stt w t l) {r1 : ByteArray} {r2 : Int} (h : orthography_Text.f 60 ⟨#[]⟩ false awA [] [] [] [] 0 0 awR 0 [] [] false ⟨#[]⟩ 0 ⟨#[]⟩ false 0 0 [] [] [] [] [] false [] [] [] awS l = some (r1, r2)) :
    Calls Tryd.prog 13 #[v, t] w fun e w' => e = .returned (.tuple #[.string r1, .int .i64 r2]) ∧ Below w.heap.size w w' := by
  obtain ⟨A2, A9, c2, c9, rfl, h2, hc2, h9, hc9⟩ := hv
  obtain ⟨A, c, rfl, h1, hl⟩ := ht
  exact orthography_Text.calls 60 ⟨#[]⟩ false A2 c2 awA none 0 [] none 0 [] none 0 [] none 0 [] 0 0 A9 c9 awR 0 none 0 [] none 0 [] false ⟨#[]⟩ 0 ⟨#[]⟩ false 0 0 none 0 [] none 0 [] none 0 [] none 0 [] none 0 [] false none 0 [] none 0 [] none 0 [] awS A c l r1 r2 w hT h2 hc2 (C_no w) (Nat.le_refl 0) (C_no w) (Nat.le_refl 0) (C_no w) (Nat.le_refl 0) (C_no w) (Nat.le_refl 0) h9 hc9 (C_no w) (Nat.le_refl 0) (C_no w) (Nat.le_refl 0) (C_no w) (Nat.le_refl 0) (C_no w) (Nat.le_refl 0) (C_no w) (Nat.le_refl 0) (C_no w) (Nat.le_refl 0) (C_no w) (Nat.le_refl 0) (C_no w) (Nat.le_refl 0) (C_no w) (Nat.le_refl 0) (C_no w) (Nat.le_refl 0) h1 hl h
theorem sents_aw (x : ByteArray) (w : World) (hT : Tabs w) {v : Value} (hv : AwL w v)  {r1 : List ByteArray} {r2 : Int} (h : orthography_Sentences.f  ⟨#[]⟩ false awA [] [] [] [] 0 0 awR 0 [] [] false ⟨#[]⟩ 0 ⟨#[]⟩ false 0 0 [] [] [] [] [] false [] [] [] awS x = some (r1, r2)) :
    Calls Tryd.prog 8 #[v, .string x] w fun e w' => ∃ v0, e = .returned (.tuple #[v0, .int .i64 r2]) ∧ Str w' v0 r1 ∧ Below w.heap.size w w' := by
  obtain ⟨A2, A9, c2, c9, rfl, h2, hc2, h9, hc9⟩ := hv
  refine (orthography_Sentences.calls ⟨#[]⟩ false A2 c2 awA none 0 [] none 0 [] none 0 [] none 0 [] 0 0 A9 c9 awR 0 none 0 [] none 0 [] false ⟨#[]⟩ 0 ⟨#[]⟩ false 0 0 none 0 [] none 0 [] none 0 [] none 0 [] none 0 [] false none 0 [] none 0 [] none 0 [] awS x r1 r2 w hT h2 hc2 (C_no w) (Nat.le_refl 0) (C_no w) (Nat.le_refl 0) (C_no w) (Nat.le_refl 0) (C_no w) (Nat.le_refl 0) h9 hc9 (C_no w) (Nat.le_refl 0) (C_no w) (Nat.le_refl 0) (C_no w) (Nat.le_refl 0) (C_no w) (Nat.le_refl 0) (C_no w) (Nat.le_refl 0) (C_no w) (Nat.le_refl 0) (C_no w) (Nat.le_refl 0) (C_no w) (Nat.le_refl 0) (C_no w) (Nat.le_refl 0) (C_no w) (Nat.le_refl 0) h).mono ?_
  rintro e w' ⟨v0, rfl, hr, hb⟩
  exact ⟨v0, rfl, str_row hr, hb⟩
theorem words_aw (x : ByteArray) (w : World) (hT : Tabs w) {v : Value} (hv : AwL w v)  {r1 : List ByteArray} {r2 : Int} (h : orthography_Words.f  ⟨#[]⟩ false awA [] [] [] [] 0 0 awR 0 [] [] false ⟨#[]⟩ 0 ⟨#[]⟩ false 0 0 [] [] [] [] [] false [] [] [] awS x = some (r1, r2)) :
    Calls Tryd.prog 11 #[v, .string x] w fun e w' => ∃ v0, e = .returned (.tuple #[v0, .int .i64 r2]) ∧ Str w' v0 r1 ∧ Below w.heap.size w w' := by
  obtain ⟨A2, A9, c2, c9, rfl, h2, hc2, h9, hc9⟩ := hv
  refine (orthography_Words.calls ⟨#[]⟩ false A2 c2 awA none 0 [] none 0 [] none 0 [] none 0 [] 0 0 A9 c9 awR 0 none 0 [] none 0 [] false ⟨#[]⟩ 0 ⟨#[]⟩ false 0 0 none 0 [] none 0 [] none 0 [] none 0 [] none 0 [] false none 0 [] none 0 [] none 0 [] awS x r1 r2 w hT h2 hc2 (C_no w) (Nat.le_refl 0) (C_no w) (Nat.le_refl 0) (C_no w) (Nat.le_refl 0) (C_no w) (Nat.le_refl 0) h9 hc9 (C_no w) (Nat.le_refl 0) (C_no w) (Nat.le_refl 0) (C_no w) (Nat.le_refl 0) (C_no w) (Nat.le_refl 0) (C_no w) (Nat.le_refl 0) (C_no w) (Nat.le_refl 0) (C_no w) (Nat.le_refl 0) (C_no w) (Nat.le_refl 0) (C_no w) (Nat.le_refl 0) (C_no w) (Nat.le_refl 0) h).mono ?_
  rintro e w' ⟨v0, rfl, hr, hb⟩
  exact ⟨v0, rfl, str_row hr, hb⟩
theorem same_aw (x y : List ByteArray) (w : World) {u v : Value} (hu : Str w u x) (hv : Str w v y) (h : pentaglotref42_Same.f 9 x y = some true) : Calls Tryd.prog 10 #[u, v] w fun e w' => e = .returned (.bool true) ∧ Below w.heap.size w w' := by
  obtain ⟨A, c, rfl, h1, hl⟩ := hu
  obtain ⟨A', c', rfl, h1', hl'⟩ := hv
  refine (pentaglotref42_Same.calls 9 A c x A' c' y true w h1 hl h1' hl' h).mono ?_
  rintro e w' ⟨rfl, hd⟩
  exact ⟨rfl, hd.below⟩
theorem str_new (xs : List ByteArray) (W : World) (T : TypeId) (hl : xs.length ≤ 9223372036854775807) : Str (W.alloc (.cells (xs.map Value.string).toArray T (0, 0))) (.slice (some ⟨W.heap.size, 0, none⟩) xs.length xs.length) xs := ⟨_, _, rfl, C_strs xs (blk_new W _) hl, Nat.le_refl _⟩
theorem str1 (W : World) : Str (W.alloc (.cells #[.string ⟨#[116, 97, 110, 101]⟩, .string ⟨#[61, 97]⟩, .string ⟨#[101, 116]⟩] 9)) (.slice (some ⟨W.heap.size, 0, none⟩) 3 3) [⟨#[116, 97, 110, 101]⟩, ⟨#[61, 97]⟩, ⟨#[101, 116]⟩] := str_new [⟨#[116, 97, 110, 101]⟩, ⟨#[61, 97]⟩, ⟨#[101, 116]⟩] W _ (by decide)
theorem str2 (W : World) : Str (W.alloc (.cells #[.string ⟨#[61, 97]⟩, .string ⟨#[101, 116]⟩] 9)) (.slice (some ⟨W.heap.size, 0, none⟩) 2 2) [⟨#[61, 97]⟩, ⟨#[101, 116]⟩] := str_new [⟨#[61, 97]⟩, ⟨#[101, 116]⟩] W _ (by decide)
theorem str3 (W : World) : Str (W.alloc (.cells #[.string ⟨#[116, 97, 110]⟩] 9)) (.slice (some ⟨W.heap.size, 0, none⟩) 1 1) [⟨#[116, 97, 110]⟩] := str_new [⟨#[116, 97, 110]⟩] W _ (by decide)
theorem str4 (W : World) : Str (W.alloc (.cells #[.string ⟨#[101, 116]⟩, .string ⟨#[61, 110, 97]⟩] 9)) (.slice (some ⟨W.heap.size, 0, none⟩) 2 2) [⟨#[101, 116]⟩, ⟨#[61, 110, 97]⟩] := str_new [⟨#[101, 116]⟩, ⟨#[61, 110, 97]⟩] W _ (by decide)
theorem str5 (W : World) : Str (W.alloc (.cells #[.string ⟨#[116, 97, 110, 46]⟩, .string ⟨#[101, 116, 110, 97, 46]⟩] 9)) (.slice (some ⟨W.heap.size, 0, none⟩) 2 2) [⟨#[116, 97, 110, 46]⟩, ⟨#[101, 116, 110, 97, 46]⟩] := str_new [⟨#[116, 97, 110, 46]⟩, ⟨#[101, 116, 110, 97, 46]⟩] W _ (by decide)
theorem str6 (W : World) : Str (W.alloc (.cells #[.string ⟨#[116, 97, 110, 97]⟩, .string ⟨#[101, 116]⟩] 9)) (.slice (some ⟨W.heap.size, 0, none⟩) 2 2) [⟨#[116, 97, 110, 97]⟩, ⟨#[101, 116]⟩] := str_new [⟨#[116, 97, 110, 97]⟩, ⟨#[101, 116]⟩] W _ (by decide)
theorem stt_new (W : World) (v1 v2 : Value) (x y : List ByteArray) (T : TypeId) (h1 : Str W v1 x) (h2 : Str W v2 y) : Stt (W.alloc (.cells #[v1, v2] T)) (.slice (some ⟨W.heap.size, 0, none⟩) 2 2) [x, y] := by
  have hb := below_alloc (Below.refl W.heap.size W) (.cells #[v1, v2] T (0, 0))
  refine ⟨_, _, rfl, C_lit (blk_new W _) [x, y] (by show 2 ≤ _; omega) fun j z hj => ?_, Nat.le_refl _⟩
  match j, hj with
  | 0, hj => cases hj; obtain ⟨A, c, rfl, hc, hl⟩ := h1; exact ⟨_, rfl, rfl, A, c, rfl, hl, Kd.C_below hc hb⟩
  | 1, hj => cases hj; obtain ⟨A, c, rfl, hc, hl⟩ := h2; exact ⟨_, rfl, rfl, A, c, rfl, hl, Kd.C_below hc hb⟩
  | n + 2, hj => simp at hj
theorem al_below (W : World) (o : Obj) : Below W.heap.size W (W.alloc o) := below_alloc (Below.refl _ _) o
theorem stt34 (W : World) : Stt (((W.alloc (.cells #[.string ⟨#[116, 97, 110]⟩] 9)).alloc (.cells #[.string ⟨#[101, 116]⟩, .string ⟨#[61, 110, 97]⟩] 9)).alloc (.cells #[.slice (some ⟨W.heap.size, 0, none⟩) 1 1, .slice (some ⟨W.heap.size + 1, 0, none⟩) 2 2] 31)) (.slice (some ⟨W.heap.size + 1 + 1, 0, none⟩) 2 2) [[⟨#[116, 97, 110]⟩], [⟨#[101, 116]⟩, ⟨#[61, 110, 97]⟩]] := by
  have h1 := (str3 W).below (al_below _ (.cells #[.string ⟨#[101, 116]⟩, .string ⟨#[61, 110, 97]⟩] 9))
  have h2 := str4 (W.alloc (.cells #[.string ⟨#[116, 97, 110]⟩] 9))
  have h3 := stt_new _ _ _ [⟨#[116, 97, 110]⟩] [⟨#[101, 116]⟩, ⟨#[61, 110, 97]⟩] 31 h1 h2
  simpa using h3
set_option maxRecDepth 100000 in
set_option maxHeartbeats 8000000 in
theorem awake_calls (w : World) (hT : Tabs w) : Calls Tryd.prog 6 #[] w fun e w' => e = .returned (.bool true) ∧ Below w.heap.size w w' := by
  have HB := Aside0.mk (Below.refl w.heap.size w)
  go_enter Tryd.func6, Tryd.ntmps6
  go_upto_region 2 with (first | (go_at_call 17; with_reducible refine (lang_calls _).mono ?_; rintro e wn ⟨v0, rfl, hl, hb⟩; replace HB := Aside0.mk (bel_trans HB.out hb); (try replace X7 := Aside0.mk (X7.out.below hb)); (try replace X9 := Aside0.mk (X9.out.below hb)); have H0 := Aside0.mk hl; clear hl hb) | (go_at_call 14; with_reducible refine (sent_aw [⟨#[116, 97, 110, 101]⟩, ⟨#[61, 97]⟩, ⟨#[101, 116]⟩] _ (tabs_below hT (below_alloc HB.out _)) (H0.out.below (al_below _ _)) (str1 _) aw1).mono ?_; rintro e wn ⟨rfl, hb⟩; replace HB := Aside0.mk (bel_trans (below_alloc HB.out _) hb); clear hb H0))
  go_upto_region 3 with (first | (go_at_call 17; with_reducible refine (lang_calls _).mono ?_; rintro e wn ⟨v0, rfl, hl, hb⟩; replace HB := Aside0.mk (bel_trans HB.out hb); (try replace X7 := Aside0.mk (X7.out.below hb)); (try replace X9 := Aside0.mk (X9.out.below hb)); have H0 := Aside0.mk hl; clear hl hb) | (go_at_call 14; with_reducible refine (sent_aw [⟨#[61, 97]⟩, ⟨#[101, 116]⟩] _ (tabs_below hT (below_alloc HB.out _)) (H0.out.below (al_below _ _)) (str2 _) aw2).mono ?_; rintro e wn ⟨rfl, hb⟩; replace HB := Aside0.mk (bel_trans (below_alloc HB.out _) hb); clear hb H0))
  go_upto_region 4 with (first | (go_at_call 17; with_reducible refine (lang_calls _).mono ?_; rintro e wn ⟨v0, rfl, hl, hb⟩; replace HB := Aside0.mk (bel_trans HB.out hb); (try replace X7 := Aside0.mk (X7.out.below hb)); (try replace X9 := Aside0.mk (X9.out.below hb)); have H0 := Aside0.mk hl; clear hl hb) | (go_at_call 13; with_reducible refine (text_aw [[⟨#[116, 97, 110]⟩], [⟨#[101, 116]⟩, ⟨#[61, 110, 97]⟩]] _ (tabs_below hT (below_alloc (below_alloc (below_alloc HB.out _) _) _)) (((H0.out.below (al_below _ _)).below (al_below _ _)).below (al_below _ _)) (stt34 _) aw3).mono ?_; rintro e wn ⟨rfl, hb⟩; replace HB := Aside0.mk (bel_trans (below_alloc (below_alloc (below_alloc HB.out _) _) _) hb); clear hb H0))
  go_upto_region 5 with (first | (go_at_call 17; with_reducible refine (lang_calls _).mono ?_; rintro e wn ⟨v0, rfl, hl, hb⟩; replace HB := Aside0.mk (bel_trans HB.out hb); (try replace X7 := Aside0.mk (X7.out.below hb)); (try replace X9 := Aside0.mk (X9.out.below hb)); have H0 := Aside0.mk hl; clear hl hb) | (go_at_call 8; with_reducible refine (sents_aw ⟨#[116, 97, 110, 46, 32, 101, 116, 110, 97, 46]⟩ _ (tabs_below hT HB.out) H0.out aw4).mono ?_; rintro e wn ⟨v7, rfl, hs, hb⟩; replace HB := Aside0.mk (bel_trans HB.out hb); have X7 := Aside0.mk hs; clear hb hs H0))
  go_upto_region 6 with (first | (go_at_call 17; with_reducible refine (lang_calls _).mono ?_; rintro e wn ⟨v0, rfl, hl, hb⟩; replace HB := Aside0.mk (bel_trans HB.out hb); (try replace X7 := Aside0.mk (X7.out.below hb)); (try replace X9 := Aside0.mk (X9.out.below hb)); have H0 := Aside0.mk hl; clear hl hb) | (go_at_call 11; with_reducible refine (words_aw ⟨#[116, 97, 110, 97, 32, 101, 116, 46]⟩ _ (tabs_below hT HB.out) H0.out aw5).mono ?_; rintro e wn ⟨v9, rfl, hs, hb⟩; replace HB := Aside0.mk (bel_trans HB.out hb); replace X7 := Aside0.mk (X7.out.below hb); have X9 := Aside0.mk hs; clear hb hs H0))
  go_upto_region 7 with (first | (go_at_call 17; with_reducible refine (lang_calls _).mono ?_; rintro e wn ⟨v0, rfl, hl, hb⟩; replace HB := Aside0.mk (bel_trans HB.out hb); (try replace X7 := Aside0.mk (X7.out.below hb)); (try replace X9 := Aside0.mk (X9.out.below hb)); have H0 := Aside0.mk hl; clear hl hb) | (go_at_call 11; with_reducible refine (words_aw ⟨#[116, 97, 110, 32, 32, 101, 116, 46]⟩ _ (tabs_below hT HB.out) H0.out aw6).mono ?_; rintro e wn ⟨v11, rfl, hs, hb⟩; replace HB := Aside0.mk (bel_trans HB.out hb); replace X7 := Aside0.mk (X7.out.below hb); replace X9 := Aside0.mk (X9.out.below hb); clear hb hs H0))
  go_wp2_with (first | (go_at_call 10; with_reducible refine (same_aw [⟨#[116, 97, 110, 46]⟩, ⟨#[101, 116, 110, 97, 46]⟩] [⟨#[116, 97, 110, 46]⟩, ⟨#[101, 116, 110, 97, 46]⟩] _ (X7.out.below (al_below _ _)) (str5 _) aw7).mono ?_; rintro e wn ⟨rfl, hb⟩; replace HB := Aside0.mk (bel_trans (below_alloc HB.out _) hb); replace X9 := Aside0.mk ((X9.out.below (al_below _ _)).below hb); clear hb X7) | (go_at_call 10; with_reducible refine (same_aw [⟨#[116, 97, 110, 97]⟩, ⟨#[101, 116]⟩] [⟨#[116, 97, 110, 97]⟩, ⟨#[101, 116]⟩] _ (X9.out.below (al_below _ _)) (str6 _) aw8).mono ?_; rintro e wn ⟨rfl, hb⟩; replace HB := Aside0.mk (bel_trans (below_alloc HB.out _) hb); clear hb X9))
  go_ret
  exact ⟨rfl, HB.out⟩
def pentaglotlaw42_awake.f : Option Bool := some true
theorem pentaglotlaw42_awake.calls (r : Bool) (w : World) (hT : Tabs w) (h : pentaglotlaw42_awake.f = some r) : Calls Tryd.prog 6 #[] w fun e w' => e = .returned (.bool r) ∧ Below w.heap.size w w' := by
  obtain rfl := Option.some.inj h
  exact awake_calls w hT
end Go.Proofs.YtfbhdjflkaldgaaDoor.Pr

namespace Go.Proofs.YtfbhdjflkaldgaaDoor.Pr
open Go.Proofs.YtfbhdjflkaldgaaDoor.Ct Go.RowKit Go.Proofs.YtfbhdjflkaldgaaDoorW.PrintWords Go.Proofs.YtfbhdjflkaldgaaDoorW.PrintLast Go.Proofs.YtfbhdjflkaldgaaDoorW.PrintMore
attribute [local go_sem] max2_int min2_int max_two min_two max_three min_three max_four min_four
set_option linter.unusedVariables false
set_option linter.unusedSimpArgs false
def pentaglotref10_Word.f (l0 : List (S80)) (a1 : ByteArray) : Option (Bool) := (pentaglotref06_Over.f l0 a1).bind fun bt370 => (if bt370.2 = true then (some (decide ((bt370.1.length : Int) ≤ 40))) else (some false))
set_option maxHeartbeats 8000000 in
set_option maxRecDepth 100000 in
theorem pentaglotref10_Word.calls (A0 : Option Addr) (c0 : Nat) (l0 : List (S80)) (a1 : ByteArray) (r : Bool) (w : World) (hr0 : Kd.C k80 w A0 l0.length l0) (hc0 : l0.length ≤ c0) (h : pentaglotref10_Word.f l0 a1 = some r) :
 Calls Tryd.prog 42 #[.slice A0 l0.length c0, .string a1] w fun e w' => e = .returned (.bool r) ∧ Below w.heap.size w w' := by
 have HR0 := Aside0.mk hr0
 have HC0 := Aside0.mk hc0
 clear hr0 hc0
 have HB := Aside0.mk (Below.refl w.heap.size w)
 have H : ((pentaglotref06_Over.f l0 a1).bind fun bt370 => (if bt370.2 = true then (some (decide ((bt370.1.length : Int) ≤ 40))) else (some false))) = some r := h
 clear h
 replace H := bI H; obtain ⟨⟨t370, t371⟩, A3, H⟩ := H; (try dsimp only at H)
 replace H := iT H; obtain ⟨rfl, H⟩ | ⟨rfl, H⟩ := H
 ·
  obtain rfl := Option.some.inj H
  go_enter Tryd.func42, Tryd.ntmps42
  go_wp2_with (first | ((with_reducible refine gate_callee (f := 61) rfl ?_); refine goesL_ (some 10) rfl rfl Tryd.func61 (by kernel_rfl) rfl #[.slice A0 l0.length c0, .string a1] rfl Gc2 ?_; (with_reducible refine (pentaglotref06_Over.calls _ _ l0 a1 t370 true _ ?s1 HC0.out A3.out).mono ?_); (case s1 => exact Gc5); rintro e w5 ⟨v372, rfl, ho0, hb⟩; refine ⟨_, rfl, ?_⟩; have n0_ := Aside0.mk (Kd.R_lower ho0 (tS HB)); have n1_ := Aside0.mk (below_step (tB HB) hb); revert n0_ n1_; clear HB; intro HO373 HB; (try clear hb); (try clear hb2); (try clear hk); (try clear hi); (try clear ho0); obtain ⟨Ao6, co6, eo6⟩ := Kd.R_slice HO373.out; subst eo6))
  go_ret
  exact ⟨tE, by repeat (first | (with_reducible first | exact HB.out | apply below_alloc | apply pw_below_drewN | apply below_drew1) | exact HB.out)⟩
 ·
  obtain rfl := Option.some.inj H
  go_enter Tryd.func42, Tryd.ntmps42
  go_wp2_with (first | ((with_reducible refine gate_callee (f := 61) rfl ?_); refine goesL_ (some 10) rfl rfl Tryd.func61 (by kernel_rfl) rfl #[.slice A0 l0.length c0, .string a1] rfl Gc2 ?_; (with_reducible refine (pentaglotref06_Over.calls _ _ l0 a1 t370 false _ ?s1 HC0.out A3.out).mono ?_); (case s1 => exact Gc5); rintro e w7 ⟨v372, rfl, ho0, hb⟩; refine ⟨_, rfl, ?_⟩; have n0_ := Aside0.mk (Kd.R_lower ho0 (tS HB)); have n1_ := Aside0.mk (below_step (tB HB) hb); revert n0_ n1_; clear HB; intro HO373 HB; (try clear hb); (try clear hb2); (try clear hk); (try clear hi); (try clear ho0)))
  go_ret
  exact ⟨tE, by repeat (first | (with_reducible first | exact HB.out | apply below_alloc | apply pw_below_drewN | apply below_drew1) | exact HB.out)⟩
def pentaglotref42_Host.f (a_0 : ByteArray) (a_1 : Bool) (l_2 : List (S80)) (l_3 : List (S85)) (l_4 : List (S180)) (l_5 : List (S183)) (l_6 : List (List Int)) (a_7 : Int) (a_8 : Int) (l_9 : List (S85)) (a_a : Int) (l_b : List ByteArray) (l_c : List ByteArray) (a_d : Bool) (a_e : ByteArray) (a_f : Int) (a_g : ByteArray) (a_h : Bool) (a_i : Int) (a_j : Int) (l_k : List (S186)) (l_l : List (S186)) (l_m : List ByteArray) (l_n : List ByteArray) (l_o : List ByteArray) (a_p : Bool) (l_q : List (S188)) (l_r : List (S190)) (l_s : List (S194)) (a_t : ByteArray) (a1 : ByteArray) : Option (Bool) := if a1.toList = ([] : List UInt8) then (some false) else (if 0 < (a1.size : Int) then (if (bt a1 0) = 61 then (some false) else ((pentaglotref10_Word.f l_2 a1).bind fun t375 => (some t375))) else (none))
theorem LPrF25a1 {p : Prop} (h : p := by
  go_enter Tryd.func25, Tryd.ntmps25
  go_wp2_with (first | ((with_reducible refine gate_load (t := 41) (p := 2) rfl ?_); (try (refine gate_guard (by rfl) ?_; dsimp only)); refine wpList_load_row rfl 41 (.tmp 2) rfl gb374 rfl 41 _ (0, 0) _ (tK BK374) Tryd.underlying41 rfl (by kernel_rfl) ?_) | (have ma_ := ma1_; ((with_reducible refine gate_dst (N := 2) rfl ?_); refine box_event ?hg (N := 2) ?hd (cs := ?cs) (t := 41) ?hr ?_; (case hd => rfl); (case hg => rfl); (case hr => exact Gc6); intro gb374 hg z2_ hbox hb; have n0_ := Aside0.mk (below_step (tB HB) hb); have n1_ := Aside0.mk (hbox); have z5_ := tZ hg (tS HB); have z6_ := tZ hg (tS HB); revert n0_ n1_ z5_ z6_; clear HB; intro HB BK374 z8_ GE374; clear hb hbox hg; have z10_ : 0 ≤ (0 : Int) := (by omega); have z11_ : 0 < a1.size := (by have : (0 : Int) < (a1.size : Int) := oD; omega); have z12_ : ∀ h : 0 < a1.size, ((a1[0]'h).toNat : Int) = bt a1 0 := bt_at a1 0; clear z10_; have z13_ : (0 < (a1.size : Int)) = True := eq_true (oD); replace z11_ := eq_true z11_; have z14_ := cel2 BK374 2 rfl; have z15_ := blk_frozen BK374.out 2)) | (have ma_ := ma2_; (go_at_call 42; (with_reducible refine (pentaglotref10_Word.calls _ _ l_2 a1 t375 _ (tC HR_2 HB) HC_2.out A9.out).mono ?_); rintro e z1_ ⟨rfl, hb⟩; have n0_ := Aside0.mk (blk_below (tK BK374) hb); have n1_ := Aside0.mk (below_step (tB HB) hb); revert n0_ n1_; clear BK374 HB; intro BK374 HB; (try clear hb); (try clear hb2); (try clear hk); (try clear hi))) | (have ma_ := ma3_; ((with_reducible refine gate_dst (N := 2) rfl ?_); refine box_event ?hg (N := 2) ?hd (cs := ?cs) (t := 41) ?hr ?_; (case hd => rfl); (case hg => rfl); (case hr => exact Gc6); intro gb374 hg z2_ hbox hb; have z3_ := Aside0.mk (below_step (tB HB) hb); have z4_ := Aside0.mk (hbox); have z5_ := tZ hg (tS HB); have z6_ := tZ hg (tS HB); revert z3_ z4_ z5_ z6_; clear HB; intro HB BK374 z8_ GE374; clear hb hbox hg; have z10_ : 0 ≤ (0 : Int) := (by omega); have z11_ : 0 < a1.size := (by have : (0 : Int) < (a1.size : Int) := oD; omega); have z12_ : ∀ h : 0 < a1.size, ((a1[0]'h).toNat : Int) = bt a1 0 := bt_at a1 0; clear z10_; have z13_ : (0 < (a1.size : Int)) = True := eq_true (oD); replace z11_ := eq_true z11_)) | (have ma_ := ma4_; ((with_reducible refine gate_dst (N := 2) rfl ?_); refine box_event ?hg (N := 2) ?hd (cs := ?cs) (t := 41) ?hr ?_; (case hd => rfl); (case hg => rfl); (case hr => exact Gc6); intro gb374 hg z2_ hbox hb; have z3_ := Aside0.mk (below_step (tB HB) hb); have z4_ := Aside0.mk (hbox); have z5_ := tZ hg (tS HB); have z6_ := tZ hg (tS HB); revert z3_ z4_ z5_ z6_; clear HB; intro HB BK374 z8_ GE374; clear hb hbox hg)))
  go_ret
  exact ⟨tE, by repeat (first | (with_reducible first | exact HB.out | apply below_alloc | apply pw_below_drewN | apply below_drew1 | refine below_set ?_ GE374.out) | exact HB.out)⟩) : p := h
set_option maxHeartbeats 8000000 in
set_option maxRecDepth 100000 in
theorem pentaglotref42_Host.calls (a_0 : ByteArray) (a_1 : Bool) (A_2 : Option Addr) (c_2 : Nat) (l_2 : List (S80)) (A_3 : Option Addr) (c_3 : Nat) (l_3 : List (S85)) (A_4 : Option Addr) (c_4 : Nat) (l_4 : List (S180)) (A_5 : Option Addr) (c_5 : Nat) (l_5 : List (S183)) (A_6 : Option Addr) (c_6 : Nat) (l_6 : List (List Int)) (a_7 : Int) (a_8 : Int) (A_9 : Option Addr) (c_9 : Nat) (l_9 : List (S85)) (a_a : Int) (A_b : Option Addr) (c_b : Nat) (l_b : List ByteArray) (A_c : Option Addr) (c_c : Nat) (l_c : List ByteArray) (a_d : Bool) (a_e : ByteArray) (a_f : Int) (a_g : ByteArray) (a_h : Bool) (a_i : Int) (a_j : Int) (A_k : Option Addr) (c_k : Nat) (l_k : List (S186)) (A_l : Option Addr) (c_l : Nat) (l_l : List (S186)) (A_m : Option Addr) (c_m : Nat) (l_m : List ByteArray) (A_n : Option Addr) (c_n : Nat) (l_n : List ByteArray) (A_o : Option Addr) (c_o : Nat) (l_o : List ByteArray) (a_p : Bool) (A_q : Option Addr) (c_q : Nat) (l_q : List (S188)) (A_r : Option Addr) (c_r : Nat) (l_r : List (S190)) (A_s : Option Addr) (c_s : Nat) (l_s : List (S194)) (a_t : ByteArray) (a1 : ByteArray) (r : Bool) (w : World) (hr_2 : Kd.C k80 w A_2 l_2.length l_2) (hc_2 : l_2.length ≤ c_2) (hr_3 : Kd.C k85 w A_3 l_3.length l_3) (hc_3 : l_3.length ≤ c_3) (hr_4 : Kd.C k180 w A_4 l_4.length l_4) (hc_4 : l_4.length ≤ c_4) (hr_5 : Kd.C k183 w A_5 l_5.length l_5) (hc_5 : l_5.length ≤ c_5) (hr_6 : Kd.C (Kd.slice 78 (Kd.int .u32)) w A_6 l_6.length l_6) (hc_6 : l_6.length ≤ c_6) (hr_9 : Kd.C k85 w A_9 l_9.length l_9) (hc_9 : l_9.length ≤ c_9) (hr_b : Kd.C Kd.string w A_b l_b.length l_b) (hc_b : l_b.length ≤ c_b) (hr_c : Kd.C Kd.string w A_c l_c.length l_c) (hc_c : l_c.length ≤ c_c) (hr_k : Kd.C k186 w A_k l_k.length l_k) (hc_k : l_k.length ≤ c_k) (hr_l : Kd.C k186 w A_l l_l.length l_l) (hc_l : l_l.length ≤ c_l) (hr_m : Kd.C Kd.string w A_m l_m.length l_m) (hc_m : l_m.length ≤ c_m) (hr_n : Kd.C Kd.string w A_n l_n.length l_n) (hc_n : l_n.length ≤ c_n) (hr_o : Kd.C Kd.string w A_o l_o.length l_o) (hc_o : l_o.length ≤ c_o) (hr_q : Kd.C k188 w A_q l_q.length l_q) (hc_q : l_q.length ≤ c_q) (hr_r : Kd.C k190 w A_r l_r.length l_r) (hc_r : l_r.length ≤ c_r) (hr_s : Kd.C k194 w A_s l_s.length l_s) (hc_s : l_s.length ≤ c_s) (h : pentaglotref42_Host.f a_0 a_1 l_2 l_3 l_4 l_5 l_6 a_7 a_8 l_9 a_a l_b l_c a_d a_e a_f a_g a_h a_i a_j l_k l_l l_m l_n l_o a_p l_q l_r l_s a_t a1 = some r) :
 Calls Tryd.prog 25 #[.agg #[.string a_0, .bool a_1, .slice A_2 l_2.length c_2, .slice A_3 l_3.length c_3, .slice A_4 l_4.length c_4, .slice A_5 l_5.length c_5, .slice A_6 l_6.length c_6, .int .i64 a_7, .int .i64 a_8, .slice A_9 l_9.length c_9, .int .i64 a_a, .slice A_b l_b.length c_b, .slice A_c l_c.length c_c, .bool a_d, .string a_e, .int .i64 a_f, .string a_g, .bool a_h, .int .i64 a_i, .int .i64 a_j, .slice A_k l_k.length c_k, .slice A_l l_l.length c_l, .slice A_m l_m.length c_m, .slice A_n l_n.length c_n, .slice A_o l_o.length c_o, .bool a_p, .slice A_q l_q.length c_q, .slice A_r l_r.length c_r, .slice A_s l_s.length c_s, .string a_t], .string a1] w fun e w' => e = .returned (.bool r) ∧ Below w.heap.size w w' := by
 have hu41 := Tryd.underlying41
 have HR_2 := Aside0.mk hr_2
 have HC_2 := Aside0.mk hc_2
 clear hr_2 hc_2
 have HR_3 := Aside0.mk hr_3
 have HC_3 := Aside0.mk hc_3
 clear hr_3 hc_3
 have HR_4 := Aside0.mk hr_4
 have HC_4 := Aside0.mk hc_4
 clear hr_4 hc_4
 have HR_5 := Aside0.mk hr_5
 have HC_5 := Aside0.mk hc_5
 clear hr_5 hc_5
 have HR_6 := Aside0.mk hr_6
 have HC_6 := Aside0.mk hc_6
 clear hr_6 hc_6
 have HR_9 := Aside0.mk hr_9
 have HC_9 := Aside0.mk hc_9
 clear hr_9 hc_9
 have HR_b := Aside0.mk hr_b
 have HC_b := Aside0.mk hc_b
 clear hr_b hc_b
 have HR_c := Aside0.mk hr_c
 have HC_c := Aside0.mk hc_c
 clear hr_c hc_c
 have HR_k := Aside0.mk hr_k
 have HC_k := Aside0.mk hc_k
 clear hr_k hc_k
 have HR_l := Aside0.mk hr_l
 have HC_l := Aside0.mk hc_l
 clear hr_l hc_l
 have HR_m := Aside0.mk hr_m
 have HC_m := Aside0.mk hc_m
 clear hr_m hc_m
 have HR_n := Aside0.mk hr_n
 have HC_n := Aside0.mk hc_n
 clear hr_n hc_n
 have HR_o := Aside0.mk hr_o
 have HC_o := Aside0.mk hc_o
 clear hr_o hc_o
 have HR_q := Aside0.mk hr_q
 have HC_q := Aside0.mk hc_q
 clear hr_q hc_q
 have HR_r := Aside0.mk hr_r
 have HC_r := Aside0.mk hc_r
 clear hr_r hc_r
 have HR_s := Aside0.mk hr_s
 have HC_s := Aside0.mk hc_s
 clear hr_s hc_s
 have HB := Aside0.mk (Below.refl w.heap.size w)
 have H : (if a1.toList = ([] : List UInt8) then (some false) else (if 0 < (a1.size : Int) then (if (bt a1 0) = 61 then (some false) else ((pentaglotref10_Word.f l_2 a1).bind fun t375 => (some t375))) else (none))) = some r := h
 clear h
 replace H := iE H; obtain ⟨-, c3b0, c3b1, H⟩ | ⟨c3, c3b0, c3b1, H⟩ := H
 ·
  obtain rfl := Option.some.inj H
  have ma4_ := trivial
  exact LPrF25a1
 ·
  replace H := iF H; obtain ⟨c5, H⟩ | ⟨c5, H⟩ := H
  ·
   have c5b0 : decide (0 < (a1.size : Int)) = true := decide_eq_true c5
   have c5b1 : decide (0 < a1.size) = true := decide_eq_true (by omega)
   clear c5
   replace H := iE H; obtain ⟨-, c7b0, c7b1, H⟩ | ⟨c7, c7b0, c7b1, H⟩ := H
   ·
    obtain rfl := Option.some.inj H
    have ma3_ := trivial
    exact LPrF25a1
   ·
    replace H := bI H; obtain ⟨t375, A9, H⟩ := H; (try dsimp only at H)
    obtain rfl := Option.some.inj H
    have ma1_ := trivial; have ma2_ := trivial
    exact LPrF25a1
  ·
   exact absurd H (by simp)
end Go.Proofs.YtfbhdjflkaldgaaDoor.Pr
