/- awake of chapter 33: true, in every world. -/
import Derived.Test.YtfbfopfhfeijdaaTempB
import Derived.Test.YtfbfopfhfeijdaaMg12
import Derived.Test.YtfbfopfhfeijdaaMg13
import Derived.KernelRfl
namespace Go.Proofs.Ytfbfopfhfeijdaa.Pr
open Go.RowKit Go.Proofs.YtfbfopfhfeijdaaW.PrintWords Go.Proofs.YtfbfopfhfeijdaaW.PrintLast Go.Proofs.YtfbfopfhfeijdaaW.PrintMore
set_option linter.unusedVariables false
set_option linter.unusedSimpArgs false

def awArgs : List (List S37) := [[⟨⟨#[99, 97, 115, 101]⟩, ⟨#[110, 111, 109]⟩⟩, ⟨⟨#[110, 117, 109, 98, 101, 114]⟩, ⟨#[112, 108]⟩⟩], [⟨⟨#[103, 101, 110, 100, 101, 114]⟩, ⟨#[102]⟩⟩]]
def awWhen : List (List S37) := [[⟨⟨#[110, 117, 109, 98, 101, 114]⟩, ⟨#[112, 108]⟩⟩], []]
def awRes : List S37 := [⟨⟨#[110, 117, 109, 98, 101, 114]⟩, ⟨#[36, 48, 46, 110, 117, 109, 98, 101, 114]⟩⟩]
theorem aw1 : concrete_Template.f 4 ⟨#[118, 101, 114, 98, 45, 36, 48, 46, 110, 117, 109, 98, 101, 114]⟩ awArgs = some (⟨#[118, 101, 114, 98, 45, 112, 108]⟩, 0) := by kernel_rfl
theorem aw2 : concrete_Template.f 4 ⟨#[36, 48, 110, 117, 109, 98, 101, 114]⟩ awArgs = some (⟨#[]⟩, 3) := by kernel_rfl
theorem aw3 : concrete_Result.f 9 ⟨#[]⟩ awWhen awRes [] awArgs = some ([⟨⟨#[110, 117, 109, 98, 101, 114]⟩, ⟨#[112, 108]⟩⟩], 0) := by kernel_rfl
theorem aw4 : concrete_Applies.f 9 ⟨#[]⟩ awWhen awRes [] awArgs = some true := by kernel_rfl

/-- A row that a literal has laid. -/
theorem C_lit {α : Type} {d : Kd α} {W : World} {g : Nat} {T : TypeId} {fr : Nat × Nat} {cells : Array Value} (hb : W.heap[g]? = some (.cells cells T fr)) (xs : List α) (hl : xs.length ≤ 9223372036854775807)
    (hk : ∀ j x, xs[j]? = some x → ∃ c, (cells.toList.drop (j * d.sz)).take d.sz = c ∧ c.length = d.sz ∧ d.K W x c) : d.C W (some ⟨g, 0, none⟩) xs.length xs := by
  refine ⟨rfl, hl, fun _ => ⟨_, rfl, fun j p hj => ?_⟩⟩
  obtain ⟨c, hc, hs, hK⟩ := hk j p hj
  refine ⟨c, hs, hK, fun i u hu => ?_⟩
  rw [add_plain, cell_of_row _ _ _ _ _ _ hb]
  subst hc
  rw [List.getElem?_take] at hu
  split at hu
  · rw [List.getElem?_drop] at hu
    simpa using hu
  · cases hu

theorem aw_reads (W : World) (g1 g2 g3 : Nat) (h1 : W.heap[g1]? = some (.cells #[.string ⟨#[99, 97, 115, 101]⟩, .string ⟨#[110, 111, 109]⟩, .string ⟨#[110, 117, 109, 98, 101, 114]⟩, .string ⟨#[112, 108]⟩] 37 (0, 0)))
    (h2 : W.heap[g2]? = some (.cells #[.string ⟨#[103, 101, 110, 100, 101, 114]⟩, .string ⟨#[102]⟩] 37 (0, 0))) (h3 : W.heap[g3]? = some (.cells #[.slice (some ⟨g1, 0, none⟩) 2 2, .slice (some ⟨g2, 0, none⟩) 1 1] 30 (0, 0))) :
    Kd.C (Kd.slice 37 k37) W (some ⟨g3, 0, none⟩) awArgs.length awArgs := by
  refine C_lit h3 awArgs (by decide) fun j x hj => ?_
  match j, hj with
  | 0, hj =>
    cases hj
    refine ⟨_, rfl, rfl, _, 2, rfl, Nat.le_refl _, C_lit h1 _ (by decide) fun j x hj => ?_⟩
    match j, hj with
    | 0, hj => cases hj; exact ⟨_, rfl, rfl, k37_mk _ _⟩
    | 1, hj => cases hj; exact ⟨_, rfl, rfl, k37_mk _ _⟩
    | n + 2, hj => simp at hj
  | 1, hj =>
    cases hj
    refine ⟨_, rfl, rfl, _, 1, rfl, Nat.le_refl _, C_lit h2 _ (by decide) fun j x hj => ?_⟩
    match j, hj with
    | 0, hj => cases hj; exact ⟨_, rfl, rfl, k37_mk _ _⟩
    | n + 1, hj => simp at hj
  | n + 2, hj => simp [awArgs] at hj
theorem aw_reads2 (W : World) (g1 g2 g3 : Nat) (h1 : W.heap[g1]? = some (.cells #[.string ⟨#[110, 117, 109, 98, 101, 114]⟩, .string ⟨#[112, 108]⟩] 37 (0, 0)))
    (h3 : W.heap[g3]? = some (.cells #[.slice (some ⟨g1, 0, none⟩) 1 1, .slice (some ⟨g2, 0, none⟩) 0 0] 30 (0, 0))) :
    Kd.C (Kd.slice 37 k37) W (some ⟨g3, 0, none⟩) awWhen.length awWhen := by
  refine C_lit h3 awWhen (by decide) fun j x hj => ?_
  match j, hj with
  | 0, hj =>
    cases hj
    refine ⟨_, rfl, rfl, _, 1, rfl, Nat.le_refl _, C_lit h1 _ (by decide) fun j x hj => ?_⟩
    match j, hj with
    | 0, hj => cases hj; exact ⟨_, rfl, rfl, k37_mk _ _⟩
    | n + 1, hj => simp at hj
  | 1, hj => cases hj; exact ⟨_, rfl, rfl, _, 0, rfl, Nat.le_refl _, rfl, by decide, fun h => absurd h (by decide)⟩
  | n + 2, hj => simp [awWhen] at hj
theorem aw_reads3 (W : World) (g1 : Nat) (h1 : W.heap[g1]? = some (.cells #[.string ⟨#[110, 117, 109, 98, 101, 114]⟩, .string ⟨#[36, 48, 46, 110, 117, 109, 98, 101, 114]⟩] 37 (0, 0))) :
    Kd.C k37 W (some ⟨g1, 0, none⟩) awRes.length awRes := by
  refine C_lit h1 _ (by decide) fun j x hj => ?_
  match j, hj with
  | 0, hj => cases hj; exact ⟨_, rfl, rfl, k37_mk _ _⟩
  | n + 1, hj => simp [awRes] at hj

theorem sz_alloc (w : World) (o : Obj) : (w.alloc o).heap.size = w.heap.size + 1 := by simp

set_option maxHeartbeats 2000000 in
set_option maxRecDepth 100000 in
theorem awake_calls (w : World) : Calls Try.prog 12 #[] w fun e w' => e = .returned (.bool true) ∧ Below w.heap.size w w' := by
  go_enter Try.func12, Try.ntmps12
  go_wp2_with fail
  have h1 := blk_alloc (blk_alloc (blk_new w (.cells #[.string ⟨#[99, 97, 115, 101]⟩, .string ⟨#[110, 111, 109]⟩, .string ⟨#[110, 117, 109, 98, 101, 114]⟩, .string ⟨#[112, 108]⟩] 37)) (.cells #[.string ⟨#[103, 101, 110, 100, 101, 114]⟩, .string ⟨#[102]⟩] 37)) (.cells #[.slice (some ⟨w.heap.size, 0, none⟩) 2 2, .slice (some ⟨w.heap.size + 1, 0, none⟩) 1 1] 30)
  have h2 := blk_alloc (blk_new (w.alloc (.cells #[.string ⟨#[99, 97, 115, 101]⟩, .string ⟨#[110, 111, 109]⟩, .string ⟨#[110, 117, 109, 98, 101, 114]⟩, .string ⟨#[112, 108]⟩] 37)) (.cells #[.string ⟨#[103, 101, 110, 100, 101, 114]⟩, .string ⟨#[102]⟩] 37)) (.cells #[.slice (some ⟨w.heap.size, 0, none⟩) 2 2, .slice (some ⟨w.heap.size + 1, 0, none⟩) 1 1] 30)
  have h3 := blk_new ((w.alloc (.cells #[.string ⟨#[99, 97, 115, 101]⟩, .string ⟨#[110, 111, 109]⟩, .string ⟨#[110, 117, 109, 98, 101, 114]⟩, .string ⟨#[112, 108]⟩] 37)).alloc (.cells #[.string ⟨#[103, 101, 110, 100, 101, 114]⟩, .string ⟨#[102]⟩] 37)) (.cells #[.slice (some ⟨w.heap.size, 0, none⟩) 2 2, .slice (some ⟨w.heap.size + 1, 0, none⟩) 1 1] 30)
  simp only [sz_alloc] at h2 h3
  have HA := Aside0.mk (aw_reads _ _ _ _ h1 h2 h3)
  have HB := Aside0.mk ((((Below.refl w.heap.size w).alloc (Nat.le_refl _) (.cells #[.string ⟨#[99, 97, 115, 101]⟩, .string ⟨#[110, 111, 109]⟩, .string ⟨#[110, 117, 109, 98, 101, 114]⟩, .string ⟨#[112, 108]⟩] 37)).alloc (by simp) (.cells #[.string ⟨#[103, 101, 110, 100, 101, 114]⟩, .string ⟨#[102]⟩] 37)).alloc (by simp; omega) (.cells #[.slice (some ⟨w.heap.size, 0, none⟩) 2 2, .slice (some ⟨w.heap.size + 1, 0, none⟩) 1 1] 30))
  clear h1 h2 h3
  refine (concrete_Template.calls 4 _ _ 2 awArgs _ _ _ HA.out (Nat.le_refl _) aw1).mono ?_
  rintro e w1 ⟨rfl, hb⟩
  have HA1 := Aside0.mk (Kd.C_below HA.out hb)
  have HB1 := Aside0.mk (below_then HB.out HB.out.size hb)
  clear hb HA HB
  go_wp2_with fail
  refine (concrete_Template.calls 4 _ _ 2 awArgs _ _ _ HA1.out (Nat.le_refl _) aw2).mono ?_
  rintro e w2 ⟨rfl, hb⟩
  have HA2 := Aside0.mk (Kd.C_below HA1.out hb)
  have HB2 := Aside0.mk (below_then HB1.out HB1.out.size hb)
  clear hb HA1 HB1
  go_wp2_with fail
  have g1 := blk_alloc (blk_alloc (blk_alloc (blk_alloc (blk_new w2 (.cells #[.string ⟨#[110, 117, 109, 98, 101, 114]⟩, .string ⟨#[112, 108]⟩] 37)) (.cells #[] 37)) (.cells #[.slice (some ⟨w2.heap.size, 0, none⟩) 1 1, .slice (some ⟨w2.heap.size + 1, 0, none⟩) 0 0] 30)) (.cells #[.string ⟨#[110, 117, 109, 98, 101, 114]⟩, .string ⟨#[36, 48, 46, 110, 117, 109, 98, 101, 114]⟩] 37)) (.cells #[.string ⟨#[]⟩, .slice (some ⟨w2.heap.size + 1 + 1, 0, none⟩) 2 2, .slice (some ⟨w2.heap.size + 1 + 1 + 1, 0, none⟩) 1 1, .slice none 0 0] 33)
  have g3 := blk_alloc (blk_alloc (blk_new ((w2.alloc (.cells #[.string ⟨#[110, 117, 109, 98, 101, 114]⟩, .string ⟨#[112, 108]⟩] 37)).alloc (.cells #[] 37)) (.cells #[.slice (some ⟨w2.heap.size, 0, none⟩) 1 1, .slice (some ⟨w2.heap.size + 1, 0, none⟩) 0 0] 30)) (.cells #[.string ⟨#[110, 117, 109, 98, 101, 114]⟩, .string ⟨#[36, 48, 46, 110, 117, 109, 98, 101, 114]⟩] 37)) (.cells #[.string ⟨#[]⟩, .slice (some ⟨w2.heap.size + 1 + 1, 0, none⟩) 2 2, .slice (some ⟨w2.heap.size + 1 + 1 + 1, 0, none⟩) 1 1, .slice none 0 0] 33)
  have g4 := blk_alloc (blk_new (((w2.alloc (.cells #[.string ⟨#[110, 117, 109, 98, 101, 114]⟩, .string ⟨#[112, 108]⟩] 37)).alloc (.cells #[] 37)).alloc (.cells #[.slice (some ⟨w2.heap.size, 0, none⟩) 1 1, .slice (some ⟨w2.heap.size + 1, 0, none⟩) 0 0] 30)) (.cells #[.string ⟨#[110, 117, 109, 98, 101, 114]⟩, .string ⟨#[36, 48, 46, 110, 117, 109, 98, 101, 114]⟩] 37)) (.cells #[.string ⟨#[]⟩, .slice (some ⟨w2.heap.size + 1 + 1, 0, none⟩) 2 2, .slice (some ⟨w2.heap.size + 1 + 1 + 1, 0, none⟩) 1 1, .slice none 0 0] 33)
  have g5 := blk_new ((((w2.alloc (.cells #[.string ⟨#[110, 117, 109, 98, 101, 114]⟩, .string ⟨#[112, 108]⟩] 37)).alloc (.cells #[] 37)).alloc (.cells #[.slice (some ⟨w2.heap.size, 0, none⟩) 1 1, .slice (some ⟨w2.heap.size + 1, 0, none⟩) 0 0] 30)).alloc (.cells #[.string ⟨#[110, 117, 109, 98, 101, 114]⟩, .string ⟨#[36, 48, 46, 110, 117, 109, 98, 101, 114]⟩] 37)) (.cells #[.string ⟨#[]⟩, .slice (some ⟨w2.heap.size + 1 + 1, 0, none⟩) 2 2, .slice (some ⟨w2.heap.size + 1 + 1 + 1, 0, none⟩) 1 1, .slice none 0 0] 33)
  simp only [sz_alloc] at g3 g4 g5
  have HB3 := Aside0.mk (below_alloc (below_alloc (below_alloc (below_alloc (below_alloc HB2.out (.cells #[.string ⟨#[110, 117, 109, 98, 101, 114]⟩, .string ⟨#[112, 108]⟩] 37)) (.cells #[] 37)) (.cells #[.slice (some ⟨w2.heap.size, 0, none⟩) 1 1, .slice (some ⟨w2.heap.size + 1, 0, none⟩) 0 0] 30)) (.cells #[.string ⟨#[110, 117, 109, 98, 101, 114]⟩, .string ⟨#[36, 48, 46, 110, 117, 109, 98, 101, 114]⟩] 37)) (.cells #[.string ⟨#[]⟩, .slice (some ⟨w2.heap.size + 1 + 1, 0, none⟩) 2 2, .slice (some ⟨w2.heap.size + 1 + 1 + 1, 0, none⟩) 1 1, .slice none 0 0] 33))
  have HA3 := Aside0.mk (Kd.C_below HA2.out (below_alloc (below_alloc (below_alloc (below_alloc (below_alloc (Below.refl w2.heap.size w2) (.cells #[.string ⟨#[110, 117, 109, 98, 101, 114]⟩, .string ⟨#[112, 108]⟩] 37)) (.cells #[] 37)) (.cells #[.slice (some ⟨w2.heap.size, 0, none⟩) 1 1, .slice (some ⟨w2.heap.size + 1, 0, none⟩) 0 0] 30)) (.cells #[.string ⟨#[110, 117, 109, 98, 101, 114]⟩, .string ⟨#[36, 48, 46, 110, 117, 109, 98, 101, 114]⟩] 37)) (.cells #[.string ⟨#[]⟩, .slice (some ⟨w2.heap.size + 1 + 1, 0, none⟩) 2 2, .slice (some ⟨w2.heap.size + 1 + 1 + 1, 0, none⟩) 1 1, .slice none 0 0] 33)))
  have HW := Aside0.mk (aw_reads2 _ _ _ _ g1 g3)
  have HS := Aside0.mk (aw_reads3 _ _ g4)
  have G5 := Aside0.mk g5
  clear g1 g3 g4 g5 HA2 HB2
  generalize ((((w2.alloc (.cells #[.string ⟨#[110, 117, 109, 98, 101, 114]⟩, .string ⟨#[112, 108]⟩] 37)).alloc (.cells #[] 37)).alloc (.cells #[.slice (some ⟨w2.heap.size, 0, none⟩) 1 1, .slice (some ⟨w2.heap.size + 1, 0, none⟩) 0 0] 30)).alloc (.cells #[.string ⟨#[110, 117, 109, 98, 101, 114]⟩, .string ⟨#[36, 48, 46, 110, 117, 109, 98, 101, 114]⟩] 37)).alloc (.cells #[.string ⟨#[]⟩, .slice (some ⟨w2.heap.size + 1 + 1, 0, none⟩) 2 2, .slice (some ⟨w2.heap.size + 1 + 1 + 1, 0, none⟩) 1 1, .slice none 0 0] 33) = w3 at HB3 HA3 HW HS G5 ⊢
  generalize w2.heap.size + 1 + 1 + 1 + 1 = g at G5 ⊢
  refine (concrete_Result.calls 9 _ _ 2 awWhen _ 1 awRes none 0 [] _ 2 awArgs _ _ _ HW.out (Nat.le_refl _) HS.out (Nat.le_refl _) ⟨rfl, by decide, fun h => absurd h (by decide)⟩ (Nat.le_refl _) HA3.out (Nat.le_refl _) aw3).mono ?_
  rintro e w4 ⟨v0, rfl, hR, hb⟩
  have HW4 := Aside0.mk (Kd.C_below HW.out hb)
  have HS4 := Aside0.mk (Kd.C_below HS.out hb)
  have HA4 := Aside0.mk (Kd.C_below HA3.out hb)
  have HB4 := Aside0.mk (below_then HB3.out HB3.out.size hb)
  have G54 := Aside0.mk (blk_below G5.out hb)
  have k0 := (blk_cell G54.out 0).trans rfl
  have k1 := (blk_cell G54.out 1).trans rfl
  have k2 := (blk_cell G54.out 2).trans rfl
  have k3 := (blk_cell G54.out 3).trans rfl
  obtain ⟨A, c, rfl, hlc, hC⟩ := Kd.R_reads hR
  obtain ⟨ad, e1, x0, x1⟩ := at_T37 hC 0 (by decide) (by decide)
  cases e1
  have HC := Aside0.mk hC
  have X1 := Aside0.mk x1
  clear hb hR hlc hC HW HS HA3 HB3 G5 x0 x1
  go_wp2_with fail
  refine (concrete_Applies.calls 9 _ _ 2 awWhen _ 1 awRes none 0 [] _ 2 awArgs true _ HW4.out (Nat.le_refl _) HS4.out (Nat.le_refl _) ⟨rfl, by decide, fun h => absurd h (by decide)⟩ (Nat.le_refl _) HA4.out (Nat.le_refl _) aw4).mono ?_
  rintro e w5 ⟨rfl, hb⟩
  have x1 : w5.cell? ⟨ad.block, ad.off + 1, none⟩ = some (.string ⟨#[112, 108]⟩) := cap_ X1.out hb
  have HB5 := Aside0.mk (below_then HB4.out HB4.out.size hb)
  clear hb X1 HB4
  go_wp2_with fail
  go_ret
  exact ⟨rfl, HB5.out⟩

end Go.Proofs.Ytfbfopfhfeijdaa.Pr
