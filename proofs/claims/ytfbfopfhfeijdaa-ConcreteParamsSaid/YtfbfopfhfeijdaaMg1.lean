/- Several texts in one: Opens, Kinds. -/
import Derived.Test.YtfbfopfhfeijdaaRows
import Derived.Test.YtfbfopfhfeijdaaPr0
import Derived.ChangeArms
import Derived.KernelRfl
/- What a reading of an argument tells, type by type: the value's kind (Kd), its numbers' ranges and strings' sizes (good), and a bound on its weight (bulk). -/
namespace Go.Proofs.Ytfbfopfhfeijdaa.Opn
open Go.RowKit Go.Proofs.YtfbfopfhfeijdaaW.PrintWords Go.Proofs.YtfbfopfhfeijdaaW.PrintLast
set_option linter.unusedVariables false

structure Ms (α : Type) where
  good : α → Prop
  bulk : α → Nat
def Ms.int (k : IntKind) : Ms Int := ⟨fun x => (Lit.int k x).wf = true, fun _ => 1⟩
def Ms.bool : Ms Bool := ⟨fun _ => True, fun _ => 1⟩
def Ms.string : Ms ByteArray := ⟨fun s => s.size ≤ maxLen, fun s => s.size + 1⟩
def Ms.slice {α : Type} (m : Ms α) : Ms (List α) := ⟨fun xs => xs.length ≤ maxLen ∧ ∀ x ∈ xs, m.good x, fun xs => (xs.map m.bulk).sum + 1⟩
def Ms.pair {α β : Type} (a : Ms α) (b : Ms β) : Ms (α × β) := ⟨fun x => a.good x.1 ∧ b.good x.2, fun x => a.bulk x.1 + b.bulk x.2⟩
def Ms.iso {α β : Type} (m : Ms α) (f : β → α) : Ms β := ⟨fun x => m.good (f x), fun x => m.bulk (f x)⟩

/-- Type t reads as kind d, measured by m. -/
structure Opens (P : Program) (t : TypeId) {α : Type} (d : Kd α) (m : Ms α) : Prop where
  go : ∀ {H : Type} {enc : TypeId × Value → H} {w : World} {base : Nat} {spare : Nat → Bool} {held : Bool} {fuel : Nat} {cs : List Value} {x : DataW H × List MemPlace},
    DataW.trod enc P w base spare held fuel t cs = some x → ∃ a : α, d.K w a cs ∧ m.good a ∧ m.bulk a ≤ Rows.uptoBulk x.1
  sz : P.cellsOf t = d.sz
  pos : 0 < d.sz

/-- The fields from one on read as kind d, its cells from off on. -/
structure OpensF (P : Program) (fs : List Field) (off : Nat) {α : Type} (d : Kd α) (m : Ms α) : Prop where
  go : ∀ {H : Type} {enc : TypeId × Value → H} {w : World} {base : Nat} {spare : Nat → Bool} {held : Bool} {fuel : Nat} {cs : List Value} {xs : List (DataW H × List MemPlace)},
    cs.length = off + d.sz → (∀ (i : Nat) (f : Field), fs[i]? = some f → DataW.trod enc P w base spare held fuel f.type ((cs.drop f.offset).take (P.cellsOf f.type)) = xs[i]?) → xs.length = fs.length →
    ∃ a : α, d.K w a (cs.drop off) ∧ m.good a ∧ m.bulk a ≤ Rows.uptoBulkAll (xs.map (·.1))

section
variable {P : Program} {t : TypeId}
theorem Opens.int {k : IntKind} (hu : P.underlying t = some (.int k)) (hc : P.cellsOf t = 1) : Opens P t (Kd.int k) (Ms.int k) :=
  ⟨fun h => by
    obtain ⟨n, rfl, rfl, hw⟩ := DataW.trod_int hu h
    exact ⟨n, rfl, hw, by simp [Ms.int, Rows.uptoBulk]⟩, hc, Nat.one_pos⟩
theorem Opens.bool (hu : P.underlying t = some .bool) (hc : P.cellsOf t = 1) : Opens P t Kd.bool Ms.bool :=
  ⟨fun h => by
    obtain ⟨b, rfl, rfl⟩ := DataW.trod_bool hu h
    exact ⟨b, rfl, trivial, by simp [Ms.bool, Rows.uptoBulk]⟩, hc, Nat.one_pos⟩
theorem Opens.string (hu : P.underlying t = some .string) (hc : P.cellsOf t = 1) : Opens P t Kd.string Ms.string :=
  ⟨fun h => by
    obtain ⟨s, rfl, rfl, hs⟩ := DataW.trod_string hu h
    exact ⟨s, rfl, hs, by simp only [Ms.string, Rows.uptoBulk, data_length]; exact Nat.le_refl _⟩, hc, Nat.one_pos⟩

/-- Element by element. -/
theorem rows_read {e : TypeId} {α : Type} {d : Kd α} {m : Ms α} (ho : Opens P e d m) {H : Type} {enc : TypeId × Value → H} {w : World} {base : Nat} {spare : Nat → Bool} {held : Bool} {fuel : Nat} (a : Addr) :
    ∀ (es : List (DataW H × List MemPlace)) (i0 : Nat), (∀ i, i < es.length → (w.cells? base (a.add ((i0 + i) * P.cellsOf e)) (P.cellsOf e)).bind (DataW.trod enc P w base spare held fuel e) = es[i]?) →
      ∃ xs : List α, xs.length = es.length ∧ (∀ x ∈ xs, m.good x) ∧ (xs.map m.bulk).sum ≤ Rows.uptoBulkAll (es.map (·.1)) ∧
        ∀ j p, xs[j]? = some p → ∃ c, c.length = d.sz ∧ d.K w p c ∧ ∀ i u, c[i]? = some u → w.cell? (a.add ((i0 + j) * d.sz + i)) = some u
  | [], i0, _ => ⟨[], rfl, by simp, by simp [Rows.uptoBulkAll], by simp⟩
  | y :: es, i0, h => by
    obtain ⟨xs, h1, h2, h3, h4⟩ := rows_read ho a es (i0 + 1) (fun i hi => by
      have := h (i + 1) (by simpa using hi)
      simpa [Nat.add_assoc, Nat.add_comm 1 i] using this)
    have h0 := h 0 (by simp)
    simp only [Nat.add_zero, List.getElem?_cons_zero] at h0
    obtain ⟨cs, hc, ht⟩ := Option.bind_eq_some_iff.1 h0
    obtain ⟨p, hK, hg, hb⟩ := ho.go ht
    refine ⟨p :: xs, by simp [h1], ?_, ?_, ?_⟩
    · intro x hx
      rcases List.mem_cons.1 hx with rfl | hx
      · exact hg
      · exact h2 x hx
    · simp only [List.map_cons, List.sum_cons, Rows.uptoBulkAll]; omega
    · intro j q hj
      cases j with
      | zero =>
        simp only [List.getElem?_cons_zero, Option.some.injEq] at hj
        subst hj
        refine ⟨cs, d.K_len hK, hK, fun i u hu => ?_⟩
        unfold World.cells? at hc
        split at hc
        · have hi : i < cs.length := (List.getElem?_eq_some_iff.1 hu).1
          rw [d.K_len hK] at hi
          have hg := mapM_some_get hc i i (by rw [ho.sz]; simp [hi])
          rw [hu] at hg
          have ha : (a.add (i0 * P.cellsOf e)).add i = a.add ((i0 + 0) * d.sz + i) := by
            rw [ho.sz, Nat.add_zero]
            unfold Addr.add
            by_cases z1 : i0 * d.sz = 0 <;> by_cases z2 : i = 0 <;> simp [z1, z2, Nat.add_assoc]
          rwa [ha] at hg
        · cases hc
      | succ j =>
        simp only [List.getElem?_cons_succ] at hj
        obtain ⟨c, k1, k2, k3⟩ := h4 j q hj
        refine ⟨c, k1, k2, fun i u hu => ?_⟩
        have := k3 i u hu
        rwa [show i0 + 1 + j = i0 + (j + 1) by omega] at this
theorem Opens.slice {e : TypeId} {α : Type} {d : Kd α} {m : Ms α} (ho : Opens P e d m) (hu : P.underlying t = some (.slice e)) (hc : P.cellsOf t = 1) : Opens P t (Kd.slice e d) (Ms.slice m) :=
  ⟨fun h => by
    rcases DataW.trod_slice hu h with ⟨rfl, rfl⟩ | ⟨a, len, cap, elems, rest, n, rfl, rfl, rfl, hb, hl, hm, hn, he, _⟩
    · exact ⟨[], ⟨none, 0, rfl, Nat.le_refl _, rfl, by simp, fun h => absurd h (by simp)⟩, ⟨by simp, by simp⟩, by simp [Ms.slice, Rows.uptoBulk]⟩
    · obtain ⟨xs, h1, h2, h3, h4⟩ := rows_read ho a elems 0 (fun i hi => by rw [Nat.zero_add]; exact he i (by omega))
      have hx : xs.length = len := by omega
      refine ⟨xs, ⟨some a, cap, by rw [hx], by omega, rfl, by unfold maxLen at hm; omega, fun hp => ⟨a, rfl, fun j p hj => ?_⟩⟩, ⟨by omega, h2⟩, ?_⟩
      · obtain ⟨c, k1, k2, k3⟩ := h4 j p hj
        exact ⟨c, k1, k2, fun i u hu => by have := k3 i u hu; rwa [Nat.zero_add] at this⟩
      · simp only [Ms.slice, Rows.uptoBulk]; omega, hc, Nat.one_pos⟩
theorem OpensF.last {f : Field} {off : Nat} {α : Type} {d : Kd α} {m : Ms α} (ho : Opens P f.type d m) (hf : f.offset = off) : OpensF P [f] off d m := by
  refine ⟨?_⟩
  intro H enc w base spare held fuel cs xs hl h hn
  have h0 := h 0 f rfl
  obtain ⟨y, rfl⟩ : ∃ y, xs = [y] := by
    match xs, hn with
    | [y], _ => exact ⟨y, rfl⟩
  rw [hf, ho.sz, List.take_of_length_le (by rw [List.length_drop]; omega)] at h0
  obtain ⟨a, h1, h2, h3⟩ := ho.go h0
  exact ⟨a, h1, h2, by simp only [List.map_cons, List.map_nil, Rows.uptoBulkAll]; omega⟩
theorem OpensF.cons {f : Field} {fs : List Field} {off : Nat} {α β : Type} {d : Kd α} {d' : Kd β} {m : Ms α} {m' : Ms β} (ho : Opens P f.type d m) (hf : f.offset = off) (hr : OpensF P fs (off + d.sz) d' m') : OpensF P (f :: fs) off (Kd.pair d d') (Ms.pair m m') := by
  refine ⟨?_⟩
  intro H enc w base spare held fuel cs xs hl h hn
  have hl' : cs.length = off + d.sz + d'.sz := by rw [hl]; show off + (d.sz + d'.sz) = _; omega
  obtain ⟨y, ys, rfl⟩ : ∃ y ys, xs = y :: ys := by
    match xs, hn with
    | y :: ys, _ => exact ⟨y, ys, rfl⟩
  have h0 := h 0 f rfl
  simp only [List.getElem?_cons_zero] at h0
  rw [hf, ho.sz] at h0
  obtain ⟨a, h1, h2, h3⟩ := ho.go h0
  obtain ⟨b, k1, k2, k3⟩ := hr.go (xs := ys) hl' (fun i g hg => by have := h (i + 1) g (by simpa using hg); simpa using this) (by simpa using hn)
  refine ⟨(a, b), ⟨(cs.drop off).take d.sz, cs.drop (off + d.sz), ?_, h1, k1⟩, ⟨h2, k2⟩, ?_⟩
  · rw [← List.drop_drop, List.take_append_drop]
  · simp only [Ms.pair, List.map_cons, Rows.uptoBulkAll]; omega
theorem Opens.struct {fs : List Field} {α β : Type} {d : Kd α} {m : Ms α} (hu : P.underlying t = some (.struct fs.toArray)) (hc : P.cellsOf t = d.sz) (hp : 0 < d.sz) (ho : OpensF P fs 0 d m) (f : β → α) (g : α → β) (hg : ∀ a, f (g a) = a) : Opens P t (Kd.iso d f) (Ms.iso m f) :=
  ⟨fun h => by
    obtain ⟨xs, n, rfl, rfl, hl, hn, hx⟩ := DataW.trod_struct hu h
    obtain ⟨a, h1, h2, h3⟩ := ho.go (xs := xs) (by rw [hl, hc, Nat.zero_add]) (fun i f hf => hx i f (by simpa using hf)) (by simpa using hn)
    refine ⟨g a, ?_, ?_, ?_⟩
    · show d.K _ (f (g a)) _
      rw [hg]; simpa using h1
    · show m.good (f (g a)); rw [hg]; exact h2
    · show m.bulk (f (g a)) ≤ _; rw [hg]; simp only [Rows.uptoBulk]; omega, hc, hp⟩
theorem Opens.tuple {fs : List Field} {α : Type} {d : Kd α} {m : Ms α} (hu : P.underlying t = some (.struct fs.toArray)) (hc : P.cellsOf t = d.sz) (hp : 0 < d.sz) (ho : OpensF P fs 0 d m) : Opens P t d m :=
  ⟨fun h => (Opens.struct hu hc hp ho (fun x => x) (fun x => x) (fun _ => rfl)).go h, hc, hp⟩
/-- A struct that is handed in: its cells. -/
theorem agg_of {w : World} {r : Reach} {base : Nat} {v : Value} {fs : Array Field} (hu : P.underlying t = some (.struct fs)) (h : Value.okWide P w r base t v) : ∃ cs, v = .agg cs := by
  unfold Value.okWide at h
  rw [hu] at h
  obtain ⟨cs, hv, _⟩ := h
  exact ⟨cs, hv⟩
theorem bound {H : Type} {l : List (DataW H)} (hk : Rows.uptoSmall H l = true) : Rows.uptoBulkAll l ≤ 1048576 := by
  simpa [Rows.uptoSmall] using hk
end
end Go.Proofs.Ytfbfopfhfeijdaa.Opn

namespace Go.Proofs.Ytfbfopfhfeijdaa.Opn
open Go.RowKit Go.Proofs.Ytfbfopfhfeijdaa.Pr Go.Proofs.YtfbfopfhfeijdaaW.PrintWords Go.Proofs.YtfbfopfhfeijdaaW.PrintLast
theorem opens9 : Opens Try.prog 9 Kd.string Ms.string := Opens.string Try.underlying9 (by kernel_rfl)
theorem opens50 : Opens Try.prog 50 (Kd.slice 9 Kd.string) (Ms.slice Ms.string) := Opens.slice opens9 Try.underlying50 (by kernel_rfl)
def ms90 : Ms S90 := Ms.iso (Ms.pair Ms.string (Ms.slice Ms.string)) (fun x : S90 => (x.f0, x.f1))
theorem opens90 : Opens Try.prog 90 k90 ms90 := Opens.struct Try.underlying90 (by kernel_rfl) (by decide) (OpensF.cons opens9 rfl (OpensF.last opens50 rfl)) _ (fun a => ⟨a.1, a.2⟩) (fun a => rfl)
theorem opens66 : Opens Try.prog 66 (Kd.slice 90 k90) (Ms.slice ms90) := Opens.slice opens90 Try.underlying66 (by kernel_rfl)
theorem opens68t : Opens Try.prog 68 (Kd.pair Kd.string (Kd.pair (Kd.slice 90 k90) (Kd.slice 9 Kd.string))) (Ms.pair Ms.string (Ms.pair (Ms.slice ms90) (Ms.slice Ms.string))) := Opens.tuple Try.underlying68 (by kernel_rfl) (by decide) (OpensF.cons opens9 rfl (OpensF.cons opens66 rfl (OpensF.last opens50 rfl)))
end Go.Proofs.Ytfbfopfhfeijdaa.Opn
