/- Several texts in one: Lng, Awk. -/
import Derived.Test.YtfbhdjflkaldgaaGreatDoorMg17
import Derived.WalkMore
/- law42.language: the language of the chapter's example. -/
/- awake of chapter 42: true, in every world. -/
namespace Go.Proofs.YtfbhdjflkaldgaaGreatDoor.Pr
open Go.Proofs.YtfbhdjflkaldgaaGreatDoor.Ct Go.RowKit Go.Maps Go.Lib Go.Proofs.YtfbhdjflkaldgaaGreatDoorW.PrintWords Go.Proofs.YtfbhdjflkaldgaaGreatDoorW.PrintLast Go.Proofs.YtfbhdjflkaldgaaGreatDoorW.PrintMore
set_option linter.unusedVariables false
set_option linter.unusedSimpArgs false
theorem Zj5 {α:Type} {d:Kd α} {W:World} {g:Nat} {T:TypeId} {fr:Nat × Nat} {cells:Array Value} (hb:W.heap[g]? = some (.cells cells T fr)) (xs:List α) (hl:xs.length ≤ 9223372036854775807)
    (hk:∀ j x,xs[j]? = some x → ∃ c,(cells.toList.drop (j * d.sz)).take d.sz = c ∧ c.length = d.sz ∧ d.K W x c):d.C W (some ⟨g,0,none⟩) xs.length xs:=by
  refine ⟨rfl,hl,fun _ => ⟨_,rfl,fun j p hj => ?_⟩⟩
  obtain ⟨c,hc,hs,hK⟩:=hk j p hj
  refine ⟨c,hs,hK,fun i u hu => ?_⟩
  rw [add_plain,cell_of_row _ _ _ _ _ _ hb];subst hc;rw [List.getElem?_take] at hu
  split at hu
  · rw [List.getElem?_drop] at hu
    simpa using hu
  · cases hu
theorem Z2v {u v w:World} (h:Below u.heap.size u v) (h2:Below v.heap.size v w):Below u.heap.size u w:=h.trans (h2.mono h.size)
section
variable {P:Program} {ops:Array Oper} {rest:List Oper} {o:Oper} {a:Act} {Q:Exit → Act → World → Prop}
theorem Z78 {W:World} (hgd:o.guard = none) {N:Tmp} (_hd:o.dst = some N) {cs:Array Value} {t:TypeId} {n:Nat}
    (hrun:(execOp a.eval o).run P W = .ok (.value (.slice (some ⟨W.heap.size,0,none⟩) n n)) (W.alloc (.cells cs t (0,0))))
    (h:∀ g,g = W.heap.size → ∀ w1,w1.heap[g]? = some (.cells cs t (0,0)) → Below W.heap.size W w1 → wpList P ops Q rest (a.put o.dst (.slice (some ⟨g,0,none⟩) n n)) w1):wpList P ops Q (o :: rest) a W :=
  Kd.event_run hgd hrun (h _ rfl _ (blk_new W _) (below_alloc (Below.refl _ _) _))
theorem Zmr {b g:Nat} {u w:World} (h:Below b u w) (hg:b ≤ g) (cs:Array Value):Below b u (w.setRow g cs) :=
  h.trans ⟨rfl,rfl,rfl,by simp,fun k hk => setRow_other w g k cs (by omega)⟩
theorem Zd8 {W w0:World} {b:Nat} (hgd:o.guard = none) (ty:TypeId) (x y:Operand) (ho:o.op = .store ty x y) (hd:o.dst = none) (g:Nat) (cs:Array Value) (hx:a.eval x = .pointer (some ⟨g,0,none⟩)) (hy:a.eval y = .agg cs)
    (t:TypeId) (old:Array Value) (hg:W.heap[g]? = some (.cells old t (0,0))) (hi:(P.info? ty).map (·.size) = some cs.size) (hold:old.size = cs.size) (h1:cs.all (·.oneCell') = true) (HB:Below b w0 W) (hb:b ≤ g)
    (h:∀ w1,w1.heap[g]? = some (.cells cs t (0,0)) → (∀ k,k ≠ g → w1.heap[k]? = W.heap[k]?) → Below b w0 w1 → wpList P ops Q rest a w1):wpList P ops Q (o :: rest) a W :=
  wpList_store_row hgd ty x y ho g cs hx hy t old hg hi hold h1 (by rw [hd];exact h _ (setRow_heap W g old cs t (0,0) hg) (fun k hk => setRow_other W g k cs hk) (Zmr HB hb cs))
theorem Zb9 {W w0:World} {b:Nat} (hgd:o.guard = none) (ty:TypeId) (x y:Operand) (ho:o.op = .store ty x y) (hd:o.dst = none) (g j:Nat) (v:Value) (hx:a.eval x = .pointer (some ⟨g,j,none⟩)) (hy:a.eval y = v) (h1:v.oneCell' = true)
    (t:TypeId) (old cs:Array Value) (hg:W.heap[g]? = some (.cells old t (0,0))) (hj:j < old.size) (hcs:old.setIfInBounds j v = cs) (hi:(P.info? ty).map (·.size) = some 1) (HB:Below b w0 W) (hb:b ≤ g)
    (h:∀ w1,w1.heap[g]? = some (.cells cs t (0,0)) → (∀ k,k ≠ g → w1.heap[k]? = W.heap[k]?) → Below b w0 w1 → wpList P ops Q rest a w1):wpList P ops Q (o :: rest) a W:=by
  have hrun:(storeVar ty ⟨g,j,none⟩ v).run P W = .ok () (W.setCell ⟨g,j,none⟩ v):=by
    have hc:v.cells = #[v]:=by cases v <;> first | rfl | cases h1
    have h2:=run_storeCells_cells (P:=P) g j [v] 0 W (fun i hi2 => by
        have:i = 0:=by simpa using hi2
        subst this;show (W.cell? ⟨g,j,none⟩).isSome = true
        rw [blk_cell hg,Array.getElem?_eq_getElem hj];rfl) (fun i hi2 => blk_frozen hg _) (fun x hx => by simp at hx;subst hx;exact h1)
    cases hq:P.info? ty with
    | none => simp [hq] at hi
    | some i =>
      have hs:i.size = 1:=by simpa [hq] using hi
      simp only [Nat.add_zero] at h2;have h3:W.setCells g j [v] = W.setCell ⟨g,j,none⟩ v:=rfl;rw [h3] at h2
      simp [storeVar,sizeOf,typeInfo,hq,hc,hs,h2]
  refine wpList_plain hgd fun _ hK => ?_
  unfold Oper.wp execOp;simp only [ho,hx,hy,Instr.storeAt,Instr.sureAddr,Sem.run_bind,Sem.run_pure,Result.andThen_ok,hrun]
  refine hK _ _ ?_
  rw [hd];exact h _ (blk_put hg j v hcs) (fun k hk => Below.heap_setCell W _ v k hk) (HB.setCell hb v)
end
def awV (A2 A9:Option Addr) (c2 c9:Nat):Value:=.agg #[.string ⟨#[]⟩,.bool false,.slice A2 4 c2,.slice none 0 0,.slice none 0 0,.slice none 0 0,.slice none 0 0,.int .i64 0,.int .i64 0,.slice A9 1 c9,.int .i64 0,.slice none 0 0,.slice none 0 0,.bool false,.string ⟨#[]⟩,.int .i64 0,.string ⟨#[]⟩,.bool false,.int .i64 0,.int .i64 0,.slice none 0 0,.slice none 0 0,.slice none 0 0,.slice none 0 0,.slice none 0 0,.bool false,.slice none 0 0,.slice none 0 0,.slice none 0 0,.string ⟨#[46]⟩]
def AwL (w:World) (v:Value):Prop:=∃ A2 A9 c2 c9,v = awV A2 A9 c2 c9 ∧ Kd.C k68 w A2 awA.length awA ∧ awA.length ≤ c2 ∧ Kd.C k73 w A9 awR.length awR ∧ awR.length ≤ c9
theorem AwL.below {w w':World} {v:Value} (h:AwL w v) (hb:Below w.heap.size w w'):AwL w' v:=by
  obtain ⟨A2,A9,c2,c9,e,h1,h2,h3,h4⟩:=h;exact ⟨A2,A9,c2,c9,e,Kd.C_below h1 hb,h2,Kd.C_below h3 hb,h4⟩
theorem Znz (W:World) (g:Nat) (h:W.heap[g]? = some (.cells #[.int .i32 97,.int .u32 1,.int .i32 101,.int .u32 1,.int .i32 116,.int .u32 2,.int .i32 110,.int .u32 2] 68 (0,0))):Kd.C k68 W (some ⟨g,0,none⟩) awA.length awA:=by
  refine Zj5 h awA (by decide) fun j x hj => ?_
  match j,hj with
  | 0,hj => cases hj;exact ⟨_,rfl,rfl,Zc6 _ _⟩
  | 1,hj => cases hj;exact ⟨_,rfl,rfl,Zc6 _ _⟩
  | 2,hj => cases hj;exact ⟨_,rfl,rfl,Zc6 _ _⟩
  | 3,hj => cases hj;exact ⟨_,rfl,rfl,Zc6 _ _⟩
  | n + 4,hj => simp [awA] at hj
theorem Zms (W:World) (g:Nat) (h:W.heap[g]? = some (.cells #[.int .u32 2147483648,.string ⟨#[]⟩,.bool false,.bool false] 70 (0,0))):Kd.C k70 W (some ⟨g,0,none⟩) awI.length awI:=by
  refine Zj5 h awI (by decide) fun j x hj => ?_
  match j,hj with
  | 0,hj => cases hj;exact ⟨_,rfl,rfl,Zl2 _ _⟩
  | n + 1,hj => simp [awI] at hj
theorem Zmt (W:World) (g3 g:Nat) (h3:W.heap[g3]? = some (.cells #[.int .u32 2147483648,.string ⟨#[]⟩,.bool false,.bool false] 70 (0,0))) (h:W.heap[g]? = some (.cells #[.int .i32 101,.string ⟨#[]⟩,.slice none 0 0,.slice (some ⟨g3,0,none⟩) 1 1,.bool false,.bool false] 73 (0,0))):Kd.C k73 W (some ⟨g,0,none⟩) awR.length awR:=by
  refine Zj5 h awR (by decide) fun j x hj => ?_
  match j,hj with
  | 0,hj => cases hj;exact ⟨_,rfl,rfl,Zl3 _ _ (Nat.le_refl _) ⟨rfl,by decide,fun h => absurd h (by decide)⟩ (Nat.le_refl _) (Zms W g3 h3)⟩
  | n + 1,hj => simp [awR] at hj
set_option maxRecDepth 100000 in
set_option maxHeartbeats 4000000 in
theorem Z4y (w:World):Calls Tryz.prog 12 #[] w fun e w' => ∃ v,e = .returned v ∧ AwL w' v ∧ Below w.heap.size w w':=by
  go_enter Tryz.func12,Tryz.ntmps12
  go_wp2_with (first 
    | ((with_reducible refine gate_dst (N:=0) rfl ?_);refine box_event ?hg (N:=0) ?hd (cs:=#[.string ⟨#[]⟩,.bool false,.slice none 0 0,.slice none 0 0,.slice none 0 0,.slice none 0 0,.slice none 0 0,.int .i64 0,.int .i64 0,.slice none 0 0,.int .i64 0,.slice none 0 0,.slice none 0 0,.bool false,.string ⟨#[]⟩,.int .i64 0,.string ⟨#[]⟩,.bool false,.int .i64 0,.int .i64 0,.slice none 0 0,.slice none 0 0,.slice none 0 0,.slice none 0 0,.slice none 0 0,.bool false,.slice none 0 0,.slice none 0 0,.slice none 0 0,.string ⟨#[]⟩]) (t:=41) ?hr ?_;(case hd => rfl);(case hg => rfl);(case hr => exact Gc5);intro g0 hg0 w1 hx0 hb0;have HB1:=am hb0;have GE0:=am (show w.heap.size ≤ g0 from by omega);have X0a:=am hx0;clear hb0 hx0 hg0)
    | ((with_reducible refine gate_dst (N:=1) rfl ?_);refine box_event ?hg (N:=1) ?hd (cs:=#[.string ⟨#[]⟩,.bool false,.slice none 0 0,.slice none 0 0,.slice none 0 0,.slice none 0 0,.slice none 0 0,.int .i64 0,.int .i64 0,.slice none 0 0,.int .i64 0,.slice none 0 0,.slice none 0 0,.bool false,.string ⟨#[]⟩,.int .i64 0,.string ⟨#[]⟩,.bool false,.int .i64 0,.int .i64 0,.slice none 0 0,.slice none 0 0,.slice none 0 0,.slice none 0 0,.slice none 0 0,.bool false,.slice none 0 0,.slice none 0 0,.slice none 0 0,.string ⟨#[]⟩]) (t:=41) ?hr ?_;(case hd => rfl);(case hg => rfl);(case hr => exact Gc5);intro g1 hg1 w2 hx1 hb1;have HB2:=am (Z2v HB1.out hb1);have X0b:=am (blk_below X0a.out hb1);have X1b:=am hx1;have GE1:=am (show w.heap.size ≤ g1 from by have:=HB1.out.size;omega);have NE:=am (show g0 ≠ g1 from by have:=blk_lt X0a.out;omega);clear hx1 hb1 hg1 X0a HB1)
    | ((with_reducible refine gate_store (t:=41) (p:=1) (v:=.tmp 2) rfl ?_);refine Zd8 rfl 41 (.tmp 1) (.tmp 2) rfl rfl g1 (#[.string ⟨#[]⟩,.bool false,.slice none 0 0,.slice none 0 0,.slice none 0 0,.slice none 0 0,.slice none 0 0,.int .i64 0,.int .i64 0,.slice none 0 0,.int .i64 0,.slice none 0 0,.slice none 0 0,.bool false,.string ⟨#[]⟩,.int .i64 0,.string ⟨#[]⟩,.bool false,.int .i64 0,.int .i64 0,.slice none 0 0,.slice none 0 0,.slice none 0 0,.slice none 0 0,.slice none 0 0,.bool false,.slice none 0 0,.slice none 0 0,.slice none 0 0,.string ⟨#[46]⟩]) rfl rfl 41 _ X1b.out (by kernel_rfl) (by rfl) (by first | kernel_rfl | (simp [Value.oneCell'];done) | decide) HB2.out GE1.out ?_;intro w3 hx hk hb;have X1c:=am hx;have X0c:=am ((hk g0 NE.out).trans X0b.out);have HB3:=am hb;clear hx hk hb X0b X1b HB2)
    | ((with_reducible refine gate_dst (N:=7) rfl ?_);refine Z78 ?hg (N:=7) ?hd (cs:=#[.int .i32 97,.int .u32 1,.int .i32 101,.int .u32 1,.int .i32 116,.int .u32 2,.int .i32 110,.int .u32 2]) (t:=68) (n:=4) ?hr ?_;(case hd => rfl);(case hg => rfl);(case hr => exact Gc5);intro g2 hg2 w4 hx hb;have X1d:=am (blk_below X1c.out hb);have X0d:=am (blk_below X0c.out hb);have X2d:=am hx;have HB4:=am (Z2v HB3.out hb);have NE2:=am (show g2 ≠ g1 from by have:=blk_lt X1c.out;omega);have NE20:=am (show g2 ≠ g0 from by have:=blk_lt X0c.out;omega);clear hx hb hg2 X1c X0c HB3)
    | ((with_reducible refine gate_store (t:=22) (p:=9) (v:=.tmp 7) rfl ?_);refine Zb9 rfl 22 (.tmp 9) (.tmp 7) rfl rfl g1 2 (.slice (some ⟨g2,0,none⟩) 4 4) rfl rfl rfl 41 _ (#[.string ⟨#[]⟩,.bool false,.slice (some ⟨g2,0,none⟩) 4 4,.slice none 0 0,.slice none 0 0,.slice none 0 0,.slice none 0 0,.int .i64 0,.int .i64 0,.slice none 0 0,.int .i64 0,.slice none 0 0,.slice none 0 0,.bool false,.string ⟨#[]⟩,.int .i64 0,.string ⟨#[]⟩,.bool false,.int .i64 0,.int .i64 0,.slice none 0 0,.slice none 0 0,.slice none 0 0,.slice none 0 0,.slice none 0 0,.bool false,.slice none 0 0,.slice none 0 0,.slice none 0 0,.string ⟨#[46]⟩]) X1d.out (show (_:Nat) < 30 by decide) (by rfl) (by kernel_rfl) HB4.out GE1.out ?_;intro w5 hx hk hb;have X1e:=am hx;have X0e:=am ((hk g0 NE.out).trans X0d.out);have X2e:=am ((hk g2 NE2.out).trans X2d.out);have HB5:=am hb;clear hx hk hb X0d X1d X2d HB4)
    | ((with_reducible refine gate_dst (N:=11) rfl ?_);refine Z78 ?hg (N:=11) ?hd (cs:=#[.int .u32 2147483648,.string ⟨#[]⟩,.bool false,.bool false]) (t:=70) (n:=1) ?hr ?_;(case hd => rfl);(case hg => rfl);(case hr => exact Gc5);intro g3 hg3 w6 hx hb;have X1f:=am (blk_below X1e.out hb);have X0f:=am (blk_below X0e.out hb);have X2f:=am (blk_below X2e.out hb);have X3f:=am hx;have HB6:=am (Z2v HB5.out hb);have NE3:=am (show g3 ≠ g1 from by have:=blk_lt X1e.out;omega);have NE30:=am (show g3 ≠ g0 from by have:=blk_lt X0e.out;omega);clear hx hb hg3 X1e X0e X2e HB5)
    | ((with_reducible refine gate_dst (N:=13) rfl ?_);refine Z78 ?hg (N:=13) ?hd (cs:=#[.int .i32 101,.string ⟨#[]⟩,.slice none 0 0,.slice (some ⟨g3,0,none⟩) 1 1,.bool false,.bool false]) (t:=73) (n:=1) ?hr ?_;(case hd => rfl);(case hg => rfl);(case hr => exact Gc5);intro g4 hg4 w7 hx hb;have X1g:=am (blk_below X1f.out hb);have X0g:=am (blk_below X0f.out hb);have X2g:=am (blk_below X2f.out hb);have X3g:=am (blk_below X3f.out hb);have X4g:=am hx;have HB7:=am (Z2v HB6.out hb);have NE4:=am (show g4 ≠ g1 from by have:=blk_lt X1f.out;omega);have NE40:=am (show g4 ≠ g0 from by have:=blk_lt X0f.out;omega);clear hx hb hg4 X1f X0f X2f X3f HB6)
    | ((with_reducible refine gate_store (t:=23) (p:=14) (v:=.tmp 13) rfl ?_);refine Zb9 rfl 23 (.tmp 14) (.tmp 13) rfl rfl g1 9 (.slice (some ⟨g4,0,none⟩) 1 1) rfl rfl rfl 41 _ (#[.string ⟨#[]⟩,.bool false,.slice (some ⟨g2,0,none⟩) 4 4,.slice none 0 0,.slice none 0 0,.slice none 0 0,.slice none 0 0,.int .i64 0,.int .i64 0,.slice (some ⟨g4,0,none⟩) 1 1,.int .i64 0,.slice none 0 0,.slice none 0 0,.bool false,.string ⟨#[]⟩,.int .i64 0,.string ⟨#[]⟩,.bool false,.int .i64 0,.int .i64 0,.slice none 0 0,.slice none 0 0,.slice none 0 0,.slice none 0 0,.slice none 0 0,.bool false,.slice none 0 0,.slice none 0 0,.slice none 0 0,.string ⟨#[46]⟩]) X1g.out (show (_:Nat) < 30 by decide) (by rfl) (by kernel_rfl) HB7.out GE1.out ?_;intro w8 hx hk hb;have X1h:=am hx;have X0h:=am ((hk g0 NE.out).trans X0g.out);have X2h:=am ((hk g2 NE2.out).trans X2g.out);have X3h:=am ((hk g3 NE3.out).trans X3g.out);have X4h:=am ((hk g4 NE4.out).trans X4g.out);have HB8:=am hb;clear hx hk hb X0g X1g X2g X3g X4g HB7)
    | ((with_reducible refine Z0z (t:=41) (p:=1) rfl ?_);refine wpList_load_row rfl 41 (.tmp 1) rfl g1 rfl 41 _ (0,0) _ X1h.out Tryz.underlying41 rfl (by kernel_rfl) ?_)
    | ((with_reducible refine gate_store (t:=41) (p:=0) (v:=.tmp 15) rfl ?_);refine Zd8 rfl 41 (.tmp 0) (.tmp 15) rfl rfl g0 (#[.string ⟨#[]⟩,.bool false,.slice (some ⟨g2,0,none⟩) 4 4,.slice none 0 0,.slice none 0 0,.slice none 0 0,.slice none 0 0,.int .i64 0,.int .i64 0,.slice (some ⟨g4,0,none⟩) 1 1,.int .i64 0,.slice none 0 0,.slice none 0 0,.bool false,.string ⟨#[]⟩,.int .i64 0,.string ⟨#[]⟩,.bool false,.int .i64 0,.int .i64 0,.slice none 0 0,.slice none 0 0,.slice none 0 0,.slice none 0 0,.slice none 0 0,.bool false,.slice none 0 0,.slice none 0 0,.slice none 0 0,.string ⟨#[46]⟩]) rfl rfl 41 _ X0h.out (by kernel_rfl) (by rfl) (by first | kernel_rfl | (simp [Value.oneCell'];done) | decide) HB8.out GE0.out ?_;intro w9 hx hk hb;have X0i:=am hx;have X2i:=am ((hk g2 NE20.out).trans X2h.out);have X3i:=am ((hk g3 NE30.out).trans X3h.out);have X4i:=am ((hk g4 NE40.out).trans X4h.out);have HB9:=am hb;clear hx hk hb X0h X1h X2h X3h X4h HB8))
  refine bodyPost_ret (results_cell_row rfl _ _ g0 41 (#[.string ⟨#[]⟩,.bool false,.slice (some ⟨g2,0,none⟩) 4 4,.slice none 0 0,.slice none 0 0,.slice none 0 0,.slice none 0 0,.int .i64 0,.int .i64 0,.slice (some ⟨g4,0,none⟩) 1 1,.int .i64 0,.slice none 0 0,.slice none 0 0,.bool false,.string ⟨#[]⟩,.int .i64 0,.string ⟨#[]⟩,.bool false,.int .i64 0,.int .i64 0,.slice none 0 0,.slice none 0 0,.slice none 0 0,.slice none 0 0,.slice none 0 0,.bool false,.slice none 0 0,.slice none 0 0,.slice none 0 0,.string ⟨#[46]⟩]) (0,0) _ rfl X0i.out Tryz.underlying41 rfl (by kernel_rfl)) rfl ?_
  exact ⟨_,rfl,⟨_,_,_,_,rfl,Znz _ _ X2i.out,Nat.le_refl _,Zmt _ _ _ X3i.out X4i.out,Nat.le_refl _⟩,HB9.out⟩
def Str (w:World) (v:Value) (l:List ByteArray):Prop:=∃ A c,v = .slice A l.length c ∧ Kd.C Kd.string w A l.length l ∧ l.length ≤ c
theorem Str.below {w w':World} {v:Value} {l:List ByteArray} (h:Str w v l) (hb:Below w.heap.size w w'):Str w' v l:=by
  obtain ⟨A,c,e,h1,h2⟩:=h;exact ⟨A,c,e,Kd.C_below h1 hb,h2⟩
theorem Zj6 {w:World} {e b:Nat} {ok:Nat → Prop} {v:Value} {l:List ByteArray} (h:Kd.R Kd.string e w b ok v l):Str w v l:=by
  obtain ⟨A,c,e,h1,h2⟩:=Kd.R_reads h;exact ⟨A,c,e,h2,h1⟩
theorem C_no {α:Type} {d:Kd α} (w:World):d.C w none ([]:List α).length []:=⟨rfl,Nat.zero_le _,fun h => absurd h (Nat.lt_irrefl 0)⟩
def awP (A2 A9:Option Addr) (c2 c9:Nat):La:=⟨A2,c2,none,0,none,0,none,0,none,0,A9,c9,none,0,none,0,none,0,none,0,none,0,none,0,none,0,none,0,none,0,none,0⟩
theorem awH {w:World} {A2 A9:Option Addr} {c2 c9:Nat} (h2:Kd.C k68 w A2 awA.length awA) (hc2:awA.length ≤ c2) (h9:Kd.C k73 w A9 awR.length awR) (hc9:awR.length ≤ c9):Z2o awG (awP A2 A9 c2 c9) w:=⟨h2,hc2,C_no w,Nat.le_refl 0,C_no w,Nat.le_refl 0,C_no w,Nat.le_refl 0,C_no w,Nat.le_refl 0,h9,hc9,C_no w,Nat.le_refl 0,C_no w,Nat.le_refl 0,C_no w,Nat.le_refl 0,C_no w,Nat.le_refl 0,C_no w,Nat.le_refl 0,C_no w,Nat.le_refl 0,C_no w,Nat.le_refl 0,C_no w,Nat.le_refl 0,C_no w,Nat.le_refl 0,C_no w,Nat.le_refl 0⟩
theorem Zo0 {W:World} {g:Nat} {T:TypeId} {fr:Nat × Nat} (xs:List ByteArray) (hb:W.heap[g]? = some (.cells (xs.map Value.string).toArray T fr)) (hl:xs.length ≤ 9223372036854775807):Kd.C Kd.string W (some ⟨g,0,none⟩) xs.length xs:=by
  refine Zj5 hb xs hl fun j x hj => ⟨[.string x],?_,rfl,rfl⟩
  rw [show (Kd.string).sz = 1 from rfl,Nat.mul_one]
  have h1:(xs.map Value.string)[j]? = some (.string x):=by rw [List.getElem?_map,hj];rfl
  obtain ⟨h2,h3⟩:=List.getElem?_eq_some_iff.1 h1;show List.take 1 (List.drop j (xs.map Value.string)) = _;rw [List.drop_eq_getElem_cons h2,h3];rfl
def Stt (w:World) (v:Value) (l:List (List ByteArray)):Prop:=∃ A c,v = .slice A l.length c ∧ Kd.C (Kd.slice 9 Kd.string) w A l.length l ∧ l.length ≤ c
theorem Stt.below {w w':World} {v:Value} {l:List (List ByteArray)} (h:Stt w v l) (hb:Below w.heap.size w w'):Stt w' v l:=by
  obtain ⟨A,c,e,h1,h2⟩:=h;exact ⟨A,c,e,Kd.C_below h1 hb,h2⟩
theorem Zj7 (l:List ByteArray) {t:Value} (w:World) (hT:Tabs w) {v:Value} (hv:AwL w v) (ht:Str w t l) {r1:ByteArray} {r2:Int} (h:Z0c.f 60 awG l = some (r1,r2)) :
    Calls Tryz.prog 8 #[v,t] w fun e w' => e = .returned (.tuple #[.string r1,.int .i64 r2]) ∧ Below w.heap.size w w':=by
  obtain ⟨A2,A9,c2,c9,rfl,h2,hc2,h9,hc9⟩:=hv;obtain ⟨A,c,rfl,h1,hl⟩:=ht;exact Z0c.calls 60 awG (awP A2 A9 c2 c9) A c l r1 r2 w hT (awH h2 hc2 h9 hc9) h1 hl h
theorem Zmu (l:List (List ByteArray)) {t:Value} (w:World) (hT:Tabs w) {v:Value} (hv:AwL w v) (ht:Stt w t l) {r1:ByteArray} {r2:Int} (h:Z0o.f 60 awG l = some (r1,r2)) :
    Calls Tryz.prog 10 #[v,t] w fun e w' => e = .returned (.tuple #[.string r1,.int .i64 r2]) ∧ Below w.heap.size w w':=by
  obtain ⟨A2,A9,c2,c9,rfl,h2,hc2,h9,hc9⟩:=hv;obtain ⟨A,c,rfl,h1,hl⟩:=ht;exact Z0o.calls 60 awG (awP A2 A9 c2 c9) A c l r1 r2 w hT (awH h2 hc2 h9 hc9) h1 hl h
theorem Zkt (x:ByteArray) (w:World) (hT:Tabs w) {v:Value} (hv:AwL w v)  {r1:List ByteArray} {r2:Int} (h:Z2r.f  awG x = some (r1,r2)) :
    Calls Tryz.prog 13 #[v,.string x] w fun e w' => ∃ v0,e = .returned (.tuple #[v0,.int .i64 r2]) ∧ Str w' v0 r1 ∧ Below w.heap.size w w':=by
  obtain ⟨A2,A9,c2,c9,rfl,h2,hc2,h9,hc9⟩:=hv
  refine (Z2r.calls awG (awP A2 A9 c2 c9) x r1 r2 w hT (awH h2 hc2 h9 hc9) h).mono ?_
  rintro e w' ⟨v0,rfl,hr,hb⟩;exact ⟨v0,rfl,Zj6 hr,hb⟩
theorem Zgn (x:ByteArray) (w:World) (hT:Tabs w) {v:Value} (hv:AwL w v)  {r1:List ByteArray} {r2:Int} (h:Z2w.f  awG x = some (r1,r2)) :
    Calls Tryz.prog 14 #[v,.string x] w fun e w' => ∃ v0,e = .returned (.tuple #[v0,.int .i64 r2]) ∧ Str w' v0 r1 ∧ Below w.heap.size w w':=by
  obtain ⟨A2,A9,c2,c9,rfl,h2,hc2,h9,hc9⟩:=hv
  refine (Z2w.calls awG (awP A2 A9 c2 c9) x r1 r2 w hT (awH h2 hc2 h9 hc9) h).mono ?_
  rintro e w' ⟨v0,rfl,hr,hb⟩;exact ⟨v0,rfl,Zj6 hr,hb⟩
theorem Zj8 (x y:List ByteArray) (w:World) {u v:Value} (hu:Str w u x) (hv:Str w v y) (h:Z1l.f 9 x y = some true):Calls Tryz.prog 15 #[u,v] w fun e w' => e = .returned (.bool true) ∧ Below w.heap.size w w':=by
  obtain ⟨A,c,rfl,h1,hl⟩:=hu;obtain ⟨A',c',rfl,h1',hl'⟩:=hv
  refine (Z1l.calls 9 A c x A' c' y true w h1 hl h1' hl' h).mono ?_
  rintro e w' ⟨rfl,hd⟩;exact ⟨rfl,hd.below⟩
theorem Z8e (xs:List ByteArray) (W:World) (T:TypeId) (hl:xs.length ≤ 9223372036854775807):Str (W.alloc (.cells (xs.map Value.string).toArray T (0,0))) (.slice (some ⟨W.heap.size,0,none⟩) xs.length xs.length) xs:=⟨_,_,rfl,Zo0 xs (blk_new W _) hl,Nat.le_refl _⟩
theorem str1 (W:World):Str (W.alloc (.cells #[.string ⟨#[116,97,110,101]⟩,.string ⟨#[61,97]⟩,.string ⟨#[101,116]⟩] 9)) (.slice (some ⟨W.heap.size,0,none⟩) 3 3) [⟨#[116,97,110,101]⟩,⟨#[61,97]⟩,⟨#[101,116]⟩]:=Z8e [⟨#[116,97,110,101]⟩,⟨#[61,97]⟩,⟨#[101,116]⟩] W _ (by decide)
theorem str2 (W:World):Str (W.alloc (.cells #[.string ⟨#[61,97]⟩,.string ⟨#[101,116]⟩] 9)) (.slice (some ⟨W.heap.size,0,none⟩) 2 2) [⟨#[61,97]⟩,⟨#[101,116]⟩]:=Z8e [⟨#[61,97]⟩,⟨#[101,116]⟩] W _ (by decide)
theorem str3 (W:World):Str (W.alloc (.cells #[.string ⟨#[116,97,110]⟩] 9)) (.slice (some ⟨W.heap.size,0,none⟩) 1 1) [⟨#[116,97,110]⟩]:=Z8e [⟨#[116,97,110]⟩] W _ (by decide)
theorem str4 (W:World):Str (W.alloc (.cells #[.string ⟨#[101,116]⟩,.string ⟨#[61,110,97]⟩] 9)) (.slice (some ⟨W.heap.size,0,none⟩) 2 2) [⟨#[101,116]⟩,⟨#[61,110,97]⟩]:=Z8e [⟨#[101,116]⟩,⟨#[61,110,97]⟩] W _ (by decide)
theorem str5 (W:World):Str (W.alloc (.cells #[.string ⟨#[116,97,110,46]⟩,.string ⟨#[101,116,110,97,46]⟩] 9)) (.slice (some ⟨W.heap.size,0,none⟩) 2 2) [⟨#[116,97,110,46]⟩,⟨#[101,116,110,97,46]⟩]:=Z8e [⟨#[116,97,110,46]⟩,⟨#[101,116,110,97,46]⟩] W _ (by decide)
theorem str6 (W:World):Str (W.alloc (.cells #[.string ⟨#[116,97,110,97]⟩,.string ⟨#[101,116]⟩] 9)) (.slice (some ⟨W.heap.size,0,none⟩) 2 2) [⟨#[116,97,110,97]⟩,⟨#[101,116]⟩]:=Z8e [⟨#[116,97,110,97]⟩,⟨#[101,116]⟩] W _ (by decide)
theorem Zmv (W:World) (v1 v2:Value) (x y:List ByteArray) (T:TypeId) (h1:Str W v1 x) (h2:Str W v2 y):Stt (W.alloc (.cells #[v1,v2] T)) (.slice (some ⟨W.heap.size,0,none⟩) 2 2) [x,y]:=by
  have hb:=below_alloc (Below.refl W.heap.size W) (.cells #[v1,v2] T (0,0))
  refine ⟨_,_,rfl,Zj5 (blk_new W _) [x,y] (by show 2 ≤ _;omega) fun j z hj => ?_,Nat.le_refl _⟩
  match j,hj with
  | 0,hj => cases hj;obtain ⟨A,c,rfl,hc,hl⟩:=h1;exact ⟨_,rfl,rfl,A,c,rfl,hl,Kd.C_below hc hb⟩
  | 1,hj => cases hj;obtain ⟨A,c,rfl,hc,hl⟩:=h2;exact ⟨_,rfl,rfl,A,c,rfl,hl,Kd.C_below hc hb⟩
  | n + 2,hj => simp at hj
theorem Z4w (W:World) (o:Obj):Below W.heap.size W (W.alloc o):=below_alloc (Below.refl _ _) o
theorem stt34 (W:World):Stt (((W.alloc (.cells #[.string ⟨#[116,97,110]⟩] 9)).alloc (.cells #[.string ⟨#[101,116]⟩,.string ⟨#[61,110,97]⟩] 9)).alloc (.cells #[.slice (some ⟨W.heap.size,0,none⟩) 1 1,.slice (some ⟨W.heap.size + 1,0,none⟩) 2 2] 31)) (.slice (some ⟨W.heap.size + 1 + 1,0,none⟩) 2 2) [[⟨#[116,97,110]⟩],[⟨#[101,116]⟩,⟨#[61,110,97]⟩]]:=by
  have h1:=(str3 W).below (Z4w _ (.cells #[.string ⟨#[101,116]⟩,.string ⟨#[61,110,97]⟩] 9));have h2:=str4 (W.alloc (.cells #[.string ⟨#[116,97,110]⟩] 9));have h3:=Zmv _ _ _ [⟨#[116,97,110]⟩] [⟨#[101,116]⟩,⟨#[61,110,97]⟩] 31 h1 h2
  simpa using h3
set_option maxRecDepth 100000 in
set_option maxHeartbeats 8000000 in
theorem Zem (w:World) (hT:Tabs w):Calls Tryz.prog 5 #[] w fun e w' => e = .returned (.bool true) ∧ Below w.heap.size w w':=by
  have HB:=am (Below.refl w.heap.size w);go_enter Tryz.func5,Tryz.ntmps5
  go_upto_region 2 with (first | (go_at_call 12;with_reducible refine (Z4y _).mono ?_;rintro e wn ⟨v0,rfl,hl,hb⟩;replace HB:=am (Z2v HB.out hb);(try replace X7:=am (X7.out.below hb));(try replace X9:=am (X9.out.below hb));have H0:=am hl;clear hl hb) | (go_at_call 8;with_reducible refine (Zj7 [⟨#[116,97,110,101]⟩,⟨#[61,97]⟩,⟨#[101,116]⟩] _ (Z1s hT (below_alloc HB.out _)) (H0.out.below (Z4w _ _)) (str1 _) aw1).mono ?_;rintro e wn ⟨rfl,hb⟩;replace HB:=am (Z2v (below_alloc HB.out _) hb);clear hb H0))
  go_upto_region 3 with (first | (go_at_call 12;with_reducible refine (Z4y _).mono ?_;rintro e wn ⟨v0,rfl,hl,hb⟩;replace HB:=am (Z2v HB.out hb);(try replace X7:=am (X7.out.below hb));(try replace X9:=am (X9.out.below hb));have H0:=am hl;clear hl hb) | (go_at_call 8;with_reducible refine (Zj7 [⟨#[61,97]⟩,⟨#[101,116]⟩] _ (Z1s hT (below_alloc HB.out _)) (H0.out.below (Z4w _ _)) (str2 _) aw2).mono ?_;rintro e wn ⟨rfl,hb⟩;replace HB:=am (Z2v (below_alloc HB.out _) hb);clear hb H0))
  go_upto_region 4 with (first | (go_at_call 12;with_reducible refine (Z4y _).mono ?_;rintro e wn ⟨v0,rfl,hl,hb⟩;replace HB:=am (Z2v HB.out hb);(try replace X7:=am (X7.out.below hb));(try replace X9:=am (X9.out.below hb));have H0:=am hl;clear hl hb) | (go_at_call 10;with_reducible refine (Zmu [[⟨#[116,97,110]⟩],[⟨#[101,116]⟩,⟨#[61,110,97]⟩]] _ (Z1s hT (below_alloc (below_alloc (below_alloc HB.out _) _) _)) (((H0.out.below (Z4w _ _)).below (Z4w _ _)).below (Z4w _ _)) (stt34 _) aw3).mono ?_;rintro e wn ⟨rfl,hb⟩;replace HB:=am (Z2v (below_alloc (below_alloc (below_alloc HB.out _) _) _) hb);clear hb H0))
  go_upto_region 5 with (first | (go_at_call 12;with_reducible refine (Z4y _).mono ?_;rintro e wn ⟨v0,rfl,hl,hb⟩;replace HB:=am (Z2v HB.out hb);(try replace X7:=am (X7.out.below hb));(try replace X9:=am (X9.out.below hb));have H0:=am hl;clear hl hb) | (go_at_call 13;with_reducible refine (Zkt ⟨#[116,97,110,46,32,101,116,110,97,46]⟩ _ (Z1s hT HB.out) H0.out aw4).mono ?_;rintro e wn ⟨v7,rfl,hs,hb⟩;replace HB:=am (Z2v HB.out hb);have X7:=am hs;clear hb hs H0))
  go_upto_region 6 with (first | (go_at_call 12;with_reducible refine (Z4y _).mono ?_;rintro e wn ⟨v0,rfl,hl,hb⟩;replace HB:=am (Z2v HB.out hb);(try replace X7:=am (X7.out.below hb));(try replace X9:=am (X9.out.below hb));have H0:=am hl;clear hl hb) | (go_at_call 14;with_reducible refine (Zgn ⟨#[116,97,110,97,32,101,116,46]⟩ _ (Z1s hT HB.out) H0.out aw5).mono ?_;rintro e wn ⟨v9,rfl,hs,hb⟩;replace HB:=am (Z2v HB.out hb);replace X7:=am (X7.out.below hb);have X9:=am hs;clear hb hs H0))
  go_upto_region 7 with (first | (go_at_call 12;with_reducible refine (Z4y _).mono ?_;rintro e wn ⟨v0,rfl,hl,hb⟩;replace HB:=am (Z2v HB.out hb);(try replace X7:=am (X7.out.below hb));(try replace X9:=am (X9.out.below hb));have H0:=am hl;clear hl hb) | (go_at_call 14;with_reducible refine (Zgn ⟨#[116,97,110,32,32,101,116,46]⟩ _ (Z1s hT HB.out) H0.out aw6).mono ?_;rintro e wn ⟨v11,rfl,hs,hb⟩;replace HB:=am (Z2v HB.out hb);replace X7:=am (X7.out.below hb);replace X9:=am (X9.out.below hb);clear hb hs H0))
  go_wp2_with (first | (go_at_call 15;with_reducible refine (Zj8 [⟨#[116,97,110,46]⟩,⟨#[101,116,110,97,46]⟩] [⟨#[116,97,110,46]⟩,⟨#[101,116,110,97,46]⟩] _ (X7.out.below (Z4w _ _)) (str5 _) aw7).mono ?_;rintro e wn ⟨rfl,hb⟩;replace HB:=am (Z2v (below_alloc HB.out _) hb);replace X9:=am ((X9.out.below (Z4w _ _)).below hb);clear hb X7) | (go_at_call 15;with_reducible refine (Zj8 [⟨#[116,97,110,97]⟩,⟨#[101,116]⟩] [⟨#[116,97,110,97]⟩,⟨#[101,116]⟩] _ (X9.out.below (Z4w _ _)) (str6 _) aw8).mono ?_;rintro e wn ⟨rfl,hb⟩;replace HB:=am (Z2v (below_alloc HB.out _) hb);clear hb X9))
  go_ret;exact ⟨rfl,HB.out⟩
def Z21.f:Option Bool:=some true
theorem Z21.calls (r:Bool) (w:World) (hT:Tabs w) (h:Z21.f = some r):Calls Tryz.prog 5 #[] w fun e w' => e = .returned (.bool r) ∧ Below w.heap.size w w':=by
  obtain rfl:=Option.some.inj h;exact Zem w hT
end Go.Proofs.YtfbhdjflkaldgaaGreatDoor.Pr
