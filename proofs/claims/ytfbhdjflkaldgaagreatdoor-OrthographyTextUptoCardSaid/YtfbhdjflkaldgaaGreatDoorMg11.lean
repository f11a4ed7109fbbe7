/- Several texts in one: Rdx, CloneL, PrF33, PrF30. -/
import Derived.Test.YtfbhdjflkaldgaaGreatDoorMg10
import Derived.Test.YtfbhdjflkaldgaaGreatDoorMg1
import Derived.WalkKit
import Derived.Lib.Walk
import Derived.Lib.SliceRun
import Derived.Test.YtfbhdjflkaldgaaGreatDoorMg2
import Derived.Test.YtfbhdjflkaldgaaGreatDoorMg3
import Derived.Test.YtfbhdjflkaldgaaGreatDoorMg8
/- The reader's read. -/
/- slices.Clone at letters: a new row of the same elements. -/
namespace Go.Proofs.YtfbhdjflkaldgaaGreatDoor.Pr
open Go.Proofs.YtfbhdjflkaldgaaGreatDoor.Ct Go.RowKit Go.Maps Go.Lib Go.Proofs.YtfbhdjflkaldgaaGreatDoorW.PrintWords Go.Proofs.YtfbhdjflkaldgaaGreatDoorW.PrintLast Go.Proofs.YtfbhdjflkaldgaaGreatDoorW.PrintMore
set_option linter.unusedVariables false
set_option linter.unusedSimpArgs false
def Z7s (l:List S68) (stop:Int) (text:ByteArray):Option (List (List ByteArray)):=if validD text.data.toList = true then (Z3l (isL l) stop (Z0d text) [] [] false true).map (fun o => o.map (fun ws => ws.map encS)) else none
theorem Z75 {R:Ending → World → Prop} {tmps:Array Value} (w:World) (O:Nat) (x:Value) (u:TypeId) (pv:Value) (hx:w.heap[O]? = some (.cells #[x] 49 (0,0))) (hk:w.heap[O + 1]? = some (.cells #[.bool false] 4 (0,0))) (h4:tmps[4]? = some (.pointer (some ⟨O,0,none⟩))) (h5:tmps[5]? = some (.pointer (some ⟨O + 1,0,none⟩)))
    (h:R (.returned (.tuple #[.slice none 0 0,.bool false])) ((w.setCell ⟨O,0,none⟩ (.slice none 0 0)).setCell ⟨O + 1,0,none⟩ (.bool false))) :
    Leaves Tryz.prog Tryz.f26 tmps R [{ target:=.fn (.func 45) #[.pointer (some ⟨O,0,none⟩),.pointer (some ⟨O + 1,0,none⟩)],args:=#[] }] (.panicking [{ v:=.iface u pv,recovered:=false }]) w:=by
  refine leaves_cons (f:=45) (args:=#[.pointer (some ⟨O,0,none⟩),.pointer (some ⟨O + 1,0,none⟩)]) (by simp) (by simp [go_sem]) ?_
  have c1:w.cell? ⟨O,0,none⟩ = some x:=by rw [Lib.cell_of_heap hx];rfl
  have c2:w.cell? ⟨O + 1,0,none⟩ = some (.bool false):=by rw [Lib.cell_of_heap hk];rfl
  refine (Z9s ⟨O,0,none⟩ ⟨O + 1,0,none⟩ x (.bool false) u pv [] w (by simp) c1 (Lib.frozen_of_heap hx 0) c2 (Lib.frozen_of_heap hk 0)).mono ?_
  rintro e u' w'' ⟨rfl,rfl,rfl⟩
  simp [Leaves,settle,results,Tryz.results26,go_sem,h4,h5,c1,c2]
  exact h
theorem Z8n {R:Ending → World → Prop} {tmps:Array Value} (w:World) (O:Nat) (x y:Value) (hx:w.cell? ⟨O,0,none⟩ = some x) (hk:w.cell? ⟨O + 1,0,none⟩ = some y) (h4:tmps[4]? = some (.pointer (some ⟨O,0,none⟩))) (h5:tmps[5]? = some (.pointer (some ⟨O + 1,0,none⟩)))
    (h:R (.returned (.tuple #[x,y])) w) :
    Leaves Tryz.prog Tryz.f26 tmps R [{ target:=.fn (.func 45) #[.pointer (some ⟨O,0,none⟩),.pointer (some ⟨O + 1,0,none⟩)],args:=#[] }] .returning w:=by
  refine leaves_cons (f:=45) (args:=#[.pointer (some ⟨O,0,none⟩),.pointer (some ⟨O + 1,0,none⟩)]) (by simp) (by simp [go_sem]) ?_
  refine (Zhm ⟨O,0,none⟩ ⟨O + 1,0,none⟩ w).mono ?_
  rintro e u' w'' ⟨rfl,rfl,rfl⟩
  simp [Leaves,settle,results,Tryz.results26,go_sem,h4,h5,hx,hk]
  exact h
set_option maxRecDepth 1000000 in
theorem Zlm {p:Prop} (h:p:=by
  rw [if_neg (fun h => h32 h.1)] at hrem2
  by_cases hsb:R = stop
  · have hsbb:(R == stop) = true:=beq_iff_eq.2 hsb
    rw [if_pos ⟨hsb,e1⟩] at hrem2;have z1_:=am hrem2;clear hrem2 h32 hsb;have hD:=hW'.out.drew;obtain ⟨Wd,hWd⟩:∃ Wd,Wn.drew = Wd:=⟨_,rfl⟩;rw [hWd] at hD;have hD':=am hD;have hcv:=Zll (W:=Wd) hD'.out.row7 hcur.out e1
    have z2_:Wd.cell? ⟨O,0,none⟩ = some (.slice AO XO.length cO):=by rw [blk_cell hD'.out.hO];rfl
    have z3_:Wn.cell? ⟨O,0,none⟩ = some (.slice AO XO.length cO):=by rw [blk_cell hW'.out.hO];rfl
    clear hD;have z4_:=am (show Kd.R Kd.string 9 Wd N (fun _ => True) (.slice A6 X6.length c6) X6 from by have z5_:=hD'.out.row6;rw [hX6'.out] at z5_;exact z5_);go_wp2
    refine start_ (n:=9) (S:=fun w' => w'.cell? ⟨O,0,none⟩ = some (.slice AO XO.length cO)) (ds:=[8]) #[false,false,false,false,false,false,false,false,false] (by kernel_rfl) rfl rfl (z3_) (fun hHeld => ?_)
    rw [hWd] at hHeld ⊢
    refine pKP 1 81 ?_
    refine pKP 2 82 ?_
    refine take_ (i:=0) (N:=some 80) (v:=?_) (a':=?_) #[true,true,true,false,false,false,false,false,false] rfl rfl (by kernel_rfl) (fun c_ a_ w_ h_ => Z9w (by decide) (by decide) c_ a_ w_ h_) (Or.inl ⟨by rfl,?_⟩) hHeld ?_ ?_
    rotate_left
    · intro w' z6_
      go_simp
      with_reducible rfl
    rotate_left
    · exact GpR
    refine one_ (i:=3) (N:=some 83) #[true,true,true,true,false,false,false,false,false] rfl rfl (by kernel_rfl) (by decide) (fun K hK => ?_)
    refine value_ (w1:=?_) (v:=?_) (by rfl) rfl ?_ ?_
    rotate_left 2
    · go_simp
      constructor
      · rfl
      · rfl
    refine hK.out _ _ (z2_) (fun hHeld => ?_)
    clear hK K
    refine nR 83 ?_
    refine one_ (i:=4) (N:=some 84) #[true,true,true,true,true,false,false,false,false] rfl rfl (by kernel_rfl) (by decide) (fun K hK => ?_)
    refine value_ (w1:=?_) (v:=?_) (by rfl) rfl ?_ ?_
    rotate_left 2
    · go_simp
      constructor
      · rfl
      · rfl
    refine hK.out _ _ (Z2i _ z2_) (fun hHeld => ?_)
    clear hK K
    refine nR 84 ?_
    refine one_ (i:=5) (N:=some 85) #[true,true,true,true,true,true,false,false,false] rfl rfl (by kernel_rfl) (by decide) (fun K hK => ?_)
    refine Kd.R_append_step Kd.string (w0:=Wd) N (by rfl) (.tmp 81) (.tmp 84) 31 9 (.string ⟨#[]⟩) 16 rfl Tryz.underlying31 Z95 rfl (by decide) (by omega) (.slice A6 X6.length c6) X6 (encS cur) [.string (encS cur)] (fun _ => True) (fun _ => False) rfl rfl ?aP (fun _ hk => hk.elim) (fun _ _ => trivial) ?aO ?aB ?aS ?aL ?_
    (case aP => exact rfl);(case aO => exact z4_.out);(case aB => exact Below.refl _ _);(case aS => exact hD'.out.hN);(case aL => have:=hcnt3.out;have:=hsz'.out;have:=hX6l.out;omega);intro z7_ z8_ z9_ z10_ z11_ z12_;obtain ⟨z13_,z14_⟩:∃ X,X6 ++ [encS cur] = X:=⟨_,rfl⟩;rw [z14_] at z9_;obtain ⟨z15_,z16_,z17_⟩:=Kd.R_slice z9_;subst z17_;have z18_:=am z14_;clear z14_
    have z19_:z8_.cell? ⟨O,0,none⟩ = some (.slice AO XO.length cO):=by rw [blk_cell (blk_grown (hD'.out.hO) z11_ (hD'.out.far O Gc32))];rfl
    have hmid:=am (hD'.out.mid z10_ z11_);have z20_:=am z9_;have z21_:=am z10_;have z22_:=am z11_;clear z9_ z10_ z11_ z12_
    refine hK.out _ _ (z19_) (fun hHeld => ?_)
    clear hK K
    refine nR 85 ?_
    refine one_ (i:=6) (N:=some 86) #[true,true,true,true,true,true,true,false,false] rfl rfl (by kernel_rfl) (by decide) (fun K hK => ?_)
    refine value_ (w1:=?_) (v:=?_) (by rfl) rfl ?_ ?_
    rotate_left 2
    · go_simp
      constructor
      · rfl
      · rfl
    refine hK.out _ _ (Z2i _ z19_) (fun hHeld => ?_)
    clear hK K
    refine nR 86 ?_
    refine one_ (i:=7) (N:=some 87) #[true,true,true,true,true,true,true,true,false] rfl rfl (by kernel_rfl) (by decide) (fun K hK => ?_)
    refine Kd.R_append_step (Kd.slice 9 Kd.string) (w0:=w2) O (by rfl) (.tmp 80) (.tmp 86) 49 31 (.slice none 0 0) 24 rfl Tryz.underlying49 Znn rfl (by decide) (by omega) (.slice AO XO.length cO) XO z13_ [.slice z15_ z13_.length z16_] (fun _ => True) (fun k => ∃ cells,z8_.heap[k]? = some (.cells cells 9 (0,0))) rfl rfl ?aP ?aQ (fun _ _ => trivial) ?aO ?aB ?aS ?aL ?_
    (case aP => exact Kd.M_row (Kd.R_mono (Kd.R_lower (Kd.R_bound z20_.out) Gc32) (fun k hk => by obtain ⟨q,hq,cells,hc⟩:=hk.2.2.2;rcases List.mem_cons.1 hq with z5_ | z5_;(subst z5_;exact ⟨cells,hc⟩);(have z23_:q ∈ ([]:List TypeId):=z5_;cases z23_))));(case aQ => rintro k ⟨cells,hc⟩;refine ⟨trivial,fun z24_ => ?_⟩;obtain ⟨z25_,z26_⟩:=Kd.R_typed hmid.out.1 k z24_.symm;rw [hc] at z26_;simp at z26_);(case aO => rw [← hXO'.out];have z5_:=hmid.out.1;rw [← hXO'.out] at z5_;exact z5_);(case aB => exact hmid.out.2);(case aS => have:=hmid.out.2.size;have:=hit'.out;have:=hD'.out.hO2;omega);(case aL => have:=hcnt3.out;have:=hsz'.out;have:=hXOl.out;omega);intro vn z27_ z28_ z29_ z30_ z31_;obtain ⟨Y,hY⟩:∃ Y,XO ++ [z13_] = Y:=⟨_,rfl⟩;rw [hY] at z28_;obtain ⟨An,cn,en⟩:=Kd.R_slice z28_;subst en;have hY':=am hY;clear hY;have z32_:=blk_grown (blk_grown (hD'.out.hO) z22_.out (hD'.out.far O Gc32)) z30_ (Kd.R_ne hmid.out.1 (blk_grown (hD'.out.hO) z22_.out (hD'.out.far O Gc32)) (by decide))
    have z33_:z27_.cell? ⟨O,0,none⟩ = some (.slice AO XO.length cO):=by rw [blk_cell z32_];rfl
    have z34_:z27_.frozen? ⟨O,0,none⟩ = false:=blk_frozen z32_ 0;have z35_:=am z28_;have z36_:=am z29_;have z37_:=am z30_;clear z28_ z29_ z30_ z31_ z32_
    refine hK.out _ _ (z33_) (fun hHeld => ?_)
    clear hK K
    refine nR 87 ?_
    refine last_ (i:=8) (N:=none) #[true,true,true,true,true,true,true,true,true] rfl rfl (by kernel_rfl) (by decide) (fun K hK => ?_)
    refine skip_ (w1:=?_) (by rfl) rfl ?_ ?_
    rotate_left
    · go_simp
      rfl
    refine hK.out _ _ ?_
    clear hK K
    refine done_ (by kernel_rfl) ?_
    have z38_:=am (hD'.out.sentence z21_.out z22_.out (show Kd.R (Kd.slice 9 Kd.string) 31 z27_ O (fun _ => True) (.slice An Y.length cn) (outs.map (fun ws => ws.map encS) ++ [ws.map encS ++ [encS cur]]) from by rw [hXO'.out,hX6'.out,z18_.out,hY'.out];exact z35_.out) z36_.out z37_.out);go_wp2
    go_roundg g1
    case measure => omega
    case rel => exact ⟨pos2,[],[],true,false,outs ++ [ws ++ [cur]],_,_,rfl,rfl,hw',⟨by rw [hRST'.out,z1_.out];cases Z3l (isL l) stop RST [] [] true false <;> simp⟩,⟨by rw [hRST'.out];have:=hcnt3.out;simp at this ⊢;omega⟩,⟨by simp⟩,⟨.inr (.inr ⟨rfl,rfl,rfl⟩)⟩,z38_⟩
  · have hsbb:(R == stop) = false:=beq_eq_false_iff_ne.2 hsb
    rw [if_neg (fun h => hsb h.1)] at hrem2;have z1_:=am hrem2;clear hrem2 h32 hsb;obtain rfl:ans = none:=z1_.out;clear z1_;go_wp2
    refine Z75 Wn O _ _ _ hW'.out.hO hW'.out.hK rfl rfl ?_
    have hBz:=(hBn'.out.setCell (p:=⟨O,0,none⟩) Gc35 (.slice none 0 0)).setCell (p:=⟨O + 1,0,none⟩) Gc33 (.bool false)
    first | exact ⟨_,_,rfl,rfl,hBz⟩ | exact ⟨⟨_,rfl⟩,hBz⟩):p:=h
theorem Zg7 {p:Prop} (h:p:=by
  obtain rfl:ans = none:=hrem3.out;clear hrem3;go_wp2
  refine Z75 Wn O _ _ _ hW'.out.hO hW'.out.hK rfl rfl ?_
  have hBz:=(hBn'.out.setCell (p:=⟨O,0,none⟩) Gc35 (.slice none 0 0)).setCell (p:=⟨O + 1,0,none⟩) Gc33 (.bool false)
  first | exact ⟨_,_,rfl,rfl,hBz⟩ | exact ⟨⟨_,rfl⟩,hBz⟩):p:=h
theorem Zln {p:Prop} (h:p:=by
  rw [if_pos ⟨h32,.inl e1⟩,if_pos e1] at hrem2;have z1_:=am hrem2;clear hrem2 h32;have hcv:=Zll (W:=Wn) hW'.out.row7 hcur.out e1
  go_wp2_with ((with_reducible refine gate_builtin (b:=.append) (xs:=#[.tmp 63,.tmp 66]) rfl ?_);at_builtin;refine Kd.R_append Kd.string (w0:=Wn) N rfl (.tmp 63) (.tmp 66) 31 9 (.string ⟨#[]⟩) 16 rfl Tryz.underlying31 Z95 rfl (by decide) (by omega) (.slice A6 X6.length c6) X6 (encS cur) [.string (encS cur)] (fun _ => True) (fun _ => False) rfl rfl ?aP (fun _ hk => hk.elim) (fun _ _ => trivial) ?aO ?aB ?aS ?aL ?_;(case aP => exact rfl);(case aO => rw [← hX6'.out];rw [← hX6'.out] at hW';exact hW'.out.row6);(case aB => exact Below.refl _ _);(case aS => exact hW'.out.hN);(case aL => have:=hcnt3.out;have:=hsz'.out;have:=hX6l.out;omega);intro z2_ z3_ hr hb hg hat)
  have z4_:=am (hW'.out.word (by rw [hX6'.out];exact hr) hb hg)
  clear hr hb hg hat
  go_roundg g1
  case measure => omega
  case rel => exact ⟨pos2,ws ++ [cur],[],false,true,outs,N,_,rfl,rfl,hw',⟨by rw [hRST'.out];exact z1_.out⟩,⟨by rw [hRST'.out];have:=hcnt3.out;simp at this ⊢;omega⟩,⟨by simp⟩,⟨.inl ⟨rfl,rfl,rfl⟩⟩,z4_⟩):p:=h
theorem Zlo {p:Prop} (h:p:=by
  rw [if_neg (by simp)] at hrem2
  by_cases z1_:R = 32
  · have z2_:(R == 32) = true:=beq_iff_eq.2 z1_
    rw [if_pos ⟨z1_,.inr rfl⟩,if_neg (by simp)] at hrem2;have hrem3:=am hrem2;clear hrem2 z1_;have z3_:=am hW'.out.clear;go_wp2
    go_roundg g1
    case measure => omega
    case rel => exact ⟨pos2,ws,[],false,true,outs,N,_,rfl,rfl,hw',⟨by rw [hRST'.out];exact hrem3.out⟩,⟨by rw [hRST'.out];have:=hcnt3.out;simp at this ⊢;omega⟩,⟨by simp⟩,⟨.inl ⟨rfl,rfl,rfl⟩⟩,z3_⟩
  · have z2_:(R == 32) = false:=beq_eq_false_iff_ne.2 z1_
    rw [if_neg (fun h => z1_ h.1),if_neg (fun h => by simp at h)] at hrem2;have hrem3:=am hrem2;clear hrem2 z1_
    cases hsb:(R == stop) with
    | true =>
      exact Zg7
    | false =>
      exact Zg7):p:=h
theorem Zlp {p:Prop} (h:p:=by
  rw [if_neg (by simp)] at hrem2;rw [if_neg (by simp)] at hrem2;have hrem3:=am hrem2;clear hrem2 h32
  cases hsb:(R == stop) with
  | true =>
    exact Zg7
  | false =>
    exact Zg7):p:=h
set_option maxRecDepth 100000 in
set_option maxHeartbeats 4000000 in
theorem Zb4 (B mb:Nat) (l:List S68) (stop:Int) (text:ByteArray) (w:World) (hT:Tabs w) (hrd:Z8z w B mb l stop) (hsz:text.size ≤ 1099511627776) :
    Calls Tryz.prog 26 #[.pointer (some ⟨B,0,none⟩),.string text] w fun e w' => ∃ v b,e = .returned (.tuple #[v,.bool b]) ∧ (match Z7s l stop text with | some o => b = true ∧ Kd.R (Kd.slice 9 Kd.string) 31 w' w.heap.size (fun _ => True) v o | none => b = false) ∧ Below w.heap.size w w':=by
  have hmf:∀ (fn:Fn) (first cap:Array Value) (w:World),(Instr.makeFunc fn first cap).run Tryz.prog w = .ok (.func fn first cap) w:=fun _ _ _ _ => rfl
  obtain ⟨W1,hW1⟩:∃ W1,(w.alloc (.cells #[.slice none 0 0] 49)).alloc (.cells #[.bool false] 4) = W1:=⟨_,rfl⟩
  have hB1:Below w.heap.size w W1:=by rw [← hW1];exact ((Below.refl _ w).alloc (Nat.le_refl _) _).alloc (by simp) _
  have hs1:w.heap.size + 2 = W1.heap.size:=by rw [← hW1];simp
  have hO1:W1.heap[w.heap.size]? = some (.cells #[.slice none 0 0] 49 (0,0)):=by
    rw [← hW1];exact (Below.heap_alloc _ _ _ (by simp)).trans (World.alloc_heap_new w _)
  have hK1:W1.heap[w.heap.size + 1]? = some (.cells #[.bool false] 4 (0,0)):=by
    rw [← hW1];have:=World.alloc_heap_new (w.alloc (.cells #[.slice none 0 0] 49)) (.cells #[.bool false] 4)
    simpa using this
  have hv:=Z2l.calls text (validD text.data.toList) W1 (Z1s hT hB1) Gc26;have hrd':=am hrd;have hsz':=am hsz;have hB1':=am hB1;have hs1':=am hs1;have hO1':=am hO1;have hK1':=am hK1;obtain ⟨ans,hans⟩:∃ ans,Z7s l stop text = ans:=⟨_,rfl⟩;rw [hans];have hans':=am hans;clear hT hrd hsz hB1 hs1 hO1 hK1 hans
  cases hvd:validD text.data.toList with
  | false =>
    rw [hvd] at hv
    obtain rfl:ans = none:=by rw [← hans'.out];unfold Z7s;rw [hvd];rfl
    clear hvd
    go_enter_defers Tryz.func26,Tryz.ntmps26
    go_wp2_with (go_at_call 46;refine hv.mono ?_;clear hv;rintro e w2 ⟨rfl,hB2⟩)
    refine Z75 w2 w.heap.size _ _ _ ((hB2.block _ (by have:=hs1'.out;omega)).trans hO1'.out) ((hB2.block _ (by have:=hs1'.out;omega)).trans hK1'.out) rfl rfl ?_
    exact ⟨_,_,rfl,rfl,((hB1'.out.trans (hB2.mono hB1'.out.size)).setCell (Nat.le_refl _) _).setCell (Nat.le_succ _) _⟩
  | true =>
    rw [hvd] at hv
    go_enter_defers Tryz.func26,Tryz.ntmps26
    go_wp2_with (go_at_call 46;refine hv.mono ?_;clear hv;rintro e w2 ⟨rfl,hB2⟩)
    have hrun0:ans = (Z3l (isL l) stop (Z0d text) [] [] false true).map (fun o => o.map (fun ws => ws.map encS)):=by rw [← hans'.out];unfold Z7s;rw [if_pos hvd]
    have hrun:=am hrun0;obtain ⟨it,hit⟩:∃ it,w2.heap.size = it:=⟨_,rfl⟩;have hit':=am hit;have hB2':=am hB2;obtain ⟨O,hO⟩:∃ O,w.heap.size = O:=⟨_,rfl⟩;have hO':=am hO
    have hst0:RdW text w2 (w2.iter text 0) O it 0 [] [] [] (it + 1) (.slice none 0 0) (.slice none 0 0) (.slice none 0 0):=by
      rw [← hit,← hO];have h2:=hs1'.out;have h3:=hB2.size;exact { hit:=World.iter_heap w2 text 0,row6:=Kd.R_nil _ _ _ _ _,row7:=Kd.R_nil _ _ _ _ _,rowO:=Kd.R_nil _ _ _ _ _,hO:=blk_alloc ((hB2.block _ (by omega)).trans hO1'.out) _,hK:=blk_alloc ((hB2.block _ (by omega)).trans hK1'.out) _,hN:=by simp [World.iter],hit2:=Nat.lt_succ_self _,hO2:=by omega,hB:=(Below.refl _ w2).alloc (by omega) _ }
    have hst0':=am hst0;rw [hit,hO];clear hvd hrun0 hit hO hst0 hB2
    go_loopg [6,7,8,9,11] text.size (fun kq v6 v7 v8 v9 v11 w' => ∃ (pos:Nat) (ws:List (List Int)) (cur:List Int) (ended blank:Bool) (outs:List (List (List Int))) (N:Nat) (vo:Value),v8 = .bool ended ∧ v9 = .bool blank ∧ Aside0 (text.size - pos ≤ kq) ∧ Aside0 (ans = ((Z3l (isL l) stop (Z3b text pos) ws cur ended blank).map (fun o => outs ++ o)).map (fun o => o.map (fun ws => ws.map encS))) ∧ Aside0 (cur.length + ws.length + outs.length + (Z3b text pos).length ≤ text.size) ∧ Aside0 (∀ r ∈ cur,scalar r) ∧ Aside0 ((cur = [] ∧ ended = false ∧ blank = true) ∨ (0 < cur.length ∧ ended = false ∧ blank = false) ∨ (cur = [] ∧ ended = true ∧ blank = false)) ∧ Aside0 (RdW text w2 w' O it pos ws cur outs N v6 v7 vo))
    case atStart => exact ⟨0,[],[],false,true,[],it + 1,_,rfl,rfl,⟨by omega⟩,⟨by rw [hrun.out,Z2t];simp⟩,⟨by rw [Z2t];have:=Z23 text;simp;omega⟩,⟨by simp⟩,⟨.inl ⟨rfl,rfl,rfl⟩⟩,hst0'⟩
    case round =>
      obtain ⟨pos,ws,cur,ended,blank,outs,N,vo,rfl,rfl,hq,hrem,hcnt,hcur,hstt,HS⟩:=hrel;obtain ⟨A6,c6,e6⟩:=Kd.R_slice HS.out.row6;subst e6;obtain ⟨A7,c7,e7⟩:=Kd.R_slice HS.out.row7;subst e7;obtain ⟨AO,cO,eO⟩:=Kd.R_slice HS.out.rowO;subst eO
      have hBw:Below w.heap.size w wr:=by have h2:=hB1'.out.trans (hB2'.out.mono hB1'.out.size);rw [hO'.out] at h2 ⊢;exact h2.trans HS.out.hB
      by_cases hp:pos < text.size
      · obtain ⟨g1,rfl⟩:∃ g1,gk = g1 + 1:=⟨gk - 1,by have:=hq.out;omega⟩
        have hnx:∀ ty,(Instr.next (.pointer (some ⟨it,0,none⟩)) true ty).run Tryz.prog wr = _:=fun ty => run_next_any_at wr it text pos ty HS.out.hit hp
        have hsc:=Z50 text pos;have hst:=Z34 hp;have hwd:=Z4k hp;obtain ⟨R,hRR⟩:∃ R:Int,((Utf8.decode text pos).1:Int) = R:=⟨_,rfl⟩;rw [hRR] at hsc hst;simp only [hRR] at hnx;obtain ⟨pos2,hp2⟩:∃ p2,pos + (Utf8.decode text pos).2 = p2:=⟨_,rfl⟩;rw [hp2] at hst hnx;have hW:=HS.out.iter pos2;obtain ⟨Wn,hWn⟩:∃ Wn,wr.iterAt it text pos2 = Wn:=⟨_,rfl⟩;rw [hWn] at hW;simp only [hWn] at hnx
        have hBn:Below w.heap.size w Wn:=by have h2:=hB1'.out.trans (hB2'.out.mono hB1'.out.size);rw [hO'.out] at h2 ⊢;exact h2.trans hW.hB
        have hlook:=Z8t.look (w:=Wn) (Z5j hrd'.out.2.2 hBn) R (Z7k hsc);have q30:Wn.cell? ⟨B,30,none⟩ = some (.map (some mb)):=(hBn.cell (World.block_lt_of_cell? _ _ hrd'.out.1)).trans hrd'.out.1;have q31:Wn.cell? ⟨B,31,none⟩ = some (.int .i32 stop):=(hBn.cell (World.block_lt_of_cell? _ _ hrd'.out.2.1)).trans hrd'.out.2.1;have hrem2:=hrem.out;have hcnt2:=hcnt.out;rw [hst] at hrem2 hcnt2;rw [List.length_cons] at hcnt2;skip;have hw':Aside0 (text.size - pos2 ≤ g1):=⟨by have:=hq.out;omega⟩;obtain ⟨RST,hRST⟩:∃ RST,Z3b text pos2 = RST:=⟨_,rfl⟩;have hRST':=am hRST;rw [hRST] at hrem2 hcnt2;have hcnt3:=am hcnt2;obtain ⟨X6,hX6⟩:∃ X,ws.map encS = X:=⟨_,rfl⟩;obtain ⟨XO,hXO⟩:∃ X,outs.map (fun ws => ws.map encS) = X:=⟨_,rfl⟩;have hX6':=am hX6;have hXO':=am hXO;have hX6l:=am (show X6.length = ws.length by rw [← hX6,List.length_map]);have hXOl:=am (show XO.length = outs.length by rw [← hXO,List.length_map]);rw [hX6,hXO] at hW;rw [hX6];have hW':=am hW;have hBn':=am hBn;have hsc':=am hsc;clear hst hsc hwd hp hW hBn hp2 hRR hWn hcnt2 hRST hX6 hXO hBw hcnt hrem;obtain ⟨b1,hb1⟩:∃ b1,isL l R = b1:=⟨_,rfl⟩;rw [hb1] at hlook;rw [Z3l,hb1] at hrem2
        rcases hstt.out with ⟨e1,e2,e3⟩ | ⟨e1,e2,e3⟩ | ⟨e1,e2,e3⟩
        · subst e1 e2 e3
          skip
          cases b1 with
          | true =>
            rw [if_pos ⟨rfl,.inl rfl,by simp⟩] at hrem2;have hrem3:=am hrem2;clear hrem2
            go_wp2_with ((with_reducible refine gate_builtin (b:=.append) (xs:=#[.tmp 45,.tmp 47]) rfl ?_);at_builtin;refine Kd.R_append (Kd.int .i32) (w0:=w2) O rfl (.tmp 45) (.tmp 47) 109 21 (.int .i32 0) 4 rfl Tryz.underlying109 Z6n rfl (by decide) (by omega) (.slice A7 0 c7) ([]:List Int) R [.int .i32 R] (fun _ => True) (fun _ => False) rfl rfl ?aP (fun _ hk => hk.elim) (fun _ _ => trivial) ?aO ?aB ?aS ?aL ?_;(case aP => exact rfl);(case aO => exact hW'.out.row7);(case aB => exact hW'.out.hB);(case aS => have:=hW'.out.hN;have:=hW'.out.hit2;have:=hW'.out.hO2;omega);(case aL => have:=hcnt3.out;have:=hsz'.out;simp <;> omega);intro v7 w5 hr hb hg hat)
            have hW5:=am (hW'.out.letter hr hb hg)
            clear hr hb hg hat
            go_roundg g1
            case measure => omega
            case rel => exact ⟨pos2,ws,([]:List Int) ++ [R],false,false,outs,N,_,rfl,rfl,hw',⟨by rw [hRST'.out];exact hrem3.out⟩,⟨by rw [hRST'.out];have:=hcnt3.out;simp at this ⊢;omega⟩,⟨by intro r hr;rcases List.mem_append.1 hr with h | h;exact hcur.out r h;rw [List.mem_singleton.1 h];exact hsc'.out⟩,⟨.inr (.inl ⟨by simp,rfl,rfl⟩)⟩,hW5⟩
          | false =>
            rw [if_neg (by simp)] at hrem2
            by_cases h32:R = 32
            · have h32b:(R == 32) = true:=beq_iff_eq.2 h32
              exact Zlp
            · have h32b:(R == 32) = false:=beq_eq_false_iff_ne.2 h32
              exact Zlp
        · subst e2 e3
          have e1':(0:Int) < (cur.length:Int):=by omega
          cases b1 with
          | true =>
            by_cases h40:cur.length < 40
            · have h40':(cur.length:Int) < 40:=by omega
              rw [if_pos ⟨rfl,.inr e1,h40⟩] at hrem2;have hrem3:=am hrem2;clear hrem2 h40 e1
              go_wp2_with ((with_reducible refine gate_builtin (b:=.append) (xs:=#[.tmp 45,.tmp 47]) rfl ?_);at_builtin;refine Kd.R_append (Kd.int .i32) (w0:=w2) O rfl (.tmp 45) (.tmp 47) 109 21 (.int .i32 0) 4 rfl Tryz.underlying109 Z6n rfl (by decide) (by omega) (.slice A7 cur.length c7) cur R [.int .i32 R] (fun _ => True) (fun _ => False) rfl rfl ?aP (fun _ hk => hk.elim) (fun _ _ => trivial) ?aO ?aB ?aS ?aL ?_;(case aP => exact rfl);(case aO => exact hW'.out.row7);(case aB => exact hW'.out.hB);(case aS => have:=hW'.out.hN;have:=hW'.out.hit2;have:=hW'.out.hO2;omega);(case aL => have:=hcnt3.out;have:=hsz'.out;simp <;> omega);intro v7 w5 hr hb hg hat)
              have hW5:=am (hW'.out.letter hr hb hg)
              clear hr hb hg hat
              go_roundg g1
              case measure => omega
              case rel => exact ⟨pos2,ws,cur ++ [R],false,false,outs,N,_,rfl,rfl,hw',⟨by rw [hRST'.out];exact hrem3.out⟩,⟨by rw [hRST'.out];have:=hcnt3.out;simp at this ⊢;omega⟩,⟨by intro r hr;rcases List.mem_append.1 hr with h | h;exact hcur.out r h;rw [List.mem_singleton.1 h];exact hsc'.out⟩,⟨.inr (.inl ⟨by simp,rfl,rfl⟩)⟩,hW5⟩
            · have h40':¬ (cur.length:Int) < 40:=by omega
              rw [if_neg (fun h => h40 h.2.2)] at hrem2;clear h40
              by_cases h32:R = 32
              · have h32b:(R == 32) = true:=beq_iff_eq.2 h32
                exact Zln
              · have h32b:(R == 32) = false:=beq_eq_false_iff_ne.2 h32
                exact Zlm
          | false =>
            rw [if_neg (fun h => by cases h.1)] at hrem2
            by_cases h32:R = 32
            · have h32b:(R == 32) = true:=beq_iff_eq.2 h32
              exact Zln
            · have h32b:(R == 32) = false:=beq_eq_false_iff_ne.2 h32
              exact Zlm
        · subst e1 e2 e3
          cases b1 with
          | true =>
            exact Zlo
          | false =>
            exact Zlo
      · have hnx:∀ ty,(Instr.next (.pointer (some ⟨it,0,none⟩)) true ty).run Tryz.prog wr = _:=fun ty => run_next_end_at wr it text pos ty HS.out.hit hp
        have hre:=Z2z hp;have hrem2:=hrem.out;rw [hre,Z3l] at hrem2
        have q0:wr.cell? ⟨O,0,none⟩ = some (.slice AO (outs.map (fun ws => ws.map encS)).length cO):=by rw [blk_cell HS.out.hO];rfl
        have q1:wr.cell? ⟨O + 1,0,none⟩ = some (.bool false):=by rw [blk_cell HS.out.hK];rfl
        have z0:wr.frozen? ⟨O,0,none⟩ = false:=blk_frozen HS.out.hO 0;have z1:wr.frozen? ⟨O + 1,0,none⟩ = false:=blk_frozen HS.out.hK 0;obtain ⟨XO,hXO⟩:∃ X,outs.map (fun ws => ws.map encS) = X:=⟨_,rfl⟩;have hXO':=am hXO;rw [hXO] at q0;have hrem3:=am hrem2;have hBw':=am hBw;clear hre hrem2 hp hXO hBw hrem
        cases ended with
        | true =>
          obtain rfl:ans = some XO:=by rw [hrem3.out,← hXO'.out];simp
          go_wp2
          refine Z8n _ O (.slice AO XO.length cO) (.bool true) (by simp [go_sem,q0,q1]) (by simp [go_sem,q0,q1]) rfl rfl ?_
          have hBz:=(hBw'.out.setCell (p:=⟨O,0,none⟩) Gc35 (.slice AO XO.length cO)).setCell (p:=⟨O + 1,0,none⟩) Gc33 (.bool true)
          have hRz:Kd.R (Kd.slice 9 Kd.string) 31 ((wr.setCell ⟨O,0,none⟩ (.slice AO XO.length cO)).setCell ⟨O + 1,0,none⟩ (.bool true)) w.heap.size (fun _ => True) (.slice AO XO.length cO) XO:=by
            have h1:=Kd.R_mono HS.out.rowO (fun _ _ => trivial);rw [hXO'.out] at h1;have h2:=Kd.R_set h1 HS.out.hO (by decide) 0 (.slice AO XO.length cO);have h3:=Kd.R_set h2 ((Below.heap_setCell _ _ _ _ (by show O + 1 ≠ O;omega)).trans HS.out.hK) (by decide) 0 (.bool true);rw [hO'.out];exact h3
          first | exact ⟨_,_,rfl,⟨rfl,hRz⟩,hBz⟩ | exact ⟨_,rfl,hRz,hBz⟩
        | false =>
          obtain rfl:ans = none:=by rw [hrem3.out];simp
          go_wp2
          refine Z8n _ O (.slice AO XO.length cO) (.bool false) (by simp [go_sem,q0,q1]) (by simp [go_sem,q0,q1]) rfl rfl ?_
          have hBz:=(hBw'.out.setCell (p:=⟨O,0,none⟩) Gc35 (.slice AO XO.length cO)).setCell (p:=⟨O + 1,0,none⟩) Gc33 (.bool false)
          first | exact ⟨_,_,rfl,rfl,hBz⟩ | exact ⟨⟨_,rfl⟩,hBz⟩
end Go.Proofs.YtfbhdjflkaldgaaGreatDoor.Pr

namespace Go.Proofs.YtfbhdjflkaldgaaGreatDoor.Pr
open Go.RowKit Go.Proofs.YtfbhdjflkaldgaaGreatDoorW.PrintWords Go.Proofs.YtfbhdjflkaldgaaGreatDoorW.PrintLast Go.Proofs.YtfbhdjflkaldgaaGreatDoorW.PrintMore
set_option linter.unusedVariables false
def Z4b.f (l0:List S68):Option (List S68):=if l0.length * 8 ≤ 140737488355328 then some l0 else none
theorem Zb5 {p:Prop} (h:p:=by
  have q:∀ (w:World) (a:Option Addr) (n c n' c':Nat),(binOp .eql 22 (.slice a n c) (.slice none n' c')).run Tryz.prog w = .ok (.bool a.isNone) w:=fun w a n c n' c' => Lib.run_eql_slice_nil w _ _ a n c n' c' Tryz.underlying22
  go_enter Tryz.func54,Tryz.ntmps54
  first
  | (have mk_:=mk0_
     go_wp2_with ((with_reducible refine gate_builtin (b:=.append) (xs:=#[.tmp 5,.tmp 6]) rfl ?_);at_builtin;refine Kd.R_append_rows k68 (w0:=w) w.heap.size rfl (.tmp 5) (.tmp 6) 22 68 (.agg #[.int .i32 0,.int .u32 0]) 8 rfl Tryz.underlying22 Z7c rfl (by decide) (by omega) (.slice (some ⟨w.heap.size,0,none⟩) 0 0) [] l0 (some ad) l0.length c0 (fun _ => True) (fun _ => False) rfl rfl ?aO ?aR (fun _ _ h => h) (fun _ h => h.elim) ?aF ?aB ?aS ?aL ?_;(case aR => exact Kd.C_below HR.out HB.out);(case aF => exact fun _ _ => trivial);(case aB => exact HB.out);(case aO => exact HO.out);(case aS => exact HB.out.size);(case aL => have:=HLn.out;simp only [List.length_nil];omega);intro z1_ z2_ ho hb hg hat;have z3_:=Aside0.mk ho;have z4_:=Aside0.mk hb;clear ho hb hg hat)
     go_wp2;go_ret
     exact ⟨_,rfl,z3_.out,z4_.out⟩)
  | (have mk_:=mk1_
     go_wp2;go_ret
     exact ⟨_,rfl,Kd.R_nil _ _ _ _ _,Below.refl _ _⟩)):p:=h
set_option maxHeartbeats 1000000 in
set_option maxRecDepth 100000 in
theorem Z4b.calls (A0:Option Addr) (c0:Nat) (l0 r:List S68) (w:World) (hr0:Kd.C k68 w A0 l0.length l0) (hc0:l0.length ≤ c0) (h:Z4b.f l0 = some r) :
    Calls Tryz.prog 54 #[.slice A0 l0.length c0] w fun e w' => ∃ v0_:Value,e = .returned v0_ ∧ Kd.R k68 68 w' w.heap.size (fun _ => True) v0_ r ∧ Below w.heap.size w w':=by
  unfold Z4b.f at h
  by_cases hl:l0.length * 8 ≤ 140737488355328
  · rw [if_pos hl] at h
    obtain rfl:=Option.some.inj h
    cases A0 with
    | none =>
      have hn:l0 = []:=by
        cases l0 with
        | nil => rfl
        | cons x xs => obtain ⟨ad,he,_⟩:=hr0.2.2 (by simp);cases he
      subst hn;clear h hr0 hc0;have mk1_:=trivial;exact Zb5
    | some ad =>
      have HR:=Aside0.mk hr0;have HC:=Aside0.mk hc0;have HLn:=Aside0.mk hl;have HB:=Aside0.mk ((Below.refl w.heap.size w).alloc (Nat.le_refl _) (.cells #[] 68));have HO:Kd.R k68 68 (w.alloc (.cells #[] 68)) w.heap.size (fun _ => True) (.slice (some ⟨w.heap.size,0,none⟩) 0 0) []:=⟨fun _ _ => trivial,[],World.ownsRow_made w #[] 0 (Nat.le_refl _) (Nat.zero_le _) (by simp),Reps.none _ _⟩;have HO:=Aside0.mk HO;clear hr0 hc0 hl h;have mk0_:=trivial;exact Zb5
  · rw [if_neg hl] at h;cases h
end Go.Proofs.YtfbhdjflkaldgaaGreatDoor.Pr

namespace Go.Proofs.YtfbhdjflkaldgaaGreatDoor.Pr
open Go.Proofs.YtfbhdjflkaldgaaGreatDoor.Ct Go.RowKit Go.Proofs.YtfbhdjflkaldgaaGreatDoorW.PrintWords Go.Proofs.YtfbhdjflkaldgaaGreatDoorW.PrintLast Go.Proofs.YtfbhdjflkaldgaaGreatDoorW.PrintMore
attribute [local go_sem] max2_int min2_int max_two min_two max_three min_three max_four min_four
set_option linter.unusedVariables false
set_option linter.unusedSimpArgs false
def Z2h.f (l0:List (S68)):Option ((List (S68))):=(Z4b.f l0).bind fun t106 => (if t106.length < 17592186044416 then (some (t106 ++ [(⟨61,2147483648⟩:S68)])) else (none))
set_option maxHeartbeats 8000000 in
set_option maxRecDepth 100000 in
theorem Z2h.calls (A0:Option Addr) (c0:Nat) (l0:List (S68)) (r:List (S68)) (w:World) (hr0:Kd.C k68 w A0 l0.length l0) (hc0:l0.length ≤ c0) (h:Z2h.f l0 = some r) :
 Calls Tryz.prog 33 #[.slice A0 l0.length c0] w fun e w' => ∃ v0_:Value,e = .returned (v0_) ∧ Kd.R k68 68 w' w.heap.size (fun _ => True) v0_ r ∧ Below w.heap.size w w':=by
 have hu68:=Tryz.underlying68;have HR0:=am hr0;have HC0:=am hc0;clear hr0 hc0;have HB:=am (Below.refl w.heap.size w);have H:((Z4b.f l0).bind fun t106 => (if t106.length < 17592186044416 then (some (t106 ++ [(⟨61,2147483648⟩:S68)])) else (none))) = some r:=h;clear h;replace H:=bI H;obtain ⟨t106,A2,H⟩:=H;(try dsimp only at H);replace H:=iFn H;obtain ⟨c3,H⟩:=H;have LMc3:=am c3;clear c3;obtain ⟨y109,hy109⟩:∃ y_:List (S68),y_ = (t106 ++ [(⟨61,2147483648⟩:S68)]):=⟨_,rfl⟩
 replace H:(some y109) = some r:=by first | (rw [hy109];with_reducible exact H) | (have H2_:=(Option.bind_some _ _).symm.trans H;rw [hy109];with_reducible exact H2_) | (have H2_:=(Option.bind_some _ _).symm.trans H;with_reducible exact H2_) | with_reducible exact H | (rw [hy109];exact H) | exact H
 have Ny109:=am hy109;clear hy109;obtain rfl:=Option.some.inj H;go_enter Tryz.func33,Tryz.ntmps33
 go_wp2_with (first | ((with_reducible refine gate_callee (f:=54) rfl ?_);refine goesL_ (some 4) rfl rfl Tryz.func54 (by kernel_rfl) rfl #[.slice A0 l0.length c0] rfl Gc2 ?_;(with_reducible refine (Z4b.calls _ _ l0 t106 _ ?s1 HC0.out A2.out).mono ?_);(case s1 => exact Gc3);rintro e w4 ⟨v107,rfl,ho0,hb⟩;refine ⟨_,rfl,?_⟩;have n0_:=am (Kd.R_lower ho0 (tS HB));have n1_:=am (below_step (tB HB) hb);revert n0_ n1_;clear HB;intro HO108 HB;(try clear hb);(try clear hb2);(try clear hk);(try clear hi);(try clear ho0)) | ((with_reducible refine gate_builtin (b:=.append) (xs:=#[.tmp 4,.tmp 6]) rfl ?_);at_builtin;refine Kd.R_append k68 (w0:=w) w.heap.size rfl (.tmp 4) (.tmp 6) 22 68 (.agg #[(.int .i32 0),(.int .u32 0)]) 8 rfl Tryz.underlying22 Z7c rfl (by decide) (by omega) v107 t106 (⟨61,2147483648⟩:S68) [.int .i32 61,.int .u32 2147483648] (fun _ => True) (fun _ => False) rfl rfl ?aP (fun _ hk => hk.elim) ?aF ?aO ?aB ?aS ?aL ?_;(case aP => exact Zhz _ _ _ (⟨61,2147483648⟩:S68));(case aB => exact (tB HB));(case aF => exact Gc25);(case aO => exact (dR HO108));(case aS => exact (tS HB));(case aL => have:=LMc3.out;omega);intro v110 w5 ho hb hg hat;rw [← Ny109.out] at ho;have n0_:=am (hb);have n1_:=am (ho);revert n0_ n1_;clear HB HO108;intro HB HO111;clear ho hb hg hat))
 go_ret;exact ⟨_,tE,by (with_reducible repeat (first | apply Kd.R_alloc | apply Kd.R_drewN | apply Kd.R_drew));exact HO111.out,by repeat (first | (with_reducible first | exact HB.out | apply below_alloc | apply pw_below_drewN | apply below_drew1) | exact HB.out)⟩
mutual
def Z0u.j0:Nat → List (S68) → List (S73) → Bool → Option (Bool)
 | 0,_,_,_ => none
 | k + 1,x0,x1,x20 => if x20 = true then (some false) else ((Z2h.f x0).bind fun t124 => (Z0u.l0 k t124 x1 (x1.length:Int) 0))
def Z0u.l0:Nat → List (S68) → List (S73) → Int → Int → Option (Bool)
 | 0,_,_,_,_ => none
 | k + 1,x5,x23,x24,x25 => if x25 < x24 then (if 0 ≤ x25 then (if x25 < (x23.length:Int) then (if ((Z03 x23 x25).f0) = 61 then (some false) else ((Z2p.f ((Z03 x23 x25).f1) 61).bind fun t129 => (if t129 ≥ 0 then (some false) else ((Z1r.f x5 ((Z03 x23 x25).f0) ((Z03 x23 x25).f1) ((Z03 x23 x25).f2) ((Z03 x23 x25).f3) ((Z03 x23 x25).f4) ((Z03 x23 x25).f5)).bind fun t130 => (if t130 = true then (Z0u.l0 k x5 x23 x24 (wrap64 (x25 + 1))) else (some false)))))) else (none)) else (none)) else (some true)
end
def Z0u.f (k:Nat) (l0:List (S68)) (l1:List (S73)):Option (Bool):=(Z2x.f l0).bind fun t122 => (if t122 = true then ((Z1y.f l0 61).bind fun t123 => (if t123 ≥ 0 then (Z0u.j0 k l0 l1 true) else (Z0u.j0 k l0 l1 (decide ((l1.length:Int) > 64))))) else (Z0u.j0 k l0 l1 true))
theorem Zbs {p:Prop} (h:p:=by
  exact ⟨tE,by repeat (first | (with_reducible first | exact HB.out | apply below_alloc | apply pw_below_drewN | apply below_drew1 | refine below_set ?_ GE128.out) | exact HB.out)⟩):p:=h
theorem Zg8 {p:Prop} (h:p:=by
  obtain rfl:=Option.some.inj H;go_wp2;go_ret
  exact ⟨tE,by repeat (first | (with_reducible first | exact HB.out | apply below_alloc | apply pw_below_drewN | apply below_drew1) | exact HB.out)⟩):p:=h
set_option maxRecDepth 1000000 in
theorem Z7t {p:Prop} (h:p:=by
  have z1_:0 ≤ (x25_2:Int):=oD;have z2_:x25_2 < (l1.length:Int):=oD;obtain ⟨z3_,z4_,z5_,z6_,z7_,z8_,z9_,z10_,z11_,z12_,z13_,z14_,z15_,z16_,z17_,z18_⟩:=Zat HR1.out x25_2 z1_ z2_;cases z8_;replace z9_:=celB HB z9_;replace z10_:=celB HB z10_;replace z11_:=celB HB z11_;replace z12_:=celB HB z12_;replace z13_:=celB HB z13_;replace z14_:=celB HB z14_;have z19_:=am z16_;have z20_:=am z15_;clear z16_ z15_;have z21_:=am z18_;have z22_:=am z17_;clear z18_ z17_;replace z1_:=eq_true z1_;replace z2_:=eq_true z2_
  first
  | (have mk_:=mk0_
     go_wp2_with (first | ((with_reducible refine gate_dst (N:=7) rfl ?_);(try (refine gate_guard (by rfl) ?_;dsimp only));refine box_event ?hg (N:=7) ?hd (cs:=#[.int .i32 0,.string (⟨#[]⟩:ByteArray),.slice none 0 0,.slice none 0 0,.bool false,.bool false]) (t:=73) ?hr ?_;(case hd => rfl);(case hg => rfl);(case hr => exact Gc5);intro z23_ hg z24_ hbox hb;have z25_:=am (Kd.R_below (dR HO_5) hb);have z26_:=am (below_step (tB HB) hb);have z27_:=am (hbox);have z28_:=tZ hg (tS HB);have z29_:=tZ hg (tS HB);revert z25_ z26_ z27_ z28_ z29_;clear HO_5 HB;intro HO_5 HB z30_ z31_ z32_;clear hb hbox hg;have z33_:=cel2 z30_ 0 rfl;have z34_:=cel2 z30_ 1 rfl;have z35_:=cel2 z30_ 2 rfl;have z36_:=cel2 z30_ 3 rfl;have z37_:=cel2 z30_ 4 rfl;have z38_:=cel2 z30_ 5 rfl;have z39_:=blk_frozen z30_.out 0;have z40_:=blk_frozen z30_.out 1;have z41_:=blk_frozen z30_.out 2;have z42_:=blk_frozen z30_.out 3;have z43_:=blk_frozen z30_.out 4;have z44_:=blk_frozen z30_.out 5) | (go_at_call 51;(with_reducible refine (Z2p.calls ((Z03 l1 x25_2).f1) 61 t129 _ A22.out).mono ?_);rintro e w' ⟨rfl,⟨nd,rfl⟩⟩;obtain ⟨z45_,z46_,z47_⟩:=Kd.R_slice HO_5.out;subst z47_) | (go_at_call 52;(with_reducible refine (Z1r.calls _ _ t124 ((Z03 l1 x25_2).f0) ((Z03 l1 x25_2).f1) _ _ ((Z03 l1 x25_2).f2) _ _ ((Z03 l1 x25_2).f3) ((Z03 l1 x25_2).f4) ((Z03 l1 x25_2).f5) true _ ?sT ?s1 ?s2 ?s3 ?s4 ?s5 ?s6 A26.out).mono ?_);(case sT => exact Gc1);(case s1 => refine (Kd.R_reads' (e:=68) (base:=w.heap.size) (ok:=fun k_ => True) (n:=t124.length) (c:=z46_) ?_).2.2;exact Gc6);(case s2 => exact (Kd.R_reads' HO_5.out).2.1);(case s3 => exact Kd.C_below z19_.out (tB HB));(case s4 => exact z20_.out);(case s5 => exact Kd.C_below z21_.out (tB HB));(case s6 => exact z22_.out);rintro e z48_ ⟨rfl,hb⟩;have z25_:=am (Kd.R_below Gc6 hb);have z26_:=am (blk_below (g:=z23_) (o:=.cells #[.int .i32 ((Z03 l1 x25_2).f0),.string ((Z03 l1 x25_2).f1),.slice z4_ ((Z03 l1 x25_2).f2).length z5_,.slice z6_ ((Z03 l1 x25_2).f3).length z7_,.bool ((Z03 l1 x25_2).f4),.bool ((Z03 l1 x25_2).f5)] 73 (0,0)) (tKp z30_) hb);have z27_:=am (below_step (tB HB) hb);revert z25_ z26_ z27_;clear HO_5 z30_ HB;intro HO_5 z30_ HB;(try clear hb);(try clear hb2);(try clear hk);(try clear hi)))
     go_roundg k2
     case measure => have:=HJ2.out;have:=HK2.out;omega
     case rel => exact ⟨(wrap64 (x25_2 + 1)),tV1,H',⟨by have:=HJ2.out;have:=HK2.out;omega⟩,⟨dR HO_5⟩,⟨tB HB⟩⟩)
  | (have mk_:=mk1_
     go_wp2_with (first | ((with_reducible refine gate_dst (N:=7) rfl ?_);(try (refine gate_guard (by rfl) ?_;dsimp only));refine box_event ?hg (N:=7) ?hd (cs:=#[.int .i32 0,.string (⟨#[]⟩:ByteArray),.slice none 0 0,.slice none 0 0,.bool false,.bool false]) (t:=73) ?hr ?_;(case hd => rfl);(case hg => rfl);(case hr => exact Gc5);intro z23_ hg z24_ hbox hb;have z25_:=am (Kd.R_below (dR HO_5) hb);have z26_:=am (below_step (tB HB) hb);have z27_:=am (hbox);have z28_:=tZ hg (tS HB);have z29_:=tZ hg (tS HB);revert z25_ z26_ z27_ z28_ z29_;clear HO_5 HB;intro HO_5 HB z30_ z31_ GE128;clear hb hbox hg;have z32_:=cel2 z30_ 0 rfl;have z33_:=cel2 z30_ 1 rfl;have z34_:=cel2 z30_ 2 rfl;have z35_:=cel2 z30_ 3 rfl;have z36_:=cel2 z30_ 4 rfl;have z37_:=cel2 z30_ 5 rfl;have z38_:=blk_frozen z30_.out 0;have z39_:=blk_frozen z30_.out 1;have z40_:=blk_frozen z30_.out 2;have z41_:=blk_frozen z30_.out 3;have z42_:=blk_frozen z30_.out 4;have z43_:=blk_frozen z30_.out 5) | (go_at_call 51;(with_reducible refine (Z2p.calls ((Z03 l1 x25_2).f1) 61 t129 _ A22.out).mono ?_);rintro e w' ⟨rfl,⟨nd,rfl⟩⟩;obtain ⟨z44_,z45_,z46_⟩:=Kd.R_slice HO_5.out;subst z46_) | (go_at_call 52;(with_reducible refine (Z1r.calls _ _ t124 ((Z03 l1 x25_2).f0) ((Z03 l1 x25_2).f1) _ _ ((Z03 l1 x25_2).f2) _ _ ((Z03 l1 x25_2).f3) ((Z03 l1 x25_2).f4) ((Z03 l1 x25_2).f5) false _ ?sT ?s1 ?s2 ?s3 ?s4 ?s5 ?s6 A26.out).mono ?_);(case sT => exact Gc1);(case s1 => refine (Kd.R_reads' (e:=68) (base:=w.heap.size) (ok:=fun k_ => True) (n:=t124.length) (c:=z45_) ?_).2.2;exact Gc6);(case s2 => exact (Kd.R_reads' HO_5.out).2.1);(case s3 => exact Kd.C_below z19_.out (tB HB));(case s4 => exact z20_.out);(case s5 => exact Kd.C_below z21_.out (tB HB));(case s6 => exact z22_.out);rintro e z47_ ⟨rfl,hb⟩;have z25_:=am (Kd.R_below Gc6 hb);have z26_:=am (blk_below (g:=z23_) (o:=.cells #[.int .i32 ((Z03 l1 x25_2).f0),.string ((Z03 l1 x25_2).f1),.slice z4_ ((Z03 l1 x25_2).f2).length z5_,.slice z6_ ((Z03 l1 x25_2).f3).length z7_,.bool ((Z03 l1 x25_2).f4),.bool ((Z03 l1 x25_2).f5)] 73 (0,0)) (tKp z30_) hb);have z27_:=am (below_step (tB HB) hb);revert z25_ z26_ z27_;clear HO_5 z30_ HB;intro HO_5 z30_ HB;(try clear hb);(try clear hb2);(try clear hk);(try clear hi)))
     go_ret
     exact Zbs)
  | (have mk_:=mk2_
     go_wp2_with (first | ((with_reducible refine gate_dst (N:=7) rfl ?_);(try (refine gate_guard (by rfl) ?_;dsimp only));refine box_event ?hg (N:=7) ?hd (cs:=#[.int .i32 0,.string (⟨#[]⟩:ByteArray),.slice none 0 0,.slice none 0 0,.bool false,.bool false]) (t:=73) ?hr ?_;(case hd => rfl);(case hg => rfl);(case hr => exact Gc5);intro z23_ hg z24_ hbox hb;have z25_:=am (Kd.R_below (dR HO_5) hb);have z26_:=am (below_step (tB HB) hb);have z27_:=am (hbox);have z28_:=tZ hg (tS HB);have z29_:=tZ hg (tS HB);revert z25_ z26_ z27_ z28_ z29_;clear HO_5 HB;intro HO_5 HB z30_ z31_ GE128;clear hb hbox hg;have z32_:=cel2 z30_ 0 rfl;have z33_:=cel2 z30_ 1 rfl;have z34_:=cel2 z30_ 2 rfl;have z35_:=cel2 z30_ 3 rfl;have z36_:=cel2 z30_ 4 rfl;have z37_:=cel2 z30_ 5 rfl;have z38_:=blk_frozen z30_.out 0;have z39_:=blk_frozen z30_.out 1;have z40_:=blk_frozen z30_.out 2;have z41_:=blk_frozen z30_.out 3;have z42_:=blk_frozen z30_.out 4;have z43_:=blk_frozen z30_.out 5) | (go_at_call 51;(with_reducible refine (Z2p.calls ((Z03 l1 x25_2).f1) 61 t129 _ A22.out).mono ?_);rintro e w' ⟨rfl,⟨nd,rfl⟩⟩))
     go_ret
     exact Zbs)
  | (have mk_:=mk3_
     go_wp2_with (first | ((with_reducible refine gate_dst (N:=7) rfl ?_);(try (refine gate_guard (by rfl) ?_;dsimp only));refine box_event ?hg (N:=7) ?hd (cs:=#[.int .i32 0,.string (⟨#[]⟩:ByteArray),.slice none 0 0,.slice none 0 0,.bool false,.bool false]) (t:=73) ?hr ?_;(case hd => rfl);(case hg => rfl);(case hr => exact Gc5);intro z23_ hg z24_ hbox hb;have z25_:=am (Kd.R_below (dR HO_5) hb);have z26_:=am (below_step (tB HB) hb);have z27_:=am (hbox);have z28_:=tZ hg (tS HB);have z29_:=tZ hg (tS HB);revert z25_ z26_ z27_ z28_ z29_;clear HO_5 HB;intro HO_5 HB z30_ z31_ GE128;clear hb hbox hg;have z32_:=cel2 z30_ 0 rfl;have z33_:=cel2 z30_ 1 rfl;have z34_:=cel2 z30_ 2 rfl;have z35_:=cel2 z30_ 3 rfl;have z36_:=cel2 z30_ 4 rfl;have z37_:=cel2 z30_ 5 rfl;have z38_:=blk_frozen z30_.out 0;have z39_:=blk_frozen z30_.out 1;have z40_:=blk_frozen z30_.out 2;have z41_:=blk_frozen z30_.out 3;have z42_:=blk_frozen z30_.out 4;have z43_:=blk_frozen z30_.out 5))
     go_ret
     exact Zbs)):p:=h
theorem Zcq {p:Prop} (h:p:=by
  clear c7
  (first | rw [c7b0] | (simp only [i64_w,i32_w];rw [c7b0]) | skip)
  have H':=am H;clear H
  go_wp2_with (first | ((with_reducible refine gate_callee (f:=50) rfl ?_);refine goesL_ (some 9) rfl rfl Tryz.func50 (by kernel_rfl) rfl #[.slice A0 l0.length c0] rfl Gc2 ?_;(with_reducible refine (Z2x.calls _ _ l0 true _ (tC HR0 HB) HC0.out A4.out).mono ?_);rintro e z1_ ⟨rfl,hb⟩;refine ⟨_,rfl,?_⟩;have z2_:=am (below_step (tB HB) hb);revert z2_;clear HB;intro HB;(try clear hb);(try clear hb2);(try clear hk);(try clear hi)) | (go_at_call 31;(with_reducible refine (Z1y.calls _ _ l0 61 t123 _ (tC HR0 HB) HC0.out A6.out).mono ?_);rintro e z3_ ⟨rfl,hb⟩;have z2_:=am (below_step (tB HB) hb);revert z2_;clear HB;intro HB;(try clear hb);(try clear hb2);(try clear hk);(try clear hi)))
  go_meet
  first
  | (have mk_:=mk0_
     case rel => exact ⟨_,(decide ((l1.length:Int) > 64)),tV1,H',⟨tU⟩,⟨tB HB⟩⟩)
  | (have mk_:=mk1_
     case rel => exact ⟨_,(true),tV1,H',⟨tU⟩,⟨tB HB⟩⟩)):p:=h
set_option maxHeartbeats 8000000 in
set_option maxRecDepth 100000 in
theorem Z0u.calls (k:Nat) (A0:Option Addr) (c0:Nat) (l0:List (S68)) (A1:Option Addr) (c1:Nat) (l1:List (S73)) (r:Bool) (w:World) (hT:Tabs w) (hr0:Kd.C k68 w A0 l0.length l0) (hc0:l0.length ≤ c0) (hr1:Kd.C k73 w A1 l1.length l1) (hc1:l1.length ≤ c1) (h:Z0u.f k l0 l1 = some r) :
 Calls Tryz.prog 30 #[.slice A0 l0.length c0,.slice A1 l1.length c1] w fun e w' => e = .returned (.bool r) ∧ Below w.heap.size w w':=by
 have HT:=am hT;clear hT;have hu73:=Tryz.underlying73;have HR0:=am hr0;have HC0:=am hc0;clear hr0 hc0;have HR1:=am hr1;have HC1:=am hc1;clear hr1 hc1;have HB:=am (Below.refl w.heap.size w);have H:((Z2x.f l0).bind fun t122 => (if t122 = true then ((Z1y.f l0 61).bind fun t123 => (if t123 ≥ 0 then (Z0u.j0 k l0 l1 true) else (Z0u.j0 k l0 l1 (decide ((l1.length:Int) > 64))))) else (Z0u.j0 k l0 l1 true))) = some r:=h;clear h;have HC3:=am H;clear H;go_enter Tryz.func30,Tryz.ntmps30
 go_upto_region 1 with (fail)
 go_cut [20] (fun v20 wc => ∃ (kq:Nat) (x20_2:Bool),v20 = .bool x20_2 ∧ Aside0 (Z0u.j0 kq l0 l1 x20_2 = some r) ∧ Aside0 (kq ≤ k) ∧ Aside0 (Below w.heap.size w wc))
 case first =>
  have H:=HC3.out;clear HC3;replace H:=bI H;obtain ⟨t122,A4,H⟩:=H;(try dsimp only at H)
  replace H:=iT H;obtain ⟨rfl,H⟩ | ⟨rfl,H⟩:=H
  ·
   replace H:=bI H;obtain ⟨t123,A6,H⟩:=H;(try dsimp only at H)
   replace H:=iF H;obtain ⟨c7,H⟩ | ⟨c7,H⟩:=H
   ·
    have c7b0:decide (0 ≤ t123) = true:=decide_eq_true c7;have mk1_:=trivial;exact Zcq
   ·
    have c7b0:decide (0 ≤ t123) = false:=decide_eq_false c7;have mk0_:=trivial;exact Zcq
  ·
   have H':=am H;clear H
   go_wp2_with (first | ((with_reducible refine gate_callee (f:=50) rfl ?_);refine goesL_ (some 9) rfl rfl Tryz.func50 (by kernel_rfl) rfl #[.slice A0 l0.length c0] rfl Gc2 ?_;(with_reducible refine (Z2x.calls _ _ l0 false _ (tC HR0 HB) HC0.out A4.out).mono ?_);rintro e w12 ⟨rfl,hb⟩;refine ⟨_,rfl,?_⟩;have n0_:=am (below_step (tB HB) hb);revert n0_;clear HB;intro HB;(try clear hb);(try clear hb2);(try clear hk);(try clear hi)))
   go_meet
   case rel => exact ⟨_,(true),tV1,H',⟨tU⟩,⟨tB HB⟩⟩
 case rest =>
  clear HC3;obtain ⟨kq,x20_2,rfl,HA,HJ2,HB⟩:=hcut
  cases kq with
  | zero => exact absurd HA.out (by simp [Z0u.j0])
  | succ kj2 =>
   have H:=HA.out;clear HA;simp only [Z0u.j0] at H
   replace H:=iT H;obtain ⟨rfl,H⟩ | ⟨rfl,H⟩:=H
   ·
    exact Zg8
   ·
    replace H:=bI H;obtain ⟨t124,A14,H⟩:=H;(try dsimp only at H);have H':=am H;clear H
    go_wp2_with (first | ((with_reducible refine gate_callee (f:=33) rfl ?_);refine goesL_ (some 22) rfl rfl Tryz.func33 (by kernel_rfl) rfl #[.slice A0 l0.length c0] rfl Gc2 ?_;(with_reducible refine (Z2h.calls _ _ l0 t124 _ (tC HR0 HB) HC0.out A14.out).mono ?_);rintro e w15 ⟨v125,rfl,ho0,hb⟩;refine ⟨_,rfl,?_⟩;have n0_:=am (Kd.R_lower ho0 (tS HB));have n1_:=am (below_step (tB HB) hb);revert n0_ n1_;clear HB;intro HO126 HB;(try clear hb);(try clear hb2);(try clear hk);(try clear hi);(try clear ho0)))
    go_loopg [25] kj2 (fun kq v25 w' => ∃ (x25_2:Int),v25 = .int .i64 x25_2 ∧ Aside0 (Z0u.l0 kq t124 l1 (l1.length:Int) x25_2 = some r) ∧ Aside0 (kq ≤ kj2) ∧ Aside0 (Kd.R k68 68 w' w.heap.size (fun _ => True) v125 t124) ∧ Aside0 (Below w.heap.size w w'))
    case atStart => exact ⟨(0),tV1,H',⟨Nat.le_refl _⟩,⟨dR HO126⟩,⟨tB HB⟩⟩
    case round =>
     clear H';(try clear c13);obtain ⟨x25_2,rfl,HA,HK2,HO_5,HB⟩:=hrel
     cases gk with
     | zero => exact absurd HA.out (by simp [Z0u.l0])
     | succ k2 =>
      have H:=HA.out;clear HA;simp only [Z0u.l0] at H
      replace H:=iF H;obtain ⟨c16,H⟩ | ⟨c16,H⟩:=H;rotate_left
      ·
       have c16b0:decide (x25_2 < (l1.length:Int)) = false:=decide_eq_false c16;clear c16;exact Zg8
      have c16b0:decide (x25_2 < (l1.length:Int)) = true:=decide_eq_true c16;clear c16;replace H:=iFn H;obtain ⟨c17,H⟩:=H;have c17b0:decide (0 ≤ x25_2) = true:=decide_eq_true c17;clear c17;replace H:=iFn H;obtain ⟨c18,H⟩:=H;have c18b0:decide (x25_2 < (l1.length:Int)) = true:=decide_eq_true c18;clear c18
      replace H:=iE H;obtain ⟨-,c19b0,c19b1,H⟩ | ⟨c19,c19b0,c19b1,H⟩:=H
      ·
       obtain rfl:=Option.some.inj H;have mk3_:=trivial;exact Z7t
      ·
       replace H:=bI H;obtain ⟨t129,A22,H⟩:=H;(try dsimp only at H)
       replace H:=iF H;obtain ⟨c23,H⟩ | ⟨c23,H⟩:=H
       ·
        have c23b0:decide (0 ≤ t129) = true:=decide_eq_true c23;clear c23;obtain rfl:=Option.some.inj H;have mk2_:=trivial;exact Z7t
       ·
        have c23b0:decide (0 ≤ t129) = false:=decide_eq_false c23;clear c23;replace H:=bI H;obtain ⟨t130,A26,H⟩:=H;(try dsimp only at H)
        replace H:=iT H;obtain ⟨rfl,H⟩ | ⟨rfl,H⟩:=H
        ·
         have H':=am H;clear H;have mk0_:=trivial;exact Z7t
        ·
         obtain rfl:=Option.some.inj H;have mk1_:=trivial;exact Z7t
end Go.Proofs.YtfbhdjflkaldgaaGreatDoor.Pr
