/- Several texts in one: PatN, PatL, PrF104, CloneI. -/
import Derived.Test.YtfbhdjflkaldgaaGreatDoorMg4
import Derived.Deep.OwnRows
import Derived.Test.YtfbhdjflkaldgaaGreatDoorMg1
import Derived.Test.YtfbhdjflkaldgaaGreatDoorMg2
import Derived.Test.YtfbhdjflkaldgaaGreatDoorMg3
import Derived.WalkKit
import Derived.Lib.Walk
import Derived.Lib.SliceRun
/- pattern.machine. -/
/- pattern.lengths. -/
/- slices.Clone at items: a new row of the same elements. -/
namespace Go.Proofs.YtfbhdjflkaldgaaGreatDoor.Pr
open Go.Proofs.YtfbhdjflkaldgaaGreatDoor.Ct Go.RowKit Go.Maps Go.Lib Go.Proofs.YtfbhdjflkaldgaaGreatDoorW.PrintWords Go.Proofs.YtfbhdjflkaldgaaGreatDoorW.PrintLast Go.Proofs.YtfbhdjflkaldgaaGreatDoorW.PrintMore
set_option linter.unusedVariables false
set_option linter.unusedSimpArgs false
theorem Z6x {w w':World} {b n:Nat} {t:TypeId} {f:Nat → Value} (h:w.rowIs b t n f) (hb:Below w.heap.size w w'):w'.rowIs b t n f:=h.of_block (hb.block b h.lt)
structure Mach (n m n0:Nat) (A1:Option Addr) (c1:Nat) (T:Nat → Nat → Bool) (w w':World) (k:Nat) (f:Nat → Nat) (F:Nat → Value):Prop where
  h0:w'.cell? ⟨n0,0,none⟩ = some (.slice A1 n c1)
  h2:w'.cell? ⟨n0 + 1 + 1,0,none⟩ = some (.slice (some ⟨n0 + 1,0,none⟩) n n)
  h1:w'.rowIs (n0 + 1) 170 n F
  hf:∀ j,j < k → n0 + 2 < f j ∧ w'.rowIs (f j) 4 m (fun i => .bool (T j i))
  hS:n0 + 3 ≤ w'.heap.size
  HB:Below n0 w w'
theorem Mach.below {n m n0:Nat} {A1:Option Addr} {c1:Nat} {T:Nat → Nat → Bool} {w w1 w2:World} {k:Nat} {f:Nat → Nat} {F:Nat → Value} (h:Mach n m n0 A1 c1 T w w1 k f F) (hb:Below w1.heap.size w1 w2):Mach n m n0 A1 c1 T w w2 k f F :=
  ⟨(hb.cell (World.block_lt_of_cell? _ _ h.h0)).trans h.h0,(hb.cell (World.block_lt_of_cell? _ _ h.h2)).trans h.h2,Z6x h.h1 hb,fun j hj => ⟨(h.hf j hj).1,Z6x (h.hf j hj).2 hb⟩,Nat.le_trans h.hS hb.size,h.HB.trans (hb.mono (by have:=h.hS;omega))⟩
theorem Mach.alloc {n m n0:Nat} {A1:Option Addr} {c1:Nat} {T:Nat → Nat → Bool} {w w1:World} {k:Nat} {f:Nat → Nat} {F:Nat → Value} (h:Mach n m n0 A1 c1 T w w1 k f F) (o:Obj):Mach n m n0 A1 c1 T w (w1.alloc o) k f F :=
  h.below ((Below.refl _ _).alloc (Nat.le_refl _) o)
theorem Mach.drew {n m n0:Nat} {A1:Option Addr} {c1:Nat} {T:Nat → Nat → Bool} {w w1:World} {k:Nat} {f:Nat → Nat} {F:Nat → Value} (h:Mach n m n0 A1 c1 T w w1 k f F):Mach n m n0 A1 c1 T w w1.drew k f F:=⟨h.h0,h.h2,h.h1,h.hf,h.hS,h.HB.drew⟩
theorem Mach.row {n m n0:Nat} {A1:Option Addr} {c1:Nat} {T:Nat → Nat → Bool} {w w1:World} {k:Nat} {f:Nat → Nat} {F:Nat → Value} (h:Mach n m n0 A1 c1 T w w1 k f F) (g o:Nat) (v:Value) (hg:n0 + 2 < g) (hne:∀ j,j < k → f j ≠ g):Mach n m n0 A1 c1 T w (w1.setCell ⟨g,o,none⟩ v) k f F :=
  ⟨(World.cell?_setCell_far _ _ _ _ (by show g ≠ n0;omega)).trans h.h0,(World.cell?_setCell_far _ _ _ _ (by show g ≠ n0 + 1 + 1;omega)).trans h.h2,h.h1.setOther (by show n0 + 1 ≠ g;omega) v,fun j hj => ⟨(h.hf j hj).1,(h.hf j hj).2.setOther (hne j hj) v⟩,by simpa [World.setCell] using h.hS,h.HB.setCell (p:=⟨g,o,none⟩) (by show n0 ≤ g;omega) v⟩
theorem Mach.table {n m n0:Nat} {A1:Option Addr} {c1:Nat} {T:Nat → Nat → Bool} {w w1:World} {k:Nat} {f:Nat → Nat} {F:Nat → Value} (h:Mach n m n0 A1 c1 T w w1 k f F) (o:Nat) (v:Value):Mach n m n0 A1 c1 T w (w1.setCell ⟨n0 + 1,o,none⟩ v) k f (fun j => if j = o then v else F j) :=
  ⟨(World.cell?_setCell_far _ _ _ _ (by show n0 + 1 ≠ n0;omega)).trans h.h0,(World.cell?_setCell_far _ _ _ _ (by show n0 + 1 ≠ n0 + 1 + 1;omega)).trans h.h2,h.h1.set o v,fun j hj => ⟨(h.hf j hj).1,(h.hf j hj).2.setOther (by show f j ≠ n0 + 1;have:=(h.hf j hj).1;omega) v⟩,by simpa [World.setCell] using h.hS,h.HB.setCell (p:=⟨n0 + 1,o,none⟩) (by show n0 ≤ n0 + 1;omega) v⟩
theorem Mach.next {n m n0:Nat} {A1:Option Addr} {c1:Nat} {T:Nat → Nat → Bool} {w w1:World} {k:Nat} {f:Nat → Nat} {F:Nat → Value} (h:Mach n m n0 A1 c1 T w w1 k f F) (R:Nat) (hR:n0 + 2 < R) (hr:w1.rowIs R 4 m (fun i => .bool (T k i))):Mach n m n0 A1 c1 T w w1 (k + 1) (fun j => if j = k then R else f j) F :=
  ⟨h.h0,h.h2,h.h1,fun j hj => by
    by_cases e:j = k
    · subst e;simp only [if_true];exact ⟨hR,hr⟩
    · simp only [if_neg e];exact h.hf j (by omega),h.hS,h.HB⟩
set_option maxRecDepth 100000 in
set_option maxHeartbeats 1000000 in
theorem Zbo (A0:Option Addr) (c0:Nat) (l0:List S68) (A1:Option Addr) (c1:Nat) (l1:List S70) (w:World) (hr0:Kd.C k68 w A0 l0.length l0) (hc0:l0.length ≤ c0) (hr1:Kd.C k70 w A1 l1.length l1) (hc1:l1.length ≤ c1) (hl:l1.length ≤ 3) (hm:l0.length ≤ 65) (hsz:Z37 l1 = true) :
    Calls Tryz.prog 114 #[.slice A0 l0.length c0,.slice A1 l1.length c1] w fun e w' => ∃ B1,e = .returned (.func (.func 118) #[] #[.pointer (some ⟨w.heap.size,0,none⟩),.pointer (some ⟨w.heap.size + 2,0,none⟩)]) ∧ w'.cell? ⟨w.heap.size,0,none⟩ = some (.slice A1 l1.length c1) ∧ w'.cell? ⟨w.heap.size + 2,0,none⟩ = some (.slice (some ⟨B1,0,none⟩) l1.length l1.length) ∧ Z9m w' B1 l1.length l0.length (admT l0 l1) ∧ Below w.heap.size w w':=by
  have HR0:=am hr0;have HC0:=am hc0;have HR1:=am hr1;have HC1:=am hc1;have HL:=am hl;have HM:=am hm;have HZ:=am hsz;clear hr0 hc0 hr1 hc1 hl hm hsz
  have hmk1:=fun W => run_make_row' (P:=Tryz.prog) 169 170 (.slice none 0 0) 24 Tryz.underlying169 Zlw rfl .i64 .i64 l1.length (by have:=HL.out;omega) (by have:=HL.out;omega) W
  have hmk2:=fun W => run_make_row' (P:=Tryz.prog) 170 4 (.bool false) 1 Tryz.underlying170 info4 rfl .i64 .i64 l0.length (by have:=HM.out;omega) (by have:=HM.out;omega) W
  go_enter Tryz.func114,Tryz.ntmps114;go_wp2;have hX0:((((w.alloc (.cells #[.slice A1 l1.length c1] 71)).alloc (.cells (madeCells #[.slice none 0 0] l1.length) 170)).alloc (.cells #[.slice (some ⟨w.heap.size + 1,0,none⟩) l1.length l1.length] 169))).cell? ⟨w.heap.size,0,none⟩ = some (.slice A1 l1.length c1):=Z2i _ (Z2i _ (Z2c w _ _ 0 _ rfl))
  have hX2:((((w.alloc (.cells #[.slice A1 l1.length c1] 71)).alloc (.cells (madeCells #[.slice none 0 0] l1.length) 170)).alloc (.cells #[.slice (some ⟨w.heap.size + 1,0,none⟩) l1.length l1.length] 169))).cell? ⟨w.heap.size + 2,0,none⟩ = some (.slice (some ⟨w.heap.size + 1,0,none⟩) l1.length l1.length):=by
    have:=Z2c ((w.alloc (.cells #[.slice A1 l1.length c1] 71)).alloc (.cells (madeCells #[.slice none 0 0] l1.length) 170)) #[.slice (some ⟨w.heap.size + 1,0,none⟩) l1.length l1.length] 169 0 _ rfl
    simpa using this
  have hX1:((((w.alloc (.cells #[.slice A1 l1.length c1] 71)).alloc (.cells (madeCells #[.slice none 0 0] l1.length) 170)).alloc (.cells #[.slice (some ⟨w.heap.size + 1,0,none⟩) l1.length l1.length] 169))).rowIs (w.heap.size + 1) 170 l1.length (fun _ => .slice none 0 0):=by
    have:=(World.rowIs_made (w.alloc (.cells #[.slice A1 l1.length c1] 71)) (.slice none 0 0) l1.length 170).alloc (.cells #[.slice (some ⟨w.heap.size + 1,0,none⟩) l1.length l1.length] 169)
    simpa using this
  have hXB:Below w.heap.size w ((((w.alloc (.cells #[.slice A1 l1.length c1] 71)).alloc (.cells (madeCells #[.slice none 0 0] l1.length) 170)).alloc (.cells #[.slice (some ⟨w.heap.size + 1,0,none⟩) l1.length l1.length] 169))):=(((Below.refl _ w).alloc (Nat.le_refl _) _).alloc (by simp) _).alloc (by simp;omega) _
  have hXS:((((w.alloc (.cells #[.slice A1 l1.length c1] 71)).alloc (.cells (madeCells #[.slice none 0 0] l1.length) 170)).alloc (.cells #[.slice (some ⟨w.heap.size + 1,0,none⟩) l1.length l1.length] 169))).heap.size = w.heap.size + 3:=by simp
  obtain ⟨WX,hWX⟩:∃ WX,((((w.alloc (.cells #[.slice A1 l1.length c1] 71)).alloc (.cells (madeCells #[.slice none 0 0] l1.length) 170)).alloc (.cells #[.slice (some ⟨w.heap.size + 1,0,none⟩) l1.length l1.length] 169))) = WX:=⟨_,rfl⟩;rw [hWX] at hX0 hX1 hX2 hXB hXS ⊢;have hX0':=am hX0;have hX1':=am hX1;have hX2':=am hX2;have hXB':=am hXB;have hXS':=am hXS;clear hX0 hX1 hX2 hXB hXS hWX;have hM0:Mach l1.length l0.length w.heap.size A1 c1 (admT l0 l1) w WX 0 (fun _ => 0) (fun _ => .slice none 0 0):=⟨hX0'.out,hX2'.out,hX1'.out,fun j h => absurd h (by omega),by have:=hXS'.out;omega,hXB'.out⟩;have hM0':=am hM0;clear hM0 hX0' hX1' hX2' hXB' hXS'
  go_loopg [15] l1.length (fun kq v15 w' => ∃ (k:Nat) (f:Nat → Nat),v15 = .int .i64 (k:Int) ∧ Aside0 (k + kq = l1.length) ∧ Aside0 (Mach l1.length l0.length w.heap.size A1 c1 (admT l0 l1) w w' k f (fun j => if j < k then .slice (some ⟨f j,0,none⟩) l0.length l0.length else .slice none 0 0)))
  case atStart => exact ⟨0,fun _ => 0,rfl,⟨by omega⟩,⟨by simpa using hM0'.out⟩⟩
  case round =>
    obtain ⟨k,f,rfl,hk,HM1⟩:=hrel;have HB:=am HM1.out.HB
    cases gk with
    | zero =>
      have h3:¬ ((k:Int) < (l1.length:Int)):=by have:=hk.out;omega
      have hmf:∀ W a b,(Instr.makeFunc (.func 118) #[] #[a,b]).run Tryz.prog W = .ok (.func (.func 118) #[] #[a,b]) W:=by intro W a b;rfl
      go_wp2;go_ret
      obtain rfl:k = l1.length:=by have:=hk.out;omega
      refine ⟨rfl,HM1.out.h0,w.heap.size + 1,HM1.out.h2,⟨f,fun j hj => ⟨?_,fun i hi => ?_⟩⟩,HM1.out.HB⟩
      · have:=HM1.out.h1.cell hj
        simpa [hj] using this
      · exact (HM1.out.hf j hj).2.cell hi
    | succ g1 =>
      have h3:(k:Int) < (l1.length:Int):=by have:=hk.out;omega
      have h4:0 ≤ (k:Int):=by omega
      obtain ⟨ad,hA,hx0,hx1,hx2,hx3⟩:=Z5x HR1.out (k:Int) h4 h3;subst hA;rw [Int.toNat_natCast] at hx0 hx1 hx2 hx3;replace hx0:=(HB.out.cell (World.block_lt_of_cell? _ _ hx0)).trans hx0;replace hx1:=(HB.out.cell (World.block_lt_of_cell? _ _ hx1)).trans hx1;replace hx2:=(HB.out.cell (World.block_lt_of_cell? _ _ hx2)).trans hx2;replace hx3:=(HB.out.cell (World.block_lt_of_cell? _ _ hx3)).trans hx3
      have hFm:∀ i,admT l0 l1 k i = admP (Z16 l1 (k:Int)) (Z0v l0 (i:Int)):=fun _ => rfl
      have hsz:(Z16 l1 (k:Int)).f1.size ≤ 1099511627776:=of_decide_eq_true (List.all_eq_true.1 HZ.out _ (Zbm l1 k (by omega)));obtain ⟨X,hX⟩:∃ X,Z16 l1 (k:Int) = X:=⟨_,rfl⟩;obtain ⟨X0,X1,X2,X3⟩:=X;rw [hX] at hx0 hx1 hx2 hx3 hFm hsz;dsimp only at hx0 hx1 hx2 hx3 hsz;have h2W:=Z2i (.cells #[.int .u32 X0,.string X1,.bool X2,.bool X3] 70) HM1.out.h2;have hFm':=am hFm;have hsz':=am hsz;clear hX hFm hsz;go_wp2;obtain ⟨W1,hW1⟩:∃ W1,wr.alloc (.cells #[.int .u32 X0,.string X1,.bool X2,.bool X3] 70) = W1:=⟨_,rfl⟩
      have HMW:Mach l1.length l0.length w.heap.size (some ad) c1 (admT l0 l1) w W1 k f (fun j => if j < k then .slice (some ⟨f j,0,none⟩) l0.length l0.length else .slice none 0 0):=by rw [← hW1];exact HM1.out.alloc _
      have hXW:W1.cell? ⟨wr.heap.size,0,none⟩ = some (.int .u32 X0) ∧ W1.cell? ⟨wr.heap.size,1,none⟩ = some (.string X1) ∧ W1.cell? ⟨wr.heap.size,2,none⟩ = some (.bool X2) ∧ W1.cell? ⟨wr.heap.size,3,none⟩ = some (.bool X3):=by rw [← hW1];exact ⟨Z2c _ _ _ 0 _ rfl,Z2c _ _ _ 1 _ rfl,Z2c _ _ _ 2 _ rfl,Z2c _ _ _ 3 _ rfl⟩
      have hgw:wr.heap.size < W1.heap.size ∧ w.heap.size + 3 ≤ wr.heap.size:=⟨by rw [← hW1];simp,HM1.out.hS⟩;rw [hW1] at h2W ⊢
      have hc:(W1.alloc (.cells (madeCells #[.bool false] l0.length) 4)).cell? ⟨w.heap.size + 1,k,none⟩ = some (.slice none 0 0):=by
        have:=(HMW.h1.alloc (.cells (madeCells #[.bool false] l0.length) 4)).cell (i:=k) (by have:=hk.out;omega)
        simpa using this
      have hfz:(W1.alloc (.cells (madeCells #[.bool false] l0.length) 4)).frozen? ⟨w.heap.size + 1,k,none⟩ = false:=(HMW.h1.alloc _).frozen k
      refine start_ (n:=7) (S:=fun w' => w'.cell? ⟨w.heap.size + 1 + 1,0,none⟩ = some (.slice (some ⟨w.heap.size + 1,0,none⟩) l1.length l1.length)) (ds:=[]) #[false,false,false,false,false,false,false] (by kernel_rfl) rfl rfl (h2W) (fun hHeld => ?_)
      refine pK 1 21 ?_
      refine pK 2 22 ?_
      refine pK 3 23 ?_
      refine tKt 0 20 hHeld ?_
      refine one_ (i:=4) (N:=some 24) #[true,true,true,true,true,false,false] rfl rfl (by kernel_rfl) (by decide) (fun K hK => ?_)
      refine value_ (w1:=?_) (v:=?_) (by rfl) rfl ?_ ?_
      rotate_left 2
      · go_simp
        constructor
        · rfl
        · rfl
      refine hK.out _ _ (Z2i _ h2W) (fun hHeld => ?_)
      clear hK K
      refine nR 24 ?_
      refine pK 5 25 ?_
      refine one_ (i:=6) (N:=none) #[true,true,true,true,true,true,true] rfl rfl (by kernel_rfl) (by decide) (fun K hK => ?_)
      refine skip_ (w1:=?_) (by rfl) rfl ?_ ?_
      rotate_left
      · go_simp
        rfl
      refine hK.out _ _ ((World.cell?_setCell_far _ _ _ _ (by simp)).trans (Z2i _ h2W)) (fun hHeld => ?_)
      clear hK K
      refine done_ (by kernel_rfl) ?_
      have HM2:=(HMW.alloc (.cells (madeCells #[.bool false] l0.length) 4)).table k (.slice (some ⟨W1.heap.size,0,none⟩) l0.length l0.length);have hrow2:(((W1.alloc (.cells (madeCells #[.bool false] l0.length) 4))).setCell ⟨w.heap.size + 1,k,none⟩ (.slice (some ⟨W1.heap.size,0,none⟩) l0.length l0.length)).rowIs W1.heap.size 4 l0.length (fun _ => .bool false):=(World.rowIs_made W1 (.bool false) l0.length 4).setOther (by show W1.heap.size ≠ w.heap.size + 1;have:=HMW.hS;omega) _;obtain ⟨W2,hW2⟩:∃ W2,(((W1.alloc (.cells (madeCells #[.bool false] l0.length) 4))).setCell ⟨w.heap.size + 1,k,none⟩ (.slice (some ⟨W1.heap.size,0,none⟩) l0.length l0.length)) = W2:=⟨_,rfl⟩;rw [hW2] at HM2 hrow2 ⊢
      have hX2:W2.cell? ⟨wr.heap.size,0,none⟩ = some (.int .u32 X0) ∧ W2.cell? ⟨wr.heap.size,1,none⟩ = some (.string X1) ∧ W2.cell? ⟨wr.heap.size,2,none⟩ = some (.bool X2) ∧ W2.cell? ⟨wr.heap.size,3,none⟩ = some (.bool X3):=by
        rw [← hW2]
        have hne:w.heap.size + 1 ≠ wr.heap.size:=by have:=hgw.2;omega
        exact ⟨(World.cell?_setCell_far _ _ _ _ hne).trans (Z2i _ hXW.1),(World.cell?_setCell_far _ _ _ _ hne).trans (Z2i _ hXW.2.1),(World.cell?_setCell_far _ _ _ _ hne).trans (Z2i _ hXW.2.2.1),(World.cell?_setCell_far _ _ _ _ hne).trans (Z2i _ hXW.2.2.2)⟩
      have hfR:∀ j,j < k → f j ≠ W1.heap.size:=fun j hj => by have:=(HMW.hf j hj).2.lt;omega
      obtain ⟨R,hRe⟩:∃ R,W1.heap.size = R:=⟨_,rfl⟩;rw [hRe] at HM2 hrow2 hfR hgw ⊢;obtain ⟨XB,hXB⟩:∃ XB,wr.heap.size = XB:=⟨_,rfl⟩;rw [hXB] at hX2 hgw ⊢;have HM2':=am HM2;have hrow2':=am hrow2;have hX2':=am hX2;have hfR':=am hfR;have hgw':=am hgw;clear HM2 hrow2 hX2 hfR hgw hXW HMW hc hfz hW2 hW1 hRe hXB h2W hx0 hx1 hx2 hx3 HM1 HB;go_wp2
      go_loopg [28] l0.length (fun kq v28 w' => ∃ i:Nat,v28 = .int .i64 (i:Int) ∧ Aside0 (i + kq = l0.length) ∧ Aside0 (Mach l1.length l0.length w.heap.size (some ad) c1 (admT l0 l1) w w' k f (fun j => if j = k then .slice (some ⟨R,0,none⟩) l0.length l0.length else if j < k then .slice (some ⟨f j,0,none⟩) l0.length l0.length else .slice none 0 0)) ∧ Aside0 (w'.rowIs R 4 l0.length (fun j => if j < i then .bool (admT l0 l1 k j) else .bool false)) ∧ Aside0 (w'.cell? ⟨XB,0,none⟩ = some (.int .u32 X0) ∧ w'.cell? ⟨XB,1,none⟩ = some (.string X1) ∧ w'.cell? ⟨XB,2,none⟩ = some (.bool X2) ∧ w'.cell? ⟨XB,3,none⟩ = some (.bool X3)))
      case atStart => exact ⟨0,rfl,⟨by omega⟩,⟨HM2'.out.drew⟩,⟨hrow2'.out.congr (fun i _ => by simp)⟩,hX2'⟩
      case round =>
        obtain ⟨i,rfl,hik,HM3,hrow3,hX3⟩:=hrel
        cases gk with
        | zero =>
          have h6:¬ ((i:Int) < (l0.length:Int)):=by have:=hik.out;omega
          have hrowE:=hrow3.out.congr (g:=fun j => .bool (admT l0 l1 k j)) (fun j hj => by have:=hik.out;rw [if_pos (by omega)]);have hMn:=(HM3.out.next R (by have:=hgw'.out;omega) hrowE);have hMn':=am hMn;have hfin:=am (Z1a (i:=k) (n:=l1.length) (by have:=hk.out;omega) (by have:=HL.out;omega));clear hrowE hMn;go_wp2
          go_roundg g1
          case measure => omega
          case rel =>
            refine ⟨k + 1,fun j => if j = k then R else f j,by rw [hfin.out],⟨by have:=hk.out;omega⟩,⟨?_⟩⟩
            obtain ⟨m0,m2,m1,mf,mS,mB⟩:=hMn'.out
            refine ⟨m0,m2,m1.congr (fun j _ => ?_),mf,mS,mB⟩
            by_cases e:j = k
            · subst e;simp
            · rw [if_neg e]
              simp only [if_neg e]
              by_cases e2:j < k
              · rw [if_pos e2,if_pos (by omega)]
              · rw [if_neg e2,if_neg (by omega)]
        | succ g2 =>
          have h6:(i:Int) < (l0.length:Int):=by have:=hik.out;omega
          have h7:0 ≤ (i:Int):=by omega
          obtain ⟨ad2,hA2,hy0,hy1⟩:=Z3s HR0.out (i:Int) h7 h6;subst hA2;rw [Int.toNat_natCast] at hy0 hy1;replace hy0:=(HM3.out.HB.cell (World.block_lt_of_cell? _ _ hy0)).trans hy0;replace hy1:=(HM3.out.HB.cell (World.block_lt_of_cell? _ _ hy1)).trans hy1;have hF9:=hFm'.out i;obtain ⟨Y,hY⟩:∃ Y,Z0v l0 (i:Int) = Y:=⟨_,rfl⟩;obtain ⟨Y0,Y1⟩:=Y;rw [hY] at hy0 hy1 hF9;dsimp only at hy0 hy1;have hF9':=am hF9;clear hF9 hY;go_wp2;obtain ⟨W3,hW3⟩:∃ W3,wr.alloc (.cells #[.int .i32 Y0,.int .u32 Y1] 68) = W3:=⟨_,rfl⟩
          have q6:W3.cell? ⟨wr.heap.size,0,none⟩ = some (.int .i32 Y0):=by rw [← hW3];exact Z2c _ _ _ 0 _ rfl
          have q7:W3.cell? ⟨wr.heap.size,1,none⟩ = some (.int .u32 Y1):=by rw [← hW3];exact Z2c _ _ _ 1 _ rfl
          have HM4:=HM3.out.alloc (.cells #[.int .i32 Y0,.int .u32 Y1] 68);have hrow4:=hrow3.out.alloc (.cells #[.int .i32 Y0,.int .u32 Y1] 68);have q2:=Z2i (.cells #[.int .i32 Y0,.int .u32 Y1] 68) hX3.out.1;have q3:=Z2i (.cells #[.int .i32 Y0,.int .u32 Y1] 68) hX3.out.2.1;have q4:=Z2i (.cells #[.int .i32 Y0,.int .u32 Y1] 68) hX3.out.2.2.1;have q5:=Z2i (.cells #[.int .i32 Y0,.int .u32 Y1] 68) hX3.out.2.2.2;have hRlt:=hrow3.out.lt;rw [hW3] at HM4 hrow4 q2 q3 q4 q5 ⊢;obtain ⟨LB,hLB⟩:∃ LB,wr.heap.size = LB:=⟨_,rfl⟩;rw [hLB] at q6 q7 hRlt ⊢;have q0:=HM4.h2
          have q1:W3.cell? ⟨w.heap.size + 1,k,none⟩ = some (.slice (some ⟨R,0,none⟩) l0.length l0.length):=by
            have:=HM4.h1.cell (i:=k) (by have:=hk.out;omega)
            simpa using this
          have hne9:w.heap.size + 2 < R ∧ XB < R ∧ R < LB:=⟨by have:=hgw'.out;omega,hgw'.out.1,hRlt⟩;have HM4':=am HM4;have hrow4':=am hrow4;have had:=Zcc ⟨X0,X1,X2,X3⟩ ⟨Y0,Y1⟩ W3.drew hsz'.out;rw [← hF9'.out] at had;dsimp only at had;clear hW3 hLB HM4 hrow4 hrow3 HM3 hX3 hRlt hy0 hy1
          refine start_ (n:=10) (S:=fun w' => w'.cell? ⟨w.heap.size + 1 + 1,0,none⟩ = some (.slice (some ⟨w.heap.size + 1,0,none⟩) l1.length l1.length) ∧ w'.cell? ⟨w.heap.size + 1,k,none⟩ = some (.slice (some ⟨R,0,none⟩) l0.length l0.length) ∧ w'.cell? ⟨XB,0,none⟩ = some (.int .u32 X0) ∧ w'.cell? ⟨XB,1,none⟩ = some (.string X1) ∧ w'.cell? ⟨XB,2,none⟩ = some (.bool X2) ∧ w'.cell? ⟨XB,3,none⟩ = some (.bool X3) ∧ w'.cell? ⟨LB,0,none⟩ = some (.int .i32 Y0) ∧ w'.cell? ⟨LB,1,none⟩ = some (.int .u32 Y1)) (ds:=[]) #[false,false,false,false,false,false,false,false,false,false] (by kernel_rfl) rfl rfl ⟨q0,q1,q2,q3,q4,q5,q6,q7⟩ (fun hHeld => ?_)
          refine pK 1 34 ?_
          refine pK 4 37 ?_
          refine tKt 0 33 hHeld ?_
          refine pK 2 35 ?_
          refine tKt 3 36 hHeld ?_
          refine tKt 5 38 hHeld ?_
          refine tKt 6 39 hHeld ?_
          refine one_ (i:=7) (N:=some 40) #[true,true,true,true,true,true,true,true,false,false] rfl rfl (by kernel_rfl) (by decide) (fun K hK => ?_)
          refine goes_ Tryz.func117 (by kernel_rfl) rfl #[.agg #[.int .u32 X0,.string X1,.bool X2,.bool X3],.agg #[.int .i32 Y0,.int .u32 Y1]] (by rfl) rfl rfl Gc24 ?_
          with_reducible refine (had).mono ?_
          rintro e w4 ⟨rfl,hB4⟩
          refine ⟨_,rfl,?_⟩
          have hB5:Below W3.heap.size W3 w4:=⟨hB4.os,hB4.tape,hB4.output,hB4.size,hB4.block⟩;have hrow9:=am (Z6x hrow4'.out hB5);have hc9:w4.cell? ⟨R,i,none⟩ = some (.bool false):=(by have h9:=hrow9.out.cell (i:=i) (by have:=hik.out;omega);simpa using h9);have hz9:w4.frozen? ⟨R,i,none⟩ = false:=hrow9.out.frozen i
          refine hK.out _ _ ⟨(hB5.cell (World.block_lt_of_cell? _ _ q0)).trans q0,(hB5.cell (World.block_lt_of_cell? _ _ q1)).trans q1,(hB5.cell (World.block_lt_of_cell? _ _ q2)).trans q2,(hB5.cell (World.block_lt_of_cell? _ _ q3)).trans q3,(hB5.cell (World.block_lt_of_cell? _ _ q4)).trans q4,(hB5.cell (World.block_lt_of_cell? _ _ q5)).trans q5,(hB5.cell (World.block_lt_of_cell? _ _ q6)).trans q6,(hB5.cell (World.block_lt_of_cell? _ _ q7)).trans q7⟩ (fun hHeld => ?_)
          clear hK K
          refine nR 40 ?_
          refine pK 8 41 ?_
          refine one_ (i:=9) (N:=none) #[true,true,true,true,true,true,true,true,true,true] rfl rfl (by kernel_rfl) (by decide) (fun K hK => ?_)
          refine skip_ (w1:=?_) (by rfl) rfl ?_ ?_
          rotate_left
          · go_simp
            rfl
          refine hK.out _ _ ⟨(World.cell?_setCell_far _ _ _ _ Gc22).trans ((hB5.cell (World.block_lt_of_cell? _ _ q0)).trans q0),(World.cell?_setCell_far _ _ _ _ Gc22).trans ((hB5.cell (World.block_lt_of_cell? _ _ q1)).trans q1),(World.cell?_setCell_far _ _ _ _ Gc22).trans ((hB5.cell (World.block_lt_of_cell? _ _ q2)).trans q2),(World.cell?_setCell_far _ _ _ _ Gc22).trans ((hB5.cell (World.block_lt_of_cell? _ _ q3)).trans q3),(World.cell?_setCell_far _ _ _ _ Gc22).trans ((hB5.cell (World.block_lt_of_cell? _ _ q4)).trans q4),(World.cell?_setCell_far _ _ _ _ Gc22).trans ((hB5.cell (World.block_lt_of_cell? _ _ q5)).trans q5),(World.cell?_setCell_far _ _ _ _ Gc22).trans ((hB5.cell (World.block_lt_of_cell? _ _ q6)).trans q6),(World.cell?_setCell_far _ _ _ _ Gc22).trans ((hB5.cell (World.block_lt_of_cell? _ _ q7)).trans q7)⟩ (fun hHeld => ?_)
          clear hK K
          refine done_ (by kernel_rfl) ?_
          have hX9:(w4.setCell ⟨R,i,none⟩ (.bool (admT l0 l1 k i))).cell? ⟨XB,0,none⟩ = some (.int .u32 X0) ∧ (w4.setCell ⟨R,i,none⟩ (.bool (admT l0 l1 k i))).cell? ⟨XB,1,none⟩ = some (.string X1) ∧ (w4.setCell ⟨R,i,none⟩ (.bool (admT l0 l1 k i))).cell? ⟨XB,2,none⟩ = some (.bool X2) ∧ (w4.setCell ⟨R,i,none⟩ (.bool (admT l0 l1 k i))).cell? ⟨XB,3,none⟩ = some (.bool X3):=⟨(World.cell?_setCell_far _ _ _ _ Gc22).trans ((hB5.cell (World.block_lt_of_cell? _ _ q2)).trans q2),(World.cell?_setCell_far _ _ _ _ Gc22).trans ((hB5.cell (World.block_lt_of_cell? _ _ q3)).trans q3),(World.cell?_setCell_far _ _ _ _ Gc22).trans ((hB5.cell (World.block_lt_of_cell? _ _ q4)).trans q4),(World.cell?_setCell_far _ _ _ _ Gc22).trans ((hB5.cell (World.block_lt_of_cell? _ _ q5)).trans q5)⟩;have hX9':=am hX9;have hM9:=am ((HM4'.out.below hB5).row R i (.bool (admT l0 l1 k i)) hne9.1 hfR'.out);have hrow10:=am (hrow9.out.set i (.bool (admT l0 l1 k i)));have hfin9:=am (Z1a (i:=i) (n:=l0.length) (by have:=hik.out;omega) (by have:=HM.out;omega));clear q0 q1 q2 q3 q4 q5 q6 q7 hc9 hz9 hX9;go_wp2
          go_roundg g2
          case measure => omega
          case rel =>
            refine ⟨i + 1,by rw [hfin9.out],⟨by have:=hik.out;omega⟩,hM9,⟨hrow10.out.congr (fun j _ => ?_)⟩,hX9'⟩
            by_cases e:j = i
            · subst e;simp
            · rw [if_neg e]
              by_cases e2:j < i
              · rw [if_pos e2,if_pos (by omega)]
              · rw [if_neg e2,if_neg (by omega)]
def admI (l0:List S68) (x:S70) (i:Int):Bool:=admP x (Z0v l0 i)
def repI (x:S70):Bool:=x.f3
def Z2q (l0:List S68) (p:List S70) (xs:List Int):Bool:=Z4p (admI l0) repI p xs
def Z3c (l0:List S68) (p:List S70) (xs:List Int) (n:Nat):List Int:=((List.range n).filter fun i => Z2q l0 p (xs.take i)).map Int.ofNat
def inL (l0:List S68) (xs:List Int):Bool:=xs.all fun x => decide (0 ≤ x) && decide (x < (l0.length:Int))
def Z1o.f (l0:List S68) (l1:List S70) (l2:List Int):Option (List Int):=if (l1.length ≤ 3 ∧ l0.length ≤ 65) ∧ (Z37 l1 = true ∧ inL l0 l2 = true) ∧ l2.length ≤ 1099511627776 then some (Z3c l0 l1 l2 (l2.length + 1)) else none
theorem Z8a (l0:List S68) (p:List S70) (xs:List Int) (n:Nat):Z3c l0 p xs (n + 1) = if Z2q l0 p (xs.take n) = true then Z3c l0 p xs n ++ [(n:Int)] else Z3c l0 p xs n:=by
  unfold Z3c;rw [List.range_succ,List.filter_append,List.map_append]
  by_cases h:Z2q l0 p (xs.take n) = true
  · rw [if_pos h];simp [h]
  · rw [if_neg h];simp [h]
theorem Zay (l0:List S68) (p:List S70) (xs:List Int) (i:Nat) (h:Z8r (admI l0) repI p 0 (xs.take i)):∀ n,i ≤ n → Z3c l0 p xs n = Z3c l0 p xs i:=by
  intro n
  induction n with
  | zero => intro hi; obtain rfl : i = 0 := by omega
            rfl
  | succ n ih =>
    intro hi
    by_cases e:i = n + 1
    · subst e;rfl
    · rw [Z8a,if_neg,ih (by omega)]
      have hs:xs.take n = xs.take i ++ (xs.take n).drop i:=by
        have h1:=List.take_append_drop i (xs.take n);rw [List.take_take,Nat.min_eq_left (by omega)] at h1;exact h1.symm
      unfold Z2q;rw [hs,Zkk (admI l0) repI p _ _ h]
      simp
theorem Z8m (l0:List S68) (p:List S70) (xs:List Int) (n:Nat):(Z3c l0 p xs n).length ≤ n:=by
  unfold Z3c;rw [List.length_map];exact Nat.le_trans (List.length_filter_le _ _) (by simp)
theorem Zfx (l0:List S68) (l1:List S70) (s i:Nat) (xs:List Int) (j:Nat) (hx:xs[j]? = some (i:Int)) (h:Z8r (admI l0) repI l1 s (xs.take j)):Z8r (admI l0) repI l1 (Zhg l0 l1 s i) (xs.take (j + 1)):=by
  rw [List.take_add_one,hx];exact Zfw (admI l0) repI l1 s (xs.take j) (i:Int) h
theorem Zil (l0:List S68) (l1:List S70) (s i:Nat) (h:l1.length ≤ 3):Zhg l0 l1 s i < 16:=Z89 _ _ _ (by simpa using h) (Zfv _ _ _ _ (by simpa using h) (by omega))
set_option maxRecDepth 1000000 in
theorem Zfy {p:Prop} (h:p:=by
  have z1_:¬ ((i:Int) = (l2.length:Int)):=by omega
  have z2_:((i:Int) == (l2.length:Int)) = false:=beq_eq_false_iff_ne.2 z1_;have z3_:((s:Int) == 0) = false:=beq_eq_false_iff_ne.2 (by omega);obtain ⟨z4_,z5_,hx⟩:=Kd.at_int hR2.out (i:Int) (by omega) (by have:=hik.out;omega);subst z5_;rw [Int.toNat_natCast] at hx
  have z6_:i < l2.length:=by have:=hik.out;omega
  have hget:l2[i]? = some (rd l2 (i:Int)):=by unfold rd;rw [Int.toNat_natCast,List.getD_eq_getElem?_getD,List.getElem?_eq_getElem z6_];rfl
  have hin:=List.all_eq_true.1 hG.out.2.1.2 (rd l2 (i:Int)) (List.mem_of_getElem? hget);obtain ⟨y,hy⟩:∃ y:Nat,rd l2 (i:Int) = (y:Int):=⟨(rd l2 (i:Int)).toNat,by simp at hin;omega⟩;rw [hy] at hx hget hin
  have hyl:y < l0.length:=by simp at hin;omega
  have z7_:=(hB1.cell (World.block_lt_of_cell? _ _ hx)).trans hx;have hxl:=World.block_lt_of_cell? _ _ z7_
  have hxw:∀ w4,Below w1.heap.size w1 w4 → w4.cell? (z4_.add i) = some (.int .i64 (y:Int)):=fun w4 hB => (hB.cell hxl).trans z7_
  first
  | (have mk_:=mk0_
     have hstep:=fun (w4:World) (hB:Below w1.heap.size w1 w4) => Zax l0 A1 c1 l1 w.heap.size B1 (w.heap.size + 2) s y w4 (Kd.C_below hR1.out (hB1.trans (hB.mono hB1.size))) hC1.out hG.out.1.1 hsl.out hyl ((hB.cell (World.block_lt_of_cell? _ _ hm.out.1)).trans hm.out.1) ((hB.cell (World.block_lt_of_cell? _ _ hm.out.2.1)).trans hm.out.2.1) (hm.out.2.2.below hB)
     have hnx:=am (Zfx l0 l1 s y l2 i hget hset.out);have hnl:=am (Zil l0 l1 s y hG.out.1.1);have hfin:=am (Z1a (i:=i) (n:=l2.length) z6_ (by have:=hG.out.2.2;omega))
     have z8_:(i:Int) < (l2.length:Int):=by omega
     have hxw':=am hxw;have hstep':=am hstep;clear hget hin hy hyl hx z7_ hxl hil hs0 hxw hstep
     go_wp2_with (first | ((with_reducible refine gate_builtin (b:=.append) (xs:=#[.tmp 24,.tmp 26]) rfl ?_);at_builtin;refine wpList_append_own _ rfl (.tmp 24) (.tmp 26) 139 rfl w1.heap.size 3 i0 (.int .i64 0) 1 8 Tryz.underlying139 hi0 hz0 hz1 hz2 rfl (by decide) (.slice ao (Z3c l0 l1 l2 i).length cap) (Z3c l0 l1 l2 i).length ((Z3c l0 l1 l2 i).map (Value.int .i64)) rfl (World.ownsRow.alloc (show wr.ownsRow _ _ _ _ _ _ from hO.out) _) ⟨wr.heap.size,0,none⟩ 1 1 [.int .i64 (i:Int)] rfl rfl ?aC (by simp [Value.oneCell']) ?aM ?aB ?aS ?_;(case aC => exact Z51 wr _ _);(case aM => exact Gc28);(case aB => have:=hdl'.out;omega);(case aS => exact Gc31);intro z9_ z10_ z11_ z12_ z13_;have z14_:Below w1.heap.size w1 z10_:=((HB.out.alloc HB.out.size _)).grown z12_ Gc31 (fun k e => Z3i hO.out k e);have z15_:=hxw'.out _ z14_) | (go_at_call 118;refine (hstep'.out _ z14_).mono ?_;rintro e z16_ ⟨rfl,z17_⟩))
     go_roundg g1
     case measure => omega
     case rel =>
       refine ⟨Zhg l0 l1 s y,i + 1,rfl,by rw [hfin.out],⟨by have:=hik.out;omega⟩,hnl,hnx,⟨?_⟩,⟨z14_.trans (z17_.mono z14_.size)⟩⟩
       rw [hst2.out];rw [List.length_append,List.map_append]
       exact Z42 (by simpa using z11_) ⟨z17_.os,z17_.tape,z17_.output,z17_.size,z17_.block⟩)
  | (have mk_:=mk1_
     have z8_:=hxw _ HB.out
     have hstep:=fun (w4:World) (hB:Below w1.heap.size w1 w4) => Zax l0 A1 c1 l1 w.heap.size B1 (w.heap.size + 2) s y w4 (Kd.C_below hR1.out (hB1.trans (hB.mono hB1.size))) hC1.out hG.out.1.1 hsl.out hyl ((hB.cell (World.block_lt_of_cell? _ _ hm.out.1)).trans hm.out.1) ((hB.cell (World.block_lt_of_cell? _ _ hm.out.2.1)).trans hm.out.2.1) (hm.out.2.2.below hB)
     have hnx:=am (Zfx l0 l1 s y l2 i hget hset.out);have hnl:=am (Zil l0 l1 s y hG.out.1.1);have hfin:=am (Z1a (i:=i) (n:=l2.length) z6_ (by have:=hG.out.2.2;omega))
     have z9_:(i:Int) < (l2.length:Int):=by omega
     have hxw':=am hxw;have hstep':=am hstep;clear hget hin hy hyl hx z7_ hxl hil hs0 hxw hstep
     go_wp2_with (go_at_call 118;refine (hstep'.out _ HB.out).mono ?_;rintro e z10_ ⟨rfl,z11_⟩)
     go_roundg g1
     case measure => omega
     case rel =>
       refine ⟨Zhg l0 l1 s y,i + 1,rfl,by rw [hfin.out],⟨by have:=hik.out;omega⟩,hnl,hnx,⟨?_⟩,⟨HB.out.trans (z11_.mono HB.out.size)⟩⟩
       rw [hst2.out]
       exact Z42 hO.out ⟨z11_.os,z11_.tape,z11_.output,z11_.size,z11_.block⟩)):p:=h
set_option maxRecDepth 100000 in
set_option maxHeartbeats 1000000 in
theorem Z1o.calls (A0:Option Addr) (c0:Nat) (l0:List S68) (A1:Option Addr) (c1:Nat) (l1:List S70) (A2:Option Addr) (c2:Nat) (l2:List Int) (r:List Int) (w:World) (hr0:Kd.C k68 w A0 l0.length l0) (hc0:l0.length ≤ c0) (hr1:Kd.C k70 w A1 l1.length l1) (hc1:l1.length ≤ c1) (hr2:Kd.C (Kd.int .i64) w A2 l2.length l2) (hc2:l2.length ≤ c2) (h:Z1o.f l0 l1 l2 = some r) :
    Calls Tryz.prog 109 #[.slice A0 l0.length c0,.slice A1 l1.length c1,.slice A2 l2.length c2] w fun e w' => ∃ v0_:Value,e = .returned v0_ ∧ Kd.R (Kd.int .i64) 3 w' w.heap.size (fun _ => True) v0_ r ∧ Below w.heap.size w w':=by
  unfold Z1o.f at h
  by_cases hg:(l1.length ≤ 3 ∧ l0.length ≤ 65) ∧ (Z37 l1 = true ∧ inL l0 l2 = true) ∧ l2.length ≤ 1099511627776
  · rw [if_pos hg] at h
    have hr:=Option.some.inj h;clear h;obtain ⟨i0,hi0,hz0,hz1,hz2⟩:=info_parts Zhx;have hmc:=Zbo A0 c0 l0 A1 c1 l1 w hr0 hc0 hr1 hc1 hg.1.1 hg.1.2 hg.2.1.1
    have hcl:=fun (w1:World) (hB:Below w.heap.size w w1) => Z8l A1 c1 l1 1 w1 (Kd.C_below hr1 hB) hc1 hg.1.1 (by decide)
    obtain ⟨s0,hs0⟩:∃ s0,Z30 (l1.map (·.f3)) 0 1 = s0:=⟨_,rfl⟩
    have hS0:Z8r (admI l0) repI l1 s0 (l2.take 0):=by rw [← hs0];exact Zii (admI l0) repI l1
    have hs0l:s0 < 16:=by rw [← hs0];exact Z89 _ _ _ (by have:=hg.1.1;simpa using this) (by decide)
    rw [hs0] at hcl;have hR1:=am hr1;have hC1:=am hc1;have hR2:=am hr2;have hC2:=am hc2;have hG:=am hg;have hr':=am hr;have hS0':=am hS0;have hs0l':=am hs0l;have hcl':=am hcl;clear hr0 hc0 hr1 hc1 hr2 hc2 hg hr hS0 hs0l hcl hs0;go_enter Tryz.func109,Tryz.ntmps109
    go_wp2_with (first | (go_at_call 114;refine hmc.mono ?_;clear hmc;rintro e w1 ⟨B1,rfl,hm0,hm2,hmT,hB1⟩) | (go_at_call 115;refine (hcl'.out _ hB1).mono ?_;clear hcl';rintro e w2 ⟨rfl,hB2⟩))
    have hm:=am (And.intro hm0 (And.intro hm2 hmT));have hB2':=am hB2;clear hm0 hm2 hmT hB2
    go_loopg [7,9,10] l2.length (fun kq v7 v9 v10 w' => ∃ s i:Nat,v9 = .int .u8 (s:Int) ∧ v10 = .int .i64 (i:Int) ∧ Aside0 (i + kq = l2.length) ∧ Aside0 (s < 16) ∧ Aside0 (Z8r (admI l0) repI l1 s (l2.take i)) ∧ Aside0 (w'.ownsRow w1.heap.size 3 1 v7 (Z3c l0 l1 l2 i).length ((Z3c l0 l1 l2 i).map (Value.int .i64))) ∧ Aside0 (Below w1.heap.size w1 w'))
    case atStart => exact ⟨s0,0,rfl,rfl,⟨by omega⟩,hs0l',hS0',⟨World.ownsRow_nil _ _ _ _⟩,hB2'⟩
    case round =>
      obtain ⟨s,i,rfl,rfl,hik,hsl,hset,hO,HB⟩:=hrel;obtain ⟨ao,cap,hv7⟩:=Z65 hO.out;subst hv7;have hst:=Z8a l0 l1 l2 i;have hend:=Zij (admI l0) repI l1 s (l2.take i) hset.out;have hand:=Zbn (s:=s) (k:=l1.length) hsl.out (by have:=hG.out.1.1;omega);have hdl':Aside0 ((Z3c l0 l1 l2 i).length ≤ 1099511627776):=⟨Nat.le_trans (Z8m _ _ _ _) (by have:=hG.out.2.2;have:=hik.out;omega)⟩;have hend':=am hend;have hst':=am hst;clear hst hend
      cases hbt:bit s l1.length with
      | false =>
        rw [hbt] at hand;replace hand:Go.bits .and .u8 ((s:Int) / 2 ^ min l1.length 8) 1 = 0:=hand;have hst2:=am (show Z3c l0 l1 l2 (i + 1) = Z3c l0 l1 l2 i by rw [hst'.out,if_neg];unfold Z2q;rw [← hend'.out,hbt];decide);clear hbt hst'
        by_cases hil:i = l2.length
        · have hil1:(i:Int) = (l2.length:Int):=by omega
          have hre:Z3c l0 l1 l2 (l2.length + 1) = Z3c l0 l1 l2 (i + 1):=by rw [hil]
          have hrr:=am (hr'.out.symm.trans hre);clear hre;have hb1:((i:Int) == (l2.length:Int)) = true:=beq_iff_eq.2 hil1;clear hil hil1;go_wp2;go_ret
          refine ⟨_,rfl,Kd.R_lower (Zhd ?_) hB1.size,hB1.trans (HB.out.mono hB1.size)⟩
          rw [hrr.out,hst2.out];exact hO.out
        · by_cases hs0:s = 0
          · subst hs0
            have hil2:¬ ((i:Int) = (l2.length:Int)):=by omega
            have hrr:=am (hr'.out.symm.trans (Zay l0 l1 l2 i hset.out (l2.length + 1) (by have:=hik.out;omega)));go_wp2;go_ret
            refine ⟨_,rfl,Kd.R_lower (Zhd ?_) hB1.size,hB1.trans (HB.out.mono hB1.size)⟩
            rw [hrr.out];exact hO.out
          · obtain ⟨g1,rfl⟩:∃ g1,gk = g1 + 1:=⟨gk - 1,by have:=hik.out;omega⟩
            have mk1_:=trivial;exact Zfy
      | true =>
        rw [hbt] at hand;replace hand:Go.bits .and .u8 ((s:Int) / 2 ^ min l1.length 8) 1 = 1:=hand;have hst2:=am (show Z3c l0 l1 l2 (i + 1) = Z3c l0 l1 l2 i ++ [(i:Int)] by rw [hst'.out,if_pos];unfold Z2q;rw [← hend'.out,hbt]);clear hst'
        by_cases hil:i = l2.length
        · have hil1:(i:Int) = (l2.length:Int):=by omega
          have hre:Z3c l0 l1 l2 (l2.length + 1) = Z3c l0 l1 l2 (i + 1):=by rw [hil]
          have hrr:=am (hr'.out.symm.trans hre);clear hre;have hb1:((i:Int) == (l2.length:Int)) = true:=beq_iff_eq.2 hil1;clear hil hil1
          go_wp2_with ((with_reducible refine gate_builtin (b:=.append) (xs:=#[.tmp 24,.tmp 26]) rfl ?_);at_builtin;refine wpList_append_own _ rfl (.tmp 24) (.tmp 26) 139 rfl w1.heap.size 3 i0 (.int .i64 0) 1 8 Tryz.underlying139 hi0 hz0 hz1 hz2 rfl (by decide) (.slice ao (Z3c l0 l1 l2 i).length cap) (Z3c l0 l1 l2 i).length ((Z3c l0 l1 l2 i).map (Value.int .i64)) rfl (World.ownsRow.alloc (show wr.ownsRow _ _ _ _ _ _ from hO.out) _) ⟨wr.heap.size,0,none⟩ 1 1 [.int .i64 (i:Int)] rfl rfl ?aC (by simp [Value.oneCell']) ?aM ?aB ?aS ?_;(case aC => exact Z51 wr _ _);(case aM => exact Gc28);(case aB => have:=hdl'.out;omega);(case aS => exact Gc31);intro v2 w2a ho2 hg2 hi2;have hB2a:Below w1.heap.size w1 w2a:=((HB.out.alloc HB.out.size _)).grown hg2 Gc31 (fun k e => Z3i hO.out k e))
          go_ret
          refine ⟨_,rfl,Kd.R_lower (Zhd ?_) hB1.size,hB1.trans (hB2a.mono hB1.size)⟩
          rw [hrr.out,hst2.out];rw [List.length_append,List.map_append];exact ho2
        · by_cases hs0:s = 0
          · subst hs0
            have hil2:¬ ((i:Int) = (l2.length:Int)):=by omega
            have hrr:=am (hr'.out.symm.trans (Zay l0 l1 l2 i hset.out (l2.length + 1) (by have:=hik.out;omega)));exact absurd hbt (by rw [show bit 0 l1.length = false from Nat.zero_testBit _];decide)
          · obtain ⟨g1,rfl⟩:∃ g1,gk = g1 + 1:=⟨gk - 1,by have:=hik.out;omega⟩
            have mk0_:=trivial;exact Zfy
  · rw [if_neg hg] at h;cases h
end Go.Proofs.YtfbhdjflkaldgaaGreatDoor.Pr

namespace Go.Proofs.YtfbhdjflkaldgaaGreatDoor.Pr
open Go.Proofs.YtfbhdjflkaldgaaGreatDoor.Ct Go.RowKit Go.Proofs.YtfbhdjflkaldgaaGreatDoorW.PrintWords Go.Proofs.YtfbhdjflkaldgaaGreatDoorW.PrintLast Go.Proofs.YtfbhdjflkaldgaaGreatDoorW.PrintMore
attribute [local go_sem] max2_int min2_int max_two min_two max_three min_three max_four min_four
set_option linter.unusedVariables false
set_option linter.unusedSimpArgs false
def Z2g.f (l0:List (S68)) (l1:List (S70)) (a2:ByteArray):Option (Bool):=(Z24.f l0 l1 a2).bind fun bt143 => (if bt143.2 = true then ((Z1o.f l0 l1 bt143.1).bind fun t147 => (if (t147.length:Int) > 0 then (if 0 ≤ (wrap64 ((t147.length:Int) - 1)) then (if (wrap64 ((t147.length:Int) - 1)) < (t147.length:Int) then (some ((rd t147 (wrap64 ((t147.length:Int) - 1))) == (bt143.1.length:Int))) else (none)) else (none)) else (some false))) else (some false))
set_option maxHeartbeats 8000000 in
set_option maxRecDepth 100000 in
theorem Z2g.calls (A0:Option Addr) (c0:Nat) (l0:List (S68)) (A1:Option Addr) (c1:Nat) (l1:List (S70)) (a2:ByteArray) (r:Bool) (w:World) (hT:Tabs w) (hr0:Kd.C k68 w A0 l0.length l0) (hc0:l0.length ≤ c0) (hr1:Kd.C k70 w A1 l1.length l1) (hc1:l1.length ≤ c1) (h:Z2g.f l0 l1 a2 = some r) :
 Calls Tryz.prog 104 #[.slice A0 l0.length c0,.slice A1 l1.length c1,.string a2] w fun e w' => e = .returned (.bool r) ∧ Below w.heap.size w w':=by
 have HT:=am hT;clear hT;have HR0:=am hr0;have HC0:=am hc0;clear hr0 hc0;have HR1:=am hr1;have HC1:=am hc1;clear hr1 hc1;have HB:=am (Below.refl w.heap.size w);have H:((Z24.f l0 l1 a2).bind fun bt143 => (if bt143.2 = true then ((Z1o.f l0 l1 bt143.1).bind fun t147 => (if (t147.length:Int) > 0 then (if 0 ≤ (wrap64 ((t147.length:Int) - 1)) then (if (wrap64 ((t147.length:Int) - 1)) < (t147.length:Int) then (some ((rd t147 (wrap64 ((t147.length:Int) - 1))) == (bt143.1.length:Int))) else (none)) else (none)) else (some false))) else (some false))) = some r:=h;clear h;replace H:=bI H;obtain ⟨⟨t143,t144⟩,A4,H⟩:=H;(try dsimp only at H)
 replace H:=iT H;obtain ⟨rfl,H⟩ | ⟨rfl,H⟩:=H
 ·
  replace H:=bI H;obtain ⟨t147,A6,H⟩:=H;(try dsimp only at H)
  replace H:=iF H;obtain ⟨c7,H⟩ | ⟨c7,H⟩:=H
  ·
   have c7b0:decide (0 < (t147.length:Int)) = true:=decide_eq_true c7;have c7b1:decide (0 < t147.length) = true:=decide_eq_true (by omega);clear c7;obtain ⟨ji8,hji8⟩:∃ j_:Int,(wrap64 ((t147.length:Int) - 1)) = j_:=⟨_,rfl⟩
   replace H:(if 0 ≤ (ji8) then (if (ji8) < (t147.length:Int) then (some ((rd t147 (ji8)) == (t143.length:Int))) else (none)) else (none)) = some r:=by first | (rw [hji8] at H;exact H) | (simp only [hji8] at H ⊢;exact H)
   (try rw [hji8] at A4);(try rw [hji8] at A6);have hji8w:(IntKind.i64.wrap ((t147.length:Int) - 1)) = ji8:=(i64_w _).trans hji8;replace H:=iFn H;obtain ⟨c9,H⟩:=H;have c9b0:decide (0 ≤ (ji8)) = true:=decide_eq_true c9;clear c9;replace H:=iFn H;obtain ⟨c10,H⟩:=H;have c10b0:decide ((ji8) < (t147.length:Int)) = true:=decide_eq_true c10;clear c10;obtain rfl:=Option.some.inj H;go_enter Tryz.func104,Tryz.ntmps104
   go_wp2_with (first | ((with_reducible refine gate_callee (f:=108) rfl ?_);refine goesL_ (some 14) rfl rfl Tryz.func108 (by kernel_rfl) rfl #[.slice A0 l0.length c0,.slice A1 l1.length c1,.string a2] rfl Gc2 ?_;(with_reducible refine (Z24.calls _ _ l0 _ _ l1 a2 t143 true _ ?sT ?s1 HC0.out ?s3 HC1.out A4.out).mono ?_);(case sT => exact Gc1);(case s1 => exact Gc3);(case s3 => exact Gc8);rintro e w11 ⟨v145,rfl,ho0,hb⟩;refine ⟨_,rfl,?_⟩;have n0_:=am (Kd.R_lower ho0 (tS HB));have n1_:=am (below_step (tB HB) hb);revert n0_ n1_;clear HB;intro HO146 HB;(try clear hb);(try clear hb2);(try clear hk);(try clear hi);(try clear ho0);obtain ⟨Ao12,co12,eo12⟩:=Kd.R_slice HO146.out;subst eo12) | ((with_reducible refine gate_callee (f:=109) rfl ?_);refine goesL_ (some 22) rfl rfl Tryz.func109 (by kernel_rfl) rfl #[.slice A0 l0.length c0,.slice A1 l1.length c1,.slice Ao12 t143.length co12] rfl Gc2 ?_;(with_reducible refine (Z1o.calls _ _ l0 _ _ l1 _ _ t143 t147 _ (tC HR0 HB) HC0.out (tC HR1 HB) HC1.out ?s5 ?s6 A6.out).mono ?_);(case s5 => repeat (first | exact (Kd.R_reads' HO146.out).2.2 | (with_reducible refine Kd.C_alloc ?_ _) | (with_reducible refine Kd.C_drewN ?_ _) | (with_reducible refine Kd.C_drew ?_)));(case s6 => exact (Kd.R_reads' HO146.out).2.1);rintro e w13 ⟨v148,rfl,ho0,hb⟩;refine ⟨_,rfl,?_⟩;have n0_:=am (Kd.R_elder' (dR HO146) (Kd.R_base ho0) hb);have n1_:=am (Kd.R_lower (Kd.R_new' ho0 (Kd.R_lt (dR HO146))) (tS HB));have n2_:=am (below_step (tB HB) hb);revert n0_ n1_ n2_;clear HO146 HB;intro HO146 HO149 HB;(try clear hb);(try clear hb2);(try clear hk);(try clear hi);(try clear ho0);obtain ⟨Ao14,co14,eo14⟩:=Kd.R_slice HO149.out;subst eo14;have p150:0 ≤ ((ji8):Int):=oD;have q150:(ji8) < (t147.length:Int):=oD;obtain ⟨ad150,e150,hx150_0⟩:=Kd.at_int (Kd.R_reads' HO149.out).2.2 (ji8) p150 q150;cases e150;replace p150:=eq_true p150;replace q150:=eq_true q150))
   go_ret;exact ⟨by first | rfl | (simp [Z3e,Z3f] <;> rfl) | (simp only [← hji8];first | rfl | (simp [Z3e,Z3f] <;> rfl)) | (simp [*,Z3e,Z3f] <;> rfl),by repeat (first | (with_reducible first | exact HB.out | apply below_alloc | apply pw_below_drewN | apply below_drew1) | exact HB.out)⟩
  ·
   have c7b0:decide (0 < (t147.length:Int)) = false:=decide_eq_false c7;have c7b1:decide (0 < t147.length) = false:=decide_eq_false (by omega);clear c7;obtain rfl:=Option.some.inj H;go_enter Tryz.func104,Tryz.ntmps104
   go_wp2_with (first | ((with_reducible refine gate_callee (f:=108) rfl ?_);refine goesL_ (some 14) rfl rfl Tryz.func108 (by kernel_rfl) rfl #[.slice A0 l0.length c0,.slice A1 l1.length c1,.string a2] rfl Gc2 ?_;(with_reducible refine (Z24.calls _ _ l0 _ _ l1 a2 t143 true _ ?sT ?s1 HC0.out ?s3 HC1.out A4.out).mono ?_);(case sT => exact Gc1);(case s1 => exact Gc3);(case s3 => exact Gc8);rintro e w15 ⟨v145,rfl,ho0,hb⟩;refine ⟨_,rfl,?_⟩;have n0_:=am (Kd.R_lower ho0 (tS HB));have n1_:=am (below_step (tB HB) hb);revert n0_ n1_;clear HB;intro HO146 HB;(try clear hb);(try clear hb2);(try clear hk);(try clear hi);(try clear ho0);obtain ⟨Ao16,co16,eo16⟩:=Kd.R_slice HO146.out;subst eo16) | ((with_reducible refine gate_callee (f:=109) rfl ?_);refine goesL_ (some 22) rfl rfl Tryz.func109 (by kernel_rfl) rfl #[.slice A0 l0.length c0,.slice A1 l1.length c1,.slice Ao16 t143.length co16] rfl Gc2 ?_;(with_reducible refine (Z1o.calls _ _ l0 _ _ l1 _ _ t143 t147 _ (tC HR0 HB) HC0.out (tC HR1 HB) HC1.out ?s5 ?s6 A6.out).mono ?_);(case s5 => repeat (first | exact (Kd.R_reads' HO146.out).2.2 | (with_reducible refine Kd.C_alloc ?_ _) | (with_reducible refine Kd.C_drewN ?_ _) | (with_reducible refine Kd.C_drew ?_)));(case s6 => exact (Kd.R_reads' HO146.out).2.1);rintro e w17 ⟨v148,rfl,ho0,hb⟩;refine ⟨_,rfl,?_⟩;have n0_:=am (Kd.R_elder' (dR HO146) (Kd.R_base ho0) hb);have n1_:=am (Kd.R_lower (Kd.R_new' ho0 (Kd.R_lt (dR HO146))) (tS HB));have n2_:=am (below_step (tB HB) hb);revert n0_ n1_ n2_;clear HO146 HB;intro HO146 HO149 HB;(try clear hb);(try clear hb2);(try clear hk);(try clear hi);(try clear ho0);obtain ⟨Ao18,co18,eo18⟩:=Kd.R_slice HO149.out;subst eo18))
   go_ret;exact ⟨tE,by repeat (first | (with_reducible first | exact HB.out | apply below_alloc | apply pw_below_drewN | apply below_drew1) | exact HB.out)⟩
 ·
  obtain rfl:=Option.some.inj H;go_enter Tryz.func104,Tryz.ntmps104
  go_wp2_with (first | ((with_reducible refine gate_callee (f:=108) rfl ?_);refine goesL_ (some 14) rfl rfl Tryz.func108 (by kernel_rfl) rfl #[.slice A0 l0.length c0,.slice A1 l1.length c1,.string a2] rfl Gc2 ?_;(with_reducible refine (Z24.calls _ _ l0 _ _ l1 a2 t143 false _ ?sT ?s1 HC0.out ?s3 HC1.out A4.out).mono ?_);(case sT => exact Gc1);(case s1 => exact Gc3);(case s3 => exact Gc8);rintro e w19 ⟨v145,rfl,ho0,hb⟩;refine ⟨_,rfl,?_⟩;have n0_:=am (Kd.R_lower ho0 (tS HB));have n1_:=am (below_step (tB HB) hb);revert n0_ n1_;clear HB;intro HO146 HB;(try clear hb);(try clear hb2);(try clear hk);(try clear hi);(try clear ho0)))
  go_ret;exact ⟨tE,by repeat (first | (with_reducible first | exact HB.out | apply below_alloc | apply pw_below_drewN | apply below_drew1) | exact HB.out)⟩
end Go.Proofs.YtfbhdjflkaldgaaGreatDoor.Pr

namespace Go.Proofs.YtfbhdjflkaldgaaGreatDoor.Pr
open Go.RowKit Go.Proofs.YtfbhdjflkaldgaaGreatDoorW.PrintWords Go.Proofs.YtfbhdjflkaldgaaGreatDoorW.PrintLast Go.Proofs.YtfbhdjflkaldgaaGreatDoorW.PrintMore
set_option linter.unusedVariables false
def Z3x.f (l0:List S70):Option (List S70):=if l0.length * 32 ≤ 140737488355328 then some l0 else none
theorem Zaz {p:Prop} (h:p:=by
  have q:∀ (w:World) (a:Option Addr) (n c n' c':Nat),(binOp .eql 71 (.slice a n c) (.slice none n' c')).run Tryz.prog w = .ok (.bool a.isNone) w:=fun w a n c n' c' => Lib.run_eql_slice_nil w _ _ a n c n' c' Tryz.underlying71
  go_enter Tryz.func110,Tryz.ntmps110
  first
  | (have mk_:=mk0_
     go_wp2_with ((with_reducible refine gate_builtin (b:=.append) (xs:=#[.tmp 5,.tmp 6]) rfl ?_);at_builtin;refine Kd.R_append_rows k70 (w0:=w) w.heap.size rfl (.tmp 5) (.tmp 6) 71 70 (.agg #[.int .u32 0,.string ⟨#[]⟩,.bool false,.bool false]) 32 rfl Tryz.underlying71 Zhy rfl (by decide) (by omega) (.slice (some ⟨w.heap.size,0,none⟩) 0 0) [] l0 (some ad) l0.length c0 (fun _ => True) (fun _ => False) rfl rfl ?aO ?aR (fun _ _ h => h) (fun _ h => h.elim) ?aF ?aB ?aS ?aL ?_;(case aR => exact Kd.C_below HR.out HB.out);(case aF => exact fun _ _ => trivial);(case aB => exact HB.out);(case aO => exact HO.out);(case aS => exact HB.out.size);(case aL => have:=HLn.out;simp only [List.length_nil];omega);intro z1_ z2_ ho hb hg hat;have z3_:=Aside0.mk ho;have z4_:=Aside0.mk hb;clear ho hb hg hat)
     go_wp2;go_ret
     exact ⟨_,rfl,z3_.out,z4_.out⟩)
  | (have mk_:=mk1_
     go_wp2;go_ret
     exact ⟨_,rfl,Kd.R_nil _ _ _ _ _,Below.refl _ _⟩)):p:=h
set_option maxHeartbeats 1000000 in
set_option maxRecDepth 100000 in
theorem Z3x.calls (A0:Option Addr) (c0:Nat) (l0 r:List S70) (w:World) (hr0:Kd.C k70 w A0 l0.length l0) (hc0:l0.length ≤ c0) (h:Z3x.f l0 = some r) :
    Calls Tryz.prog 110 #[.slice A0 l0.length c0] w fun e w' => ∃ v0_:Value,e = .returned v0_ ∧ Kd.R k70 70 w' w.heap.size (fun _ => True) v0_ r ∧ Below w.heap.size w w':=by
  unfold Z3x.f at h
  by_cases hl:l0.length * 32 ≤ 140737488355328
  · rw [if_pos hl] at h
    obtain rfl:=Option.some.inj h
    cases A0 with
    | none =>
      have hn:l0 = []:=by
        cases l0 with
        | nil => rfl
        | cons x xs => obtain ⟨ad,he,_⟩:=hr0.2.2 (by simp);cases he
      subst hn;clear h hr0 hc0;have mk1_:=trivial;exact Zaz
    | some ad =>
      have HR:=Aside0.mk hr0;have HC:=Aside0.mk hc0;have HLn:=Aside0.mk hl;have HB:=Aside0.mk ((Below.refl w.heap.size w).alloc (Nat.le_refl _) (.cells #[] 70));have HO:Kd.R k70 70 (w.alloc (.cells #[] 70)) w.heap.size (fun _ => True) (.slice (some ⟨w.heap.size,0,none⟩) 0 0) []:=⟨fun _ _ => trivial,[],World.ownsRow_made w #[] 0 (Nat.le_refl _) (Nat.zero_le _) (by simp),Reps.none _ _⟩;have HO:=Aside0.mk HO;clear hr0 hc0 hl h;have mk0_:=trivial;exact Zaz
  · rw [if_neg hl] at h;cases h
end Go.Proofs.YtfbhdjflkaldgaaGreatDoor.Pr
