/- Several texts in one: RewV, Flw, PrF59, Let. -/
import Derived.Test.YtfbhdjflkaldgaaGreatDoorMg7
import Derived.Test.YtfbhdjflkaldgaaGreatDoorMg1
import Derived.Test.YtfbhdjflkaldgaaGreatDoorMg2
import Derived.Test.YtfbhdjflkaldgaaGreatDoorMg3
import Derived.Laws.IdiomStrings
/- rewrite.Valid. -/
/- pattern.Matches, Prefixes, Suffixes; rewrite.follows, precedes: what they answer, in plain words. -/
/- The reference's Letters: a string's runes, if each is a letter's. -/
namespace Go.Proofs.YtfbhdjflkaldgaaGreatDoor.Pr
open Go.Proofs.YtfbhdjflkaldgaaGreatDoor.Ct Go.RowKit Go.Maps Go.Lib Go.Proofs.YtfbhdjflkaldgaaGreatDoorW.PrintWords Go.Proofs.YtfbhdjflkaldgaaGreatDoorW.PrintLast Go.Proofs.YtfbhdjflkaldgaaGreatDoorW.PrintMore
set_option linter.unusedVariables false
set_option linter.unusedSimpArgs false
def Z3p (l:List S68):Bool:=decide (1 ≤ l.length) && Z48 l
theorem Z69 (l:List S68) (n:Nat) (r:Int):∀ k,k ≤ n → look (l.take n) k r = look l k r
  | 0,_ => rfl
  | k + 1,h => by
    unfold look;rw [Z69 l n r k (by omega)]
    have e:Z0v (l.take n) (k:Int) = Z0v l (k:Int):=by
      unfold Z0v;rw [Int.toNat_natCast,List.getD_eq_getElem?_getD,List.getD_eq_getElem?_getD,List.getElem?_take_of_lt (by omega)]
    rw [e]
theorem Znu (x:Int):Ev (fun k => Z1b.f k x) (Lib.validRune x):=by
  have hj:∀ b:Bool,Ev (fun k => Z1b.j0 k x b) (b || decide (57343 < x ∧ x ≤ 1114111)):=by
    intro b
    refine Ev.step (f:=fun _ => some (b || decide (57343 < x ∧ x ≤ 1114111))) (fun k => ?_) (Ev.now _)
    simp only [Z1b.j0]
    cases b with
    | true => rfl
    | false =>
      rw [if_neg (by decide)]
      by_cases h1:57343 < x
      · rw [if_pos h1]
        by_cases h2:x ≤ 1114111
        · rw [if_pos h2,decide_eq_true ⟨h1,h2⟩];rfl
        · rw [if_neg h2,decide_eq_false (by omega)];rfl
      · rw [if_neg h1,decide_eq_false (by omega)];rfl
  unfold Lib.validRune
  by_cases h0:0 ≤ x
  · refine Ev.congr (f:=fun k => Z1b.j0 k x (decide (x < 55296))) (fun k => ?_) ?_
    · unfold Z1b.f;rw [if_pos h0]
    · have h:=hj (decide (x < 55296))
      rw [show (decide ((0 ≤ x ∧ x < 0xD800) ∨ (0xDFFF < x ∧ x ≤ 0x10FFFF))) = (decide (x < 55296) || decide (57343 < x ∧ x ≤ 1114111)) by rw [← Bool.decide_or];exact decide_eq_decide.2 (by omega)];exact h
  · refine Ev.congr (f:=fun k => Z1b.j0 k x false) (fun k => ?_) ?_
    · unfold Z1b.f;rw [if_neg h0]
    · have h:=hj false
      rw [show (decide ((0 ≤ x ∧ x < 0xD800) ∨ (0xDFFF < x ∧ x ≤ 0x10FFFF))) = (false || decide (57343 < x ∧ x ≤ 1114111)) by rw [Bool.false_or];exact decide_eq_decide.2 (by omega)];exact h
theorem Z7n (l:List S68) (hl:l.length ≤ 9223372036854775807):Ev (fun k => Z02.f k l) (Z3p l):=by
  have key:∀ d i,l.length - i = d → i ≤ l.length → Z4d l i = true → Ev (fun k => Z02.l0 k l l (l.length:Int) (i:Int)) (((l.drop i).all fun x => Z3m x.f0) && Z4d l l.length):=by
    intro d
    induction d with
    | zero =>
      intro i hd hi ho
      obtain rfl:i = l.length:=by omega
      refine Ev.step (f:=fun _ => some true) (fun k => ?_) ?_
      · simp only [Z02.l0];rw [if_neg (by omega)]
      · rw [List.drop_length,ho];exact Ev.now _
    | succ d ih =>
      intro i hd hi ho
      have hlt:i < l.length:=by omega
      rw [Z88 l i hlt,List.all_cons];obtain ⟨R,hR⟩:∃ R,(Z0v l (i:Int)).f0 = R:=⟨_,rfl⟩;have hos:=Z66 l i;rw [hR] at hos ⊢
      by_cases c1:R ≤ 32
      · refine Ev.step (f:=fun _ => some false) (fun k => ?_) ?_
        · simp only [Z02.l0,hR];rw [if_pos (by omega),if_pos (by omega),if_pos (by omega),if_pos c1]
        · rw [show Z3m R = false by unfold Z3m;rw [decide_eq_false (show ¬ 32 < R by omega)];rfl,Bool.false_and,Bool.false_and];exact Ev.now _
      · refine Ev.step (f:=fun k => (Z1b.f k R).bind fun t111 => (if t111 = true then ((Z12.f k (l.take i) R).bind fun t116 => (if t116 = true then (some false) else (Z02.l0 k l l (l.length:Int) ((i + 1:Nat):Int)))) else (some false))) (fun k => ?_) ?_
        · simp only [Z02.l0,hR];rw [if_pos (by omega),if_pos (by omega),if_pos (by omega),if_neg c1,Z1a hlt hl]
          congr 1
          funext t
          split
          · rw [if_pos (by omega),Int.toNat_natCast]
          · rfl
        · refine Ev.bind (Znu R) ?_
          cases c2:Lib.validRune R with
          | false => rw [show Z3m R = false by unfold Z3m;rw [c2];simp,Bool.false_and,Bool.false_and];exact Ev.now _
          | true =>
            rw [show Z3m R = true by unfold Z3m;rw [c2,decide_eq_true (show 32 < R by omega)];rfl,Bool.true_and];simp only [if_true]
            refine Ev.bind (Zlh (l.take i) R Gc36) ?_
            have hh:isL (l.take i) R = (look l i R).isSome:=by
              unfold isL;rw [List.length_take,Nat.min_eq_left (by omega),Z69 l i R i (Nat.le_refl _)]
            rw [hh]
            cases e:look l i R with
            | some j =>
              rw [e,ho] at hos;rw [Z7l l (i + 1) (by rw [hos];rfl) l.length (by omega),Bool.and_false];exact Ev.now _
            | none =>
              rw [e,ho] at hos;exact ih (i + 1) (by omega) (by omega) (by rw [hos];rfl)
  have hj:∀ b:Bool,Ev (fun k => Z02.j0 k l b) (!b && ((l.all fun x => Z3m x.f0) && Z4d l l.length)):=by
    intro b
    cases b with
    | true =>
      refine Ev.step (f:=fun _ => some false) (fun k => ?_) (Ev.now _)
      simp only [Z02.j0];rw [if_pos trivial]
    | false =>
      refine Ev.step (fun k => ?_) (key _ 0 rfl (Nat.zero_le _) rfl)
      simp only [Z02.j0];rw [if_neg (by decide)];rfl
  unfold Z3p Z48
  by_cases h1:(l.length:Int) < 1
  · refine Ev.congr (f:=fun k => Z02.j0 k l true) (fun k => ?_) ?_
    · unfold Z02.f;rw [if_pos h1]
    · rw [decide_eq_false (by omega),Bool.false_and];exact hj true
  · refine Ev.congr (f:=fun k => Z02.j0 k l (decide ((l.length:Int) > 65))) (fun k => ?_) ?_
    · unfold Z02.f;rw [if_neg h1]
    · have h:=hj (decide ((l.length:Int) > 65))
      rw [decide_eq_true (by omega:1 ≤ l.length),Bool.true_and]
      have e:(!decide ((l.length:Int) > 65)) = decide (l.length ≤ 65):=by
        by_cases h2:l.length ≤ 65
        · rw [decide_eq_false (by omega),decide_eq_true h2];rfl
        · rw [decide_eq_true (by omega),decide_eq_false h2];rfl
      rw [e] at h;rw [← Bool.and_assoc,Bool.and_comm];exact h
theorem Z8s (A:Option Addr) (c:Nat) (l:List S68) (w:World) (hr0:Kd.C k68 w A l.length l) (hc0:l.length ≤ c) :
    Calls Tryz.prog 68 #[.slice A l.length c] w fun e w' => e = .returned (.bool (Z3p l)) ∧ Below w.heap.size w w':=by
  obtain ⟨k,hk⟩:=(Z7n l hr0.2.1).rounds;exact Z02.calls k A c l _ w hr0 hc0 hk
def Z3r (l:List S68) (r:S73):Bool:=(Z3p l && (decide (r.f0 = 0) || isL l r.f0)) && (Z39 l r.f1 4 && (patP l r.f2 && patP l r.f3))
def Z2k (r:S73):Bool:=decide (r.f1.size ≤ 1099511627776) && (Z37 r.f2 && Z37 r.f3)
def Z1r.f (l0:List S68) (a0:Int) (a1:ByteArray) (l2 l3:List S70) (a4 a5:Bool):Option Bool:=if Z1z l0 = true ∧ Z2k ⟨a0,a1,l2,l3,a4,a5⟩ = true then some (Z3r l0 ⟨a0,a1,l2,l3,a4,a5⟩) else none
theorem Zim {p:Prop} (h:p:=by
  go_wp2_with (first | (go_at_call 68;with_reducible refine (had'.out _ HBc).mono ?_;rintro e z1_ ⟨rfl,hBx⟩;have HBn:=HBc.trans (hBx.mono HBc.size);clear HBc hBx k0 k1 k2 k3;have HBc:=HBn;clear HBn;obtain ⟨k0,k1,k2,k3⟩:=hcell'.out _ HBc) | (go_at_call 69;with_reducible refine (hha'.out _ HBc).mono ?_;rintro e z1_ ⟨rfl,hBx⟩;have HBn:=HBc.trans (hBx.mono HBc.size);clear HBc hBx k0 k1 k2 k3;have HBc:=HBn;clear HBn;obtain ⟨k0,k1,k2,k3⟩:=hcell'.out _ HBc) | (go_at_call 70;with_reducible refine (hco'.out _ HBc).mono ?_;rintro e z1_ ⟨rfl,hBx⟩;have HBn:=HBc.trans (hBx.mono HBc.size);clear HBc hBx k0 k1 k2 k3;have HBc:=HBn;clear HBn;obtain ⟨k0,k1,k2,k3⟩:=hcell'.out _ HBc) | (go_at_call 71;(first | (with_reducible refine (hp2'.out _ HBc).mono ?_) | (with_reducible refine (hp3'.out _ HBc).mono ?_));rintro e z1_ ⟨rfl,hBx⟩;have HBn:=HBc.trans (hBx.mono HBc.size);clear HBc hBx k0 k1 k2 k3;have HBc:=HBn;clear HBn;obtain ⟨k0,k1,k2,k3⟩:=hcell'.out _ HBc))
  go_ret
  exact ⟨rfl,hB0'.out.trans (HBc.mono hB0'.out.size)⟩):p:=h
theorem Zin {p:Prop} (h:p:=by
  go_wp2_with (first | (go_at_call 68;with_reducible refine (had'.out _ HBc).mono ?_;rintro e z1_ ⟨rfl,hBx⟩;have HBn:=HBc.trans (hBx.mono HBc.size);clear HBc hBx k0 k1 k2 k3;have HBc:=HBn;clear HBn;obtain ⟨k0,k1,k2,k3⟩:=hcell'.out _ HBc) | (go_at_call 70;with_reducible refine (hco'.out _ HBc).mono ?_;rintro e z1_ ⟨rfl,hBx⟩;have HBn:=HBc.trans (hBx.mono HBc.size);clear HBc hBx k0 k1 k2 k3;have HBc:=HBn;clear HBn;obtain ⟨k0,k1,k2,k3⟩:=hcell'.out _ HBc) | (go_at_call 71;(first | (with_reducible refine (hp2'.out _ HBc).mono ?_) | (with_reducible refine (hp3'.out _ HBc).mono ?_));rintro e z1_ ⟨rfl,hBx⟩;have HBn:=HBc.trans (hBx.mono HBc.size);clear HBc hBx k0 k1 k2 k3;have HBc:=HBn;clear HBn;obtain ⟨k0,k1,k2,k3⟩:=hcell'.out _ HBc))
  go_ret
  exact ⟨rfl,hB0'.out.trans (HBc.mono hB0'.out.size)⟩):p:=h
set_option maxRecDepth 100000 in
set_option maxHeartbeats 1000000 in
theorem Z1r.calls (A0:Option Addr) (c0:Nat) (l0:List S68) (a0:Int) (a1:ByteArray) (A2:Option Addr) (c2:Nat) (l2:List S70) (A3:Option Addr) (c3:Nat) (l3:List S70) (a4 a5:Bool) (r:Bool) (w:World) (hT:Tabs w) (hr0:Kd.C k68 w A0 l0.length l0) (hc0:l0.length ≤ c0) (hr2:Kd.C k70 w A2 l2.length l2) (hc2:l2.length ≤ c2) (hr3:Kd.C k70 w A3 l3.length l3) (hc3:l3.length ≤ c3) (h:Z1r.f l0 a0 a1 l2 l3 a4 a5 = some r) :
    Calls Tryz.prog 52 #[.slice A0 l0.length c0,.agg #[.int .i32 a0,.string a1,.slice A2 l2.length c2,.slice A3 l3.length c3,.bool a4,.bool a5]] w fun e w' => e = .returned (.bool r) ∧ Below w.heap.size w w':=by
  unfold Z1r.f at h
  by_cases hg:Z1z l0 = true ∧ Z2k ⟨a0,a1,l2,l3,a4,a5⟩ = true
  · rw [if_pos hg] at h
    have hr:=Option.some.inj h;clear h
    obtain ⟨hg1,hg2,hg3⟩:a1.size ≤ 1099511627776 ∧ Z37 l2 = true ∧ Z37 l3 = true:=by
      have:=hg.2;unfold Z2k at this;rw [Bool.and_eq_true,Bool.and_eq_true,decide_eq_true_eq] at this;exact this
    have hrr:r = ((Z3p l0 && (decide (a0 = 0) || isL l0 a0)) && (Z39 l0 a1 4 && (patP l0 l2 && patP l0 l3))):=hr.symm;obtain ⟨W0,hW0⟩:∃ W0,w.alloc (.cells #[.int .i32 a0,.string a1,.slice A2 l2.length c2,.slice A3 l3.length c3,.bool a4,.bool a5] 73) = W0:=⟨_,rfl⟩
    have hB0:Below w.heap.size w W0:=by rw [← hW0];exact (Below.refl _ w).alloc (Nat.le_refl _) _
    have hcell:∀ w1,Below W0.heap.size W0 w1 → w1.cell? ⟨w.heap.size,0,none⟩ = some (.int .i32 a0) ∧ w1.cell? ⟨w.heap.size,1,none⟩ = some (.string a1) ∧ w1.cell? ⟨w.heap.size,2,none⟩ = some (.slice A2 l2.length c2) ∧ w1.cell? ⟨w.heap.size,3,none⟩ = some (.slice A3 l3.length c3):=by
      intro w1 hB
      have hlt:w.heap.size < W0.heap.size:=by rw [← hW0];simp
      refine ⟨(hB.cell hlt).trans ?_,(hB.cell hlt).trans ?_,(hB.cell hlt).trans ?_,(hB.cell hlt).trans ?_⟩
      · rw [← hW0];exact Z2c _ _ _ 0 _ rfl
      · rw [← hW0];exact Z2c _ _ _ 1 _ rfl
      · rw [← hW0];exact Z2c _ _ _ 2 _ rfl
      · rw [← hW0];exact Z2c _ _ _ 3 _ rfl
    have had:=fun (w1:World) (hB:Below W0.heap.size W0 w1) => Z8s A0 c0 l0 w1 (Kd.C_below hr0 (hB0.trans (hB.mono hB0.size))) hc0
    have hha:=fun (w1:World) (hB:Below W0.heap.size W0 w1) => Zci A0 c0 l0 a0 w1 (Kd.C_below hr0 (hB0.trans (hB.mono hB0.size))) hc0
    have hco:=fun (w1:World) (hB:Below W0.heap.size W0 w1) => show Calls Tryz.prog 70 #[.string a1,.int .i64 4,.func (.func 69) #[.slice A0 l0.length c0] #[]] w1 fun e w' => e = .returned (.bool (Z39 l0 a1 4)) ∧ Below w1.heap.size w1 w' from Z6r A0 c0 l0 a1 4 w1 (Z1s hT (hB0.trans (hB.mono hB0.size))) (Kd.C_below hr0 (hB0.trans (hB.mono hB0.size))) hc0 hg1
    have hp2:=fun (w1:World) (hB:Below W0.heap.size W0 w1) => Z33.calls A0 c0 l0 A2 c2 l2 (patP l0 l2) w1 (Z1s hT (hB0.trans (hB.mono hB0.size))) (Kd.C_below hr0 (hB0.trans (hB.mono hB0.size))) hc0 (Kd.C_below hr2 (hB0.trans (hB.mono hB0.size))) hc2 (by unfold Z33.f;rw [if_pos ⟨hg.1,hg2⟩])
    have hp3:=fun (w1:World) (hB:Below W0.heap.size W0 w1) => Z33.calls A0 c0 l0 A3 c3 l3 (patP l0 l3) w1 (Z1s hT (hB0.trans (hB.mono hB0.size))) (Kd.C_below hr0 (hB0.trans (hB.mono hB0.size))) hc0 (Kd.C_below hr3 (hB0.trans (hB.mono hB0.size))) hc3 (by unfold Z33.f;rw [if_pos ⟨hg.1,hg3⟩])
    have hmf:∀ W (v:Value),(Instr.makeFunc (.func 69) #[v] #[]).run Tryz.prog W = .ok (.func (.func 69) #[v] #[]) W:=by intro W v;rfl
    have hcell':=am hcell;have had':=am had;have hha':=am hha;have hco':=am hco;have hp2':=am hp2;have hp3':=am hp3;have hrr':=am hrr;have hB0':=am hB0;clear hr0 hc0 hr2 hc2 hr3 hc3 hg hr hT had hha hco hp2 hp3 hrr hB0 hg1 hg2 hg3 hcell;have HBc:Below W0.heap.size W0 W0:=Below.refl _ _;obtain ⟨k0,k1,k2,k3⟩:=hcell'.out _ HBc;go_enter Tryz.func52,Tryz.ntmps52
    cases c1:Z3p l0 with
    | false =>
      obtain rfl:r = false:=by rw [hrr'.out,c1];simp
      have had2:=had'.out;rw [c1] at had2;have had':=am had2;clear had2;clear c1
      go_wp2_with (go_at_call 68;with_reducible refine (had'.out _ HBc).mono ?_;rintro e w2 ⟨rfl,hBx⟩;have HBn:=HBc.trans (hBx.mono HBc.size);clear HBc hBx k0 k1 k2 k3;have HBc:=HBn;clear HBn;obtain ⟨k0,k1,k2,k3⟩:=hcell'.out _ HBc)
      go_ret;exact ⟨rfl,hB0'.out.trans (HBc.mono hB0'.out.size)⟩
    | true =>
      have had2:=had'.out;rw [c1] at had2;have had':=am had2;clear had2
      by_cases c2:a0 = 0
      · subst c2
        have cz:=am (decide_eq_true (rfl:(0:Int) = 0))
        cases c3:Z39 l0 a1 4 with
        | false =>
          obtain rfl:r = false:=by rw [hrr'.out,c3];simp
          have hco2:=hco'.out;rw [c3] at hco2;have hco':=am hco2;clear hco2;clear c3
          go_wp2_with (first | (go_at_call 68;with_reducible refine (had'.out _ HBc).mono ?_;rintro e w2 ⟨rfl,hBx⟩;have HBn:=HBc.trans (hBx.mono HBc.size);clear HBc hBx k0 k1 k2 k3;have HBc:=HBn;clear HBn;obtain ⟨k0,k1,k2,k3⟩:=hcell'.out _ HBc) | (go_at_call 70;with_reducible refine (hco'.out _ HBc).mono ?_;rintro e w2 ⟨rfl,hBx⟩;have HBn:=HBc.trans (hBx.mono HBc.size);clear HBc hBx k0 k1 k2 k3;have HBc:=HBn;clear HBn;obtain ⟨k0,k1,k2,k3⟩:=hcell'.out _ HBc))
          go_ret;exact ⟨rfl,hB0'.out.trans (HBc.mono hB0'.out.size)⟩
        | true =>
          have hco2:=hco'.out;rw [c3] at hco2;have hco':=am hco2;clear hco2
          cases c4:patP l0 l2 with
          | false =>
            obtain rfl:r = false:=by rw [hrr'.out,c3,c4];simp
            have hp22:=hp2'.out;rw [c4] at hp22;have hp2':=am hp22;clear hp22;clear c3 c4;exact Zin
          | true =>
            have hp22:=hp2'.out;rw [c4] at hp22;have hp2':=am hp22;clear hp22;obtain ⟨c5,hc5⟩:∃ c5,patP l0 l3 = c5:=⟨_,rfl⟩
            obtain rfl:r = c5:=by rw [hrr'.out,c3,c4,hc5,c1,cz.out];simp
            have hp32:=hp3'.out;rw [hc5] at hp32;have hp3':=am hp32;clear hp32;clear c3 c4 hc5;exact Zin
      · have cz:=am (decide_eq_false c2)
        have c2b:(a0 == 0) = false:=beq_eq_false_iff_ne.2 c2
        cases c6:isL l0 a0 with
        | false =>
          obtain rfl:r = false:=by rw [hrr'.out,c1,cz.out,c6];simp
          have hha2:=hha'.out;rw [c6] at hha2;have hha':=am hha2;clear hha2;clear c6
          go_wp2_with (first | (go_at_call 68;with_reducible refine (had'.out _ HBc).mono ?_;rintro e w2 ⟨rfl,hBx⟩;have HBn:=HBc.trans (hBx.mono HBc.size);clear HBc hBx k0 k1 k2 k3;have HBc:=HBn;clear HBn;obtain ⟨k0,k1,k2,k3⟩:=hcell'.out _ HBc) | (go_at_call 69;with_reducible refine (hha'.out _ HBc).mono ?_;rintro e w2 ⟨rfl,hBx⟩;have HBn:=HBc.trans (hBx.mono HBc.size);clear HBc hBx k0 k1 k2 k3;have HBc:=HBn;clear HBn;obtain ⟨k0,k1,k2,k3⟩:=hcell'.out _ HBc))
          go_ret;exact ⟨rfl,hB0'.out.trans (HBc.mono hB0'.out.size)⟩
        | true =>
          have hha2:=hha'.out;rw [c6] at hha2;have hha':=am hha2;clear hha2
          cases c3:Z39 l0 a1 4 with
          | false =>
            obtain rfl:r = false:=by rw [hrr'.out,c3];simp
            have hco2:=hco'.out;rw [c3] at hco2;have hco':=am hco2;clear hco2;clear c3
            go_wp2_with (first | (go_at_call 68;with_reducible refine (had'.out _ HBc).mono ?_;rintro e w2 ⟨rfl,hBx⟩;have HBn:=HBc.trans (hBx.mono HBc.size);clear HBc hBx k0 k1 k2 k3;have HBc:=HBn;clear HBn;obtain ⟨k0,k1,k2,k3⟩:=hcell'.out _ HBc) | (go_at_call 69;with_reducible refine (hha'.out _ HBc).mono ?_;rintro e w2 ⟨rfl,hBx⟩;have HBn:=HBc.trans (hBx.mono HBc.size);clear HBc hBx k0 k1 k2 k3;have HBc:=HBn;clear HBn;obtain ⟨k0,k1,k2,k3⟩:=hcell'.out _ HBc) | (go_at_call 70;with_reducible refine (hco'.out _ HBc).mono ?_;rintro e w2 ⟨rfl,hBx⟩;have HBn:=HBc.trans (hBx.mono HBc.size);clear HBc hBx k0 k1 k2 k3;have HBc:=HBn;clear HBn;obtain ⟨k0,k1,k2,k3⟩:=hcell'.out _ HBc))
            go_ret;exact ⟨rfl,hB0'.out.trans (HBc.mono hB0'.out.size)⟩
          | true =>
            have hco2:=hco'.out;rw [c3] at hco2;have hco':=am hco2;clear hco2
            cases c4:patP l0 l2 with
            | false =>
              obtain rfl:r = false:=by rw [hrr'.out,c3,c4];simp
              have hp22:=hp2'.out;rw [c4] at hp22;have hp2':=am hp22;clear hp22;clear c3 c4;exact Zim
            | true =>
              have hp22:=hp2'.out;rw [c4] at hp22;have hp2':=am hp22;clear hp22;obtain ⟨c5,hc5⟩:∃ c5,patP l0 l3 = c5:=⟨_,rfl⟩
              obtain rfl:r = c5:=by rw [hrr'.out,c3,c4,hc5,c1,cz.out,c6];simp
              have hp32:=hp3'.out;rw [hc5] at hp32;have hp3':=am hp32;clear hp32;clear c3 c4 hc5;exact Zim
  · rw [if_neg hg] at h;cases h
theorem Z6s (n:Int) (h : -9223372036854775808 ≤ n ∧ n ≤ 9223372036854775807):wrap64 n = n:=by unfold wrap64;omega
def Zhh {α:Type} (l x:List α) (i:Nat):Prop:=x.length = l.length ∧ ∀ p,p < l.length → x[p]? = if p < i ∨ l.length ≤ p + i then l[l.length - 1 - p]? else l[p]?
theorem Z9o {α:Type} (l:List α):Zhh l l 0:=⟨rfl,fun p hp => by rw [if_neg (by omega)]⟩
theorem Z7o {α:Type} {l x:List α} {i:Nat} (h:Zhh l x i) (hi:l.length ≤ i + i + 1):x = l.reverse:=by
  refine List.ext_getElem? fun p => ?_
  by_cases hp:p < l.length
  · rw [h.2 p hp,List.getElem?_reverse hp]
    split
    · rfl
    · congr 1;omega
  · rw [List.getElem?_eq_none (by rw [h.1];omega),List.getElem?_eq_none (by rw [List.length_reverse];omega)]
theorem Zb0 {α:Type} {l x:List α} {i j:Nat} {a b:α} (h:Zhh l x i) (hij:i < j) (hj:i + j + 1 = l.length) (ha:x[i]? = some a) (hb:x[j]? = some b):Zhh l ((x.set i b).set j a) (i + 1):=by
  refine ⟨by simp [h.1],fun p hp => ?_⟩
  have hxi:=h.2 i (by omega);have hxj:=h.2 j (by omega);rw [if_neg (by omega),ha] at hxi;rw [if_neg (by omega),hb] at hxj
  by_cases e1:j = p
  · subst e1
    rw [List.getElem?_set_self (by simp [h.1];omega),if_pos (by omega),show l.length - 1 - j = i by omega,← hxi]
  · rw [List.getElem?_set_ne e1]
    by_cases e2:i = p
    · subst e2
      rw [List.getElem?_set_self (by rw [h.1];omega),if_pos (by omega),show l.length - 1 - i = j by omega,← hxj]
    · rw [List.getElem?_set_ne e2,h.2 p hp]
      by_cases c:p < i ∨ l.length ≤ p + i
      · rw [if_pos c,if_pos (by omega)]
      · rw [if_neg c,if_neg (by omega)]
theorem Z7p {α:Type} (x:List α) (i:Nat) (z:α) (h:i < x.length):x[i]? = some (x.getD i z):=by
  rw [List.getD_eq_getElem?_getD,List.getElem?_eq_getElem h];rfl
theorem Zg2 {j n:Nat} (h:1 ≤ j) (hj:j < n) (hn:n ≤ 9223372036854775807):wrap64 ((j:Int) - 1) = ((j - 1:Nat):Int):=by
  rw [Z6s _ ⟨by omega,by omega⟩];omega
theorem Zhi (l:List Int) (hl:l.length ≤ 9223372036854775807):Ev (fun k => Z0f.f k l) l.reverse:=by
  have key:∀ d i j (x:List Int),j + 1 - i ≤ d → i + j + 1 = l.length → i ≤ j + 1 → Zhh l x i → Ev (fun k => Z0f.l0 k x (i:Int) (j:Int)) l.reverse:=by
    intro d
    induction d with
    | zero =>
      intro i j x hd hij hle hx
      refine Ev.step (f:=fun _ => some x) (fun k => ?_) ?_
      · simp only [Z0f.l0];rw [if_neg (by omega)]
      · rw [Z7o hx (by omega)];exact Ev.now _
    | succ d ih =>
      intro i j x hd hij hle hx
      by_cases hlt:i < j
      · have hxl:=hx.1
        have h2:=Zb0 hx hlt hij (Z7p x i 0 (by omega)) (Z7p x j 0 (by omega))
        refine Ev.step (fun k => ?_) (ih (i + 1) (j - 1) _ (by omega) (by omega) (by omega) h2)
        simp only [Z0f.l0];rw [if_pos (by omega),if_pos (by omega),if_pos (by omega),if_pos (by omega),if_pos (by omega),Z1a (i:=i) (n:=l.length) (by omega) hl,Zg2 (j:=j) (n:=l.length) (by omega) (by omega) hl];simp only [rd,Int.toNat_natCast]
      · refine Ev.step (f:=fun _ => some x) (fun k => ?_) ?_
        · simp only [Z0f.l0];rw [if_neg (by omega)]
        · rw [Z7o hx (by omega)];exact Ev.now _
  refine Ev.congr (f:=fun k => Z0f.l0 k l 0 (wrap64 ((l.length:Int) - 1))) (fun k => rfl) ?_
  cases l with
  | nil =>
    refine Ev.step (f:=fun _ => some []) (fun k => ?_) (Ev.now _)
    simp only [Z0f.l0];rw [show wrap64 ((([]:List Int).length:Int) - 1) = -1 by rw [Z6s _ ⟨by simp,by simp⟩];rfl,if_neg (by decide)]
  | cons a t =>
    have h:=key ((a :: t).length + 1) 0 ((a :: t).length - 1) (a :: t) (by simp) (by simp) (by omega) (Z9o _);rw [show wrap64 (((a :: t).length:Int) - 1) = (((a :: t).length - 1:Nat):Int) from by rw [Z6s _ ⟨by simp only [List.length_cons];omega,by simp at hl ⊢;omega⟩];simp only [List.length_cons];omega];exact h
theorem Ze7 (l:List S70) (hl:l.length ≤ 9223372036854775807):Ev (fun k => Z1f.f k l) l.reverse:=by
  have key:∀ d i j (x:List S70),j + 1 - i ≤ d → i + j + 1 = l.length → i ≤ j + 1 → Zhh l x i → Ev (fun k => Z1f.l0 k x (i:Int) (j:Int)) l.reverse:=by
    intro d
    induction d with
    | zero =>
      intro i j x hd hij hle hx
      refine Ev.step (f:=fun _ => some x) (fun k => ?_) ?_
      · simp only [Z1f.l0];rw [if_neg (by omega)]
      · rw [Z7o hx (by omega)];exact Ev.now _
    | succ d ih =>
      intro i j x hd hij hle hx
      by_cases hlt:i < j
      · have hxl:=hx.1
        have g:∀ p,p < x.length → x[p]? = some (Z16 x (p:Int)):=fun p hp => by
          unfold Z16;rw [Int.toNat_natCast];exact Z7p x p _ hp
        have h2:=Zb0 hx hlt hij (g i (by omega)) (g j (by omega))
        refine Ev.step (fun k => ?_) (ih (i + 1) (j - 1) _ (by omega) (by omega) (by omega) h2)
        simp only [Z1f.l0];rw [if_pos (by omega),if_pos (by omega),if_pos (by omega),if_pos (by omega),if_pos (by omega),Z1a (i:=i) (n:=l.length) (by omega) hl,Zg2 (j:=j) (n:=l.length) (by omega) (by omega) hl];simp only [Int.toNat_natCast]
      · refine Ev.step (f:=fun _ => some x) (fun k => ?_) ?_
        · simp only [Z1f.l0];rw [if_neg (by omega)]
        · rw [Z7o hx (by omega)];exact Ev.now _
  refine Ev.congr (f:=fun k => Z1f.l0 k l 0 (wrap64 ((l.length:Int) - 1))) (fun k => rfl) ?_
  cases l with
  | nil =>
    refine Ev.step (f:=fun _ => some []) (fun k => ?_) (Ev.now _)
    simp only [Z1f.l0];rw [show wrap64 ((([]:List S70).length:Int) - 1) = -1 by rw [Z6s _ ⟨by simp,by simp⟩];rfl,if_neg (by decide)]
  | cons a t =>
    have h:=key ((a :: t).length + 1) 0 ((a :: t).length - 1) (a :: t) (by simp) (by simp) (by omega) (Z9o _);rw [show wrap64 (((a :: t).length:Int) - 1) = (((a :: t).length - 1:Nat):Int) from by rw [Z6s _ ⟨by simp only [List.length_cons];omega,by simp at hl ⊢;omega⟩];simp only [List.length_cons];omega];exact h
def idxs (l:List S68) (s:ByteArray):List Int:=(Z0d s).map (idxI l)
structure Z54 (l:List S68) (p:List S70) (s:ByteArray):Prop where
  runes:Z1z l = true
  pat:patP l p = true
  small:Z37 p = true
  size:s.size ≤ 1099511627776
  valid:validD s.data.toList = true
  all:(Z0d s).all (isL l) = true
section
variable {l:List S68} {p:List S70} {s:ByteArray}
theorem Ze8 (l:List S68) (r:Int):∀ k j,look l k r = some j → j < k
  | 0,j,h => by simp [look] at h
  | k + 1,j,h => by
    unfold look at h;have ih:=Ze8 l r k
    cases e:look l k r with
    | some i =>
      rw [e] at h;have:=ih i e
      simp at h
      omega
    | none =>
      rw [e] at h
      simp at h
      omega
theorem Zli (l:List S68) (r:Int) (h:isL l r = true):0 ≤ idxI l r ∧ idxI l r < (l.length:Int):=by
  unfold isL at h;unfold idxI;obtain ⟨j,hj⟩:=Option.isSome_iff_exists.1 h;rw [hj];have:=Ze8 l r l.length j hj;simp only;omega
theorem Z54.inl (h:Z54 l p s):inL l (idxs l s) = true:=by
  unfold inL idxs;rw [List.all_eq_true];intro x hx;obtain ⟨r,hr,rfl⟩:=List.mem_map.1 hx;have:=Zli l r (List.all_eq_true.1 h.all r hr);rw [decide_eq_true this.1,decide_eq_true this.2];rfl
theorem Z54.len (h:Z54 l p s):(idxs l s).length ≤ 1099511627776:=by
  unfold idxs;rw [List.length_map];exact Nat.le_trans (Z23 s) h.size
theorem Z8x (h:patP l p = true):p.length ≤ 3 ∧ l.length ≤ 65:=by
  unfold patP Z48 at h;simp only [Bool.and_eq_true,decide_eq_true_eq] at h;exact ⟨h.2.1,h.1.2.2⟩
theorem Z54.read (h:Z54 l p s):Z24.f l p s = some (idxs l s,true):=by
  unfold Z24.f;rw [if_pos ⟨h.runes,h.small,h.size⟩];unfold Zhf;rw [if_pos h.pat];unfold Z5o;rw [if_pos ⟨h.valid,h.all⟩];rfl
theorem Zan:Z37 p.reverse = Z37 p:=by unfold Z37;rw [List.all_reverse]
theorem Z54.lens (h:Z54 l p s):Z1o.f l p (idxs l s) = some (Z3c l p (idxs l s) ((idxs l s).length + 1)):=by
  unfold Z1o.f;rw [if_pos ⟨Z8x h.pat,⟨h.small,h.inl⟩,h.len⟩]
theorem Z54.lensR (h:Z54 l p s):Z1o.f l p.reverse (idxs l s).reverse = some (Z3c l p.reverse (idxs l s).reverse ((idxs l s).length + 1)):=by
  unfold Z1o.f;have hi:=h.inl;unfold inL at hi;rw [if_pos ⟨by rw [List.length_reverse];exact Z8x h.pat,⟨by rw [Zan];exact h.small,by unfold inL;rw [List.all_reverse];exact hi⟩,by rw [List.length_reverse];exact h.len⟩,List.length_reverse]
theorem Z54.matches (h:Z54 l p s):Z2g.f l p s = some (Z2q l p (idxs l s)):=by
  unfold Z2g.f;rw [h.read];simp only [Option.bind_some,if_true];rw [h.lens];simp only [Option.bind_some];obtain ⟨n,hn⟩:∃ n,(idxs l s).length = n:=⟨_,rfl⟩;have hst:=Z8a l p (idxs l s) n;have hlen:=Z8m l p (idxs l s) n;have hn2:=h.len;rw [hn] at hn2 ⊢;rw [List.take_of_length_le (by omega)] at hst
  have hmem:∀ x ∈ Z3c l p (idxs l s) n,x < (n:Int):=by
    intro x hx;unfold Z3c at hx;obtain ⟨i,hi,rfl⟩:=List.mem_map.1 hx;have:=List.mem_range.1 (List.mem_filter.1 hi).1
    simp;omega
  cases hm:Z2q l p (idxs l s) with
  | true =>
    rw [hm,if_pos rfl] at hst;rw [hst,List.length_append,List.length_singleton];rw [Z6s _ ⟨by omega,by omega⟩];rw [if_pos (by omega),if_pos (by omega),if_pos (by omega)]
    have:rd (Z3c l p (idxs l s) n ++ [(n:Int)]) (((Z3c l p (idxs l s) n).length + 1:Nat) - 1:Int) = (n:Int):=by
      unfold rd;rw [show ((((Z3c l p (idxs l s) n).length + 1:Nat):Int) - 1).toNat = (Z3c l p (idxs l s) n).length by omega]
      simp
    rw [this];simp
  | false =>
    rw [hm,if_neg (by decide)] at hst;rw [hst]
    by_cases hz:(Z3c l p (idxs l s) n).length = 0
    · rw [if_neg (by omega)]
    · rw [Z6s _ ⟨by omega,by omega⟩]
      rw [if_pos (by omega),if_pos (by omega),if_pos (by omega)]
      have hlt:(Z3c l p (idxs l s) n).length - 1 < (Z3c l p (idxs l s) n).length:=by omega
      have:rd (Z3c l p (idxs l s) n) (((Z3c l p (idxs l s) n).length:Int) - 1) ∈ Z3c l p (idxs l s) n:=by
        unfold rd;rw [show (((Z3c l p (idxs l s) n).length:Int) - 1).toNat = (Z3c l p (idxs l s) n).length - 1 by omega];exact List.mem_of_getElem? (Z7p _ _ 0 hlt)
      have:=hmem _ this;rw [beq_eq_false_iff_ne.2 (by omega)]
theorem Zb1 (q:List S70) (xs:List Int) (n:Nat):decide (((Z3c l q xs n).length:Int) > 0) = (List.range n).any fun i => Z2q l q (xs.take i):=by
  rw [Bool.eq_iff_iff,decide_eq_true_eq,List.any_eq_true];unfold Z3c;rw [List.length_map];constructor
  · intro h
    obtain ⟨i,hi⟩:=List.exists_mem_of_length_pos (show 0 < ((List.range n).filter fun i => Z2q l q (xs.take i)).length by omega);rw [List.mem_filter] at hi;exact ⟨i,hi.1,hi.2⟩
  · rintro ⟨i,h1,h2⟩
    have:=List.length_pos_of_mem (List.mem_filter (p:=fun i => Z2q l q (xs.take i)) |>.2 ⟨h1,h2⟩);omega
def Zg3 (l:List S68) (p:List S70) (xs:List Int):Bool:=(List.range (xs.length + 1)).any fun i => Z2q l p (xs.take i)
def Zbp (l:List S68) (p:List S70) (xs:List Int):Bool:=(List.range (xs.length + 1)).any fun i => Z2q l p (xs.drop i)
theorem Z7q (p:List S70) (xs:List Int):Z2q l p.reverse xs.reverse = Z2q l p xs:=by
  unfold Z2q;rw [Bool.eq_iff_iff,Z87,Z87];exact Z3w (admI l) repI p xs
theorem Ze9 (p:List S70) (xs:List Int):((List.range (xs.length + 1)).any fun i => Z2q l p.reverse (xs.reverse.take i)) = Zbp l p xs:=by
  unfold Zbp;rw [Bool.eq_iff_iff,List.any_eq_true,List.any_eq_true];constructor
  · rintro ⟨i,h1,h2⟩
    rw [List.mem_range] at h1
    refine ⟨xs.length - i,List.mem_range.2 (by omega),?_⟩
    rw [List.take_reverse,Z7q] at h2;exact h2
  · rintro ⟨i,h1,h2⟩
    rw [List.mem_range] at h1
    refine ⟨xs.length - i,List.mem_range.2 (by omega),?_⟩
    rw [List.take_reverse,Z7q,show xs.length - (xs.length - i) = i by omega];exact h2
theorem Z54.suffixes (h:Z54 l p s):Ev (fun k => Z2m.f k l p s) (Z3c l p.reverse (idxs l s).reverse ((idxs l s).length + 1)):=by
  refine Ev.congr (f:=fun k => ((Z1f.f k p).bind fun t163 => ((Z0f.f k (idxs l s)).bind fun t164 => ((Z1o.f l t163 t164).bind fun t165 => (some t165))))) (fun k => ?_) ?_
  · unfold Z2m.f
    rw [h.read];simp only [Option.bind_some,if_true];unfold Z3x.f;rw [if_pos (by have:=(Z8x h.pat).1;omega)];rfl
  · refine Ev.bind (Ze7 p (by have:=(Z8x h.pat).1;omega)) (Ev.bind (Zhi _ (by have:=h.len;omega)) ?_)
    refine Ev.congr (f:=fun _ => some _) (fun k => ?_) (Ev.now _)
    rw [h.lensR];rfl
def Z43 (l:List S68) (p:List S70) (whole:Bool) (xs:List Int):Bool:=if whole = true then Z2q l p xs else Zbp l p xs
def Z3j (l:List S68) (p:List S70) (whole:Bool) (xs:List Int):Bool:=if whole = true then Z2q l p xs else Zg3 l p xs
theorem Zhj (h:Z54 l p s) (a0:Int) (a1:ByteArray) (l3:List S70) (a4 a5:Bool):Ev (fun k => Z38.f k l a0 a1 p l3 a4 a5 s) (Z43 l p a4 (idxs l s)):=by
  unfold Z43
  cases a4 with
  | true =>
    refine Ev.congr (f:=fun _ => some _) (fun k => ?_) (Ev.now _)
    unfold Z38.f;rw [if_pos rfl,h.matches];rfl
  | false =>
    refine Ev.congr (f:=fun k => (Z2m.f k l p s).bind fun t170 => (some (decide ((t170.length:Int) > 0)))) (fun k => ?_) (Ev.bind h.suffixes ?_)
    · unfold Z38.f
      rw [if_neg (by decide)]
    · rw [Zb1,Ze9,if_neg (by decide)];exact Ev.now _
theorem Zea (h:Z54 l p s) (a0:Int) (a1:ByteArray) (l2:List S70) (a4 a5:Bool):Z3d.f l a0 a1 l2 p a4 a5 s = some (Z3j l p a5 (idxs l s)):=by
  unfold Z3j Z3d.f
  cases a5 with
  | true => rw [if_pos rfl,h.matches];rfl
  | false =>
    rw [if_neg (by decide),if_neg (by decide)];unfold Z31.f;rw [h.read];simp only [Option.bind_some,if_true];rw [h.lens];simp only [Option.bind_some];rw [Zb1];rfl
end
theorem Zbq (A0:Option Addr) (c0:Nat) (l0:List S68) (a0:Int) (a1:ByteArray) (A2:Option Addr) (c2:Nat) (l2:List S70) (A3:Option Addr) (c3:Nat) (l3:List S70) (a4 a5:Bool) (s:ByteArray) (w:World) (hT:Tabs w) (hr0:Kd.C k68 w A0 l0.length l0) (hc0:l0.length ≤ c0) (hr2:Kd.C k70 w A2 l2.length l2) (hc2:l2.length ≤ c2) (hr3:Kd.C k70 w A3 l3.length l3) (hc3:l3.length ≤ c3) (h:Z54 l0 l2 s) :
    Calls Tryz.prog 100 #[.slice A0 l0.length c0,.agg #[.int .i32 a0,.string a1,.slice A2 l2.length c2,.slice A3 l3.length c3,.bool a4,.bool a5],.string s] w fun e w' => e = .returned (.bool (Z43 l0 l2 a4 (idxs l0 s))) ∧ Below w.heap.size w w':=by
  obtain ⟨k,hk⟩:=(Zhj h a0 a1 l3 a4 a5).rounds;exact Z38.calls k A0 c0 l0 a0 a1 A2 c2 l2 A3 c3 l3 a4 a5 s _ w hT hr0 hc0 hr2 hc2 hr3 hc3 hk
theorem Zao (A0:Option Addr) (c0:Nat) (l0:List S68) (a0:Int) (a1:ByteArray) (A2:Option Addr) (c2:Nat) (l2:List S70) (A3:Option Addr) (c3:Nat) (l3:List S70) (a4 a5:Bool) (s:ByteArray) (w:World) (hT:Tabs w) (hr0:Kd.C k68 w A0 l0.length l0) (hc0:l0.length ≤ c0) (hr2:Kd.C k70 w A2 l2.length l2) (hc2:l2.length ≤ c2) (hr3:Kd.C k70 w A3 l3.length l3) (hc3:l3.length ≤ c3) (h:Z54 l0 l3 s) :
    Calls Tryz.prog 101 #[.slice A0 l0.length c0,.agg #[.int .i32 a0,.string a1,.slice A2 l2.length c2,.slice A3 l3.length c3,.bool a4,.bool a5],.string s] w fun e w' => e = .returned (.bool (Z3j l0 l3 a5 (idxs l0 s))) ∧ Below w.heap.size w w' :=
  Z3d.calls A0 c0 l0 a0 a1 A2 c2 l2 A3 c3 l3 a4 a5 s _ w hT hr0 hc0 hr2 hc2 hr3 hc3 (Zea h a0 a1 l2 a4 a5)
end Go.Proofs.YtfbhdjflkaldgaaGreatDoor.Pr

namespace Go.Proofs.YtfbhdjflkaldgaaGreatDoor.Pr
open Go.Proofs.YtfbhdjflkaldgaaGreatDoor.Ct Go.RowKit Go.Proofs.YtfbhdjflkaldgaaGreatDoorW.PrintWords Go.Proofs.YtfbhdjflkaldgaaGreatDoorW.PrintLast Go.Proofs.YtfbhdjflkaldgaaGreatDoorW.PrintMore
attribute [local go_sem] max2_int min2_int max_two min_two max_three min_three max_four min_four
set_option linter.unusedVariables false
set_option linter.unusedSimpArgs false
def Z0h.l0:Nat → List (S68) → Int → Int → Option (Int)
 | 0,_,_,_ => none
 | k + 1,x0,x1,x5 => if x5 < (x0.length:Int) then (if 0 ≤ x5 then (if ((Z0v x0 x5).f0) = x1 then (some x5) else (Z0h.l0 k x0 x1 (wrap64 (x5 + 1)))) else (none)) else (some (-1))
def Z0h.f (k:Nat) (l0:List (S68)) (a1:Int):Option (Int):=Z0h.l0 k l0 a1 0
set_option maxHeartbeats 8000000 in
set_option maxRecDepth 100000 in
theorem Z0h.calls (k:Nat) (A0:Option Addr) (c0:Nat) (l0:List (S68)) (a1:Int) (r:Int) (w:World) (hr0:Kd.C k68 w A0 l0.length l0) (hc0:l0.length ≤ c0) (h:Z0h.f k l0 a1 = some r) :
 Calls Tryz.prog 59 #[.slice A0 l0.length c0,.int .i32 a1] w fun e w' => e = .returned (.int .i64 r) ∧ Drawn0 w w':=by
 have HR0:=am hr0;have HC0:=am hc0;clear hr0 hc0;have H:(Z0h.l0 k l0 a1 0) = some r:=h;clear h;have H':=am H;clear H;go_enter Tryz.func59,Tryz.ntmps59;go_wp2
 go_loopg [5] k (fun kq v5 w' => ∃ (x5_1:Int),v5 = .int .i64 x5_1 ∧ Aside0 (Z0h.l0 kq l0 a1 x5_1 = some r) ∧ Aside0 (kq ≤ k) ∧ Drawn0 w w')
 case atStart => exact ⟨(0),tV1,H',⟨Nat.le_refl _⟩,by repeat (first | exact Drawn0.refl _ | apply Drawn0.step)⟩
 case round =>
  clear H';obtain ⟨x5_1,rfl,HA,HK1,⟨m1,rfl⟩⟩:=hrel
  cases gk with
  | zero => exact absurd HA.out (by simp [Z0h.l0])
  | succ k1 =>
   have H:=HA.out;clear HA;simp only [Z0h.l0] at H
   replace H:=iF H;obtain ⟨c3,H⟩ | ⟨c3,H⟩:=H;rotate_left
   ·
    have c3b0:decide (x5_1 < (l0.length:Int)) = false:=decide_eq_false c3;clear c3;obtain rfl:=Option.some.inj H;go_wp2;go_ret;exact ⟨by first | rfl | (simp;done) | (simp [*];done),by repeat (first | exact Drawn0.refl _ | apply Drawn0.step)⟩
   have c3b0:decide (x5_1 < (l0.length:Int)) = true:=decide_eq_true c3;clear c3;replace H:=iFn H;obtain ⟨c4,H⟩:=H;have c4b0:decide (0 ≤ x5_1) = true:=decide_eq_true c4;clear c4
   replace H:=iE H;obtain ⟨-,c5b0,c5b1,H⟩ | ⟨c5,c5b0,c5b1,H⟩:=H
   ·
    obtain rfl:=Option.some.inj H;have p322:0 ≤ (x5_1:Int):=oD;have q322:x5_1 < (l0.length:Int):=oD;obtain ⟨ad322,e322,hx322_0,hx322_1⟩:=Z3s HR0.out x5_1 p322 q322;cases e322;replace p322:=eq_true p322;replace q322:=eq_true q322;go_wp2;go_ret;exact ⟨by first | rfl | (simp;done) | (simp [*];done),by repeat (first | exact Drawn0.refl _ | apply Drawn0.step)⟩
   ·
    have H':=am H;clear H;have p322:0 ≤ (x5_1:Int):=oD;have q322:x5_1 < (l0.length:Int):=oD;obtain ⟨ad322,e322,hx322_0,hx322_1⟩:=Z3s HR0.out x5_1 p322 q322;cases e322;replace p322:=eq_true p322;replace q322:=eq_true q322;go_wp2
    go_roundg k1
    case measure => have:=HK1.out;omega
    case rel => exact ⟨(wrap64 (x5_1 + 1)),tV1,H',⟨by have:=HK1.out;omega⟩,by repeat (first | exact Drawn0.refl _ | apply Drawn0.step)⟩
end Go.Proofs.YtfbhdjflkaldgaaGreatDoor.Pr

namespace Go.Proofs.YtfbhdjflkaldgaaGreatDoor.Pr
open Go.Proofs.YtfbhdjflkaldgaaGreatDoor.Ct Go.RowKit Go.Maps Go.Lib Go.Proofs.YtfbhdjflkaldgaaGreatDoorW.PrintWords Go.Proofs.YtfbhdjflkaldgaaGreatDoorW.PrintLast Go.Proofs.YtfbhdjflkaldgaaGreatDoorW.PrintMore
set_option linter.unusedVariables false
set_option linter.unusedSimpArgs false
theorem Z4q (l:List S68) (r:Int) (hl:l.length ≤ 9223372036854775807):Ev (fun k => Z0h.f k l r) (idxI l r):=by
  have key:∀ d i,l.length - i = d → i ≤ l.length → look l i r = none → Ev (fun k => Z0h.l0 k l r (i:Int)) (idxI l r):=by
    intro d
    induction d with
    | zero =>
      intro i hd hi hn
      obtain rfl:i = l.length:=by omega
      refine Ev.step (f:=fun _ => some (-1)) (fun k => ?_) ?_
      · simp only [Z0h.l0];rw [if_neg (by omega)]
      · unfold idxI;rw [hn];exact Ev.now _
    | succ d ih =>
      intro i hd hi hn
      have hlt:i < l.length:=by omega
      by_cases hr:(Z0v l (i:Int)).f0 = r
      · have h1:look l (i + 1) r = some i:=by unfold look;rw [hn];simp [hr]
        refine Ev.step (f:=fun _ => some (i:Int)) (fun k => ?_) ?_
        · simp only [Z0h.l0];rw [if_pos (by omega),if_pos (by omega),if_pos hr]
        · unfold idxI;rw [Z5c l r _ _ h1 l.length (by omega)];exact Ev.now _
      · refine Ev.step (fun k => ?_) (ih (i + 1) (by omega) (by omega) (by unfold look;rw [hn];simp [hr]))
        simp only [Z0h.l0];rw [if_pos (by omega),if_pos (by omega),if_neg hr,Z1a hlt hl]
  exact key _ 0 rfl (by omega) rfl
theorem Z9p (A:Option Addr) (c:Nat) (l:List S68) (r:Int) (w:World) (hr0:Kd.C k68 w A l.length l) (hc0:l.length ≤ c) :
    Calls Tryz.prog 59 #[.slice A l.length c,.int .i32 r] w fun e w' => e = .returned (.int .i64 (idxI l r)) ∧ Drawn0 w w':=by
  obtain ⟨k,hk⟩:=(Z4q l r hr0.2.1).rounds;exact Z0h.calls k A c l r _ w hr0 hc0 hk
theorem Zb2 (s:ByteArray):∀ (n i:Nat) (acc:Array Value),s.size - i ≤ n → Conv.runesFrom s n i acc = acc ++ ((Z3b s i).map (Value.int .i32)).toArray
  | 0,i,acc,h => by
    rw [Z2z (by omega)];simp [Conv.runesFrom]
  | n + 1,i,acc,h => by
    unfold Conv.runesFrom
    by_cases hi:i < s.size
    · rw [if_pos hi]
      have hw:=Z4k hi;have ih:=Zb2 s n (i + (Utf8.decode s i).2) (acc.push (.int .i32 (Int.ofNat (Utf8.decode s i).1))) (by omega);simp only;rw [ih,Z34 hi];apply Array.ext'
      simp
    · rw [if_neg hi,Z2z hi];simp
theorem Zg4 (s:ByteArray):Conv.runesFrom s s.size 0 #[] = ((Z0d s).map (Value.int .i32)).toArray:=by
  rw [Zb2 s s.size 0 #[] (by omega),Z2t];simp
theorem Z5d {P:Program} (w:World) (src dst e:TypeId) (s:ByteArray) (hs:P.underlying src = some .string) (hd:P.underlying dst = some (.slice e)) (he:P.underlying e = some (.int .i32)) (hsz:s.size ≤ 70368744177664) :
    (convert src dst (.string s)).run P w = .ok (.slice (some ⟨w.heap.size,0,none⟩) (Z0d s).length (grownCap w (Z0d s).length 0 e))
      (w.drew.alloc (.cells (((Z0d s).map (Value.int .i32)).toArray ++ Array.replicate (grownCap w (Z0d s).length 0 e - (Z0d s).length) (.int .i32 0)) e)):=by
  have hl:(Conv.runesFrom s s.size 0 #[]).size = (Z0d s).length:=by rw [Zg4];simp
  have h:=run_runes_of_string w src dst e s hs hd he (by rw [hl];have:=Z23 s;omega);rw [hl,Zg4] at h;exact h
theorem Zcj (W:World) (base:Nat) (ok:Nat → Prop):∀ xs:List Int,Reps ((Kd.int .i32).M W base ok) 1 xs (xs.map (Value.int .i32))
  | [] => Reps.none _ _
  | x :: xs => by
    have h:=Zcj W base ok xs
    refine ⟨by simp,fun j q hq => ?_⟩
    cases j with
    | zero => obtain rfl : x = q := by simpa using hq
              exact rfl
    | succ j =>
      have:=h.2 j q (by simpa using hq);rw [List.map_cons,show (j + 1) * 1 = j * 1 + 1 from by omega,List.drop_succ_cons];exact this
theorem Zio {W:World} {base:Nat} {v:Value} {xs:List Int} (h:W.ownsRow base 21 1 v xs.length (xs.map (Value.int .i32))):Kd.R (Kd.int .i32) 21 W base (fun _ => True) v xs :=
  ⟨fun _ _ => trivial,_,h,Zcj W base _ xs⟩
def Z2s (l:List S68) (s:ByteArray):List Int × Bool:=if (Z0d s).all (isL l) = true then (Z0d s,validD s.data.toList) else ([],false)
def Z0w.f (l0:List S68) (a1:ByteArray):Option (List Int × Bool):=if a1.size ≤ 1099511627776 then some (Z2s l0 a1) else none
set_option maxRecDepth 100000 in
set_option maxHeartbeats 1000000 in
theorem Z0w.calls (A0:Option Addr) (c0:Nat) (l0:List S68) (a1:ByteArray) (r1:List Int) (r2:Bool) (w:World) (hT:Tabs w) (hr0:Kd.C k68 w A0 l0.length l0) (hc0:l0.length ≤ c0) (h:Z0w.f l0 a1 = some (r1,r2)) :
    Calls Tryz.prog 78 #[.slice A0 l0.length c0,.string a1] w fun e w' => ∃ v0_:Value,e = .returned (.tuple #[v0_,.bool r2]) ∧ Kd.R (Kd.int .i32) 21 w' w.heap.size (fun _ => True) v0_ r1 ∧ Below w.heap.size w w':=by
  unfold Z0w.f at h
  by_cases hg:a1.size ≤ 1099511627776
  · rw [if_pos hg] at h
    have hr:=Option.some.inj h;clear h;have hcv:=Z5d w 9 109 21 a1 Tryz.underlying9 Tryz.underlying109 Tryz.underlying21 (by omega);have hcap:=grownCap_ge w (Z0d a1).length 0 21;have hcapM:=grownCap_le_maxLen w (Z0d a1).length 0 21 (by have:=Z23 a1;simp only [maxLen];omega);obtain ⟨cap,hcapE⟩:∃ cap,grownCap w (Z0d a1).length 0 21 = cap:=⟨_,rfl⟩;rw [hcapE] at hcv hcap hcapM;obtain ⟨CS,hCS⟩:∃ CS,((Z0d a1).map (Value.int .i32)).toArray ++ Array.replicate (cap - (Z0d a1).length) (Value.int .i32 0) = CS:=⟨_,rfl⟩;rw [hCS] at hcv;obtain ⟨W1,hW1⟩:∃ W1,w.drew.alloc (.cells CS 21) = W1:=⟨_,rfl⟩;rw [hW1] at hcv
    have hB1:Below w.heap.size w W1:=by rw [← hW1];exact (Below.refl _ w).drew.alloc (Nat.le_refl _) _
    have hblk:W1.heap[w.heap.size]? = some (.cells CS 21 (0,0)):=by rw [← hW1];exact World.alloc_heap_new w.drew _
    have hO:W1.ownsRow w.heap.size 21 1 (.slice (some ⟨w.heap.size,0,none⟩) (Z0d a1).length cap) (Z0d a1).length ((Z0d a1).map (Value.int .i32)):=by
      refine ⟨by simp,.inr ⟨w.heap.size,cap,CS,rfl,Nat.le_refl _,hblk,hcap,hcapM,?_,?_⟩⟩
      · rw [← hCS];simp;omega
      · rw [← hCS];simp
    have hcell:∀ (i:Nat),i < (Z0d a1).length → W1.cell? ⟨w.heap.size,i,none⟩ = some (.int .i32 ((Z0d a1).getD i 0)):=by
      intro i hi;unfold World.cell?;rw [hblk,← hCS]
      have hi':i < (((Z0d a1).map (Value.int .i32)).toArray).size:=by simpa using hi
      simp only [Nat.add_zero,Nat.mul_one];rw [Array.getElem?_append_left hi']
      simp [hi]
    have hv:=fun (w1:World) (hB:Below w.heap.size w w1) => Z2l.calls a1 (validD a1.data.toList) w1 (Z1s hT hB) Gc26
    obtain ⟨n,hn⟩:∃ n,(Z0d a1).length = n:=⟨_,rfl⟩
    have hnl:n ≤ 1099511627776:=by rw [← hn];have:=Z23 a1;omega
    rw [hn] at hcv hO hcell;have hR:=am hr0;have hC:=am hc0;have hr':=am hr;have hn':=am hn;have hnl':=am hnl;have hO':=am hO;have hB1':=am hB1;have hcell':=am hcell;have hv':=am hv;clear hr0 hc0 hr hg hn hnl hT hcap hcapM hcapE hCS hW1 hblk hO hB1 hcell hv;go_enter Tryz.func78,Tryz.ntmps78;go_wp2
    go_loopg [7] n (fun kq v7 w' => ∃ i m:Nat,v7 = .int .i64 (i:Int) ∧ w' = W1.drewN m ∧ Aside0 (i + kq = n) ∧ Aside0 (((Z0d a1).take i).all (isL l0) = true))
    case atStart => exact ⟨0,0,rfl,rfl,⟨by omega⟩,⟨rfl⟩⟩
    case round =>
      obtain ⟨i,m,rfl,rfl,hik,hall⟩:=hrel
      cases gk with
      | zero =>
        have h3:¬ ((i:Int) < (n:Int)):=by have:=hik.out;omega
        have hov:Z2s l0 a1 = (Z0d a1,validD a1.data.toList):=by
          have h:=hall.out;rw [List.take_of_length_le (by have:=hik.out;have:=hn'.out;omega)] at h;unfold Z2s;rw [if_pos h]
        rw [hov] at hr';obtain ⟨e1,e2⟩:=Prod.mk.inj hr'.out;subst e1 e2;clear hov
        go_wp2_with (go_at_call 46;refine (hv'.out _ (pw_below_drewN hB1'.out m)).mono ?_;rintro e w5 ⟨rfl,hB5⟩)
        go_ret2;have hB6:Below (W1.drewN m).heap.size W1 w5:=⟨hB5.os,hB5.tape,hB5.output,hB5.size,hB5.block⟩
        refine ⟨_,rfl,Zio ?_,(pw_below_drewN hB1'.out m).trans (hB5.mono (by have:=hB1'.out.size;simpa using this))⟩
        refine Z42 (show W1.ownsRow w.heap.size 21 1 (.slice (some ⟨w.heap.size,0,none⟩) n cap) (Z0d a1).length ((Z0d a1).map (Value.int .i32)) from ?_) ⟨hB5.os,hB5.tape,hB5.output,hB5.size,hB5.block⟩
        rw [hn'.out];exact hO'.out
      | succ g1 =>
        have h3:(i:Int) < (n:Int):=by have:=hik.out;omega
        have hcl:=hcell'.out i (by omega);obtain ⟨R,hRR⟩:∃ R,(Z0d a1).getD i 0 = R:=⟨_,rfl⟩;rw [hRR] at hcl;have hix:=Z9p A0 c0 l0 R (W1.drewN m) (Kd.C_below hR.out (pw_below_drewN hB1'.out m)) hC.out;obtain ⟨X,hX⟩:∃ X,idxI l0 R = X:=⟨_,rfl⟩;rw [hX] at hix;have hRR':=am hRR;have hX':=am hX
        have hRm:R ∈ Z0d a1:=by
          rw [← hRR]
          have hi:i < (Z0d a1).length:=by have:=hn'.out;omega
          rw [List.getD_eq_getElem?_getD,List.getElem?_eq_getElem hi];exact List.getElem_mem hi
        clear hRR hX
        by_cases hXn:X < 0
        · have hLf:isL l0 R = false:=by rw [← Z8v,hX'.out];exact hXn
          have hov:Z2s l0 a1 = ([],false):=by
            unfold Z2s;rw [if_neg];intro h;have:=List.all_eq_true.1 h R hRm;rw [hLf] at this;cases this
          rw [hov] at hr';obtain ⟨e1,e2⟩:=Prod.mk.inj hr'.out;subst e1 e2;clear hLf hov hRm
          go_wp2_with (go_at_call 59;refine hix.mono ?_;clear hix;rintro e w5 ⟨rfl,⟨nd,rfl⟩⟩)
          go_ret2;exact ⟨_,rfl,Kd.R_nil _ _ _ _ _,pw_below_drewN hB1'.out _⟩
        · have hL:Aside0 (isL l0 R = true):=⟨by
            cases e:isL l0 R with
            | true => rfl
            | false =>
              have h:=(Z8v l0 R).2 e;rw [hX'.out] at h
              exact absurd h hXn⟩
          clear hRm
          go_wp2_with (go_at_call 59;refine hix.mono ?_;clear hix;rintro e w5 ⟨rfl,⟨nd,rfl⟩⟩)
          go_roundg g1
          case measure => omega
          case rel =>
            refine ⟨i + 1,m + nd,by rw [Z1a (n:=n) (by omega) (by have:=hnl'.out;omega)],rfl,⟨by have:=hik.out;omega⟩,⟨?_⟩⟩
            have hi:i < (Z0d a1).length:=by have:=hn'.out;omega
            have hRi:(Z0d a1)[i] = R:=by rw [← hRR'.out,List.getD_eq_getElem?_getD,List.getElem?_eq_getElem hi];rfl
            rw [List.take_add_one,List.getElem?_eq_getElem hi,hRi,List.all_append,hall.out]
            simp [hL.out]
  · rw [if_neg hg] at h;cases h
end Go.Proofs.YtfbhdjflkaldgaaGreatDoor.Pr
