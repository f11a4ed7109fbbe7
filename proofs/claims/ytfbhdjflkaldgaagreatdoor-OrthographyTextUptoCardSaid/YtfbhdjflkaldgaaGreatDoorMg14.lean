/- Several texts in one: PrF73, Cas, ClV. -/
import Derived.Test.YtfbhdjflkaldgaaGreatDoorMg1
import Derived.Test.YtfbhdjflkaldgaaGreatDoorMg2
import Derived.Test.YtfbhdjflkaldgaaGreatDoorPrF88
import Derived.Test.YtfbhdjflkaldgaaGreatDoorMg3
import Derived.Test.YtfbhdjflkaldgaaGreatDoorMg9
import Derived.Test.YtfbhdjflkaldgaaGreatDoorMg11
import Derived.Test.YtfbhdjflkaldgaaGreatDoorMg13
import Derived.Test.YtfbhdjflkaldgaaGreatDoorMg8
/- rewrite.Apply, Trace, Cascade: what they answer, in plain words. -/
/- The validity of sandhi, of the code and of the reference, in plain words. -/
namespace Go.Proofs.YtfbhdjflkaldgaaGreatDoor.Pr
open Go.Proofs.YtfbhdjflkaldgaaGreatDoor.Ct Go.RowKit Go.Proofs.YtfbhdjflkaldgaaGreatDoorW.PrintWords Go.Proofs.YtfbhdjflkaldgaaGreatDoorW.PrintLast Go.Proofs.YtfbhdjflkaldgaaGreatDoorW.PrintMore
attribute [local go_sem] max2_int min2_int max_two min_two max_three min_three max_four min_four
set_option linter.unusedVariables false
set_option linter.unusedSimpArgs false
def Z3y.f (k:Nat) (l0:List (S68)) (l1:List (S73)) (a2:ByteArray):Option (ByteArray × Int):=(Z0g.f k l0 l1 a2).bind fun bt212 => (if bt212.2 = 0 then (if 0 ≤ (wrap64 ((bt212.1.length:Int) - 1)) then (if (wrap64 ((bt212.1.length:Int) - 1)) < (bt212.1.length:Int) then (some (rdOf ByteArray.empty bt212.1 (wrap64 ((bt212.1.length:Int) - 1)),0)) else (none)) else (none)) else (some ((⟨#[]⟩:ByteArray),bt212.2)))
set_option maxHeartbeats 8000000 in
set_option maxRecDepth 100000 in
theorem Z3y.calls (k:Nat) (A0:Option Addr) (c0:Nat) (l0:List (S68)) (A1:Option Addr) (c1:Nat) (l1:List (S73)) (a2:ByteArray) (r1:ByteArray) (r2:Int) (w:World) (hT:Tabs w) (hr0:Kd.C k68 w A0 l0.length l0) (hc0:l0.length ≤ c0) (hr1:Kd.C k73 w A1 l1.length l1) (hc1:l1.length ≤ c1) (h:Z3y.f k l0 l1 a2 = some (r1,r2)) :
 Calls Tryz.prog 73 #[.slice A0 l0.length c0,.slice A1 l1.length c1,.string a2] w fun e w' => e = .returned (.tuple #[.string r1,.int .i64 r2]) ∧ Below w.heap.size w w':=by
 have HT:=am hT;clear hT;have HR0:=am hr0;have HC0:=am hc0;clear hr0 hc0;have HR1:=am hr1;have HC1:=am hc1;clear hr1 hc1;have HB:=am (Below.refl w.heap.size w);have H:((Z0g.f k l0 l1 a2).bind fun bt212 => (if bt212.2 = 0 then (if 0 ≤ (wrap64 ((bt212.1.length:Int) - 1)) then (if (wrap64 ((bt212.1.length:Int) - 1)) < (bt212.1.length:Int) then (some (rdOf ByteArray.empty bt212.1 (wrap64 ((bt212.1.length:Int) - 1)),0)) else (none)) else (none)) else (some ((⟨#[]⟩:ByteArray),bt212.2)))) = some (r1,r2):=h;clear h;replace H:=bI H;obtain ⟨⟨t212,t213⟩,A4,H⟩:=H;(try dsimp only at H)
 replace H:=iE H;obtain ⟨-,c5b0,c5b1,H⟩ | ⟨c5,c5b0,c5b1,H⟩:=H
 ·
  obtain ⟨ji6,hji6⟩:∃ j_:Int,(wrap64 ((t212.length:Int) - 1)) = j_:=⟨_,rfl⟩
  replace H:(if 0 ≤ (ji6) then (if (ji6) < (t212.length:Int) then (some (rdOf ByteArray.empty t212 (ji6),0)) else (none)) else (none)) = some (r1,r2):=by first | (rw [hji6] at H;exact H) | (simp only [hji6] at H ⊢;exact H)
  (try rw [hji6] at A4);have hji6w:(IntKind.i64.wrap ((t212.length:Int) - 1)) = ji6:=(i64_w _).trans hji6;replace H:=iFn H;obtain ⟨c7,H⟩:=H;have c7b0:decide (0 ≤ (ji6)) = true:=decide_eq_true c7;clear c7;replace H:=iFn H;obtain ⟨c8,H⟩:=H;have c8b0:decide ((ji6) < (t212.length:Int)) = true:=decide_eq_true c8;clear c8;simp only [Option.some.injEq,Prod.mk.injEq] at H;obtain ⟨rfl,rfl⟩:=H;go_enter Tryz.func73,Tryz.ntmps73
  go_wp2_with (first | ((with_reducible refine gate_callee (f:=88) rfl ?_);refine goesL_ (some 14) rfl rfl Tryz.func88 (by kernel_rfl) rfl #[.slice A0 l0.length c0,.slice A1 l1.length c1,.string a2] rfl Gc2 ?_;(with_reducible refine (Z0g.calls k _ _ l0 _ _ l1 a2 t212 t213 _ ?sT ?s1 HC0.out ?s3 HC1.out A4.out).mono ?_);(case sT => exact Gc1);(case s1 => exact Gc3);(case s3 => exact Gc8);rintro e w9 ⟨v214,rfl,ho0,hb⟩;refine ⟨_,rfl,?_⟩;have n0_:=am (Kd.R_lower ho0 (tS HB));have n1_:=am (below_step (tB HB) hb);revert n0_ n1_;clear HB;intro HO215 HB;(try clear hb);(try clear hb2);(try clear hk);(try clear hi);(try clear ho0);obtain ⟨Ao10,co10,eo10⟩:=Kd.R_slice HO215.out;subst eo10;have p216:0 ≤ ((ji6):Int):=oD;have q216:(ji6) < (t212.length:Int):=oD;obtain ⟨ad216,e216,hx216_0⟩:=Kd.at_string (Kd.R_reads' HO215.out).2.2 (ji6) p216 q216;cases e216;replace p216:=eq_true p216;replace q216:=eq_true q216))
  go_ret2;exact ⟨by first | rfl | (simp [Z3e,Z3f] <;> rfl) | (simp only [← hji6];first | rfl | (simp [Z3e,Z3f] <;> rfl)) | (simp [*,Z3e,Z3f] <;> rfl),by repeat (first | (with_reducible first | exact HB.out | apply below_alloc | apply pw_below_drewN | apply below_drew1) | exact HB.out)⟩
 ·
  simp only [Option.some.injEq,Prod.mk.injEq] at H;obtain ⟨rfl,rfl⟩:=H;go_enter Tryz.func73,Tryz.ntmps73
  go_wp2_with (first | ((with_reducible refine gate_callee (f:=88) rfl ?_);refine goesL_ (some 14) rfl rfl Tryz.func88 (by kernel_rfl) rfl #[.slice A0 l0.length c0,.slice A1 l1.length c1,.string a2] rfl Gc2 ?_;(with_reducible refine (Z0g.calls k _ _ l0 _ _ l1 a2 t212 t213 _ ?sT ?s1 HC0.out ?s3 HC1.out A4.out).mono ?_);(case sT => exact Gc1);(case s1 => exact Gc3);(case s3 => exact Gc8);rintro e w11 ⟨v214,rfl,ho0,hb⟩;refine ⟨_,rfl,?_⟩;have n0_:=am (Kd.R_lower ho0 (tS HB));have n1_:=am (below_step (tB HB) hb);revert n0_ n1_;clear HB;intro HO215 HB;(try clear hb);(try clear hb2);(try clear hk);(try clear hi);(try clear ho0)))
  go_ret2;exact ⟨tE,by repeat (first | (with_reducible first | exact HB.out | apply below_alloc | apply pw_below_drewN | apply below_drew1) | exact HB.out)⟩
end Go.Proofs.YtfbhdjflkaldgaaGreatDoor.Pr

namespace Go.Proofs.YtfbhdjflkaldgaaGreatDoor.Pr
open Go.Proofs.YtfbhdjflkaldgaaGreatDoor.Ct Go.RowKit Go.Maps Go.Lib Go.Proofs.YtfbhdjflkaldgaaGreatDoorW.PrintWords Go.Proofs.YtfbhdjflkaldgaaGreatDoorW.PrintLast Go.Proofs.YtfbhdjflkaldgaaGreatDoorW.PrintMore
set_option linter.unusedVariables false
set_option linter.unusedSimpArgs false
theorem Z8o (s:ByteArray):∀ fuel pos,s.size - pos ≤ fuel → runeCountFrom s fuel pos = (Z3b s pos).length
  | 0,pos,h => by
    rw [Z2z (by omega)];rfl
  | f + 1,pos,h => by
    unfold runeCountFrom
    by_cases hp:pos < s.size
    · rw [if_pos hp,Z34 hp,Z8o s f _ (by have:=Z4k hp;omega),List.length_cons];omega
    · rw [if_neg hp,Z2z hp];rfl
theorem Z6d (s:ByteArray):runeCount s = (Z0d s).length:=by
  unfold runeCount;rw [Z8o s s.size 0 (by omega),Z2t]
def outP (l:List S68) (r:S73) (w:ByteArray):ByteArray:=Z9r (decide (r.f0 = 0)) r.f1 (Z4s l r w) w
def Z4c (l:List S68) (r:S73) (w:ByteArray):ByteArray × Int:=if Z3r l r = true ∧ Z18 l w = true then (if 40 < (Z0d (outP l r w)).length then ((⟨#[]⟩:ByteArray),2) else (outP l r w,0)) else ((⟨#[]⟩:ByteArray),1)
theorem Zef {l:List S68} {r:S73} (h:Z3r l r = true):(Z0d r.f1).length ≤ 4:=by
  unfold Z3r Z39 at h;simp only [Bool.and_eq_true,decide_eq_true_eq] at h;exact h.2.1.2.2
theorem Z7u {l:List S68} {w:ByteArray} (h:Z18 l w = true):(Z0d w).length ≤ 40:=by
  unfold Z18 at h;simp only [Bool.and_eq_true,decide_eq_true_eq] at h;exact h.2.2
theorem Zgf {l:List S68} {r:S73} {w:ByteArray} (h:Z3r l r = true) (hw:Z18 l w = true):(outP l r w).size ≤ 820:=by
  unfold outP Z9r;have h1:=Z6a (resF (decide (r.f0 = 0)) (Z0d r.f1) (Z4s l r w) 0 (Z0d w));have h2:=Z6z (decide (r.f0 = 0)) (Z0d r.f1) (Z0d w) (Z4s l r w) 0;have h3:((Z0d w).length + 1) * ((Z0d r.f1).length + 1) ≤ 41 * 5:=Nat.mul_le_mul (by have:=Z7u hw;omega) (by have:=Zef h;omega);omega
theorem Zcy {r:S73} (h:Z2k r = true):r.f1.size ≤ 1099511627776:=by
  unfold Z2k at h;simp only [Bool.and_eq_true,decide_eq_true_eq] at h;exact h.1
theorem Zkn (l:List S68) (r:S73) (w:ByteArray) (h1:Z1z l = true) (h2:Z2k r = true) (h3:w.size ≤ 1099511627776):Ev (fun k => Z17.f k l r.f0 r.f1 r.f2 r.f3 r.f4 r.f5 w) (Z4c l r w):=by
  have hv:Z1r.f l r.f0 r.f1 r.f2 r.f3 r.f4 r.f5 = some (Z3r l r):=by unfold Z1r.f;rw [if_pos ⟨h1,h2⟩]
  have hw:Z19.f l w = some (Z18 l w):=by unfold Z19.f;rw [if_pos h3]
  have bad:Ev (fun k => Z17.j0 k l w true r.f0 r.f1 r.f2 r.f3 r.f4 r.f5) ((⟨#[]⟩:ByteArray),1):=by
    refine Ev.step (f:=fun _ => some _) (fun k => ?_) (Ev.now _)
    simp only [Z17.j0];rfl
  unfold Z4c
  cases e1:Z3r l r with
  | false =>
    refine Ev.congr (fun k => ?_) bad
    unfold Z17.f;rw [hv,e1];rfl
  | true =>
    cases e2:Z18 l w with
    | false =>
      refine Ev.congr (fun k => ?_) bad
      unfold Z17.f;rw [hv,e1,hw,e2];rfl
    | true =>
      refine Ev.congr (f:=fun k => Z17.j0 k l w false r.f0 r.f1 r.f2 r.f3 r.f4 r.f5) (fun k => ?_) ?_
      · unfold Z17.f
        rw [hv,e1,hw,e2];rfl
      · refine Ev.step (f:=fun _ => some _) (fun k => ?_) (Ev.now _)
        simp only [Z17.j0];rw [if_neg (by decide)]
        have hs:Z3n.f l r.f0 r.f1 r.f2 r.f3 r.f4 r.f5 w = some (Z4s l r w):=by unfold Z3n.f;rw [if_pos ⟨h1,h2,h3⟩]
        have ho:Z3g.f r.f0 r.f1 r.f2 r.f3 r.f4 r.f5 (Z4s l r w) w = some (outP l r w):=by unfold Z3g.f;rw [if_pos ⟨⟨Zcy h2,h3⟩,Zef e1,Z7u e2⟩];rfl
        have hc:Z1u.f (outP l r w) = some (((Z0d (outP l r w)).length:Nat):Int):=by
          unfold Z1u.f;rw [if_pos (by have:=Zgf e1 e2;omega),Z6d]
        rw [hs,Option.bind_some,ho,Option.bind_some,hc,Option.bind_some]
        by_cases h40:40 < (Z0d (outP l r w)).length
        · rw [if_pos (by omega),if_pos ⟨trivial,trivial⟩,if_pos h40]
        · rw [if_neg (by omega),if_pos ⟨trivial,trivial⟩,if_neg h40]
theorem Z8c (l:List S68) (r:S73) (w:ByteArray):(Z4c l r w).1.size ≤ 820:=by
  unfold Z4c
  split
  · rename_i h
    split
    · exact Nat.zero_le _
    · exact Zgf h.1 h.2
  · exact Nat.zero_le _
def casF (l:List S68):List S73 → ByteArray → ByteArray × Int
  | [],w => (w,0)
  | r :: rs,w => if (Z4c l r w).2 = 0 then casF l rs (Z4c l r w).1 else ((⟨#[]⟩:ByteArray),(Z4c l r w).2)
def Z2b (l:List S68) (rules:List S73) (w:ByteArray):ByteArray × Int:=if (rules.length ≤ 64 ∧ Z3p l = true) ∧ Z18 l w = true ∧ rules.all (Z3r l) = true then casF l rules w else ((⟨#[]⟩:ByteArray),1)
theorem Z9x (l:List S68):∀ (rs:List S73) (w:ByteArray) (n:Nat),820 ≤ n → w.size ≤ n → (casF l rs w).1.size ≤ n
  | [],w,n,_,h => h
  | r :: rs,w,n,h8,h => by
    unfold casF
    split
    · exact Z9x l rs _ n h8 (Nat.le_trans (Z8c l r w) h8)
    · exact Nat.zero_le _
def trL (l:List S68):List S73 → List ByteArray → ByteArray → List ByteArray × Int
  | [],acc,_ => (acc,0)
  | r :: rs,acc,w => if (Z4c l r w).2 = 0 then trL l rs (acc ++ [(Z4c l r w).1]) (Z4c l r w).1 else ([],(Z4c l r w).2)
theorem Zeg (l:List S68):∀ (rs:List S73) (acc:List ByteArray) (w:ByteArray),(∃ a,acc = a ++ [w]) → acc.length + rs.length ≤ 65 → (trL l rs acc w).2 = (casF l rs w).2 ∧ ((casF l rs w).2 = 0 → ∃ a,(trL l rs acc w).1 = a ++ [(casF l rs w).1] ∧ a.length ≤ 64) ∧ (¬ (casF l rs w).2 = 0 → (casF l rs w).1 = (⟨#[]⟩:ByteArray))
  | [],acc,w,⟨a,ha⟩,hn => ⟨rfl,fun _ => ⟨a,ha,by rw [ha,List.length_append] at hn;simp at hn;omega⟩,fun h => absurd rfl h⟩
  | r :: rs,acc,w,⟨a,ha⟩,hn => by
    unfold trL casF
    by_cases h:(Z4c l r w).2 = 0
    · rw [if_pos h,if_pos h]
      exact Zeg l rs _ _ ⟨acc,rfl⟩ (by rw [List.length_append,List.length_singleton];rw [List.length_cons] at hn;omega)
    · rw [if_neg h,if_neg h]
      exact ⟨rfl,fun h2 => absurd h2 h,fun _ => rfl⟩
theorem Z3q (l:List S73) (i:Nat) (h:i < l.length):l.drop i = Z03 l (i:Int) :: l.drop (i + 1):=by
  unfold Z03;rw [List.drop_eq_getElem_cons h,Int.toNat_natCast,List.getD_eq_getElem?_getD,List.getElem?_eq_getElem h];rfl
theorem Zbt (a:List ByteArray) (w:ByteArray) (h:a.length ≤ 1099511627776):wrap64 (((a ++ [w]).length:Int) - 1) = (a.length:Int) ∧ rdOf ByteArray.empty (a ++ [w]) (a.length:Int) = w:=by
  constructor
  · rw [List.length_append,List.length_singleton,Z6s _ ⟨by omega,by omega⟩];omega
  · unfold rdOf
    rw [Int.toNat_natCast];simp
theorem Zko (l:List S68) (rules:List S73) (w:ByteArray) (h1:Z1z l = true) (h2:rules.all Z2k = true) (h3:w.size ≤ 1099511627776) (hl:l.length ≤ 9223372036854775807):Ev (fun k => Z0g.f k l rules w) (if (rules.length ≤ 64 ∧ Z3p l = true) ∧ Z18 l w = true ∧ rules.all (Z3r l) = true then trL l rules [w] w else ([],1)):=by
  have bad:Ev (fun k => Z0g.j0 k l rules w true) (([]:List ByteArray),1):=by
    refine Ev.step (f:=fun _ => some _) (fun k => ?_) (Ev.now _)
    simp only [Z0g.j0];rfl
  have hw:Z19.f l w = some (Z18 l w):=by unfold Z19.f;rw [if_pos h3]
  by_cases c1:rules.length ≤ 64
  · refine Ev.congr (f:=fun k => (Z02.f k l).bind fun t193 => (if t193 = true then ((Z19.f l w).bind fun t194 => (Z0g.j0 k l rules w (!t194))) else (Z0g.j0 k l rules w true))) (fun k => ?_) (Ev.bind (Z7n l hl) ?_)
    · unfold Z0g.f;rw [if_neg (by omega)]
    cases c2:Z3p l with
    | false => rw [if_neg (by simp)];simp only [Bool.false_eq_true,if_false];exact bad
    | true =>
      simp only [if_true];rw [hw]
      cases c3:Z18 l w with
      | false => rw [if_neg (by simp)];exact bad
      | true =>
        have hloop:∀ d i (acc:List ByteArray) (u:ByteArray),rules.length - i = d → i ≤ rules.length → (∃ a,acc = a ++ [u] ∧ a.length ≤ i) → u.size ≤ 1099511627776 → Ev (fun k => Z0g.l1 k l acc rules (rules.length:Int) (i:Int)) (trL l (rules.drop i) acc u):=by
          intro d
          induction d with
          | zero =>
            intro i acc u hd hi ha hu
            obtain rfl:i = rules.length:=by omega
            rw [List.drop_length]
            refine Ev.step (f:=fun _ => some _) (fun k => ?_) (Ev.now _)
            simp only [Z0g.l1];rw [if_neg (by omega)];rfl
          | succ d ih =>
            intro i acc u hd hi ha hu;obtain ⟨a,rfl,hal⟩:=ha
            have hlt:i < rules.length:=by omega
            obtain ⟨g1,g2⟩:=Zbt a u (by omega);rw [Z3q rules i hlt]
            have hmem:Z03 rules (i:Int) ∈ rules:=by
              have:=Z3q rules i hlt;exact List.mem_of_mem_drop (i:=i) (by rw [this];simp)
            obtain ⟨R,hR⟩:∃ R,Z03 rules (i:Int) = R:=⟨_,rfl⟩;rw [hR] at hmem
            refine Ev.step (f:=fun k => (Z17.f k l R.f0 R.f1 R.f2 R.f3 R.f4 R.f5 u).bind fun bt204 => (if bt204.2 = 0 then (if (a ++ [u]).length < 8796093022208 then (Z0g.l1 k l ((a ++ [u]) ++ [bt204.1]) rules (rules.length:Int) ((i + 1:Nat):Int)) else (none)) else (some (([]:List ByteArray),bt204.2)))) (fun k => ?_) ?_
            · simp only [Z0g.l1]
              rw [if_pos (by omega),if_pos (by omega),if_pos (by omega),g1,if_pos (by omega),if_pos Gc14,g2,hR,Z1a hlt (by omega)]
            · refine Ev.bind (Zkn l R u h1 (List.all_eq_true.1 h2 R hmem) hu) ?_
              rw [hR];unfold trL
              by_cases e:(Z4c l R u).2 = 0
              · rw [if_pos e]
                refine Ev.congr (fun k => ?_) (ih (i + 1) _ _ (by omega) (by omega) ⟨a ++ [u],rfl,by rw [List.length_append,List.length_singleton];omega⟩ (Nat.le_trans (Z8c l R u) (by decide)))
                rw [if_pos e,if_pos Gc14]
              · rw [if_neg e]
                refine Ev.congr (f:=fun _ => some _) (fun k => ?_) (Ev.now _)
                rw [if_neg e]
        have hall:∀ d i,rules.length - i = d → i ≤ rules.length → Ev (fun k => Z0g.l0 k l rules w rules (rules.length:Int) (i:Int)) (if (rules.drop i).all (Z3r l) = true then trL l rules [w] w else ([],1)):=by
          intro d
          induction d with
          | zero =>
            intro i hd hi
            obtain rfl:i = rules.length:=by omega
            rw [List.drop_length]
            refine Ev.step (fun k => ?_) (hloop rules.length 0 [w] w (by omega) (by omega) ⟨[],rfl,by simp⟩ h3)
            simp only [Z0g.l0];rw [if_neg (by omega)];rfl
          | succ d ih =>
            intro i hd hi
            have hlt:i < rules.length:=by omega
            have hmem:Z03 rules (i:Int) ∈ rules:=by
              have:=Z3q rules i hlt;exact List.mem_of_mem_drop (i:=i) (by rw [this];simp)
            rw [Z3q rules i hlt,List.all_cons];obtain ⟨R,hR⟩:∃ R,Z03 rules (i:Int) = R:=⟨_,rfl⟩;rw [hR] at hmem ⊢
            have hv:Z1r.f l R.f0 R.f1 R.f2 R.f3 R.f4 R.f5 = some (Z3r l R):=by unfold Z1r.f;rw [if_pos ⟨h1,List.all_eq_true.1 h2 R hmem⟩]
            cases e:Z3r l R with
            | false =>
              refine Ev.step (f:=fun _ => some _) (fun k => ?_) (Ev.now _)
              simp only [Z0g.l0];rw [if_pos (by omega),if_pos (by omega),if_pos (by omega),hR,hv,e];rfl
            | true =>
              rw [Bool.true_and]
              refine Ev.step (fun k => ?_) (ih (i + 1) (by omega) (by omega))
              simp only [Z0g.l0];rw [if_pos (by omega),if_pos (by omega),if_pos (by omega),hR,hv,e,Option.bind_some,if_pos rfl,Z1a hlt (by omega)]
        refine Ev.congr (f:=fun k => Z0g.j0 k l rules w false) (fun k => rfl) ?_
        refine Ev.step (fun k => ?_) (?_:Ev (fun k => Z0g.l0 k l rules w rules (rules.length:Int) ((0:Nat):Int)) _)
        · simp only [Z0g.j0];rw [if_neg (by decide)];rfl
        · have:=hall rules.length 0 (by omega) (by omega)
          rw [List.drop_zero] at this
          by_cases c4:rules.all (Z3r l) = true
          · rw [if_pos c4] at this;rw [if_pos ⟨⟨c1,trivial⟩,rfl,c4⟩];exact this
          · rw [if_neg c4] at this;rw [if_neg (fun h => c4 h.2.2)];exact this
  · rw [if_neg (fun h => c1 h.1.1)]
    refine Ev.congr (fun k => ?_) bad
    unfold Z0g.f;rw [if_pos (by omega)]
theorem Zhn (l:List S68) (rules:List S73) (w:ByteArray) (h1:Z1z l = true) (h2:rules.all Z2k = true) (h3:w.size ≤ 1099511627776) (hl:l.length ≤ 9223372036854775807):Ev (fun k => Z3y.f k l rules w) (Z2b l rules w):=by
  refine Ev.congr (fun k => rfl) (Ev.bind (Zko l rules w h1 h2 h3 hl) ?_)
  unfold Z2b
  by_cases c:(rules.length ≤ 64 ∧ Z3p l = true) ∧ Z18 l w = true ∧ rules.all (Z3r l) = true
  · rw [if_pos c,if_pos c]
    obtain ⟨e1,e2,e3⟩:=Zeg l rules [w] w ⟨[],rfl⟩ (by have:=c.1.1;simp;omega);rw [e1]
    by_cases z:(casF l rules w).2 = 0
    · obtain ⟨a,ha,hal⟩:=e2 z
      obtain ⟨g1,g2⟩:=Zbt a (casF l rules w).1 (by omega)
      refine Ev.congr (f:=fun _ => some _) (fun k => ?_) (Ev.now _)
      rw [if_pos z,ha,g1,if_pos (by omega),if_pos Gc14,g2]
      congr 1
      exact Prod.ext rfl z.symm
    · refine Ev.congr (f:=fun _ => some _) (fun k => ?_) (Ev.now _)
      rw [if_neg z]
      congr 1
      exact Prod.ext (e3 z).symm rfl
  · rw [if_neg c,if_neg c]
    refine Ev.congr (f:=fun _ => some _) (fun k => ?_) (Ev.now _)
    rw [if_neg (by decide)]
theorem Zcz (l:List S68) (rules:List S73) (w:ByteArray) (n:Nat) (hn:820 ≤ n) (h:w.size ≤ n):(Z2b l rules w).1.size ≤ n:=by
  unfold Z2b
  split
  · exact Z9x l rules w n hn h
  · exact Nat.zero_le _
theorem Zbu (A0:Option Addr) (c0:Nat) (l0:List S68) (A1:Option Addr) (c1:Nat) (l1:List S73) (a2:ByteArray) (w:World) (hT:Tabs w) (hr0:Kd.C k68 w A0 l0.length l0) (hc0:l0.length ≤ c0) (hr1:Kd.C k73 w A1 l1.length l1) (hc1:l1.length ≤ c1) (h1:Z1z l0 = true) (h2:l1.all Z2k = true) (h3:a2.size ≤ 1099511627776) :
    Calls Tryz.prog 73 #[.slice A0 l0.length c0,.slice A1 l1.length c1,.string a2] w fun e w' => e = .returned (.tuple #[.string (Z2b l0 l1 a2).1,.int .i64 (Z2b l0 l1 a2).2]) ∧ Below w.heap.size w w':=by
  obtain ⟨k,hk⟩:=(Zhn l0 l1 a2 h1 h2 h3 hr0.2.1).rounds;exact Z3y.calls k A0 c0 l0 A1 c1 l1 a2 _ _ w hT hr0 hc0 hr1 hc1 hk
theorem Zd0 (l:List S68) (r:Int) (hl:l.length ≤ 9223372036854775807):Ev (fun k => Z0m.f k l r) (idxI l r):=by
  have key:∀ d i,l.length - i = d → i ≤ l.length → look l i r = none → Ev (fun k => Z0m.l0 k l r (i:Int)) (idxI l r):=by
    intro d
    induction d with
    | zero =>
      intro i hd hi hn
      obtain rfl:i = l.length:=by omega
      refine Ev.step (f:=fun _ => some (-1)) (fun k => ?_) ?_
      · simp only [Z0m.l0];rw [if_neg (by omega)]
      · unfold idxI;rw [hn];exact Ev.now _
    | succ d ih =>
      intro i hd hi hn
      have hlt:i < l.length:=by omega
      by_cases hr:(Z0v l (i:Int)).f0 = r
      · have h1:look l (i + 1) r = some i:=by unfold look;rw [hn];simp [hr]
        refine Ev.step (f:=fun _ => some (i:Int)) (fun k => ?_) ?_
        · simp only [Z0m.l0];rw [if_pos (by omega),if_pos (by omega),if_pos hr]
        · unfold idxI;rw [Z5c l r _ _ h1 l.length (by omega)];exact Ev.now _
      · refine Ev.step (fun k => ?_) (ih (i + 1) (by omega) (by omega) (by unfold look;rw [hn];simp [hr]))
        simp only [Z0m.l0];rw [if_pos (by omega),if_pos (by omega),if_neg hr,Z1a hlt hl]
  exact key _ 0 rfl (by omega) rfl
theorem Z76 (l:List S68) (r:Int):decide (idxI l r ≥ 0) = isL l r:=by
  unfold idxI isL
  cases look l l.length r with
  | none => rfl
  | some j => simp
def ext (l:List S68):List S68:=l ++ [(⟨61,2147483648⟩:S68)]
theorem Zd1 {l:List S68} (h:Z1z l = true):Z1z (ext l) = true:=by
  unfold Z1z ext at *;rw [List.all_append,h];rfl
theorem Z9y (l:List S68):(ext l).length = l.length + 1:=by unfold ext;simp
def no61 (s:ByteArray):Bool:=s.data.toList.all fun b => b != 61
theorem Z8p:∀ (l:List UInt8) (c:UInt8),(indexByte l c = -1 ∨ 0 ≤ indexByte l c) ∧ ((indexByte l c ≥ 0) ↔ ¬ l.all (fun b => b != c) = true)
  | [],c => by simp [indexByte]
  | b :: l,c => by
    obtain ⟨h1,h2⟩:=Z8p l c;unfold indexByte
    by_cases e:b = c
    · subst e;simp
    · have e1:(b == c) = false:=beq_eq_false_iff_ne.2 e
      have e2:(b != c) = true:=by unfold bne;rw [e1];rfl
      rw [e1,List.all_cons,e2,Bool.true_and];simp only [Bool.false_eq_true,if_false]
      by_cases e3:indexByte l c = -1
      · rw [e3] at h2 ⊢
        simp at h2 ⊢
        exact h2
      · have e4:(indexByte l c == -1) = false:=beq_eq_false_iff_ne.2 e3
        rw [e4];simp only [Bool.false_eq_true,if_false];exact ⟨.inr (by omega),⟨fun _ => h2.1 (by omega),fun _ => by omega⟩⟩
def Zd2 (x:List S68) (r:S73):Bool:=(decide (r.f0 ≠ 61) && no61 r.f1) && Z3r x r
def Z4f (l:List S68) (s:List S73):Bool:=(Z4r l && !isL l 61) && (decide (s.length ≤ 64) && s.all (Zd2 (ext l)))
theorem Z9z (l:List S68) (s:List S73) (h1:Z1z l = true) (h2:s.all Z2k = true):Ev (fun k => Z0u.f k l s) (Z4f l s):=by
  have hva:Z2x.f l = some (Z4r l):=by unfold Z2x.f;rw [if_pos h1]
  have hix:Z1y.f l 61 = some (idxI l 61):=by unfold Z1y.f;rw [if_pos ⟨h1,by decide⟩]
  have bad:Ev (fun k => Z0u.j0 k l s true) false:=by
    refine Ev.step (f:=fun _ => some _) (fun k => ?_) (Ev.now _)
    simp only [Z0u.j0];rfl
  unfold Z4f
  cases c1:Z4r l with
  | false =>
    refine Ev.congr (fun k => ?_) bad
    unfold Z0u.f;rw [hva,c1];rfl
  | true =>
    have hll:l.length ≤ 64:=by
      unfold Z4r at c1;simp only [Bool.and_eq_true,decide_eq_true_eq] at c1;exact c1.2.1
    cases c2:isL l 61 with
    | true =>
      refine Ev.congr (fun k => ?_) bad
      have:=Z76 l 61;rw [c2,decide_eq_true_eq] at this;unfold Z0u.f;rw [hva,c1,Option.bind_some,if_pos rfl,hix,Option.bind_some,if_pos this]
    | false =>
      have hn:¬ idxI l 61 ≥ 0:=by
        have:=Z76 l 61;rw [c2] at this;exact of_decide_eq_false this
      refine Ev.congr (f:=fun k => Z0u.j0 k l s (decide ((s.length:Int) > 64))) (fun k => ?_) ?_
      · unfold Z0u.f;rw [hva,c1,Option.bind_some,if_pos rfl,hix,Option.bind_some,if_neg hn]
      · by_cases c3:s.length ≤ 64
        · rw [decide_eq_false (show ¬ (s.length:Int) > 64 by omega),decide_eq_true c3]
          have hex:Z2h.f l = some (ext l):=by
            unfold Z2h.f Z4b.f;rw [if_pos (by omega),Option.bind_some,if_pos (by omega)];rfl
          have key:∀ d i,s.length - i = d → i ≤ s.length → Ev (fun k => Z0u.l0 k (ext l) s (s.length:Int) (i:Int)) ((s.drop i).all (Zd2 (ext l))):=by
            intro d
            induction d with
            | zero =>
              intro i hd hi
              obtain rfl:i = s.length:=by omega
              rw [List.drop_length]
              refine Ev.step (f:=fun _ => some true) (fun k => ?_) (Ev.now _)
              simp only [Z0u.l0];rw [if_neg (by omega)]
            | succ d ih =>
              intro i hd hi
              have hlt:i < s.length:=by omega
              have hmem:Z03 s (i:Int) ∈ s:=by
                have:=Z3q s i hlt;exact List.mem_of_mem_drop (i:=i) (by rw [this];simp)
              rw [Z3q s i hlt,List.all_cons];obtain ⟨R,hR⟩:∃ R,Z03 s (i:Int) = R:=⟨_,rfl⟩;rw [hR] at hmem ⊢
              have hv:Z1r.f (ext l) R.f0 R.f1 R.f2 R.f3 R.f4 R.f5 = some (Z3r (ext l) R):=by unfold Z1r.f;rw [if_pos ⟨Zd1 h1,List.all_eq_true.1 h2 R hmem⟩]
              have hib:Z2p.f R.f1 61 = some (indexByte R.f1.data.toList 61):=rfl;obtain ⟨hb1,hb2⟩:=Z8p R.f1.data.toList 61;unfold Zd2
              by_cases d1:R.f0 = 61
              · refine Ev.step (f:=fun _ => some false) (fun k => ?_) ?_
                · simp only [Z0u.l0];rw [if_pos (by omega),if_pos (by omega),if_pos (by omega),hR,if_pos d1]
                · rw [decide_eq_false (by simpa using d1)];exact Ev.now _
              · rw [decide_eq_true d1,Bool.true_and]
                by_cases d2:no61 R.f1 = true
                · have d2':¬ indexByte R.f1.data.toList 61 ≥ 0:=fun h => hb2.1 h d2
                  rw [d2,Bool.true_and]
                  cases d3:Z3r (ext l) R with
                  | false =>
                    refine Ev.step (f:=fun _ => some false) (fun k => ?_) (Ev.now _)
                    simp only [Z0u.l0];rw [if_pos (by omega),if_pos (by omega),if_pos (by omega),hR,if_neg d1,hib,Option.bind_some,if_neg d2',hv,d3];rfl
                  | true =>
                    rw [Bool.true_and]
                    refine Ev.step (fun k => ?_) (ih (i + 1) (by omega) (by omega))
                    simp only [Z0u.l0];rw [if_pos (by omega),if_pos (by omega),if_pos (by omega),hR,if_neg d1,hib,Option.bind_some,if_neg d2',hv,d3,Option.bind_some,if_pos rfl,Z1a hlt (by omega)]
                · have d2':indexByte R.f1.data.toList 61 ≥ 0:=hb2.2 d2
                  refine Ev.step (f:=fun _ => some false) (fun k => ?_) ?_
                  · simp only [Z0u.l0];rw [if_pos (by omega),if_pos (by omega),if_pos (by omega),hR,if_neg d1,hib,Option.bind_some,if_pos d2']
                  · rw [show no61 R.f1 = false by simpa using d2];exact Ev.now _
          refine Ev.step (fun k => ?_) (key s.length 0 (by omega) (by omega))
          simp only [Z0u.j0];rw [if_neg (by decide),hex];rfl
        · rw [decide_eq_true (show (s.length:Int) > 64 by omega),decide_eq_false c3]
          exact bad
theorem Zix (l:List S68) (i:Nat) (h:i < l.length):idxI l (Z0v l (i:Int)).f0 = (i:Int) ↔ look l i (Z0v l (i:Int)).f0 = none:=by
  obtain ⟨R,hR⟩:∃ R,(Z0v l (i:Int)).f0 = R:=⟨_,rfl⟩;rw [hR]
  cases e:look l i R with
  | some j =>
    have hj:=Ze8 l R i j e
    have:idxI l R = (j:Int):=by unfold idxI;rw [Z5c l R _ _ e l.length (by omega)]
    rw [this];exact ⟨fun h => by omega,fun h => by cases h⟩
  | none =>
    have h1:look l (i + 1) R = some i:=by unfold look;rw [e];simp [hR]
    have:idxI l R = (i:Int):=by unfold idxI;rw [Z5c l R _ _ h1 l.length (by omega)]
    exact ⟨fun _ => rfl,fun _ => this⟩
theorem Zkp (x:Int):Z3m x = (if x > 32 then (if x < 55296 then decide (x ≤ 1114111) else if x > 57343 then decide (x ≤ 1114111) else false) else false):=by
  unfold Z3m Lib.validRune;rw [Bool.eq_iff_iff]
  repeat' split
  all_goals simp
  all_goals omega
theorem Zgg (l:List S68) (hl:l.length ≤ 9223372036854775807):Ev (fun k => Z0i.f k l) (Z3p l):=by
  have key:∀ d i,l.length - i = d → i ≤ l.length → Z4d l i = true → Ev (fun k => Z0i.l0 k l (i:Int)) (((l.drop i).all fun x => Z3m x.f0) && (Z4d l l.length && (decide (1 ≤ l.length) && decide (l.length ≤ 65)))):=by
    intro d
    induction d with
    | zero =>
      intro i hd hi ho
      obtain rfl:i = l.length:=by omega
      rw [List.drop_length,ho]
      refine Ev.step (f:=fun _ => some (decide (1 ≤ l.length) && decide (l.length ≤ 65))) (fun k => ?_) (Ev.now _)
      simp only [Z0i.l0];rw [if_neg (by omega)]
      by_cases h1:1 ≤ l.length
      · rw [if_pos (by omega),decide_eq_true h1,Bool.true_and];congr 1;exact decide_eq_decide.2 (by omega)
      · rw [if_neg (by omega),decide_eq_false h1];rfl
    | succ d ih =>
      intro i hd hi ho
      have hlt:i < l.length:=by omega
      rw [Z88 l i hlt,List.all_cons];have hlo:=Zix l i hlt;have hos:=Z66 l i;obtain ⟨R,hR⟩:∃ R,(Z0v l (i:Int)).f0 = R:=⟨_,rfl⟩;rw [hR] at hos hlo ⊢
      by_cases c1:R ≤ 32
      · refine Ev.step (f:=fun _ => some false) (fun k => ?_) ?_
        · simp only [Z0i.l0,hR];rw [if_pos (by omega),if_pos (by omega),if_pos c1]
        · rw [show Z3m R = false by unfold Z3m;rw [decide_eq_false (show ¬ 32 < R by omega)];rfl,Bool.false_and,Bool.false_and];exact Ev.now _
      · refine Ev.step (f:=fun k => (Z1b.f k R).bind fun t333 => (if t333 = true then ((Z0h.f k l R).bind fun t335 => (if t335 = (i:Int) then (Z0i.l0 k l ((i + 1:Nat):Int)) else (some false))) else (some false))) (fun k => ?_) ?_
        · simp only [Z0i.l0,hR];rw [if_pos (by omega),if_pos (by omega),if_neg c1,Z1a hlt hl]
        · refine Ev.bind (Znu R) ?_
          cases c2:Lib.validRune R with
          | false => rw [show Z3m R = false by unfold Z3m;rw [c2];simp,Bool.false_and,Bool.false_and];exact Ev.now _
          | true =>
            rw [show Z3m R = true by unfold Z3m;rw [c2,decide_eq_true (show 32 < R by omega)];rfl,Bool.true_and];simp only [if_true]
            refine Ev.bind (Z4q l R hl) ?_
            by_cases e:idxI l R = (i:Int)
            · have e2:=hlo.1 e
              rw [e2,ho] at hos
              refine Ev.congr (fun k => ?_) (ih (i + 1) (by omega) (by omega) (by rw [hos];rfl))
              rw [if_pos e]
            · have e2:(look l i R).isNone = false:=by
                cases e3:look l i R with
                | none => exact absurd (hlo.2 e3) e
                | some j => rfl
              rw [e2,Bool.and_false] at hos;rw [Z7l l (i + 1) hos l.length (by omega),Bool.false_and,Bool.and_false]
              refine Ev.congr (f:=fun _ => some false) (fun k => ?_) (Ev.now _)
              rw [if_neg e]
  have h:=key _ 0 rfl (Nat.zero_le _) rfl;rw [List.drop_zero] at h
  refine (?_:_ = Z3p l) ▸ h
  unfold Z3p Z48
  cases (l.all fun x => Z3m x.f0) <;> cases Z4d l l.length <;> simp
theorem Zgh (l:List S68) (p:List S70) (hp:p.length ≤ 9223372036854775807) (hs:Z37 p = true):Ev (fun k => Z07.f k l p) (decide (p.length ≤ 3) && Z8k l p):=by
  have key:∀ d i,p.length - i = d → i ≤ p.length → Ev (fun k => Z07.l0 k l p (i:Int)) ((p.drop i).all (fun x => (Z5o l x.f1).2) && decide (p.length ≤ 3)):=by
    intro d
    induction d with
    | zero =>
      intro i hd hi
      obtain rfl:i = p.length:=by omega
      rw [List.drop_length]
      refine Ev.step (f:=fun _ => some (decide (p.length ≤ 3))) (fun k => ?_) (Ev.now _)
      simp only [Z07.l0];rw [if_neg (by omega)]
      congr 1;exact decide_eq_decide.2 (by omega)
    | succ d ih =>
      intro i hd hi
      have hlt:i < p.length:=by omega
      have hmem:=Zbm p i hlt;rw [Z7m p i hlt,List.all_cons];obtain ⟨X,hX⟩:∃ X,Z16 p (i:Int) = X:=⟨_,rfl⟩;rw [hX] at hmem ⊢
      have hsz:X.f1.size ≤ 1099511627776:=by
        have:=List.all_eq_true.1 hs X hmem
        simpa using this
      have hle:Z0w.f l X.f1 = some (Z2s l X.f1):=by unfold Z0w.f;rw [if_pos hsz]
      have h2:(Z2s l X.f1).2 = (Z5o l X.f1).2:=by
        unfold Z2s Z5o
        cases (Z0d X.f1).all (isL l) <;> cases validD X.f1.data.toList <;> simp
      cases e:(Z5o l X.f1).2 with
      | false =>
        refine Ev.step (f:=fun _ => some false) (fun k => ?_) (Ev.now _)
        simp only [Z07.l0,hX];rw [if_pos (by omega),if_pos (by omega),hle,Option.bind_some,h2,e];rfl
      | true =>
        rw [Bool.true_and]
        refine Ev.step (fun k => ?_) (ih (i + 1) (by omega) (by omega))
        simp only [Z07.l0,hX];rw [if_pos (by omega),if_pos (by omega),hle,Option.bind_some,h2,e,if_pos rfl,Z1a hlt hp]
  have h:=key _ 0 rfl (Nat.zero_le _);rw [List.drop_zero,Bool.and_comm] at h;exact h
theorem Z6i (l:List S68) (r:S73) (hl:l.length ≤ 9223372036854775807) (h2:r.f2.length ≤ 9223372036854775807) (h3:r.f3.length ≤ 9223372036854775807) (hs:Z2k r = true):Ev (fun k => Z0s.f k l r.f0 r.f1 r.f2 r.f3 r.f4 r.f5) (Z3r l r):=by
  obtain ⟨s1,s2,s3⟩:r.f1.size ≤ 1099511627776 ∧ Z37 r.f2 = true ∧ Z37 r.f3 = true:=by
    unfold Z2k at hs;simp only [Bool.and_eq_true,decide_eq_true_eq] at hs;exact hs
  have hle:Z0w.f l r.f1 = some (Z2s l r.f1):=by unfold Z0w.f;rw [if_pos s1]
  obtain ⟨B,hB⟩:∃ B:Bool,((Z2s l r.f1).2 && decide ((Z2s l r.f1).1.length ≤ 4)) = B:=⟨_,rfl⟩
  have hco:Z39 l r.f1 4 = B:=by
    rw [← hB];unfold Z39 Z2s
    cases (Z0d r.f1).all (isL l) <;> cases validD r.f1.data.toList <;> simp
  have rest:Z3p l = true → Ev (fun k => (if (Z2s l r.f1).2 = true then (if ((Z2s l r.f1).1.length:Int) ≤ 4 then ((Z07.f k l r.f2).bind fun t350 => (if t350 = true then ((Z07.f k l r.f3).bind fun t351 => (some t351)) else (some false))) else (some false)) else (some false))) (Z39 l r.f1 4 && (patP l r.f2 && patP l r.f3)):=by
    intro ha
    have hpr:Z48 l = true:=by unfold Z3p at ha;rw [Bool.and_eq_true] at ha;exact ha.2
    rw [hco,← hB];unfold patP;rw [hpr,Bool.true_and,Bool.true_and]
    cases c1:(Z2s l r.f1).2 with
    | false => exact Ev.congr (f:=fun _ => some false) (fun k => if_neg (by decide)) (Ev.now _)
    | true =>
      by_cases c2:(Z2s l r.f1).1.length ≤ 4
      · rw [decide_eq_true c2]
        simp only [Bool.true_and]
        refine Ev.congr (f:=fun k => ((Z07.f k l r.f2).bind fun t350 => (if t350 = true then ((Z07.f k l r.f3).bind fun t351 => (some t351)) else (some false)))) (fun k => ?_) ?_
        · first | rw [if_pos rfl,if_pos (by omega)] | rw [if_pos trivial,if_pos (by omega)]
        · refine Ev.bind (Zgh l r.f2 h2 s2) ?_
          cases c3:(decide (r.f2.length ≤ 3) && Z8k l r.f2) with
          | false => exact Ev.now _
          | true =>
            simp only [Bool.true_and,if_true]
            refine Ev.bind (Zgh l r.f3 h3 s3) (Ev.now _)
      · rw [decide_eq_false c2]
        refine Ev.congr (f:=fun _ => some false) (fun k => ?_) (Ev.now _)
        first | rw [if_pos rfl,if_neg (by omega)] | rw [if_pos trivial,if_neg (by omega)]
  unfold Z3r
  refine Ev.congr (f:=fun k => (Z0i.f k l).bind fun t346 => (if t346 = true then (if r.f0 = 0 then (if (Z2s l r.f1).2 = true then (if ((Z2s l r.f1).1.length:Int) ≤ 4 then ((Z07.f k l r.f2).bind fun t347 => (if t347 = true then ((Z07.f k l r.f3).bind fun t348 => (some t348)) else (some false))) else (some false)) else (some false)) else ((Z0h.f k l r.f0).bind fun t349 => (if t349 ≥ 0 then (if (Z2s l r.f1).2 = true then (if ((Z2s l r.f1).1.length:Int) ≤ 4 then ((Z07.f k l r.f2).bind fun t350 => (if t350 = true then ((Z07.f k l r.f3).bind fun t351 => (some t351)) else (some false))) else (some false)) else (some false)) else (some false)))) else (some false))) (fun k => ?_) (Ev.bind (Zgg l hl) ?_)
  · unfold Z0s.f;rw [hle];rfl
  cases ca:Z3p l with
  | false => exact Ev.now _
  | true =>
    rw [Bool.true_and]
    by_cases c0:r.f0 = 0
    · rw [decide_eq_true c0,Bool.true_or,Bool.true_and]
      refine Ev.congr (fun k => ?_) (rest ca)
      rw [if_pos rfl,if_pos c0]
    · rw [decide_eq_false c0,Bool.false_or]
      refine Ev.congr (f:=fun k => ((Z0h.f k l r.f0).bind fun t349 => (if t349 ≥ 0 then (if (Z2s l r.f1).2 = true then (if ((Z2s l r.f1).1.length:Int) ≤ 4 then ((Z07.f k l r.f2).bind fun t350 => (if t350 = true then ((Z07.f k l r.f3).bind fun t351 => (some t351)) else (some false))) else (some false)) else (some false)) else (some false)))) (fun k => ?_) (Ev.bind (Z4q l r.f0 hl) ?_)
      · rw [if_pos rfl,if_neg c0]
      · have hd:=Z76 l r.f0
        cases e:isL l r.f0 with
        | false =>
          rw [e] at hd
          refine Ev.congr (f:=fun _ => some false) (fun k => ?_) (Ev.now _)
          rw [if_neg (of_decide_eq_false hd)]
        | true =>
          rw [e] at hd;rw [Bool.true_and]
          refine Ev.congr (fun k => ?_) (rest ca)
          rw [if_pos (of_decide_eq_true hd)]
theorem Zeh (l:List S68) (hl:l.length ≤ 9223372036854775807):Ev (fun k => Z0q.f k l) (Z48 l):=by
  have key:∀ d i,l.length - i = d → i ≤ l.length → Z4d l i = true → Ev (fun k => Z0q.l0 k l (i:Int)) (((l.drop i).all fun x => Z3m x.f0) && Z4d l l.length):=by
    intro d
    induction d with
    | zero =>
      intro i hd hi ho
      obtain rfl:i = l.length:=by omega
      rw [List.drop_length,ho]
      refine Ev.step (f:=fun _ => some true) (fun k => ?_) (Ev.now _)
      simp only [Z0q.l0];rw [if_neg (by omega)]
    | succ d ih =>
      intro i hd hi ho
      have hlt:i < l.length:=by omega
      rw [Z88 l i hlt,List.all_cons];have hos:=Z66 l i;obtain ⟨R,hR⟩:∃ R,(Z0v l (i:Int)).f0 = R:=⟨_,rfl⟩;rw [hR] at hos ⊢
      have hcd:Z1v.f R = some (Z3m R):=by
        unfold Z1v.f;rw [Zkp]
        repeat' split
        all_goals rfl
      cases c2:Z3m R with
      | false =>
        refine Ev.step (f:=fun _ => some false) (fun k => ?_) (Ev.now _)
        simp only [Z0q.l0,hR];rw [if_pos (by omega),if_pos (by omega),hcd,c2];rfl
      | true =>
        rw [Bool.true_and]
        refine Ev.step (f:=fun k => (Z0m.f k (l.take i) R).bind fun t319 => (if t319 ≥ 0 then (some false) else (Z0q.l0 k l ((i + 1:Nat):Int)))) (fun k => ?_) ?_
        · simp only [Z0q.l0,hR];rw [if_pos (by omega),if_pos (by omega),hcd,c2,Option.bind_some,if_pos rfl,if_pos (by omega),Int.toNat_natCast,Z1a hlt hl]
        · refine Ev.bind (Zd0 (l.take i) R Gc36) ?_
          have hd:=Z76 (l.take i) R
          have hh:isL (l.take i) R = (look l i R).isSome:=by
            unfold isL;rw [List.length_take,Nat.min_eq_left (by omega),Z69 l i R i (Nat.le_refl _)]
          rw [hh] at hd
          cases e:look l i R with
          | some j =>
            rw [e] at hd;rw [e,ho] at hos;rw [Z7l l (i + 1) (by rw [hos];rfl) l.length (by omega),Bool.and_false]
            refine Ev.congr (f:=fun _ => some false) (fun k => ?_) (Ev.now _)
            rw [if_pos (of_decide_eq_true hd)]
          | none =>
            rw [e] at hd;rw [e,ho] at hos
            refine Ev.congr (fun k => ?_) (ih (i + 1) (by omega) (by omega) (by rw [hos];rfl))
            rw [if_neg (of_decide_eq_false hd)]
  unfold Z48
  by_cases h65:l.length ≤ 65
  · have h:=key _ 0 rfl (Nat.zero_le _) rfl
    rw [List.drop_zero] at h;rw [decide_eq_true h65,Bool.and_true]
    refine Ev.congr (fun k => ?_) h
    unfold Z0q.f;rw [if_neg (by omega)];rfl
  · rw [decide_eq_false h65,Bool.and_false,Bool.and_false]
    refine Ev.congr (f:=fun _ => some false) (fun k => ?_) (Ev.now _)
    unfold Z0q.f;rw [if_pos (by omega)]
theorem Ziy (l:List S68) (hl:l.length ≤ 9223372036854775807):Ev (fun k => Z1k.f k l) (Z4r l):=by
  unfold Z4r
  by_cases h1:1 ≤ l.length
  · by_cases h2:l.length ≤ 64
    · have e:(decide (1 ≤ l.length) && (decide (l.length ≤ 64) && ((l.all fun x => Z3m x.f0) && Z4d l l.length))) = Z48 l:=by
        unfold Z48;rw [decide_eq_true h1,decide_eq_true h2,decide_eq_true (show l.length ≤ 65 by omega)]
        simp
      rw [e]
      refine Ev.congr (f:=fun k => (Z0q.f k l).bind fun t => some t) (fun k => ?_) (Ev.bind (Zeh l hl) (Ev.now _))
      unfold Z1k.f;rw [if_pos (by omega),if_pos (by omega)]
    · rw [decide_eq_false h2,Bool.false_and,Bool.and_false]
      refine Ev.congr (f:=fun _ => some false) (fun k => ?_) (Ev.now _)
      unfold Z1k.f;rw [if_pos (by omega),if_neg (by omega)]
  · rw [decide_eq_false h1,Bool.false_and]
    refine Ev.congr (f:=fun _ => some false) (fun k => ?_) (Ev.now _)
    unfold Z1k.f;rw [if_neg (by omega)]
def Z77 (s:List S73):Bool:=s.all fun r => decide (r.f2.length ≤ 1099511627776) && decide (r.f3.length ≤ 1099511627776)
theorem Zkq (l:List S68) (s:List S73) (hl:l.length ≤ 9223372036854775807) (hsl:s.length ≤ 9223372036854775807) (h2:s.all Z2k = true) (h3:Z77 s = true):Ev (fun k => Z06.f k l s) (Z4f l s):=by
  have bad:Ev (fun k => Z06.j0 k l s true) false:=by
    refine Ev.step (f:=fun _ => some _) (fun k => ?_) (Ev.now _)
    simp only [Z06.j0];rfl
  unfold Z4f
  refine Ev.congr (fun k => rfl) (Ev.bind (Ziy l hl) ?_)
  cases c1:Z4r l with
  | false => exact bad
  | true =>
    have hll:l.length ≤ 64:=by
      unfold Z4r at c1;simp only [Bool.and_eq_true,decide_eq_true_eq] at c1;exact c1.2.1
    simp only [if_true]
    refine Ev.bind (Z4q l 61 hl) ?_
    have hd:=Z76 l 61
    cases c2:isL l 61 with
    | true =>
      rw [c2] at hd
      refine Ev.congr (fun k => ?_) bad
      rw [if_pos (of_decide_eq_true hd)]
    | false =>
      rw [c2] at hd
      refine Ev.congr (f:=fun k => Z06.j0 k l s (decide ((s.length:Int) > 64))) (fun k => ?_) ?_
      · rw [if_neg (of_decide_eq_false hd)]
      · by_cases c3:s.length ≤ 64
        · rw [decide_eq_false (show ¬ (s.length:Int) > 64 by omega),decide_eq_true c3]
          have hex:Z1g.f l = some (ext l):=by
            unfold Z1g.f;rw [Option.bind_some,if_pos (by simp;omega),Option.bind_some,if_pos (by simp;omega)];rfl
          have bytes:∀ (R:S73) (i:Nat) (v:Bool),R.f1.size ≤ 1099511627776 → Ev (fun k => Z06.l0 k s (ext l) (wrap64 ((i:Int) + 1))) v → ∀ d j,R.f1.size - j = d → j ≤ R.f1.size → Ev (fun k => Z06.l1 k s (ext l) (i:Int) (j:Int) R.f0 R.f1 R.f2 R.f3 R.f4 R.f5) ((R.f1.data.toList.drop j).all (fun b => b != 61) && v):=by
            intro R i v hsz hv d
            induction d with
            | zero =>
              intro j hd hj
              obtain rfl:j = R.f1.size:=by omega
              rw [← sizeL,List.drop_length]
              refine Ev.step (fun k => ?_) hv
              simp only [Z06.l1];rw [sizeL,if_neg (by omega)]
            | succ d ih =>
              intro j hd hj
              have hlt:j < R.f1.size:=by omega
              have hlt2:j < R.f1.data.toList.length:=by rw [sizeL];exact hlt
              rw [List.drop_eq_getElem_cons hlt2,List.all_cons]
              have hbt:bt R.f1 (j:Int) = ((R.f1.data.toList[j]'hlt2).toNat:Int):=by
                unfold bt;rw [Int.toNat_natCast,dif_pos hlt]
                simp [ByteArray.getElem_eq_getElem_data]
              by_cases e:R.f1.data.toList[j]'hlt2 = 61
              · refine Ev.step (f:=fun _ => some false) (fun k => ?_) ?_
                · simp only [Z06.l1];rw [if_pos (by omega),if_pos (by omega),if_pos (by rw [hbt,e];rfl)]
                · rw [e];exact Ev.now _
              · rw [show (R.f1.data.toList[j]'hlt2 != 61) = true by unfold bne;rw [beq_eq_false_iff_ne.2 e];rfl,Bool.true_and]
                refine Ev.step (fun k => ?_) (ih (j + 1) (by omega) (by omega))
                simp only [Z06.l1];rw [if_pos (by omega),if_pos (by omega),if_neg,Z1a hlt (by omega)];rw [hbt];intro h9;apply e;apply UInt8.toNat_inj.1
                have:(R.f1.data.toList[j]'hlt2).toNat = 61:=by omega
                rw [this];rfl
          have key:∀ d i,s.length - i = d → i ≤ s.length → Ev (fun k => Z06.l0 k s (ext l) (i:Int)) ((s.drop i).all (Zd2 (ext l))):=by
            intro d
            induction d with
            | zero =>
              intro i hd hi
              obtain rfl:i = s.length:=by omega
              rw [List.drop_length]
              refine Ev.step (f:=fun _ => some true) (fun k => ?_) (Ev.now _)
              simp only [Z06.l0];rw [if_neg (by omega)]
            | succ d ih =>
              intro i hd hi
              have hlt:i < s.length:=by omega
              have hmem:Z03 s (i:Int) ∈ s:=by
                have:=Z3q s i hlt;exact List.mem_of_mem_drop (i:=i) (by rw [this];simp)
              rw [Z3q s i hlt,List.all_cons];obtain ⟨R,hR⟩:∃ R,Z03 s (i:Int) = R:=⟨_,rfl⟩;rw [hR] at hmem ⊢;have hln:=List.all_eq_true.1 h3 R hmem;rw [Bool.and_eq_true,decide_eq_true_eq,decide_eq_true_eq] at hln;have hsm:=List.all_eq_true.1 h2 R hmem
              refine Ev.step (f:=fun k => (Z0s.f k (ext l) R.f0 R.f1 R.f2 R.f3 R.f4 R.f5).bind fun t359 => (if t359 = true then (Z06.j2 k s (ext l) (i:Int) (R.f0 == 61) R.f0 R.f1 R.f2 R.f3 R.f4 R.f5) else (Z06.j2 k s (ext l) (i:Int) true R.f0 R.f1 R.f2 R.f3 R.f4 R.f5))) (fun k => ?_) ?_
              · simp only [Z06.l0];rw [if_pos (by omega),if_pos (by omega),hR]
              · refine Ev.bind (Z6i (ext l) R (by rw [Z9y];omega) (by omega) (by omega) hsm) ?_
                have bad2:Ev (fun k => Z06.j2 k s (ext l) (i:Int) true R.f0 R.f1 R.f2 R.f3 R.f4 R.f5) false:=by
                  refine Ev.step (f:=fun _ => some _) (fun k => ?_) (Ev.now _)
                  simp only [Z06.j2];rfl
                unfold Zd2
                cases d3:Z3r (ext l) R with
                | false => rw [Bool.and_false,Bool.false_and];exact bad2
                | true =>
                  rw [Bool.and_true];simp only [if_true]
                  by_cases d1:R.f0 = 61
                  · rw [decide_eq_false (by simpa using d1),Bool.false_and,Bool.false_and,beq_iff_eq.2 d1];exact bad2
                  · rw [decide_eq_true d1,Bool.true_and,beq_eq_false_iff_ne.2 d1]
                    have hb:=bytes R i _ (Zcy hsm) (by have h9:=ih (i + 1) (by omega) (by omega);rw [← Z1a hlt hsl] at h9;exact h9) R.f1.size 0 (by omega) (by omega);rw [List.drop_zero] at hb
                    refine Ev.step (fun k => ?_) hb
                    simp only [Z06.j2];rw [if_neg (by decide)];rfl
          refine Ev.step (fun k => ?_) (key s.length 0 (by omega) (by omega))
          simp only [Z06.j0];rw [if_neg (by decide),hex];rfl
        · rw [decide_eq_true (show (s.length:Int) > 64 by omega),decide_eq_false c3]
          exact bad
end Go.Proofs.YtfbhdjflkaldgaaGreatDoor.Pr
