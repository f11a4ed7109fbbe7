/- The reference's rewriting, plainly: the same as the code's. -/
import Derived.Test.YtfbhdjflkaldgaaGreatDoorMg23
import Derived.Test.YtfbhdjflkaldgaaGreatDoorMg25
import Derived.Test.YtfbhdjflkaldgaaGreatDoorMg14
namespace Go.Proofs.YtfbhdjflkaldgaaGreatDoor.Pr
open Go.Proofs.YtfbhdjflkaldgaaGreatDoor.Ct Go.RowKit Go.Maps Go.Lib Go.Proofs.YtfbhdjflkaldgaaGreatDoorW.PrintWords Go.Proofs.YtfbhdjflkaldgaaGreatDoorW.PrintLast Go.Proofs.YtfbhdjflkaldgaaGreatDoorW.PrintMore
set_option linter.unusedVariables false
set_option linter.unusedSimpArgs false
theorem Z94 (l:List Int) (i:Nat) (h:i < l.length):l.drop i = rd l (i:Int) :: l.drop (i + 1):=by
  unfold rd;rw [List.drop_eq_getElem_cons h,Int.toNat_natCast,List.getD_eq_getElem?_getD,List.getElem?_eq_getElem h];rfl
theorem Zn1 (xs:List Int) (r:Int) (hl:xs.length ≤ 9223372036854775807):Ev (fun k => Z1d.f k xs r) (xs.any (· == r)):=by
  have key:∀ d i,xs.length - i = d → i ≤ xs.length → Ev (fun k => Z1d.l0 k xs r (i:Int)) ((xs.drop i).any (· == r)):=by
    intro d
    induction d with
    | zero =>
      intro i hd hi
      obtain rfl:i = xs.length:=by omega
      rw [List.drop_length]
      refine Ev.step (f:=fun _ => some false) (fun k => ?_) (Ev.now _)
      simp only [Z1d.l0];rw [if_neg (by omega)]
    | succ d ih =>
      intro i hd hi
      have hlt:i < xs.length:=by omega
      rw [Z94 xs i hlt,List.any_cons]
      by_cases e:rd xs (i:Int) = r
      · rw [beq_iff_eq.2 e,Bool.true_or]
        refine Ev.step (f:=fun _ => some true) (fun k => ?_) (Ev.now _)
        simp only [Z1d.l0];rw [if_pos (by omega),if_pos (by omega),if_pos e]
      · rw [beq_eq_false_iff_ne.2 e,Bool.false_or]
        refine Ev.step (fun k => ?_) (ih (i + 1) (by omega) (by omega))
        simp only [Z1d.l0];rw [if_pos (by omega),if_pos (by omega),if_neg e,Z1a hlt hl]
  have:=key xs.length 0 (by omega) (by omega);rw [List.drop_zero] at this;exact this
theorem Zji (l:List S68) (r:Int):∀ k j,look l k r = some j → (Z0v l (j:Int)).f0 = r
  | 0,j,h => by cases h
  | k + 1,j,h => by
    unfold look at h
    split at h
    · rename_i j' e
      obtain rfl:=Option.some.inj h;exact Zji l r k j' e
    · split at h
      · rename_i hr
        obtain rfl:=Option.some.inj h;exact hr
      · cases h
theorem Zo4 {l:List S68} {r:Int} (h:isL l r = true):(Z0v l (idxI l r)).f0 = r:=by
  unfold isL at h;unfold idxI;obtain ⟨j,hj⟩:=Option.isSome_iff_exists.1 h;rw [hj];exact Zji l r _ j hj
theorem Zhu (l:List S68) (x:S70) (r:Int) (hr:isL l r = true) (hl:l.length ≤ 9223372036854775807) (hx:x.f1.size ≤ 1099511627776):Ev (fun k => Z1c.f k l x.f0 x.f1 x.f2 x.f3 r) (admI l x (idxI l r)):=by
  obtain ⟨h0,h1⟩:=Zli l r hr
  refine Ev.bind (Z4q l r hl) (Ev.congr (fun k => by rw [if_neg (by omega),if_pos h0,if_pos h1]) ?_)
  unfold admI admP;rw [Zo4 hr]
  by_cases c1:Go.bits .and .u32 (Z0v l (idxI l r)).f1 x.f0 = x.f0
  · rw [beq_iff_eq.2 c1,Bool.true_and]
    refine Ev.congr (fun k => if_pos c1) ?_
    by_cases c2:x.f1.toList = []
    · refine Ev.congr (f:=fun _ => some _) (fun k => if_pos c2) ?_
      rw [c2];exact Ev.now _
    · have c3:x.f1.toList.isEmpty = false:=by simpa using c2
      rw [c3,Bool.false_or]
      refine Ev.congr (fun k => by rw [if_neg c2,if_pos (by omega)]) (Ev.bind (Zn1 (Z0d x.f1) r (by have:=Z23 x.f1;omega)) (Ev.now _))
  · rw [beq_eq_false_iff_ne.2 c1,Bool.false_and]
    exact Ev.congr (f:=fun _ => some _) (fun k => if_neg c1) (Ev.now _)
theorem Ze1 (l:List S68) (s:List Int):Z2q l [] s = s.isEmpty:=by unfold Z2q;rw [Z4p]
theorem Zas (l:List S68) (x:S70) (p:List S70):Z2q l (x :: p) [] = (x.f3 && Z2q l p []):=by unfold Z2q;rw [Z4p];rfl
theorem Zah (l:List S68) (x:S70) (p:List S70) (a:Int) (t:List Int):Z2q l (x :: p) (a :: t) = ((x.f3 && Z2q l p (a :: t)) || (admI l x a && (if x.f3 = true then Z2q l (x :: p) t else Z2q l p t))):=by unfold Z2q;rw [Z4p];rfl
theorem Z5t (l:List S68) (hl:l.length ≤ 9223372036854775807):∀ (n:Nat) (p:List S70) (xs:List Int),p.length + xs.length ≤ n → Z37 p = true → (∀ r ∈ xs,isL l r = true) → Ev (fun k => Z00.f k l p xs) (Z2q l p (xs.map (idxI l))):=by
  intro n
  induction n with
  | zero =>
    intro p xs hn hp hx;obtain rfl:p = []:=List.eq_nil_of_length_eq_zero (by omega);obtain rfl:xs = []:=List.eq_nil_of_length_eq_zero (by omega)
    refine Ev.step (f:=fun _ => some true) (fun k => ?_) (by rw [Ze1];exact Ev.now _)
    simp only [Z00.f];rfl
  | succ n ih =>
    intro p xs hn hp hx
    cases p with
    | nil =>
      rw [Ze1]
      refine Ev.step (f:=fun _ => some ((xs.map (idxI l)).isEmpty)) (fun k => ?_) (Ev.now _)
      simp only [Z00.f];rw [if_pos (by simp)]
      cases xs with
      | nil => rfl
      | cons a t => simp;omega
    | cons x p =>
      have hp1:x.f1.size ≤ 1099511627776:=by
        unfold Z37 at hp;rw [List.all_cons,Bool.and_eq_true] at hp
        simpa using hp.1
      have hp2:Z37 p = true:=by
        unfold Z37 at hp ⊢;rw [List.all_cons,Bool.and_eq_true] at hp;exact hp.2
      rw [List.length_cons] at hn;have e0:Z16 (x :: p) 0 = x:=rfl;have j1t:Ev (fun k => Z00.j1 k l (x :: p) xs true) false:=Ev.step (f:=fun _ => some false) (fun k => by simp only [Z00.j1];rfl) (Ev.now _);have j0t:Ev (fun k => Z00.j0 k l (x :: p) xs true) true:=Ev.step (f:=fun _ => some true) (fun k => by simp only [Z00.j0];rfl) (Ev.now _)
      have J:∀ b,b = (match xs.map (idxI l) with | [] => false | a :: t => admI l x a && (if x.f3 = true then Z2q l (x :: p) t else Z2q l p t)) → Ev (fun k => Z00.j0 k l (x :: p) xs false) b:=by
        intro b hb;subst hb
        cases xs with
        | nil =>
          refine Ev.step (fun k => ?_) j1t
          simp only [Z00.j0];rw [if_neg (by decide),if_pos (by simp)]
        | cons a t =>
          have ha:=hx a (by simp)
          have ht:∀ r ∈ t,isL l r = true:=fun r hr => hx r (by simp [hr])
          rw [List.length_cons] at hn;have had:=Zhu l x a ha hl hp1;have e1:rd (a :: t) 0 = a:=rfl
          refine Ev.step (f:=fun k => (Z1c.f k l x.f0 x.f1 x.f2 x.f3 a).bind fun t414 => (Z00.j1 k l (x :: p) (a :: t) (!t414))) (fun k => ?_) (Ev.bind had ?_)
          · simp only [Z00.j0]
            rw [if_neg (by decide),if_neg (by simp <;> omega),if_pos (by simp <;> omega),if_pos (by simp <;> omega),e0,e1]
          · simp only [List.map_cons]
            cases c:admI l x (idxI l a) with
            | false => exact j1t
            | true =>
              rw [Bool.true_and]
              by_cases c3:x.f3 = true
              · rw [if_pos c3]
                have:=ih (x :: p) t (by rw [List.length_cons];omega) hp ht
                refine Ev.step (f:=fun k => (Z00.f k l (x :: p) t).bind fun t417 => (some t417)) (fun k => ?_) (Ev.bind this (Ev.now _))
                simp only [Z00.j1];rw [if_neg (by decide),if_pos (by simp <;> omega),e0,if_pos c3,if_pos (by simp <;> omega)];rfl
              · rw [if_neg c3]
                have:=ih p t (by omega) hp2 ht
                refine Ev.step (f:=fun k => (Z00.f k l p t).bind fun t423 => (some t423)) (fun k => ?_) (Ev.bind this (Ev.now _))
                simp only [Z00.j1];rw [if_neg (by decide),if_pos (by simp <;> omega),e0,if_neg c3,if_pos (by simp <;> omega),if_pos (by simp <;> omega)];rfl
      have hval:Z2q l (x :: p) (xs.map (idxI l)) = ((x.f3 && Z2q l p (xs.map (idxI l))) || (match xs.map (idxI l) with | [] => false | a :: t => admI l x a && (if x.f3 = true then Z2q l (x :: p) t else Z2q l p t))):=by
        cases xs.map (idxI l) with
        | nil => rw [Zas];simp
        | cons a t => rw [Zah]
      rw [hval]
      by_cases c3:x.f3 = true
      · have:=ih p xs (by omega) hp2 hx
        refine Ev.step (f:=fun k => (Z00.f k l p xs).bind fun t411 => (Z00.j0 k l (x :: p) xs t411)) (fun k => ?_) (Ev.bind this ?_)
        · simp only [Z00.f]
          rw [if_neg (by simp <;> omega),if_pos (by simp <;> omega),e0,if_pos c3,if_pos (by simp <;> omega)];rfl
        · cases c:Z2q l p (xs.map (idxI l)) with
          | true => rw [c3,Bool.and_true,Bool.true_or];exact j0t
          | false => rw [Bool.and_false,Bool.false_or];exact J _ rfl
      · have c4:x.f3 = false:=by simpa using c3
        rw [c4,Bool.false_and,Bool.false_or]
        refine Ev.step (fun k => ?_) (J _ (by rw [c4]))
        simp only [Z00.f];rw [if_neg (by simp <;> omega),if_pos (by simp <;> omega),e0,if_neg c3]
theorem Zkx (l:List S68) (hl:l.length ≤ 9223372036854775807) (a0:Int) (a1:ByteArray) (p p3:List S70) (a4 a5:Bool) (xs:List Int) (hp:Z37 p = true) (hx:∀ r ∈ xs,isL l r = true) (hn:xs.length ≤ 1099511627776):Ev (fun k => Z10.f k l a0 a1 p p3 a4 a5 xs) (Z43 l p a4 (xs.map (idxI l))):=by
  unfold Z43
  cases a4 with
  | true =>
    rw [if_pos rfl];exact Ev.congr (fun k => by unfold Z10.f;rw [if_pos rfl]) (Ev.bind (Z5t l hl _ p xs (Nat.le_refl _) hp hx) (Ev.now _))
  | false =>
    rw [if_neg (by decide)]
    have key:∀ d i,xs.length + 1 - i = d → i ≤ xs.length + 1 → Ev (fun k => Z10.l0 k l xs (i:Int) a0 a1 p p3 false a5) ((List.range' i d).any fun j => Z2q l p ((xs.drop j).map (idxI l))):=by
      intro d
      induction d with
      | zero =>
        intro i hd hi
        refine Ev.step (f:=fun _ => some false) (fun k => ?_) (Ev.now _)
        simp only [Z10.l0];rw [if_neg (by omega)]
      | succ d ih =>
        intro i hd hi;rw [List.range'_succ,List.any_cons];have hm:=Z5t l hl _ p (xs.drop i) (Nat.le_refl _) hp (fun r hr => hx r (List.mem_of_mem_drop hr))
        refine Ev.step (f:=fun k => (Z00.f k l p (xs.drop i)).bind fun t427 => (if t427 = true then (some true) else (Z10.l0 k l xs (wrap64 ((i:Int) + 1)) a0 a1 p p3 false a5))) (fun k => ?_) (Ev.bind hm ?_)
        · simp only [Z10.l0]
          rw [if_pos (by omega),if_pos (by omega),Int.toNat_natCast]
        · cases c:Z2q l p ((xs.drop i).map (idxI l)) with
          | true => exact Ev.congr (f:=fun _ => some true) (fun k => if_pos rfl) (Ev.now _)
          | false =>
            refine Ev.congr (fun k => ?_) (ih (i + 1) (by omega) (by omega))
            rw [if_neg (by decide),Z1a (n:=xs.length + 1) (by omega) (by omega)]
    have:=key (xs.length + 1) 0 (by omega) (by omega);unfold Zbp;rw [List.length_map,List.range_eq_range']
    refine Ev.congr (fun k => by unfold Z10.f;rw [if_neg (by decide)]) ?_
    simp only [List.map_drop] at this;exact this
theorem Zjj (l:List S68) (hl:l.length ≤ 9223372036854775807) (a0:Int) (a1:ByteArray) (p2 p:List S70) (a4 a5:Bool) (xs:List Int) (hp:Z37 p = true) (hx:∀ r ∈ xs,isL l r = true) (hn:xs.length ≤ 1099511627776):Ev (fun k => Z0t.f k l a0 a1 p2 p a4 a5 xs) (Z3j l p a5 (xs.map (idxI l))):=by
  unfold Z3j
  cases a5 with
  | true =>
    rw [if_pos rfl];exact Ev.congr (fun k => by unfold Z0t.f;rw [if_pos rfl]) (Ev.bind (Z5t l hl _ p xs (Nat.le_refl _) hp hx) (Ev.now _))
  | false =>
    rw [if_neg (by decide)]
    have key:∀ d i,xs.length + 1 - i = d → i ≤ xs.length + 1 → Ev (fun k => Z0t.l0 k l xs (i:Int) a0 a1 p2 p a4 false) ((List.range' i d).any fun j => Z2q l p ((xs.take j).map (idxI l))):=by
      intro d
      induction d with
      | zero =>
        intro i hd hi
        refine Ev.step (f:=fun _ => some false) (fun k => ?_) (Ev.now _)
        simp only [Z0t.l0];rw [if_neg (by omega)]
      | succ d ih =>
        intro i hd hi;rw [List.range'_succ,List.any_cons];have hm:=Z5t l hl _ p (xs.take i) (Nat.le_refl _) hp (fun r hr => hx r (List.mem_of_mem_take hr))
        refine Ev.step (f:=fun k => (Z00.f k l p (xs.take i)).bind fun t431 => (if t431 = true then (some true) else (Z0t.l0 k l xs (wrap64 ((i:Int) + 1)) a0 a1 p2 p a4 false))) (fun k => ?_) (Ev.bind hm ?_)
        · simp only [Z0t.l0]
          rw [if_pos (by omega),if_pos (by omega),Int.toNat_natCast]
        · cases c:Z2q l p ((xs.take i).map (idxI l)) with
          | true => exact Ev.congr (f:=fun _ => some true) (fun k => if_pos rfl) (Ev.now _)
          | false =>
            refine Ev.congr (fun k => ?_) (ih (i + 1) (by omega) (by omega))
            rw [if_neg (by decide),Z1a (n:=xs.length + 1) (by omega) (by omega)]
    have:=key (xs.length + 1) 0 (by omega) (by omega);unfold Zg3;rw [List.length_map,List.range_eq_range']
    refine Ev.congr (fun k => by unfold Z0t.f;rw [if_neg (by decide)]) ?_
    simp only [List.map_take] at this;exact this
theorem Zc4 (l:List S68) (w:ByteArray) (h:w.size ≤ 1099511627776):Z15.f l w = some (Z18 l w):=by
  unfold Z15.f Z0w.f Z18;rw [if_pos h,Option.bind_some];unfold Z2s
  by_cases c:(Z0d w).all (isL l) = true
  · rw [if_pos c,c]
    by_cases c2:validD w.data.toList = true
    · rw [if_pos c2,c2]
      simp only [Bool.true_and]
      congr 1
      rw [decide_eq_decide];omega
    · rw [if_neg c2]
      simp at c2
      rw [c2];rfl
  · rw [if_neg c]
    simp only [Bool.false_eq_true,if_false]
    simp at c
    rw [show (Z0d w).all (isL l) = false by simpa using c,Bool.false_and,Bool.and_false]
theorem Zjk (l:List S68) (r:S73) (w:ByteArray) (hl:l.length ≤ 9223372036854775807) (h2:r.f2.length ≤ 9223372036854775807) (h3:r.f3.length ≤ 9223372036854775807) (hs:Z2k r = true) (hw:w.size ≤ 1099511627776):Ev (fun k => Z01.f k l r.f0 r.f1 r.f2 r.f3 r.f4 r.f5 w) (Z4s l r w):=by
  have bad:Ev (fun k => Z01.j0 k l w [] true r.f0 r.f1 r.f2 r.f3 r.f4 r.f5) ([]:List Int):=Ev.step (f:=fun _ => some []) (fun k => by simp only [Z01.j0];rfl) (Ev.now _)
  refine Ev.congr (f:=fun k => (Z0s.f k l r.f0 r.f1 r.f2 r.f3 r.f4 r.f5).bind fun t436 => (if t436 = true then ((Z15.f l w).bind fun t437 => (Z01.j0 k l w [] (!t437) r.f0 r.f1 r.f2 r.f3 r.f4 r.f5)) else (Z01.j0 k l w [] true r.f0 r.f1 r.f2 r.f3 r.f4 r.f5))) (fun k => rfl) (Ev.bind (Z6i l r hl h2 h3 hs) ?_)
  unfold Z4s
  cases c1:Z3r l r with
  | false => rw [if_neg (by simp)];exact bad
  | true =>
    refine Ev.congr (fun k => by rw [if_pos rfl,Zc4 l w hw,Option.bind_some]) ?_
    cases c2:Z18 l w with
    | false => rw [if_neg (by simp)];exact bad
    | true =>
      rw [if_pos ⟨rfl,rfl⟩]
      have hV:∀ q ∈ Z0d w,isL l q = true:=by
        unfold Z18 at c2;simp only [Bool.and_eq_true,List.all_eq_true] at c2;exact c2.2.1
      have h40:=Z7u c2
      obtain ⟨s1,s2,s3⟩:r.f1.size ≤ 1099511627776 ∧ Z37 r.f2 = true ∧ Z37 r.f3 = true:=by
        unfold Z2k at hs;simp only [Bool.and_eq_true,decide_eq_true_eq] at hs;exact hs
      refine Ev.step (f:=fun k => Z01.l0 k l [] (Z0d w) 0 r.f0 r.f1 r.f2 r.f3 r.f4 r.f5) (fun k => ?_) ?_
      · simp only [Z01.j0]
        rw [if_neg (by decide),if_pos (by omega)]
      generalize Z0d w = V at hV h40
      have key:∀ d i,V.length + 1 - i = d → i ≤ V.length + 1 → Ev (fun k => Z01.l0 k l (upTo (Z46 l r V) i) V (i:Int) r.f0 r.f1 r.f2 r.f3 r.f4 r.f5) (upTo (Z46 l r V) (V.length + 1)):=by
        intro d
        induction d with
        | zero =>
          intro i hd hi
          obtain rfl:i = V.length + 1:=by omega
          refine Ev.step (f:=fun _ => some _) (fun k => ?_) (Ev.now _)
          simp only [Z01.l0];rw [if_neg (by omega)]
        | succ d ih =>
          intro i hd hi
          have hi':i ≤ V.length:=by omega
          have hnx:=am (show wrap64 ((i:Int) + 1) = ((i + 1:Nat):Int) from Z1a (n:=V.length + 1) (by omega) (by omega));have nx:=ih (i + 1) (by omega) (by omega);rw [Zcl] at nx;have hup:=Z72 (Z46 l r V) i
          have two:∀ b:Nat,b = (if r.f0 = 0 then i else i + 1) → b ≤ V.length → (decide (r.f0 = 0) || (decide (i < V.length) && decide (V.getD i 0 = r.f0))) = true → Ev (fun k => Z01.j2 k l (upTo (Z46 l r V) i) V (i:Int) (b:Int) r.f0 r.f1 r.f2 r.f3 r.f4 r.f5) (upTo (Z46 l r V) (V.length + 1)):=by
            intro b hb hbl hat
            have hsite:Z46 l r V i = (Z43 l r.f2 r.f4 ((V.take i).map (idxI l)) && Z3j l r.f3 r.f5 ((V.drop b).map (idxI l))):=by unfold Z46;rw [hat,Bool.true_and,hb]
            have hlf:=Zkx l hl r.f0 r.f1 r.f2 r.f3 r.f4 r.f5 (V.take i) s2 (fun q hq => hV q (List.mem_of_mem_take hq)) Gc36;have hrt:=Zjj l hl r.f0 r.f1 r.f2 r.f3 r.f4 r.f5 (V.drop b) s3 (fun q hq => hV q (List.mem_of_mem_drop hq)) (by rw [List.length_drop];omega);rw [hsite] at nx
            refine Ev.step (f:=fun k => (Z10.f k l r.f0 r.f1 r.f2 r.f3 r.f4 r.f5 (V.take i)).bind fun t446 => (if t446 = true then ((Z0t.f k l r.f0 r.f1 r.f2 r.f3 r.f4 r.f5 (V.drop b)).bind fun t451 => (if t451 = true then (Z01.l0 k l (upTo (Z46 l r V) i ++ [(i:Int)]) V ((i + 1:Nat):Int) r.f0 r.f1 r.f2 r.f3 r.f4 r.f5) else (Z01.l0 k l (upTo (Z46 l r V) i) V ((i + 1:Nat):Int) r.f0 r.f1 r.f2 r.f3 r.f4 r.f5))) else (Z01.l0 k l (upTo (Z46 l r V) i) V ((i + 1:Nat):Int) r.f0 r.f1 r.f2 r.f3 r.f4 r.f5))) (fun k => ?_) (Ev.bind hlf ?_)
            · simp only [Z01.j2]
              rw [if_pos (by omega),if_pos (by omega),if_pos (show (0:Int) ≤ (b:Int) by omega),if_pos (show (b:Int) ≤ (V.length:Int) by omega),hnx.out,if_pos (show (upTo (Z46 l r V) i).length < 17592186044416 by omega),Int.toNat_natCast,Int.toNat_natCast]
            · cases d1:Z43 l r.f2 r.f4 ((V.take i).map (idxI l)) with
              | false =>
                rw [d1,Bool.false_and,if_neg (by decide)] at nx;exact Ev.congr (fun k => if_neg (by decide)) nx
              | true =>
                rw [d1,Bool.true_and] at nx
                refine Ev.congr (fun k => if_pos rfl) (Ev.bind hrt ?_)
                cases d2:Z3j l r.f3 r.f5 ((V.drop b).map (idxI l)) with
                | false =>
                  rw [d2,if_neg (by decide)] at nx;exact Ev.congr (fun k => if_neg (by decide)) nx
                | true =>
                  rw [d2,if_pos rfl] at nx;exact Ev.congr (fun k => if_pos rfl) nx
          have no:(decide (r.f0 = 0) || (decide (i < V.length) && decide (V.getD i 0 = r.f0))) = false → Ev (fun k => Z01.l0 k l (upTo (Z46 l r V) i) V ((i + 1:Nat):Int) r.f0 r.f1 r.f2 r.f3 r.f4 r.f5) (upTo (Z46 l r V) (V.length + 1)):=by
            intro hat
            rw [show Z46 l r V i = false by unfold Z46;rw [hat,Bool.false_and],if_neg (by decide)] at nx;exact nx
          by_cases c0:r.f0 = 0
          · refine Ev.step (fun k => ?_) (two i (by rw [if_pos c0]) hi' (by rw [decide_eq_true c0];rfl))
            simp only [Z01.l0];rw [if_pos (by omega),if_pos c0]
          · by_cases ce:i = V.length
            · refine Ev.step (fun k => ?_) (no (by rw [decide_eq_false c0,decide_eq_false (by omega)];rfl))
              simp only [Z01.l0];rw [if_pos (by omega),if_neg c0,if_pos (by omega),hnx.out]
            · by_cases cr:rd V (i:Int) = r.f0
              · refine Ev.step (fun k => ?_) (two (i + 1) (by rw [if_neg c0]) (by omega) (by rw [decide_eq_false c0,decide_eq_true (by omega)];unfold rd at cr;rw [Int.toNat_natCast] at cr;rw [decide_eq_true cr];rfl))
                simp only [Z01.l0];rw [if_pos (by omega),if_neg c0,if_neg (by omega),if_pos (by omega),if_pos (by omega),if_pos cr,hnx.out]
              · refine Ev.step (fun k => ?_) (no (by rw [decide_eq_false c0];unfold rd at cr;rw [Int.toNat_natCast] at cr;rw [decide_eq_false cr,Bool.and_false];rfl))
                simp only [Z01.l0];rw [if_pos (by omega),if_neg c0,if_neg (by omega),if_pos (by omega),if_pos (by omega),if_neg cr,hnx.out]
      exact key (V.length + 1) 0 (by omega) (by omega)
theorem Zc5 {out:ByteArray} {rs:List Int} (h:out.data.toList = encL rs):out.size ≤ 4 * rs.length:=by
  have:=Zbw rs;rw [← h,sizeL] at this;exact this
def fin7 (x:ByteArray):ByteArray × Int:=if 40 < (Z0d x).length then ((⟨#[]⟩:ByteArray),2) else (x,0)
theorem Zai (S:List Int) (kk:Nat) (i:Int):(S.drop kk).head? = some i ↔ kk < S.length ∧ rd S (kk:Int) = i:=by
  by_cases h:kk < S.length
  · rw [Z94 S kk h]
    simp [h]
  · rw [List.drop_of_length_le (by omega)]
    simp;omega
theorem Zlu {p:Prop} (h:p:=by
  rw [if_pos (by omega)]
  by_cases z1_:kk < S.length
  · rw [if_pos (by omega),if_pos (by omega),beq_eq_false_iff_ne.2 (fun h => c ((Zai S kk _).2 ⟨z1_,h⟩))]
  · rw [if_neg (by omega)]):p:=h
theorem Zjl (l:List S68) (r:S73) (w:ByteArray) (hl:l.length ≤ 9223372036854775807) (h2:r.f2.length ≤ 9223372036854775807) (h3:r.f3.length ≤ 9223372036854775807) (hs:Z2k r = true) (hw:w.size ≤ 1099511627776):Ev (fun k => Z05.f k l r.f0 r.f1 r.f2 r.f3 r.f4 r.f5 w) (Z4c l r w):=by
  have bad:Ev (fun k => Z05.j0 k l w true r.f0 r.f1 r.f2 r.f3 r.f4 r.f5) ((⟨#[]⟩:ByteArray),(1:Int)):=Ev.step (f:=fun _ => some _) (fun k => by simp only [Z05.j0];rfl) (Ev.now _)
  refine Ev.bind (Z6i l r hl h2 h3 hs) ?_
  unfold Z4c
  cases c1:Z3r l r with
  | false => rw [if_neg (by simp)];exact bad
  | true =>
    refine Ev.congr (fun k => by rw [if_pos rfl,Zc4 l w hw,Option.bind_some]) ?_
    cases c2:Z18 l w with
    | false => rw [if_neg (by simp)];exact bad
    | true =>
      rw [if_pos ⟨rfl,rfl⟩];have h40:=Z7u c2;have hto:=Zef c1
      have hval:encL (Z0d r.f1) = r.f1.data.toList:=by
        unfold Z3r Z39 at c1;simp only [Bool.and_eq_true] at c1;exact (Z36 _).1 c1.2.1.1
      have hscV:∀ q ∈ Z0d w,scalar q:=Z22 _;have hscT:∀ q ∈ Z0d r.f1,scalar q:=Z22 _
      refine Ev.step (f:=fun k => (Z01.f k l r.f0 r.f1 r.f2 r.f3 r.f4 r.f5 w).bind fun t458 => Z05.l0 k t458 (Z0d w) (⟨#[]⟩:ByteArray) 0 0 r.f0 r.f1 r.f2 r.f3 r.f4 r.f5) (fun k => ?_) (Ev.bind (Zjk l r w hl h2 h3 hs hw) ?_)
      · simp only [Z05.j0]
        rw [if_neg (by decide)]
        congr 1
        funext t
        rw [if_pos (by omega)]
      show Ev _ (fin7 (outP l r w));unfold outP Z9r
      have hSl:(Z4s l r w).length ≤ 41:=by
        unfold Z4s
        split
        · exact Nat.le_trans (Z72 _ _) (by omega)
        · simp
      generalize Z4s l r w = S at hSl;generalize Z0d w = V at h40 hscV
      have hT16:r.f1.size ≤ 16:=by have:=Zc5 hval.symm;omega
      generalize hTT:Z0d r.f1 = T at hto hval hscT
      have hfin:∀ (out:ByteArray) (kk:Nat),out.size ≤ 70368744177664 → Ev (fun k => Z05.l0 k S V out (kk:Int) ((V.length + 1:Nat):Int) r.f0 r.f1 r.f2 r.f3 r.f4 r.f5) (fin7 out):=by
        intro out kk ho
        refine Ev.step (f:=fun _ => some _) (fun k => ?_) (Ev.now _)
        simp only [Z05.l0];rw [if_neg (by omega),if_pos ho];unfold fin7
        by_cases c:40 < (Z0d out).length
        · rw [if_pos (by omega),if_pos c]
        · rw [if_neg (by omega),if_neg c]
      have hencA:∀ {a b:ByteArray} {x y:List Int},a.data.toList = encL x → b.data.toList = encL y → (a ++ b).data.toList = encL (x ++ y):=by
        intro a b x y ha hb;rw [ByteArray.data_append,Array.toList_append,ha,hb];simp [encL]
      have hencR:∀ {c:Int},scalar c → (Utf8.encode c).data.toList = encL [c]:=fun hc => by rw [Z9f _ hc];simp [encL]
      have hfinE:∀ {out:ByteArray} {x:List Int},out.data.toList = encL x → out = encS x:=fun h => Z4l (by rw [Z45];exact h)
      have key:∀ d i kk (done:List Int) (out:ByteArray),V.length - i = d → i ≤ V.length → kk ≤ i → out.data.toList = encL done → done.length ≤ 5 * i → Ev (fun k => Z05.l0 k S V out (kk:Int) (i:Int) r.f0 r.f1 r.f2 r.f3 r.f4 r.f5) (fin7 (encS (done ++ resF (decide (r.f0 = 0)) T (S.drop kk) i (V.drop i)))):=by
        intro d
        induction d with
        | zero =>
          intro i kk done out hd hi hk ho hn
          obtain rfl:i = V.length:=by omega
          have hos:=Zc5 ho;rw [List.drop_length];unfold resF;have hnx:=am (show wrap64 ((V.length:Int) + 1) = ((V.length + 1:Nat):Int) from Z1a (n:=V.length + 1) (by omega) (by omega))
          by_cases c:(S.drop kk).head? = some (V.length:Int)
          · rw [if_pos c]
            obtain ⟨q1,q2⟩:=(Zai S kk _).1 c;have hkx:=am (show wrap64 ((kk:Int) + 1) = ((kk + 1:Nat):Int) from Z1a q1 (by omega));have ho2:=hencA ho hval.symm;rw [← hfinE ho2]
            refine Ev.step (f:=fun k => Z05.j2 k S V out (kk:Int) (V.length:Int) true r.f0 r.f1 r.f2 r.f3 r.f4 r.f5) (fun k => ?_) (Ev.step (fun k => ?_) (hfin (out ++ r.f1) (kk + 1) (by rw [ByteArray.size_append];omega)))
            · simp only [Z05.l0]
              rw [if_pos (by omega),if_pos (by omega),if_pos (by omega),q2,beq_self_eq_true]
            · simp only [Z05.j2]
              rw [if_pos trivial,if_pos (by omega),if_neg (by omega),hnx.out,hkx.out]
          · rw [if_neg c,List.append_nil,← hfinE ho]
            refine Ev.step (f:=fun k => Z05.j2 k S V out (kk:Int) (V.length:Int) false r.f0 r.f1 r.f2 r.f3 r.f4 r.f5) (fun k => ?_) (Ev.step (fun k => ?_) (hfin out kk (by omega)))
            · simp only [Z05.l0]
              exact Zlu
            · simp only [Z05.j2]
              rw [if_neg (by decide),if_neg (by omega),hnx.out]
        | succ d ih =>
          intro i kk done out hd hi hk ho hn
          have hlt:i < V.length:=by omega
          have hos:=Zc5 ho;have hvi:rd V (i:Int) ∈ V:=List.mem_of_mem_drop (i:=i) (by rw [Z94 V i hlt];simp);have hsc:=hscV _ hvi;have hes:=Zbl _ hsc;rw [Z94 V i hlt];have hnx:=am (show wrap64 ((i:Int) + 1) = ((i + 1:Nat):Int) from Z1a (n:=V.length + 1) (by omega) (by omega));unfold resF
          by_cases c:(S.drop kk).head? = some (i:Int)
          · rw [if_pos c]
            obtain ⟨q1,q2⟩:=(Zai S kk _).1 c;have hkx:=am (show wrap64 ((kk:Int) + 1) = ((kk + 1:Nat):Int) from Z1a q1 (by omega))
            have htl:(S.drop kk).tail = S.drop (kk + 1):=by rw [List.tail_drop]
            rw [htl];have ho2:=hencA ho hval.symm
            refine Ev.step (f:=fun k => Z05.j2 k S V out (kk:Int) (i:Int) true r.f0 r.f1 r.f2 r.f3 r.f4 r.f5) (fun k => ?_) ?_
            · simp only [Z05.l0]
              rw [if_pos (by omega),if_pos (by omega),if_pos (by omega),q2,beq_self_eq_true]
            · by_cases c0:r.f0 = 0
              · rw [decide_eq_true c0,if_pos rfl]
                have ho3:=hencA ho2 (hencR hsc);have:=ih (i + 1) (kk + 1) (done ++ T ++ [rd V (i:Int)]) (out ++ r.f1 ++ Utf8.encode (rd V (i:Int))) (by omega) (by omega) (by omega) ho3 (by simp <;> omega);rw [decide_eq_true c0] at this
                refine Ev.step (fun k => ?_) (by rw [List.append_assoc,List.append_assoc] at this;exact this)
                simp only [Z05.j2];rw [if_pos trivial,if_pos (by omega),if_pos (by omega),if_pos c0,if_pos (by omega),if_pos (by rw [ByteArray.size_append];omega),hnx.out,hkx.out]
              · rw [decide_eq_false c0,if_neg (by decide)]
                have:=ih (i + 1) (kk + 1) (done ++ T) (out ++ r.f1) (by omega) (by omega) (by omega) ho2 (by simp <;> omega);rw [decide_eq_false c0] at this
                refine Ev.step (fun k => ?_) (by rw [List.append_assoc] at this;exact this)
                simp only [Z05.j2];rw [if_pos trivial,if_pos (by omega),if_pos (by omega),if_neg c0,hnx.out,hkx.out]
          · rw [if_neg c]
            have ho3:=hencA ho (hencR hsc);have:=ih (i + 1) kk (done ++ [rd V (i:Int)]) (out ++ Utf8.encode (rd V (i:Int))) (by omega) (by omega) (by omega) ho3 (by simp <;> omega)
            refine Ev.step (f:=fun k => Z05.j2 k S V out (kk:Int) (i:Int) false r.f0 r.f1 r.f2 r.f3 r.f4 r.f5) (fun k => ?_) (Ev.step (fun k => ?_) (by rw [List.append_assoc] at this;exact this))
            · simp only [Z05.l0]
              exact Zlu
            · simp only [Z05.j2]
              rw [if_neg (by decide),if_pos (by omega),if_pos (by omega),if_pos (by omega),hnx.out]
      have:=key V.length 0 0 [] (⟨#[]⟩:ByteArray) (by omega) (by omega) (by omega) rfl (by simp);rw [List.drop_zero,List.drop_zero,List.nil_append] at this;exact this
theorem Zjm (l:List S68) (rules:List S73) (w:ByteArray) (hl:l.length ≤ 9223372036854775807) (hrl:rules.length ≤ 9223372036854775807) (hs:rules.all Z2k = true) (ho:Z77 rules = true) (hw:w.size ≤ 1099511627776):Ev (fun k => Z14.f k l rules w) (decide ((rules.length ≤ 64 ∧ Z3p l = true) ∧ Z18 l w = true ∧ rules.all (Z3r l) = true)):=by
  have hend:Ev (fun k => if (rules.length:Int) ≤ 64 then ((Z0i.f k l).bind fun t396 => (if t396 = true then ((Z15.f l w).bind fun t397 => (some t397)) else (some false))) else (some false)) (decide (rules.length ≤ 64) && (Z3p l && Z18 l w)):=by
    by_cases c:rules.length ≤ 64
    · rw [decide_eq_true c,Bool.true_and]
      refine Ev.congr (fun k => if_pos (by omega)) (Ev.bind (Zgg l hl) ?_)
      cases Z3p l with
      | false => exact Ev.congr (f:=fun _ => some false) (fun k => if_neg (by decide)) (Ev.now _)
      | true => exact Ev.congr (f:=fun _ => some (Z18 l w)) (fun k => by rw [if_pos rfl,Zc4 l w hw];rfl) (Ev.now _)
    · rw [decide_eq_false c,Bool.false_and]
      exact Ev.congr (f:=fun _ => some false) (fun k => if_neg (by omega)) (Ev.now _)
  have key:∀ d i,rules.length - i = d → i ≤ rules.length → Ev (fun k => Z14.l0 k l rules w (i:Int)) ((rules.drop i).all (Z3r l) && (decide (rules.length ≤ 64) && (Z3p l && Z18 l w))):=by
    intro d
    induction d with
    | zero =>
      intro i hd hi
      obtain rfl:i = rules.length:=by omega
      rw [List.drop_length]
      refine Ev.step (fun k => ?_) hend
      simp only [Z14.l0];rw [if_neg (by omega)]
    | succ d ih =>
      intro i hd hi
      have hlt:i < rules.length:=by omega
      rw [Z3q rules i hlt,List.all_cons];have hm:Z03 rules (i:Int) ∈ rules:=List.mem_of_mem_drop (i:=i) (by rw [Z3q rules i hlt];simp)
      have hok:(Z03 rules (i:Int)).f2.length ≤ 1099511627776 ∧ (Z03 rules (i:Int)).f3.length ≤ 1099511627776:=by
        unfold Z77 at ho;have:=List.all_eq_true.1 ho _ hm
        simpa using this
      have hv:=Z6i l (Z03 rules (i:Int)) hl (by omega) (by omega) (List.all_eq_true.1 hs _ hm)
      refine Ev.step (f:=fun k => (Z0s.f k l ((Z03 rules (i:Int)).f0) ((Z03 rules (i:Int)).f1) ((Z03 rules (i:Int)).f2) ((Z03 rules (i:Int)).f3) ((Z03 rules (i:Int)).f4) ((Z03 rules (i:Int)).f5)).bind fun t395 => (if t395 = true then (Z14.l0 k l rules w ((i + 1:Nat):Int)) else (some false))) (fun k => ?_) (Ev.bind hv ?_)
      · simp only [Z14.l0]
        rw [if_pos (by omega),if_pos (by omega),Z1a hlt hrl]
      · cases Z3r l (Z03 rules (i:Int)) with
        | false => exact Ev.congr (f:=fun _ => some false) (fun k => if_neg (by decide)) (Ev.now _)
        | true =>
          rw [Bool.true_and];exact Ev.congr (fun k => if_pos rfl) (ih (i + 1) (by omega) (by omega))
  have:=key rules.length 0 (by omega) (by omega);rw [List.drop_zero] at this
  have e:(decide ((rules.length ≤ 64 ∧ Z3p l = true) ∧ Z18 l w = true ∧ rules.all (Z3r l) = true)) = (rules.all (Z3r l) && (decide (rules.length ≤ 64) && (Z3p l && Z18 l w))):=by
    by_cases c:rules.length ≤ 64
    · cases Z3p l <;> cases Z18 l w <;> cases rules.all (Z3r l) <;> simp [c]
    · cases Z3p l <;> cases Z18 l w <;> cases rules.all (Z3r l) <;> simp [c]
  rw [e];exact this
theorem Zet (l:List S68) (rules:List S73) (w:ByteArray) (hl:l.length ≤ 9223372036854775807) (hrl:rules.length ≤ 9223372036854775807) (hs:rules.all Z2k = true) (ho:Z77 rules = true) (hw:w.size ≤ 1099511627776):Ev (fun k => Z25.f k l rules w) (Z2b l rules w):=by
  have hck:=Zjm l rules w hl hrl hs ho hw;unfold Z2b
  by_cases c:(rules.length ≤ 64 ∧ Z3p l = true) ∧ Z18 l w = true ∧ rules.all (Z3r l) = true
  · rw [if_pos c]
    rw [decide_eq_true c] at hck
    have hloop:∀ d i (acc:List ByteArray) (u:ByteArray),rules.length - i = d → i ≤ rules.length → (∃ a,acc = a ++ [u] ∧ a.length = i) → u.size ≤ 1099511627776 → Ev (fun k => Z0j.l0 k l rules acc (i:Int)) (trL l (rules.drop i) acc u):=by
      intro d
      induction d with
      | zero =>
        intro i acc u hd hi ha hu
        obtain rfl:i = rules.length:=by omega
        rw [List.drop_length]
        refine Ev.step (f:=fun _ => some (acc,0)) (fun k => ?_) (Ev.now _)
        simp only [Z0j.l0];rw [if_neg (by omega)]
      | succ d ih =>
        intro i acc u hd hi ha hu
        have hlt:i < rules.length:=by omega
        have h64:=c.1.1;obtain ⟨a,rfl,hal⟩:=ha;rw [Z3q rules i hlt];have hm:Z03 rules (i:Int) ∈ rules:=List.mem_of_mem_drop (i:=i) (by rw [Z3q rules i hlt];simp)
        have hok:(Z03 rules (i:Int)).f2.length ≤ 1099511627776 ∧ (Z03 rules (i:Int)).f3.length ≤ 1099511627776:=by
          unfold Z77 at ho;have:=List.all_eq_true.1 ho _ hm
          simpa using this
        obtain ⟨R,hR⟩:∃ R,Z03 rules (i:Int) = R:=⟨_,rfl⟩;rw [hR] at hm hok ⊢;have hap:=Zjl l R u hl (by omega) (by omega) (List.all_eq_true.1 hs _ hm) hu
        have hrd:rdOf ByteArray.empty (a ++ [u]) (i:Int) = u:=by
          unfold rdOf;rw [Int.toNat_natCast,← hal];simp
        refine Ev.step (f:=fun k => (Z05.f k l R.f0 R.f1 R.f2 R.f3 R.f4 R.f5 u).bind fun bt476 => (if bt476.2 = 0 then (Z0j.l0 k l rules (a ++ [u] ++ [bt476.1]) ((i + 1:Nat):Int)) else (some (([]:List ByteArray),bt476.2)))) (fun k => ?_) (Ev.bind hap ?_)
        · simp only [Z0j.l0]
          rw [if_pos (by omega),if_pos (by omega),if_pos Gc14,hR,hrd,Z1a hlt hrl]
          congr 1
          funext t
          rw [if_pos (show (a ++ [u]).length < 8796093022208 by rw [List.length_append,List.length_singleton];omega)]
        · unfold trL
          by_cases e:(Z4c l R u).2 = 0
          · rw [if_pos e]
            exact Ev.congr (fun k => if_pos e) (ih (i + 1) _ _ (by omega) (by omega) ⟨a ++ [u],rfl,by simp;omega⟩ (Nat.le_trans (Z8c l R u) (by decide)))
          · rw [if_neg e]
            exact Ev.congr (f:=fun _ => some _) (fun k => if_neg e) (Ev.now _)
    have htr:Ev (fun k => Z0j.f k l rules w) (trL l rules [w] w):=by
      have h0:=hloop rules.length 0 [w] w (by omega) (by omega) ⟨[],rfl,rfl⟩ hw;rw [List.drop_zero] at h0;exact Ev.bind hck (Ev.congr (fun k => if_pos rfl) h0)
    obtain ⟨t1,t2,t3⟩:=Zeg l rules [w] w ⟨[],rfl⟩ (by simp;have:=c.1.1;omega)
    refine Ev.bind htr ?_
    by_cases e:(casF l rules w).2 = 0
    · obtain ⟨a,ha,hal⟩:=t2 e
      obtain ⟨g1,g2⟩:=Zbt a (casF l rules w).1 (by omega)
      refine Ev.congr (f:=fun _ => some (casF l rules w)) (fun k => ?_) (Ev.now _)
      rw [if_pos (by rw [t1];exact e),ha,g1,if_pos (by omega),if_pos Gc14,g2,← e]
    · refine Ev.congr (f:=fun _ => some (casF l rules w)) (fun k => ?_) (Ev.now _)
      rw [if_neg (by rw [t1];exact e),t1,← t3 e]
  · rw [if_neg c]
    rw [decide_eq_false c] at hck;have htr:Ev (fun k => Z0j.f k l rules w) (([]:List ByteArray),(1:Int)):=Ev.bind hck (Ev.congr (f:=fun _ => some _) (fun k => if_neg (by decide)) (Ev.now _));exact Ev.bind htr (Ev.congr (f:=fun _ => some _) (fun k => if_neg (by decide)) (Ev.now _))
end Go.Proofs.YtfbhdjflkaldgaaGreatDoor.Pr
