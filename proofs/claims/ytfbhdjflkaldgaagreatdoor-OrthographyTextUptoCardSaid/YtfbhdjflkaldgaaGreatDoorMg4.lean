/- Several texts in one: PatV, PatR, PrF115, PatA, OrB, PatM. -/
import Derived.Test.YtfbhdjflkaldgaaGreatDoorMg3
import Derived.Test.YtfbhdjflkaldgaaGreatDoorMg1
import Derived.Test.YtfbhdjflkaldgaaGreatDoorMg2
/- pattern.proper, pattern.over, pattern.Valid. -/
/- pattern.read. -/
/- pattern.admits. -/
/- Sets of positions as bits. -/
/- pattern.machine and the function it returns. -/
namespace Go.Proofs.YtfbhdjflkaldgaaGreatDoor.Pr
open Go.Proofs.YtfbhdjflkaldgaaGreatDoor.Ct Go.RowKit Go.Maps Go.Lib Go.Proofs.YtfbhdjflkaldgaaGreatDoorW.PrintWords Go.Proofs.YtfbhdjflkaldgaaGreatDoorW.PrintLast Go.Proofs.YtfbhdjflkaldgaaGreatDoorW.PrintMore
set_option linter.unusedVariables false
set_option linter.unusedSimpArgs false
def Z48 (l:List S68):Bool:=(l.all fun x => Z3m x.f0) && (Z4d l l.length && decide (l.length ≤ 65))
theorem Z66 (l:List S68) (i:Nat):Z4d l (i + 1) = (Z4d l i && (look l i (Z0v l (i:Int)).f0).isNone):=by
  unfold Z4d;rw [List.range_succ,List.all_append];simp
theorem Z7l (l:List S68) (i:Nat) (h:Z4d l i = false):∀ n,i ≤ n → Z4d l n = false:=by
  intro n
  induction n with
  | zero => intro hi; obtain rfl : i = 0 := by omega
            exact h
  | succ n ih =>
    intro hi
    by_cases e:i = n + 1
    · subst e;exact h
    · rw [Z66,ih (by omega)];rfl
theorem Zih {p:Prop} (h:p:=by
  go_wp2_with (at_lookup;refine wpList_lookup_own_ok_int _ rfl _ _ 115 rfl 21 3 .i64 keyR Tryz.underlying115 Tryz.underlying3 (Z9d _) w.heap.size i (mapI l0 i) rfl (HO.out.alloc _) _ _ rfl hkey ?_;intro cc hat hwc)
  go_ret2
  exact ⟨⟨_,rfl,fun h => by cases h⟩,hB1'.out⟩):p:=h
set_option maxRecDepth 100000 in
set_option maxHeartbeats 1000000 in
theorem Z8j (A0:Option Addr) (c0:Nat) (l0:List S68) (w:World) (hr0:Kd.C k68 w A0 l0.length l0) (hc0:l0.length ≤ c0) (hwf:∀ x ∈ l0,(Lit.int .i32 x.f0).wf = true) :
    Calls Tryz.prog 86 #[.slice A0 l0.length c0] w fun e w' => (∃ v,e = .returned (.tuple #[v,.bool (Z48 l0)]) ∧ (Z48 l0 = true → v = .map (some w.heap.size) ∧ w'.ownsMap Tryz.prog 21 (plainElem (H:=Unit) Tryz.prog 3) w.heap.size l0.length (mapI l0 l0.length))) ∧ Below w.heap.size w w':=by
  have hmm:=@Z5u Tryz.prog 115 _ _ Tryz.underlying115;have hL:l0.length ≤ 9223372036854775807:=hr0.2.1;have HR:=am hr0;have HC:=am hc0;have HW:=am hwf;have HL:=am hL;obtain ⟨r,hr⟩:∃ r,Z48 l0 = r:=⟨_,rfl⟩;rw [hr];have hr':=am hr;clear hr0 hc0 hwf hL hr;go_enter Tryz.func86,Tryz.ntmps86;go_wp2
  go_loopg [14] l0.length (fun kq v14 w' => ∃ i:Nat,v14 = .int .i64 (i:Int) ∧ Aside0 (i + kq = l0.length) ∧ Aside0 (r = (((l0.drop i).all fun x => Z3m x.f0) && (Z4d l0 l0.length && decide (l0.length ≤ 65)))) ∧ Aside0 (w'.ownsMap Tryz.prog 21 (plainElem (H:=Unit) Tryz.prog 3) w.heap.size i (mapI l0 i)) ∧ Aside0 (Z4d l0 i = true) ∧ Aside0 (Below w.heap.size w w'))
  case atStart => exact ⟨0,rfl,⟨by omega⟩,⟨by rw [List.drop_zero];exact hr'.out.symm⟩,⟨World.ownsMap_made _ _ _ _⟩,⟨rfl⟩,⟨(Below.refl _ _).alloc (Nat.le_refl _) _⟩⟩
  case round =>
    obtain ⟨i,rfl,hik,hri,HO,HU,HB⟩:=hrel
    cases gk with
    | zero =>
      have h3:¬ ((i:Int) < (l0.length:Int)):=by have:=hik.out;omega
      have hrv:r = decide ((l0.length:Int) ≤ 65):=by
        have hu:=HU.out;rw [show i = l0.length from by have:=hik.out;omega] at hu;rw [hri.out,List.drop_eq_nil_of_le (by have:=hik.out;omega),List.all_nil,Bool.true_and,hu,Bool.true_and];exact decide_eq_decide.2 (by omega)
      have hrv':=am hrv;clear hrv;go_wp2;go_ret2
      obtain rfl:i = l0.length:=by have:=hik.out;omega
      exact ⟨⟨.map (some w.heap.size),by rw [hrv'.out];first | rfl | done,fun _ => ⟨rfl,HO.out⟩⟩,HB.out⟩
    | succ g1 =>
      have h3:(i:Int) < (l0.length:Int):=by have:=hik.out;omega
      have h4:0 ≤ (i:Int):=by omega
      obtain ⟨ad,hA,hx0,hx1⟩:=Z3s HR.out (i:Int) h4 h3;subst hA;rw [Int.toNat_natCast] at hx0 hx1;replace hx0:=(HB.out.cell (World.block_lt_of_cell? _ _ hx0)).trans hx0;replace hx1:=(HB.out.cell (World.block_lt_of_cell? _ _ hx1)).trans hx1;have hwx:=HW.out _ (Zic l0 i (by have:=hik.out;omega))
      have hlt:i < l0.length:=by have:=hik.out;omega
      have hdr:=Z88 l0 i hlt;have hst:=Z66 l0 i
      have hms:mapI l0 (i + 1) = if Maps.has (mapI l0 i) (rkey (Z0v l0 (i:Int)).f0) = true then mapI l0 i else (mapI l0 i).put (rkey (Z0v l0 (i:Int)).f0) (.lit (.int .i64 (i:Int))):=rfl
      obtain ⟨R,hRR⟩:∃ R,(Z0v l0 (i:Int)).f0 = R:=⟨_,rfl⟩;obtain ⟨R1,hR1⟩:∃ R1,(Z0v l0 (i:Int)).f1 = R1:=⟨_,rfl⟩;rw [hRR] at hx0 hwx hms hst;rw [hR1] at hx1;have hkey:keyOf Tryz.prog 21 (.int .i32 R) = some (rkey R):=keyOf_int_mk Tryz.underlying21 hwx
      have hi64:(Lit.int .i64 (i:Int)).wf = true:=by
        have:=HL.out;exact WalkArith.wf_i64 (by omega)
      have hri2:r = ((Z3m R && ((l0.drop (i + 1)).all fun x => Z3m x.f0)) && (Z4d l0 l0.length && decide (l0.length ≤ 65))):=by rw [hri.out,hdr,List.all_cons,hRR]
      have hB1:Below w.heap.size w (wr.alloc (.cells #[.int .i32 R,.int .u32 R1] 68)):=HB.out.alloc HB.out.size _
      have hmx:i < maxLen:=by have:=HL.out;simp only [maxLen];omega
      have hfin:wrap64 ((i:Int) + 1) = ((i + 1:Nat):Int):=Z1a hlt HL.out;have hz:=Z5l l0 R i;have hfin':=am hfin;have hmx':=am hmx;have hi':=am hi64;have hB1':=am hB1;have hlt':=am hlt;have hri2':=am hri2;have hms':=am hms;have hst':=am hst;clear hfin hmx hi64 hB1 hlt hri2 hdr hRR hR1 hms hst hwx
      by_cases hh:Maps.has (mapI l0 i) (rkey R) = true
      · have hno:Z4d l0 (i + 1) = false:=by
          rw [hst'.out,HU.out,Bool.true_and];rw [hz] at hh
          cases e:look l0 i R with
          | none => rw [e] at hh;cases hh
          | some j => rfl
        obtain rfl:r = false:=by rw [hri2'.out,Z7l l0 _ hno _ (by have:=hlt'.out;omega)];simp
        have hh':=am hh;clear hz hno;exact Zih
      · have hhf:Maps.has (mapI l0 i) (rkey R) = false:=by simpa using hh
        have hu2:Z4d l0 (i + 1) = true:=by
          rw [hst'.out,HU.out,Bool.true_and];rw [hz] at hh
          cases e:look l0 i R with
          | none => rfl
          | some j => rw [e] at hh;exact absurd rfl hh
        have hu2':=am hu2;have hh':=am hh;clear hz hu2 hh
        by_cases c1:R ≤ 32
        · obtain rfl:r = false:=by rw [hri2'.out];unfold Z3m;rw [decide_eq_false (show ¬ 32 < R by omega)];rfl
          exact Zih
        · cases c2:Lib.validRune R with
          | false =>
            obtain rfl:r = false:=by rw [hri2'.out];unfold Z3m;rw [c2];simp
            have hvr:=fun w => Tryz.utf8_ValidRune R w
            rw [c2] at hvr
            go_wp2_with (first | (at_lookup;refine wpList_lookup_own_ok_int _ rfl _ _ 115 rfl 21 3 .i64 keyR Tryz.underlying115 Tryz.underlying3 (Z9d _) w.heap.size i (mapI l0 i) rfl (HO.out.alloc _) _ _ rfl hkey ?_;intro cc hat hwc) | (go_at_call 66;refine (hvr _).mono ?_;rintro e w9 ⟨rfl,rfl⟩))
            go_ret2;exact ⟨⟨_,rfl,fun h => by cases h⟩,hB1'.out⟩
          | true =>
            have hvr:=fun w => Tryz.utf8_ValidRune R w
            rw [c2] at hvr
            have hg:Z3m R = true:=by unfold Z3m;rw [c2,decide_eq_true (show 32 < R by omega)];rfl
            have hg':=am hg;clear hg
            go_wp2_with (first | (at_lookup;refine wpList_lookup_own_ok_int _ rfl _ _ 115 rfl 21 3 .i64 keyR Tryz.underlying115 Tryz.underlying3 (Z9d _) w.heap.size i (mapI l0 i) rfl (HO.out.alloc _) _ _ rfl hkey ?_;intro cc hat hwc) | (go_at_call 66;refine (hvr _).mono ?_;rintro e w9 ⟨rfl,rfl⟩) | (at_mapUpdate;refine wpList_mapUpdate_own _ rfl _ _ _ 115 rfl 21 3 keyR Tryz.underlying115 _ w.heap.size i (mapI l0 i) rfl (HO.out.alloc _) hmx'.out _ _ _ rfl rfl hkey _ [] (plainElem_int Tryz.underlying3 hi'.out) ?_;intro w1 hown1 hgrow1))
            go_roundg g1
            case measure => omega
            case rel =>
              refine ⟨i + 1,by rw [hfin'.out],⟨by have:=hik.out;omega⟩,⟨by rw [hri2'.out,hg'.out,Bool.true_and]⟩,⟨?_⟩,hu2',⟨hB1'.out.grown hgrow1 hB1'.out.size (fun j hj => by cases hj;exact Nat.le_refl _)⟩⟩
              rw [hms'.out,if_neg hh'.out];exact hown1
def Z5o (l:List S68) (s:ByteArray):List Int × Bool:=if validD s.data.toList = true ∧ (Z0d s).all (isL l) = true then ((Z0d s).map (idxI l),true) else ([],false)
set_option maxRecDepth 100000 in
set_option maxHeartbeats 1000000 in
theorem Zaw (l:List S68) (a1:ByteArray) (w:World) (b:Nat) (hT:Tabs w) (hsz:a1.size ≤ 1099511627776) (hlb:b < w.heap.size)
    (HO:w.ownsMap Tryz.prog 21 (plainElem (H:=Unit) Tryz.prog 3) b l.length (mapI l l.length)) :
    Calls Tryz.prog 87 #[.map (some b),.string a1] w fun e w' => ∃ v:Value,e = .returned (.tuple #[v,.bool (Z5o l a1).2]) ∧ Kd.R (Kd.int .i64) 3 w' w.heap.size (fun _ => True) v (Z5o l a1).1 ∧ Below w.heap.size w w':=by
  have hv:=Z2l.calls a1 (validD a1.data.toList) w hT Gc26;obtain ⟨i0,hi0,hz0,hz1,hz2⟩:=info_parts Zhx;have hG:=am hsz;have hLb:=am hlb;have HO':=am HO;clear hsz hlb hT HO
  cases hvd:validD a1.data.toList with
  | false =>
    have hov:Z5o l a1 = ([],false):=by unfold Z5o;rw [if_neg];rintro ⟨h,_⟩;rw [hvd] at h;cases h
    rw [hov];rw [hvd] at hv;clear hvd;go_enter Tryz.func87,Tryz.ntmps87
    go_wp2_with (first | (go_at_call 46;refine hv.mono ?_;clear hv;rintro e w1 ⟨rfl,hB1⟩))
    go_ret2;exact ⟨_,rfl,Kd.R_nil _ _ _ _ _,hB1⟩
  | true =>
    have hov:Z5o l a1 = if (Z0d a1).all (isL l) = true then ((Z0d a1).map (idxI l),true) else ([],false):=by unfold Z5o;simp [hvd]
    obtain ⟨q,hq0⟩:∃ q,Z5o l a1 = q:=⟨_,rfl⟩;rw [hq0] at hov ⊢;have hov':=am hov;obtain ⟨q1,q2⟩:=q;rw [hvd] at hv;clear hvd hov hq0;go_enter Tryz.func87,Tryz.ntmps87
    go_wp2_with (first | (go_at_call 46;refine hv.mono ?_;clear hv;rintro e w1 ⟨rfl,hB1⟩))
    have hBK:Below w.heap.size w (w1.iter a1 0):=hB1.alloc hB1.size _;have hBK':=am hBK;have hs1:=am hB1.size;have HO1:=am ((Z5j HO'.out hB1).alloc (.stringIter a1 0));clear hBK hB1
    go_loopg [6] a1.size (fun kq v6 w' => ∃ (pos:Nat) (done:List Int),Aside0 (w'.heap[w1.heap.size]? = some (.stringIter a1 pos)) ∧ Aside0 (a1.size - pos ≤ kq) ∧ Aside0 (done ++ Z3b a1 pos = Z0d a1) ∧ Aside0 (done.all (isL l) = true) ∧ Aside0 (w'.ownsRow w.heap.size 3 1 v6 done.length ((done.map (idxI l)).map (Value.int .i64))) ∧ Aside0 (w'.ownsMap Tryz.prog 21 (plainElem (H:=Unit) Tryz.prog 3) b l.length (mapI l l.length)) ∧ Aside0 (Below w.heap.size w w'))
    case atStart => exact ⟨0,[],⟨World.iter_heap w1 a1 0⟩,⟨by omega⟩,⟨by rw [Z2t];rfl⟩,⟨rfl⟩,⟨World.ownsRow_nil _ _ _ _⟩,HO1,hBK'⟩
    case round =>
      obtain ⟨pos,done,hit,hq,hdone,hall,hO,HM,HB⟩:=hrel;obtain ⟨ao,cap,hv6⟩:=Z65 hO.out;subst hv6
      by_cases hp:pos < a1.size
      · obtain ⟨g1,rfl⟩:∃ g1,gk = g1 + 1:=⟨gk - 1,by have:=hq.out;omega⟩
        have hnx:∀ ty,(Instr.next (.pointer (some ⟨w1.heap.size,0,none⟩)) true ty).run Tryz.prog wr = _:=fun ty => run_next_any_at wr w1.heap.size a1 pos ty hit.out hp
        have hsc:=Z50 a1 pos;have hst:=Z34 hp;have hwd:=Z4k hp;obtain ⟨R,hRR⟩:∃ R:Int,((Utf8.decode a1 pos).1:Int) = R:=⟨_,rfl⟩;rw [hRR] at hsc hst;simp only [hRR] at hnx;obtain ⟨pos2,hp2⟩:∃ p2,pos + (Utf8.decode a1 pos).2 = p2:=⟨_,rfl⟩;rw [hp2] at hst hnx;obtain ⟨W1,hW1⟩:∃ W1,wr.iterAt w1.heap.size a1 pos2 = W1:=⟨_,rfl⟩
        have hB1:Below w.heap.size w W1:=by rw [← hW1];exact below_iterAt HB.out hs1.out _ _
        have hit1:W1.heap[w1.heap.size]? = some (.stringIter a1 pos2):=by rw [← hW1];exact iterAt_heap _ _ _ _ _ hit.out
        have hO1:W1.ownsRow w.heap.size 3 1 (.slice ao done.length cap) done.length ((done.map (idxI l)).map (Value.int .i64)):=by rw [← hW1];exact Zft hO.out hit.out _
        have hM1:W1.ownsMap Tryz.prog 21 (plainElem (H:=Unit) Tryz.prog 3) b l.length (mapI l l.length):=by rw [← hW1];exact Z55 HM.out (iterAt_other wr w1.heap.size b a1 pos2 (by have:=hLb.out;have:=hs1.out;omega))
        simp only [hW1] at hnx;have hkey:keyOf Tryz.prog 21 (.int .i32 R) = some (rkey R):=keyOf_int_mk Tryz.underlying21 (Z7k hsc);have hz:=Z5l l R l.length;have hst':=am hst;have hw':Aside0 (pos < pos2):=⟨by omega⟩;have hB1':=am hB1;have hit1':=am hit1;have hO1':=am hO1;have hM1':=am hM1;clear hst hsc hwd hp hB1 hit1 hO1 hW1 hp2 hRR hM1
        cases hLk:look l l.length R with
        | none =>
          have hhas:Maps.has (mapI l l.length) (rkey R) = false:=by rw [hz,hLk];rfl
          have hov:(if (Z0d a1).all (isL l) = true then ((Z0d a1).map (idxI l),true) else (([]:List Int),false)) = ([],false):=by
            rw [if_neg];rw [← hdone.out,List.all_append,hst'.out,List.all_cons];unfold isL;rw [hLk]
            simp
          obtain ⟨e1,e2⟩:=Prod.mk.inj (hov'.out.trans hov);subst e1 e2;clear hov hz hLk
          go_wp2_with (at_lookup;refine wpList_lookup_own_ok_int _ rfl _ _ 115 rfl 21 3 .i64 keyR Tryz.underlying115 Tryz.underlying3 (Z9d _) b l.length (mapI l l.length) rfl hM1'.out _ _ rfl hkey ?_;intro cc hat hwc)
          go_ret2;exact ⟨_,rfl,Kd.R_nil _ _ _ _ _,hB1'.out⟩
        | some j =>
          have hhas:Maps.has (mapI l l.length) (rkey R) = true:=by rw [hz,hLk];rfl
          have hat0:=am (Ze5 l R (.lit (.int .i64 0)) _ _ hLk)
          have hX:idxI l R = (j:Int):=by unfold idxI;rw [hLk]
          have hL:isL l R = true:=by unfold isL;rw [hLk];rfl
          have hX':=am hX;have hL':=am hL
          have hdl:done.length ≤ 1099511627776:=by
            have h1:=congrArg List.length hdone.out;have h2:=Z23 a1;have h3:=hG.out;rw [List.length_append] at h1;omega
          have hdl':=am hdl;clear hz hLk hX hL hdl
          go_wp2_with (first | (at_lookup;refine wpList_lookup_own_ok_int _ rfl _ _ 115 rfl 21 3 .i64 keyR Tryz.underlying115 Tryz.underlying3 (Z9d _) b l.length (mapI l l.length) rfl hM1'.out _ _ rfl hkey ?_;intro cc hat hwc;obtain rfl:cc = (j:Int):=(by have:=hat0.out.symm.trans hat;injection this with this;injection this with _ this;exact this.symm)) | ((with_reducible refine gate_builtin (b:=.append) (xs:=#[.tmp 27,.tmp 29]) rfl ?_);at_builtin;refine wpList_append_own _ rfl (.tmp 27) (.tmp 29) 139 rfl w.heap.size 3 i0 (.int .i64 0) 1 8 Tryz.underlying139 hi0 hz0 hz1 hz2 rfl (by decide) (.slice ao done.length cap) done.length ((done.map (idxI l)).map (Value.int .i64)) rfl (World.ownsRow.alloc (show W1.ownsRow _ _ _ _ _ _ from hO1'.out) _) ⟨W1.heap.size,0,none⟩ 1 1 [.int .i64 (j:Int)] rfl rfl ?aC (by simp [Value.oneCell']) ?aM ?aB ?aS ?_;(case aC => exact Z51 W1 _ _);(case aM => exact Gc28);(case aB => have:=hdl'.out;omega);(case aS => have:=hB1'.out.size;simp;omega);intro v2 w2 ho2 hg2 hi2))
          have hB2:Below w.heap.size w w2:=((hB1'.out.alloc (by have:=hB1'.out.size;simpa using this) _)).grown hg2 (by have:=hB1'.out.size;simp;omega) (fun k e => Z3i hO1'.out k e);have hlt:w1.heap.size < W1.heap.size:=(Array.getElem?_eq_some_iff.1 hit1'.out).1
          have hit2:w2.heap[w1.heap.size]? = some (.stringIter a1 pos2):=by
            refine (hg2.block _ (by simp;omega) (Z9j hO1'.out hit1'.out)).trans ?_
            exact (Below.heap_alloc W1 _ _ hlt).trans hit1'.out
          have hM2:w2.ownsMap Tryz.prog 21 (plainElem (H:=Unit) Tryz.prog 3) b l.length (mapI l l.length):=by
            refine Z55 (hM1'.out.alloc _) (hg2.block _ (by have:=hLb.out;have:=hs1.out;simp;omega) ?_)
            intro e;have:=Z3i hO1'.out b e.symm;have:=hLb.out;omega
          go_roundg g1
          case measure => omega
          case rel =>
            refine ⟨pos2,done ++ [R],⟨hit2⟩,⟨by have:=hq.out;have:=hw'.out;omega⟩,⟨by rw [List.append_assoc,List.singleton_append,← hst'.out];exact hdone.out⟩,⟨by rw [List.all_append,hall.out];simp [hL'.out]⟩,⟨?_⟩,⟨hM2⟩,⟨hB2⟩⟩
            rw [List.length_append,List.map_append,List.map_append];simp only [List.map_cons,List.map_nil,hX'.out,List.length_cons,List.length_nil];exact ho2
      · have hnx:∀ ty,(Instr.next (.pointer (some ⟨w1.heap.size,0,none⟩)) true ty).run Tryz.prog wr = _:=fun ty => run_next_end_at wr w1.heap.size a1 pos ty hit.out hp
        have hre:=Z2z hp
        have hd:done = Z0d a1:=by rw [← hdone.out,hre,List.append_nil]
        have hov:(if (Z0d a1).all (isL l) = true then ((Z0d a1).map (idxI l),true) else (([]:List Int),false)) = (done.map (idxI l),true):=by
          rw [← hd,if_pos hall.out]
        obtain ⟨e1,e2⟩:=Prod.mk.inj (hov'.out.trans hov);subst e1 e2;clear hre hd hov hp;go_wp2;go_ret2;exact ⟨.slice ao done.length cap,rfl,Zhd (by rw [List.length_map];exact hO.out),HB.out⟩
theorem Zbm (l:List S70) (i:Nat) (h:i < l.length):Z16 l (i:Int) ∈ l:=by
  unfold Z16;rw [Int.toNat_natCast,List.getD_eq_getElem?_getD,List.getElem?_eq_getElem h];exact List.getElem_mem h
theorem Z7m (l:List S70) (i:Nat) (h:i < l.length):l.drop i = Z16 l (i:Int) :: l.drop (i + 1):=by
  rw [List.drop_eq_getElem_cons h]
  congr 1
  unfold Z16;rw [Int.toNat_natCast,List.getD_eq_getElem?_getD,List.getElem?_eq_getElem h];rfl
def Z8k (l:List S68) (p:List S70):Bool:=p.all fun x => (Z5o l x.f1).2
def patP (l:List S68) (p:List S70):Bool:=Z48 l && (decide (p.length ≤ 3) && Z8k l p)
def Z37 (p:List S70):Bool:=p.all fun x => decide (x.f1.size ≤ 1099511627776)
def Z33.f (l0:List S68) (l1:List S70):Option Bool:=if Z1z l0 = true ∧ Z37 l1 = true then some (patP l0 l1) else none
set_option maxRecDepth 100000 in
set_option maxHeartbeats 1000000 in
theorem Z33.calls (A0:Option Addr) (c0:Nat) (l0:List S68) (A1:Option Addr) (c1:Nat) (l1:List S70) (r:Bool) (w:World) (hT:Tabs w) (hr0:Kd.C k68 w A0 l0.length l0) (hc0:l0.length ≤ c0) (hr1:Kd.C k70 w A1 l1.length l1) (hc1:l1.length ≤ c1) (h:Z33.f l0 l1 = some r) :
    Calls Tryz.prog 71 #[.slice A0 l0.length c0,.slice A1 l1.length c1] w fun e w' => e = .returned (.bool r) ∧ Below w.heap.size w w':=by
  unfold Z33.f at h
  by_cases hg:Z1z l0 = true ∧ Z37 l1 = true
  · rw [if_pos hg] at h
    have hr:=Option.some.inj h;clear h;have hin:=Z8j A0 c0 l0 w hr0 hc0 (Z4h hg.1);have hR:=am hr0;have hC:=am hc0;have hR1:=am hr1;have hC1:=am hc1;have hG:=am hg;have hr':=am hr;have hT':=am hT;clear hr0 hc0 hr1 hc1 hr hg hT
    cases hpp:Z48 l0 with
    | false =>
      rw [hpp] at hin
      obtain rfl:r = false:=by rw [← hr'.out];unfold patP;rw [hpp];rfl
      clear hpp;go_enter Tryz.func71,Tryz.ntmps71
      go_wp2_with (go_at_call 86;refine hin.mono ?_;clear hin;rintro e w1 ⟨⟨v,rfl,hM⟩,hB1⟩)
      go_ret;exact ⟨rfl,hB1⟩
    | true =>
      rw [hpp] at hin
      have hrr:r = (decide (l1.length ≤ 3) && Z8k l0 l1):=by rw [← hr'.out];unfold patP;rw [hpp];rfl
      have hrr':=am hrr;clear hpp hrr
      by_cases hl3:(l1.length:Int) > 3
      · obtain rfl:r = false:=by rw [hrr'.out,decide_eq_false (show ¬ l1.length ≤ 3 by omega)];rfl
        go_enter Tryz.func71,Tryz.ntmps71
        go_wp2_with (go_at_call 86;refine hin.mono ?_;clear hin;rintro e w1 ⟨⟨v,rfl,hM⟩,hB1⟩;obtain ⟨rfl,hM9⟩:=hM rfl;clear hM)
        go_ret;exact ⟨rfl,hB1⟩
      · have hr2:=am (show r = Z8k l0 l1 by rw [hrr'.out,decide_eq_true (show l1.length ≤ 3 by omega)];rfl)
        have hl3':=am (show l1.length ≤ 3 by omega);go_enter Tryz.func71,Tryz.ntmps71
        go_wp2_with (go_at_call 86;refine hin.mono ?_;clear hin;rintro e w1 ⟨⟨v,rfl,hM⟩,hB1⟩;obtain ⟨rfl,hM9⟩:=hM rfl;clear hM)
        have hlb:=am hM9.lt;have hM':=am hM9;have hB1':=am hB1;clear hM9 hB1
        go_loopg [25] l1.length (fun kq v25 w' => ∃ i:Nat,v25 = .int .i64 (i:Int) ∧ Aside0 (i + kq = l1.length) ∧ Aside0 (r = Z8k l0 (l1.drop i)) ∧ Aside0 (Below w1.heap.size w1 w'))
        case atStart => exact ⟨0,rfl,⟨by omega⟩,⟨by rw [List.drop_zero];exact hr2.out⟩,⟨Below.refl _ _⟩⟩
        case round =>
          obtain ⟨i,rfl,hik,hri,HB⟩:=hrel
          cases gk with
          | zero =>
            have h3:¬ ((i:Int) < (l1.length:Int)):=by have:=hik.out;omega
            obtain rfl:r = true:=by rw [hri.out,List.drop_eq_nil_of_le (by have:=hik.out;omega)];rfl
            go_wp2;go_ret;exact ⟨rfl,hB1'.out.trans (HB.out.mono hB1'.out.size)⟩
          | succ g1 =>
            have h3:(i:Int) < (l1.length:Int):=by have:=hik.out;omega
            have h4:0 ≤ (i:Int):=by omega
            have HBW:Below w.heap.size w wr:=hB1'.out.trans (HB.out.mono hB1'.out.size);obtain ⟨ad,hA,hx0,hx1,hx2,hx3⟩:=Z5x hR1.out (i:Int) h4 h3;subst hA;rw [Int.toNat_natCast] at hx0 hx1 hx2 hx3;replace hx0:=(HBW.cell (World.block_lt_of_cell? _ _ hx0)).trans hx0;replace hx1:=(HBW.cell (World.block_lt_of_cell? _ _ hx1)).trans hx1;replace hx2:=(HBW.cell (World.block_lt_of_cell? _ _ hx2)).trans hx2;replace hx3:=(HBW.cell (World.block_lt_of_cell? _ _ hx3)).trans hx3;have hdr:=Z7m l1 i (by omega);have hsz:(Z16 l1 (i:Int)).f1.size ≤ 1099511627776:=of_decide_eq_true (List.all_eq_true.1 hG.out.2 _ (Zbm l1 i (by omega)));obtain ⟨X,hX⟩:∃ X,Z16 l1 (i:Int) = X:=⟨_,rfl⟩;obtain ⟨X0,X1,X2,X3⟩:=X;rw [hX] at hx0 hx1 hx2 hx3 hdr hsz;dsimp only at hx0 hx1 hx2 hx3 hsz
            have hri2:r = ((Z5o l0 X1).2 && Z8k l0 (l1.drop (i + 1))):=by rw [hri.out,hdr];rfl
            have hB2:Below w.heap.size w (wr.alloc (.cells #[.int .u32 X0,.string X1,.bool X2,.bool X3] 70)):=HBW.alloc HBW.size _;have hfin:wrap64 ((i:Int) + 1) = ((i + 1:Nat):Int):=Z1a (by omega:i < l1.length) (by have:=hl3'.out;omega);have hMw:(wr.alloc (.cells #[.int .u32 X0,.string X1,.bool X2,.bool X3] 70)).ownsMap Tryz.prog 21 (plainElem (H:=Unit) Tryz.prog 3) w.heap.size l0.length (mapI l0 l0.length):=(Z5j hM'.out HB.out).alloc _;have hov:=Zaw l0 X1 (wr.alloc (.cells #[.int .u32 X0,.string X1,.bool X2,.bool X3] 70)) w.heap.size (Z1s hT'.out hB2) hsz (by have:=hlb.out;have:=HB.out.size;simp;omega) hMw;have hfin':=am hfin;have hri2':=am hri2;have hB3:=am (HB.out.alloc HB.out.size (.cells #[.int .u32 X0,.string X1,.bool X2,.bool X3] 70));clear hX hdr hsz hri2 hB2 hfin HBW hMw
            cases hq:(Z5o l0 X1).2 with
            | false =>
              rw [hq] at hov
              obtain rfl:r = false:=by rw [hri2'.out,hq];rfl
              clear hq
              go_wp2_with (go_at_call 87;refine hov.mono ?_;clear hov;rintro e w5 ⟨v5,rfl,_,hB5⟩)
              go_ret;exact ⟨rfl,hB1'.out.trans ((hB3.out.trans (hB5.mono hB3.out.size)).mono hB1'.out.size)⟩
            | true =>
              rw [hq] at hov;have hri3:=am (show r = Z8k l0 (l1.drop (i + 1)) by rw [hri2'.out,hq,Bool.true_and]);clear hq
              go_wp2_with (go_at_call 87;refine hov.mono ?_;clear hov;rintro e w5 ⟨v5,rfl,_,hB5⟩)
              go_roundg g1
              case measure => omega
              case rel => exact ⟨i + 1,by first | rw [hfin'.out] | rfl,⟨by have:=hik.out;omega⟩,hri3,⟨hB3.out.trans (hB5.mono hB3.out.size)⟩⟩
  · rw [if_neg hg] at h;cases h
def Zhf (l:List S68) (p:List S70) (s:ByteArray):List Int × Bool:=if patP l p = true then Z5o l s else ([],false)
def Z24.f (l0:List S68) (l1:List S70) (a2:ByteArray):Option (List Int × Bool):=if Z1z l0 = true ∧ Z37 l1 = true ∧ a2.size ≤ 1099511627776 then some (Zhf l0 l1 a2) else none
set_option maxRecDepth 100000 in
set_option maxHeartbeats 1000000 in
theorem Z24.calls (A0:Option Addr) (c0:Nat) (l0:List S68) (A1:Option Addr) (c1:Nat) (l1:List S70) (a2:ByteArray) (r1:List Int) (r2:Bool) (w:World) (hT:Tabs w) (hr0:Kd.C k68 w A0 l0.length l0) (hc0:l0.length ≤ c0) (hr1:Kd.C k70 w A1 l1.length l1) (hc1:l1.length ≤ c1) (h:Z24.f l0 l1 a2 = some (r1,r2)) :
    Calls Tryz.prog 108 #[.slice A0 l0.length c0,.slice A1 l1.length c1,.string a2] w fun e w' => ∃ v0_:Value,e = .returned (.tuple #[v0_,.bool r2]) ∧ Kd.R (Kd.int .i64) 3 w' w.heap.size (fun _ => True) v0_ r1 ∧ Below w.heap.size w w':=by
  unfold Z24.f at h
  by_cases hg:Z1z l0 = true ∧ Z37 l1 = true ∧ a2.size ≤ 1099511627776
  · rw [if_pos hg] at h
    have hr:=Option.some.inj h;clear h;have hpv:=Z33.calls A0 c0 l0 A1 c1 l1 (patP l0 l1) w hT hr0 hc0 hr1 hc1 (by unfold Z33.f;rw [if_pos ⟨hg.1,hg.2.1⟩])
    have hin:=fun (w1:World) (hB:Below w.heap.size w w1) => Z8j A0 c0 l0 w1 (Kd.C_below hr0 hB) hc0 (Z4h hg.1)
    have hT':=am hT;have hG:=am hg;have hr':=am hr;clear hr0 hc0 hr1 hc1 hr hg hT
    cases hpp:patP l0 l1 with
    | false =>
      rw [hpp] at hpv
      have hov:Zhf l0 l1 a2 = ([],false):=by unfold Zhf;rw [hpp];rfl
      obtain ⟨e1,e2⟩:=Prod.mk.inj (hr'.out.symm.trans hov);subst e1 e2;clear hpp hov;go_enter Tryz.func108,Tryz.ntmps108
      go_wp2_with (go_at_call 71;refine hpv.mono ?_;clear hpv;rintro e w1 ⟨rfl,hB1⟩)
      go_ret2;exact ⟨_,rfl,Kd.R_nil _ _ _ _ _,hB1⟩
    | true =>
      rw [hpp] at hpv
      have hpr:Z48 l0 = true:=by unfold patP at hpp;rw [Bool.and_eq_true] at hpp;exact hpp.1
      rw [hpr] at hin
      have hov:Zhf l0 l1 a2 = Z5o l0 a2:=by unfold Zhf;rw [hpp];rfl
      have hq:=hr'.out.symm.trans hov
      have hq1:(Z5o l0 a2).1 = r1:=by rw [← hq]
      have hq2:(Z5o l0 a2).2 = r2:=by rw [← hq]
      have hov2:=fun (w1:World) (b:Nat) (hB:Below w.heap.size w w1) (hb:b < w1.heap.size) HO => Zaw l0 a2 w1 b (Z1s hT'.out hB) hG.out.2.2 hb HO
      rw [hq1,hq2] at hov2;have hov2':=am hov2;have hin':=am hin;clear hpp hov hpr hq hq1 hq2 hr' hov2 hin;go_enter Tryz.func108,Tryz.ntmps108
      go_wp2_with (first | (go_at_call 71;refine hpv.mono ?_;clear hpv;rintro e w1 ⟨rfl,hB1⟩) | (go_at_call 86;refine (hin'.out _ hB1).mono ?_;rintro e w2 ⟨⟨v,rfl,hM⟩,hB2⟩;obtain ⟨rfl,hM9⟩:=hM (by first | rfl | trivial);clear hM;have hB21:=hB1.trans (hB2.mono hB1.size);have hM8:=am hM9;clear hM9) | (go_at_call 87;refine (hov2'.out _ _ hB21 hM8.out.lt hM8.out).mono ?_;rintro e w3 ⟨v3,rfl,hR3,hB3⟩))
      go_ret2;exact ⟨_,rfl,Kd.R_lower hR3 hB21.size,hB21.trans (hB3.mono hB21.size)⟩
  · rw [if_neg hg] at h;cases h
end Go.Proofs.YtfbhdjflkaldgaaGreatDoor.Pr

namespace Go.Proofs.YtfbhdjflkaldgaaGreatDoor.Pr
open Go.Proofs.YtfbhdjflkaldgaaGreatDoor.Ct Go.RowKit Go.Proofs.YtfbhdjflkaldgaaGreatDoorW.PrintWords Go.Proofs.YtfbhdjflkaldgaaGreatDoorW.PrintLast Go.Proofs.YtfbhdjflkaldgaaGreatDoorW.PrintMore
attribute [local go_sem] max2_int min2_int max_two min_two max_three min_three max_four min_four
set_option linter.unusedVariables false
set_option linter.unusedSimpArgs false
def Z1e.l0:Nat → Int → List (S70) → Int → Int → Option (Int)
 | 0,_,_,_,_ => none
 | k + 1,x1,x7,x8,x9 => if x9 < x8 then (if 0 ≤ x9 then (if x9 < (x7.length:Int) then (if (Z16 x7 x9).f3 = true then (if (Go.bits .and .u8 (shr .u8 x1 x9) 1) = 1 then (if 0 ≤ (wrap64 (x9 + 1)) then (Z1e.l0 k (Go.bits .or .u8 x1 (shl .u8 1 (wrap64 (x9 + 1)))) x7 x8 (wrap64 (x9 + 1))) else (none)) else (Z1e.l0 k x1 x7 x8 (wrap64 (x9 + 1)))) else (Z1e.l0 k x1 x7 x8 (wrap64 (x9 + 1)))) else (none)) else (none)) else (some x1)
def Z1e.f (k:Nat) (l0:List (S70)) (a1:Int):Option (Int):=Z1e.l0 k a1 l0 (l0.length:Int) 0
theorem Zcb {p:Prop} (h:p:=by
  have H':=am H;clear H;have z1_:0 ≤ (x9_1:Int):=oD;have z2_:x9_1 < (l0.length:Int):=oD;obtain ⟨z3_,z4_,z5_,z6_,z7_,z8_⟩:=Z5x HR0.out x9_1 z1_ z2_;(try rw [← Nbq6.out] at z7_);(try rw [← Nbq6.out] at z8_);cases z4_;replace z5_:=celB HB z5_;replace z6_:=celB HB z6_;replace z7_:=celB HB z7_;replace z8_:=celB HB z8_;replace z1_:=eq_true z1_;replace z2_:=eq_true z2_
  go_wp2_with (first | ((with_reducible refine gate_dst (N:=6) rfl ?_);refine box_event ?hg (N:=6) ?hd (cs:=#[.int .u32 0,.string (⟨#[]⟩:ByteArray),.bool false,.bool false]) (t:=70) ?hr ?_;(case hd => rfl);(case hg => rfl);(case hr => exact Gc5);intro z9_ hg z10_ hbox hb;have z11_:=am (below_step (tB HB) hb);have z12_:=am (hbox);have z13_:=tZ hg (tS HB);have z14_:=tZ hg (tS HB);revert z11_ z12_ z13_ z14_;clear HB;intro HB z15_ z16_ z17_;clear hb hbox hg;have z18_:=cel2 z15_ 0 rfl;have z19_:=cel2 z15_ 1 rfl;have z20_:=cel2 z15_ 2 rfl;have z21_:=cel2 z15_ 3 rfl;have z22_:=blk_frozen z15_.out 0;have z23_:=blk_frozen z15_.out 1;have z24_:=blk_frozen z15_.out 2;have z25_:=blk_frozen z15_.out 3))
  go_roundg k1
  case measure => have:=HK1.out;omega
  case rel => exact ⟨(x1_1),(wrap64 (x9_1 + 1)),tV1,tV1,H',⟨by have:=HK1.out;omega⟩,⟨tB HB⟩⟩):p:=h
set_option maxHeartbeats 8000000 in
set_option maxRecDepth 100000 in
theorem Z1e.calls (k:Nat) (A0:Option Addr) (c0:Nat) (l0:List (S70)) (a1:Int) (r:Int) (w:World) (hr0:Kd.C k70 w A0 l0.length l0) (hc0:l0.length ≤ c0) (h:Z1e.f k l0 a1 = some r) :
 Calls Tryz.prog 115 #[.slice A0 l0.length c0,.int .u8 a1] w fun e w' => e = .returned (.int .u8 r) ∧ Below w.heap.size w w':=by
 have hu70:=Tryz.underlying70;have HR0:=am hr0;have HC0:=am hc0;clear hr0 hc0;have HB:=am (Below.refl w.heap.size w);have H:(Z1e.l0 k a1 l0 (l0.length:Int) 0) = some r:=h;clear h;have H':=am H;clear H;go_enter Tryz.func115,Tryz.ntmps115;go_wp2
 go_loopg [1,9] k (fun kq v1 v9 w' => ∃ (x1_1:Int) (x9_1:Int),v1 = .int .u8 x1_1 ∧ v9 = .int .i64 x9_1 ∧ Aside0 (Z1e.l0 kq x1_1 l0 (l0.length:Int) x9_1 = some r) ∧ Aside0 (kq ≤ k) ∧ Aside0 (Below w.heap.size w w'))
 case atStart => exact ⟨(a1),(0),tV1,tV1,H',⟨Nat.le_refl _⟩,⟨tB HB⟩⟩
 case round =>
  clear H';obtain ⟨x1_1,x9_1,rfl,rfl,HA,HK1,HB⟩:=hrel
  cases gk with
  | zero => exact absurd HA.out (by simp [Z1e.l0])
  | succ k1 =>
   have H:=HA.out;clear HA;simp only [Z1e.l0] at H
   replace H:=iF H;obtain ⟨c3,H⟩ | ⟨c3,H⟩:=H;rotate_left
   ·
    have c3b0:decide (x9_1 < (l0.length:Int)) = false:=decide_eq_false c3;clear c3;obtain rfl:=Option.some.inj H;go_wp2;go_ret;exact ⟨tE,by repeat (first | (with_reducible first | exact HB.out | apply below_alloc | apply pw_below_drewN | apply below_drew1) | exact HB.out)⟩
   have c3b0:decide (x9_1 < (l0.length:Int)) = true:=decide_eq_true c3;clear c3;replace H:=iFn H;obtain ⟨c4,H⟩:=H;have c4b0:decide (0 ≤ x9_1) = true:=decide_eq_true c4;clear c4;replace H:=iFn H;obtain ⟨c5,H⟩:=H;have c5b0:decide (x9_1 < (l0.length:Int)) = true:=decide_eq_true c5;clear c5;obtain ⟨bq6,hbq6⟩:∃ b_:Bool,b_ = ((Z16 l0 x9_1).f3):=⟨_,rfl⟩
   replace H:(if bq6 = true then (if (Go.bits .and .u8 (shr .u8 x1_1 x9_1) 1) = 1 then (if 0 ≤ (wrap64 (x9_1 + 1)) then (Z1e.l0 k1 (Go.bits .or .u8 x1_1 (shl .u8 1 (wrap64 (x9_1 + 1)))) l0 (l0.length:Int) (wrap64 (x9_1 + 1))) else (none)) else (Z1e.l0 k1 x1_1 l0 (l0.length:Int) (wrap64 (x9_1 + 1)))) else (Z1e.l0 k1 x1_1 l0 (l0.length:Int) (wrap64 (x9_1 + 1)))) = some r:=by rw [← hbq6] at H;exact H
   have Nbq6:=am hbq6;clear hbq6
   replace H:=iT H;obtain ⟨rfl,H⟩ | ⟨rfl,H⟩:=H
   ·
    have c8b0:=eq_true (oD:0 ≤ x9_1);obtain ⟨ji9,hji9⟩:∃ j_:Int,(shr .u8 x1_1 x9_1) = j_:=⟨_,rfl⟩
    replace H:(if (Go.bits .and .u8 (ji9) 1) = 1 then (if 0 ≤ (wrap64 (x9_1 + 1)) then (Z1e.l0 k1 (Go.bits .or .u8 x1_1 (shl .u8 1 (wrap64 (x9_1 + 1)))) l0 (l0.length:Int) (wrap64 (x9_1 + 1))) else (none)) else (Z1e.l0 k1 x1_1 l0 (l0.length:Int) (wrap64 (x9_1 + 1)))) = some r:=by first | (rw [hji9] at H;exact H) | (simp only [hji9] at H ⊢;exact H)
    have hji9_:(x1_1 / 2 ^ min x9_1.toNat 8) = ji9:=hji9;have hji9z:x9_1 ≤ 8 → (x1_1 / 2 ^ x9_1.toNat) = ji9:=shr_small hji9
    replace H:=iE H;obtain ⟨-,c10b0,c10b1,H⟩ | ⟨c10,c10b0,c10b1,H⟩:=H
    ·
     obtain ⟨ji11,hji11⟩:∃ j_:Int,(wrap64 (x9_1 + 1)) = j_:=⟨_,rfl⟩
     replace H:(if 0 ≤ (ji11) then (Z1e.l0 k1 (Go.bits .or .u8 x1_1 (shl .u8 1 (ji11))) l0 (l0.length:Int) ji11) else (none)) = some r:=by first | (rw [hji11] at H;exact H) | (simp only [hji11] at H ⊢;exact H)
     have hji11w:(IntKind.i64.wrap (x9_1 + 1)) = ji11:=(i64_w _).trans hji11;replace H:=iFn H;obtain ⟨c12,H⟩:=H;have c12b0:=eq_true c12;have c12b1:decide (0 ≤ (ji11)) = true:=decide_eq_true c12;clear c12;obtain ⟨ji13,hji13⟩:∃ j_:Int,(shl .u8 1 (ji11)) = j_:=⟨_,rfl⟩
     replace H:(Z1e.l0 k1 (Go.bits .or .u8 x1_1 (ji13)) l0 (l0.length:Int) ji11) = some r:=by first | (rw [hji13] at H;exact H) | (simp only [hji13] at H ⊢;exact H)
     have hji13_:(IntKind.u8.wrap (1 * 2 ^ min (ji11).toNat 8)) = ji13:=hji13;have hji13z:(ji11) ≤ 8 → (IntKind.u8.wrap (1 * 2 ^ (ji11).toNat)) = ji13:=shl_small hji13
     have hji13u:(IntKind.u8.wrap (2 ^ min (ji11).toNat 8)) = ji13:=by have h_:=hji13_;rw [Int.one_mul] at h_;exact h_
     have hji13v:(ji11) ≤ 8 → (IntKind.u8.wrap (2 ^ (ji11).toNat)) = ji13:=fun hle_ => by have h_:=hji13z hle_;rw [Int.one_mul] at h_;exact h_
     have H':=am H;clear H;have p141:0 ≤ (x9_1:Int):=oD;have q141:x9_1 < (l0.length:Int):=oD;obtain ⟨ad141,e141,hx141_0,hx141_1,hx141_2,hx141_3⟩:=Z5x HR0.out x9_1 p141 q141;(try rw [← Nbq6.out] at hx141_2);(try rw [← Nbq6.out] at hx141_3);cases e141;replace hx141_0:=celB HB hx141_0;replace hx141_1:=celB HB hx141_1;replace hx141_2:=celB HB hx141_2;replace hx141_3:=celB HB hx141_3;replace p141:=eq_true p141;replace q141:=eq_true q141
     go_wp2_with (first | ((with_reducible refine gate_dst (N:=6) rfl ?_);refine box_event ?hg (N:=6) ?hd (cs:=#[.int .u32 0,.string (⟨#[]⟩:ByteArray),.bool false,.bool false]) (t:=70) ?hr ?_;(case hd => rfl);(case hg => rfl);(case hr => exact Gc5);intro gb142 hg w14 hbox hb;have n0_:=am (below_step (tB HB) hb);have n1_:=am (hbox);have n2_:=tZ hg (tS HB);have n3_:=tZ hg (tS HB);revert n0_ n1_ n2_ n3_;clear HB;intro HB BK142 GW142 GE142;clear hb hbox hg;have hcz15_0:=cel2 BK142 0 rfl;have hcz15_1:=cel2 BK142 1 rfl;have hcz15_2:=cel2 BK142 2 rfl;have hcz15_3:=cel2 BK142 3 rfl;have hfz15_0:=blk_frozen BK142.out 0;have hfz15_1:=blk_frozen BK142.out 1;have hfz15_2:=blk_frozen BK142.out 2;have hfz15_3:=blk_frozen BK142.out 3))
     go_roundg k1
     case measure => have:=HK1.out;omega
     case rel => exact ⟨(Go.bits .or .u8 x1_1 (ji13)),(ji11),(by first | rfl | (simp;done) | (simp only [← hji13] <;> (first | rfl | simp)) | (simp [*];done)),(by first | rfl | (simp;done) | (simp only [← hji11] <;> (first | rfl | simp)) | (simp [*];done)),H',⟨by have:=HK1.out;omega⟩,⟨tB HB⟩⟩
    ·
     exact Zcb
   ·
    exact Zcb
end Go.Proofs.YtfbhdjflkaldgaaGreatDoor.Pr

namespace Go.Proofs.YtfbhdjflkaldgaaGreatDoor.Pr
open Go.Proofs.YtfbhdjflkaldgaaGreatDoor.Ct Go.RowKit Go.Maps Go.Lib Go.Proofs.YtfbhdjflkaldgaaGreatDoorW.PrintWords Go.Proofs.YtfbhdjflkaldgaaGreatDoorW.PrintLast Go.Proofs.YtfbhdjflkaldgaaGreatDoorW.PrintMore
set_option linter.unusedVariables false
set_option linter.unusedSimpArgs false
def admP (x:S70) (l:S68):Bool:=((bits .and .u32 l.f1 x.f0 == x.f0) && (x.f1.toList.isEmpty || (Z0d x.f1).any (· == l.f0))) != x.f2
theorem Z9k {W:World} {k g:Nat} {s:ByteArray} {o:Nat} {v:Value} (pos:Nat) (h:W.cell? ⟨g,o,none⟩ = some v) (hg:g ≠ k):(W.iterAt k s pos).cell? ⟨g,o,none⟩ = some v:=by
  unfold World.cell? at h ⊢;rw [iterAt_other W k g s pos hg];exact h
set_option maxRecDepth 100000 in
set_option maxHeartbeats 1000000 in
theorem Zcc (x:S70) (l:S68) (w:World) (hsz:x.f1.size ≤ 1099511627776) :
    Calls Tryz.prog 117 #[.agg #[.int .u32 x.f0,.string x.f1,.bool x.f2,.bool x.f3],.agg #[.int .i32 l.f0,.int .u32 l.f1]] w fun e w' => e = .returned (.bool (admP x l)) ∧ Below w.heap.size w w':=by
  obtain ⟨x0,x1,x2,x3⟩:=x;obtain ⟨l0,l1⟩:=l;obtain ⟨r,hr⟩:∃ r,admP ⟨x0,x1,x2,x3⟩ ⟨l0,l1⟩ = r:=⟨_,rfl⟩;rw [hr];have hr2:r = (((bits .and .u32 l1 x0 == x0) && (x1.toList.isEmpty || (Z0d x1).any (· == l0))) != x2):=hr.symm;dsimp only at hsz ⊢;have hr':=am hr2;clear hr hr2;have hB0:Below w.heap.size w ((w.alloc (.cells #[.int .u32 x0,.string x1,.bool x2,.bool x3] 70)).alloc (.cells #[.int .i32 l0,.int .u32 l1] 68)):=((Below.refl _ w).alloc (Nat.le_refl _) _).alloc (by simp) _;have hB0':=am hB0;clear hB0;go_enter Tryz.func117,Tryz.ntmps117;go_wp2
  · next h1 h2 =>
    have hr3:=am (show r = ((Z0d x1).any (· == l0) != x2) by rw [hr'.out,beq_iff_eq.2 h1,show x1.toList.isEmpty = false by simpa using h2];rfl);clear h1 h2
    go_loopg [5] x1.size (fun kq v5 w' => ∃ (pos:Nat) (b:Bool),v5 = .bool b ∧ Aside0 (w'.heap[w.heap.size + 1 + 1]? = some (.stringIter x1 pos)) ∧ Aside0 (x1.size - pos ≤ kq) ∧ Aside0 (r = ((b || (Z3b x1 pos).any (· == l0)) != x2)) ∧ Aside0 (w'.cell? ⟨w.heap.size + 1,0,none⟩ = some (.int .i32 l0)) ∧ Aside0 (w'.cell? ⟨w.heap.size,2,none⟩ = some (.bool x2)) ∧ Aside0 (Below w.heap.size w w'))
    case atStart =>
      refine ⟨0,false,rfl,⟨?_⟩,⟨by omega⟩,⟨by rw [Z2t,Bool.false_or];exact hr3.out⟩,⟨?_⟩,⟨?_⟩,⟨hB0'.out.alloc (by simp;omega) _⟩⟩
      · have:=World.iter_heap ((w.alloc (.cells #[.int .u32 x0,.string x1,.bool x2,.bool x3] 70)).alloc (.cells #[.int .i32 l0,.int .u32 l1] 68)) x1 0
        simpa using this
      · refine Z2i _ ?_
        simp
      · exact Z2i _ (Z2i _ (Z2c w _ _ 2 (.bool x2) rfl))
    case round =>
      obtain ⟨pos,b,rfl,hit,hq,hb,hc1,hc2,HB⟩:=hrel;have hc1o:=hc1.out;have hc2o:=hc2.out
      by_cases hp:pos < x1.size
      · obtain ⟨g1,rfl⟩:∃ g1,gk = g1 + 1:=⟨gk - 1,by have:=hq.out;omega⟩
        have hnx:∀ ty,(Instr.next (.pointer (some ⟨w.heap.size + 1 + 1,0,none⟩)) true ty).run Tryz.prog wr = _:=fun ty => run_next_any_at wr (w.heap.size + 1 + 1) x1 pos ty hit.out hp
        have hst:=Z34 hp;have hwd:=Z4k hp;obtain ⟨R,hRR⟩:∃ R:Int,((Utf8.decode x1 pos).1:Int) = R:=⟨_,rfl⟩;rw [hRR] at hst;simp only [hRR] at hnx;obtain ⟨pos2,hp2⟩:∃ p2,pos + (Utf8.decode x1 pos).2 = p2:=⟨_,rfl⟩;rw [hp2] at hst hnx;obtain ⟨W1,hW1⟩:∃ W1,wr.iterAt (w.heap.size + 1 + 1) x1 pos2 = W1:=⟨_,rfl⟩
        have hB1:Below w.heap.size w W1:=by rw [← hW1];exact below_iterAt HB.out (by omega) _ _
        have hit1:W1.heap[w.heap.size + 1 + 1]? = some (.stringIter x1 pos2):=by rw [← hW1];exact iterAt_heap _ _ _ _ _ hit.out
        have hc11:W1.cell? ⟨w.heap.size + 1,0,none⟩ = some (.int .i32 l0):=by rw [← hW1];exact Z9k _ hc1.out (by omega)
        have hc21:W1.cell? ⟨w.heap.size,2,none⟩ = some (.bool x2):=by rw [← hW1];exact Z9k _ hc2.out (by omega)
        simp only [hW1] at hnx;have hst':=am hst;have hw':Aside0 (pos < pos2):=⟨by omega⟩;have hB1':=am hB1;have hit1':=am hit1;have hc11':=am hc11;have hc21':=am hc21;clear hst hwd hp hB1 hit1 hW1 hp2 hRR hc1o hc2o
        cases b with
        | true =>
          go_wp2
          go_roundg g1
          case measure => omega
          case rel => exact ⟨pos2,true,rfl,hit1',⟨by have:=hq.out;have:=hw'.out;omega⟩,⟨by rw [hb.out];rfl⟩,hc11',hc21',hB1'⟩
        | false =>
          go_wp2
          go_roundg g1
          case measure => omega
          case rel => exact ⟨pos2,R == l0,rfl,hit1',⟨by have:=hq.out;have:=hw'.out;omega⟩,⟨by rw [hb.out,hst'.out,List.any_cons,Bool.false_or]⟩,hc11',hc21',hB1'⟩
      · have hnx:∀ ty,(Instr.next (.pointer (some ⟨w.heap.size + 1 + 1,0,none⟩)) true ty).run Tryz.prog wr = _:=fun ty => run_next_end_at wr (w.heap.size + 1 + 1) x1 pos ty hit.out hp
        have hre:=Z2z hp;have hrb:=am (show r = !(b == x2) by rw [hb.out,hre];simp [bne]);clear hre hp;go_wp2;go_ret;exact ⟨by rw [hrb.out];rfl,HB.out⟩
  · next h1 h2 =>
    have hr3:=am (show r = !x2 by rw [hr'.out,beq_iff_eq.2 h1,show x1.toList.isEmpty = true by simpa using h2];simp);go_ret;exact ⟨by rw [hr3.out];rfl,hB0'.out⟩
  · next h1 =>
    have hr3:=am (show r = !((bits .and .u32 l1 x0 == x0) == x2) by rw [hr'.out,show (bits .and .u32 l1 x0 == x0) = false from beq_eq_false_iff_ne.2 h1];simp [bne]);go_ret;exact ⟨by rw [hr3.out];rfl,hB0'.out⟩
def bit (s k:Nat):Bool:=s.testBit k
def setB (s k:Nat):Nat:=s ||| (1 <<< k)
theorem Z67 (s k j:Nat):bit (setB s k) j = (bit s j || decide (j = k)):=by
  unfold bit setB;rw [Nat.testBit_or,Nat.one_shiftLeft,Nat.testBit_two_pow]
  congr 1
  by_cases h:j = k
  · subst h;simp
  · simp [h,Ne.symm h]
theorem Z9l {s k:Nat} (hs:s < 16) (hk:k < 4):setB s k < 16:=by
  have:∀ s,s < 16 → ∀ k,k < 4 → setB s k < 16:=by decide
  exact this s hs k hk
theorem Zbn {s k:Nat} (hs:s < 16) (hk:k < 4):Go.bits .and .u8 (shr .u8 (s:Int) (k:Int)) 1 = if bit s k = true then 1 else 0:=by
  have:∀ s:Nat,s < 16 → ∀ k:Nat,k < 4 → Go.bits .and .u8 (shr .u8 (s:Int) (k:Int)) 1 = if bit s k = true then 1 else 0:=by decide
  exact this s hs k hk
theorem Znt {s k:Nat} (hs:s < 16) (hk:k < 4):Go.bits .or .u8 (s:Int) (shl .u8 1 (k:Int)) = ((setB s k:Nat):Int):=by
  have:∀ s:Nat,s < 16 → ∀ k:Nat,k < 4 → Go.bits .or .u8 (s:Int) (shl .u8 1 (k:Int)) = ((setB s k:Nat):Int):=by decide
  exact this s hs k hk
theorem Zlg {s k:Nat} (hs:s < 16) (hk:k < 4):Go.bits .or .u8 (s:Int) ((2:Int) ^ min k 8 % 256) = ((setB s k:Nat):Int):=by
  have:∀ s:Nat,s < 16 → ∀ k:Nat,k < 4 → Go.bits .or .u8 (s:Int) ((2:Int) ^ min k 8 % 256) = ((setB s k:Nat):Int):=by decide
  exact this s hs k hk
def Z30:List Bool → Nat → Nat → Nat
  | [],_,s => s
  | r :: t,k,s => Z30 t (k + 1) (if (r && bit s k) = true then setB s (k + 1) else s)
theorem Z89:∀ (l:List Bool) (k s:Nat),k + l.length ≤ 3 → s < 16 → Z30 l k s < 16
  | [],k,s,_,h => h
  | r :: t,k,s,h,hs => by
    unfold Z30
    refine Z89 t (k + 1) _ (by simp at h;omega) ?_
    split
    · exact Z9l hs (by simp at h;omega)
    · exact hs
def Z5v:List (Bool × Bool) → Nat → Nat → Nat → Nat
  | [],_,_,a => a
  | (rep,ad) :: t,k,s,a => Z5v t (k + 1) s (if (bit s k && ad) = true then setB a (if rep = true then k else k + 1) else a)
theorem Zfv:∀ (l:List (Bool × Bool)) (k s a:Nat),k + l.length ≤ 3 → a < 16 → Z5v l k s a < 16
  | [],k,s,a,_,h => h
  | (rep,ad) :: t,k,s,a,h,ha => by
    unfold Z5v
    refine Zfv t (k + 1) s _ (by simp at h;omega) ?_
    split
    · exact Z9l ha (by simp at h;split <;> omega)
    · exact ha
theorem Z52:∀ (l:List Bool) (k s j:Nat),j ≤ k → bit (Z30 l k s) j = bit s j
  | [],k,s,j,_ => rfl
  | r :: t,k,s,j,h => by
    unfold Z30;rw [Z52 t (k + 1) _ j (by omega)]
    split
    · rw [Z67,decide_eq_false (by omega),Bool.or_false]
    · rfl
theorem Z6w:∀ (l:List Bool) (k s i:Nat) (r:Bool),l[i]? = some r → bit (Z30 l k s) (k + i + 1) = (bit s (k + i + 1) || (r && bit (Z30 l k s) (k + i)))
  | [],k,s,i,r,h => by simp at h
  | q :: t,k,s,0,r,h => by
    obtain rfl:q = r:=by simpa using h
    unfold Z30;rw [Z52 t (k + 1) _ (k + 0 + 1) (by omega),Z52 t (k + 1) _ (k + 0) (by omega)];cases q
    · simp
    · cases hb:bit s k
      · simp [hb]
      · simp [hb,Z67]
  | q :: t,k,s,i + 1,r,h => by
    unfold Z30;have ih:=Z6w t (k + 1) (if (q && bit s k) = true then setB s (k + 1) else s) i r (by simpa using h);rw [show k + (i + 1) + 1 = k + 1 + i + 1 from by omega,show k + (i + 1) = k + 1 + i from by omega,ih]
    congr 1
    split
    · rw [Z67,decide_eq_false (by omega),Bool.or_false]
    · rfl
theorem Z68:∀ (l:List Bool) (k s j:Nat),k + l.length < j → bit (Z30 l k s) j = bit s j
  | [],k,s,j,_ => rfl
  | r :: t,k,s,j,h => by
    unfold Z30;rw [Z68 t (k + 1) _ j (by simp at h;omega)]
    split
    · rw [Z67,decide_eq_false (by simp at h;omega),Bool.or_false]
    · rfl
theorem Zcd:∀ (l:List (Bool × Bool)) (k s a j:Nat),j < k → bit (Z5v l k s a) j = bit a j
  | [],k,s,a,j,_ => rfl
  | (rep,ad) :: t,k,s,a,j,h => by
    unfold Z5v;rw [Zcd t (k + 1) s _ j (by omega)]
    split
    · rw [Z67,decide_eq_false (by split <;> omega),Bool.or_false]
    · rfl
def own (l:List (Bool × Bool)) (k s i:Nat):Bool:=match l[i]? with
  | some (rep,ad) => rep && (ad && bit s (k + i))
  | none => false
def fore (l:List (Bool × Bool)) (k s i:Nat):Bool:=match l[i]? with
  | some (rep,ad) => !rep && (ad && bit s (k + i))
  | none => false
theorem Zce:∀ (l:List (Bool × Bool)) (k s a:Nat),bit (Z5v l k s a) k = (bit a k || own l k s 0) ∧ ∀ i,bit (Z5v l k s a) (k + i + 1) = (bit a (k + i + 1) || (fore l k s i || own l k s (i + 1)))
  | [],k,s,a => by simp [Z5v,own,fore]
  | (rep,ad) :: t,k,s,a => by
    have ih:=Zce t (k + 1) s (if (bit s k && ad) = true then setB a (if rep = true then k else k + 1) else a);constructor
    · unfold Z5v
      rw [Zcd t (k + 1) s _ k (by omega)]
      cases rep <;> cases ad <;> cases hb:bit s k <;> simp [own,hb,Z67]
    · intro i
      unfold Z5v
      cases i with
      | zero =>
        rw [show k + 0 + 1 = k + 1 from rfl,ih.1]
        have e:own t (k + 1) s 0 = own ((rep,ad) :: t) k s (0 + 1):=by unfold own;simp only [List.getElem?_cons_succ]
        rw [e,← Bool.or_assoc]
        congr 1
        cases rep <;> cases ad <;> cases hb:bit s k <;> simp [fore,hb,Z67]
      | succ i =>
        rw [show k + (i + 1) + 1 = k + 1 + i + 1 from by omega,ih.2 i]
        have e:own t (k + 1) s (i + 1) = own ((rep,ad) :: t) k s (i + 1 + 1):=by unfold own;simp only [List.getElem?_cons_succ];rw [show k + 1 + (i + 1) = k + (i + 1 + 1) from by omega]
        have e2:fore t (k + 1) s i = fore ((rep,ad) :: t) k s (i + 1):=by unfold fore;simp only [List.getElem?_cons_succ];rw [show k + 1 + i = k + (i + 1) from by omega]
        rw [e,e2]
        congr 1
        split
        · rw [Z67,decide_eq_false (by split <;> omega),Bool.or_false]
        · rfl
section
variable {I A:Type} (adm:I → A → Bool) (rep:I → Bool)
def Z8r (p:List I) (s:Nat) (u:List A):Prop:=∀ j,bit s j = true ↔ j ≤ p.length ∧ Pos adm rep p j u
theorem Zii (p:List I):Z8r adm rep p (Z30 (p.map rep) 0 1) ([]:List A):=by
  intro j
  induction j with
  | zero =>
    rw [Z52 _ _ _ _ (Nat.le_refl _)];exact ⟨fun _ => ⟨Nat.zero_le _,Zhb adm rep p⟩,fun _ => rfl⟩
  | succ i ih =>
    cases h:p[i]? with
    | none =>
      have hl:p.length ≤ i:=List.getElem?_eq_none_iff.1 h;rw [Z68 _ _ _ _ (by rw [List.length_map];omega)];constructor
      · intro hb
        unfold bit at hb;rw [Nat.testBit_succ] at hb
        simp at hb
      · rintro ⟨h1,_⟩;omega
    | some x =>
      have hl:i < p.length:=(List.getElem?_eq_some_iff.1 h).1;have hb:=Z6w (p.map rep) 0 1 i (rep x) (by rw [List.getElem?_map,h];rfl);rw [show 0 + i + 1 = i + 1 from by omega,show 0 + i = i from by omega] at hb;rw [hb,Zhc adm rep p i x h]
      have h0:bit 1 (i + 1) = false:=by unfold bit;rw [Nat.testBit_succ];simp
      rw [h0,Bool.false_or,Bool.and_eq_true,ih];constructor
      · rintro ⟨h1,_,h2⟩;exact ⟨by omega,h1,h2⟩
      · rintro ⟨_,h1,h2⟩;exact ⟨h1,by omega,h2⟩
theorem Zfw (p:List I) (s:Nat) (u:List A) (a:A) (h:Z8r adm rep p s u):Z8r adm rep p (Z30 (p.map rep) 0 (Z5v (p.map fun x => (rep x,adm x a)) 0 s 0)) (u ++ [a]):=by
  obtain ⟨h0,hS⟩:=Zce (p.map fun x => (rep x,adm x a)) 0 s 0
  have z:∀ j,bit 0 j = false:=fun j => by unfold bit;exact Nat.zero_testBit j
  have hown:∀ j,own (p.map fun x => (rep x,adm x a)) 0 s j = true ↔ ∃ x,p[j]? = some x ∧ rep x = true ∧ adm x a = true ∧ Pos adm rep p j u:=by
    intro j;unfold own;rw [List.getElem?_map]
    cases hj:p[j]? with
    | none => simp
    | some x =>
      have hl:j < p.length:=(List.getElem?_eq_some_iff.1 hj).1;simp only [Option.map_some,Nat.zero_add,Bool.and_eq_true,h j];constructor
      · rintro ⟨h1,h2,_,h3⟩;exact ⟨x,rfl,h1,h2,h3⟩
      · rintro ⟨y,e,h1,h2,h3⟩;cases e;exact ⟨h1,h2,by omega,h3⟩
  have hfore:∀ i x,p[i]? = some x → (fore (p.map fun x => (rep x,adm x a)) 0 s i = true ↔ rep x = false ∧ adm x a = true ∧ Pos adm rep p i u):=by
    intro i x hx;have hl:i < p.length:=(List.getElem?_eq_some_iff.1 hx).1;unfold fore;rw [List.getElem?_map,hx];simp only [Option.map_some,Nat.zero_add,Bool.and_eq_true,h i];constructor
    · rintro ⟨h1,h2,_,h3⟩;exact ⟨by simpa using h1,h2,h3⟩
    · rintro ⟨h1,h2,h3⟩;exact ⟨by simpa using h1,h2,by omega,h3⟩
  intro j
  induction j with
  | zero =>
    rw [Z52 _ _ _ _ (Nat.le_refl _),h0,z,Bool.false_or,hown,Zfs];constructor
    · intro hx;exact ⟨Nat.zero_le _,.inr hx⟩
    · rintro ⟨_,hx | hx⟩
      · exact absurd hx (Zam adm rep p u a)
      · exact hx
  | succ i ih =>
    cases hp:p[i]? with
    | none =>
      have hl:p.length ≤ i:=List.getElem?_eq_none_iff.1 hp;rw [Z68 _ _ _ _ (by rw [List.length_map];omega)];have hi:=hS i;rw [show 0 + i + 1 = i + 1 from by omega] at hi;rw [hi,z,Bool.false_or]
      have f1:fore (p.map fun x => (rep x,adm x a)) 0 s i = false:=by unfold fore;rw [List.getElem?_map,hp];rfl
      have f2:own (p.map fun x => (rep x,adm x a)) 0 s (i + 1) = false:=by unfold own;rw [List.getElem?_map,List.getElem?_eq_none (by omega)];rfl
      rw [f1,f2];constructor
      · intro hx;cases hx
      · rintro ⟨h1,_⟩;omega
    | some x =>
      have hl:i < p.length:=(List.getElem?_eq_some_iff.1 hp).1;have hb:=Z6w (p.map rep) 0 (Z5v (p.map fun x => (rep x,adm x a)) 0 s 0) i (rep x) (by rw [List.getElem?_map,hp];rfl);have hi:=hS i;rw [show 0 + i + 1 = i + 1 from by omega] at hi hb;rw [show 0 + i = i from by omega] at hb;rw [hb,hi,z,Bool.false_or,Bool.or_eq_true,Bool.or_eq_true,Bool.and_eq_true,hfore i x hp,hown,ih,Zfs adm rep p (i + 1),Zal adm rep p i x hp]
      by_cases hr:rep x = true
      · simp only [if_pos hr]
        constructor
        · rintro ((⟨h1,_⟩ | h2) | ⟨_,_,h3⟩)
          · rw [hr] at h1;cases h1
          · exact ⟨by omega,.inr h2⟩
          · exact ⟨by omega,.inl h3⟩
        · rintro ⟨_,h1 | h2⟩
          · exact .inr ⟨hr,by omega,h1⟩
          · exact .inl (.inr h2)
      · simp only [if_neg hr]
        constructor
        · rintro ((⟨_,h1⟩ | h2) | ⟨h3,_⟩)
          · exact ⟨by omega,.inl h1⟩
          · exact ⟨by omega,.inr h2⟩
          · exact absurd h3 hr
        · rintro ⟨_,h1 | h2⟩
          · exact .inl (.inl ⟨by simpa using hr,h1⟩)
          · exact .inl (.inr h2)
theorem Zij (p:List I) (s:Nat) (u:List A) (h:Z8r adm rep p s u):bit s p.length = Z4p adm rep p u:=by
  have h1:=h p.length;rw [Zml,← Z87] at h1
  cases hb:bit s p.length <;> cases hm:Z4p adm rep p u <;> simp_all
theorem Zkk (p:List I) (u v:List A) (h:Z8r adm rep p 0 u):Z4p adm rep p (u ++ v) = false:=by
  have key:∀ (v u:List A),Z8r adm rep p 0 u → Z8r adm rep p 0 (u ++ v):=by
    intro v
    induction v with
    | nil => intro u h;rwa [List.append_nil]
    | cons a v ih =>
      intro u h;rw [show u ++ a :: v = (u ++ [a]) ++ v from by simp]
      refine ih _ ?_
      have h2:=Zfw adm rep p 0 u a h
      have z:∀ (l:List (Bool × Bool)) (k:Nat),Z5v l k 0 0 = 0:=by
        intro l
        induction l with
        | nil => intro k;rfl
        | cons q l ih => intro k;unfold Z5v;rw [show bit 0 k = false from Nat.zero_testBit k,Bool.false_and];exact ih _
      have z2:∀ (l:List Bool) (k:Nat),Z30 l k 0 = 0:=by
        intro l
        induction l with
        | nil => intro k;rfl
        | cons q l ih => intro k;unfold Z30;rw [show bit 0 k = false from Nat.zero_testBit k,Bool.and_false];exact ih _
      rw [z,z2] at h2;exact h2
  rw [← Zij adm rep p 0 (u ++ v) (key v u h)];exact Nat.zero_testBit _
end
theorem Zik (l:List S70) (s:Nat) (hl:l.length ≤ 3) (hs:s < 16):Ev (fun k => Z1e.f k l (s:Int)) ((Z30 (l.map (·.f3)) 0 s:Nat):Int):=by
  have key:∀ (d i s:Nat),l.length - i = d → i ≤ l.length → s < 16 → Ev (fun k => Z1e.l0 k (s:Int) l (l.length:Int) (i:Int)) ((Z30 ((l.drop i).map (·.f3)) i s:Nat):Int):=by
    intro d
    induction d with
    | zero =>
      intro i s hd hi hs
      obtain rfl:i = l.length:=by omega
      refine Ev.step (f:=fun _ => some (s:Int)) (fun k => ?_) ?_
      · simp only [Z1e.l0];rw [if_neg (by omega)]
      · rw [List.drop_length];exact Ev.now _
    | succ d ih =>
      intro i s hd hi hs
      have hlt:i < l.length:=by omega
      have hw:wrap64 ((i:Int) + 1) = ((i + 1:Nat):Int):=Z1a hlt (by omega);rw [Z7m l i hlt,List.map_cons];unfold Z30
      by_cases hr:(Z16 l (i:Int)).f3 = true
      · by_cases hb:bit s i = true
        · rw [if_pos (by rw [hr,hb];rfl)]
          refine Ev.step (fun k => ?_) (ih (i + 1) (setB s (i + 1)) (by omega) (by omega) (Z9l hs (by omega)))
          simp only [Z1e.l0];rw [if_pos (by omega),if_pos (by omega),if_pos (by omega),if_pos hr,Zbn hs (by omega),if_pos hb,if_pos rfl,hw,if_pos (by omega),Znt hs (by omega)]
        · rw [if_neg (by rw [hr];simpa using hb)]
          refine Ev.step (fun k => ?_) (ih (i + 1) s (by omega) (by omega) hs)
          simp only [Z1e.l0];rw [if_pos (by omega),if_pos (by omega),if_pos (by omega),if_pos hr,Zbn hs (by omega),if_neg hb,if_neg (by decide),hw]
      · rw [if_neg (by simp [hr])]
        refine Ev.step (fun k => ?_) (ih (i + 1) s (by omega) (by omega) hs)
        simp only [Z1e.l0];rw [if_pos (by omega),if_pos (by omega),if_pos (by omega),if_neg hr,hw]
  have:=key _ 0 s rfl (by omega) hs;rw [List.drop_zero] at this;exact this
theorem Z8l (A:Option Addr) (c:Nat) (l:List S70) (s:Nat) (w:World) (hr0:Kd.C k70 w A l.length l) (hc0:l.length ≤ c) (hl:l.length ≤ 3) (hs:s < 16) :
    Calls Tryz.prog 115 #[.slice A l.length c,.int .u8 (s:Int)] w fun e w' => e = .returned (.int .u8 ((Z30 (l.map (·.f3)) 0 s:Nat):Int)) ∧ Below w.heap.size w w':=by
  obtain ⟨k,hk⟩:=(Zik l s hl hs).rounds;exact Z1e.calls k A c l _ _ w hr0 hc0 hk
def Z9m (w:World) (B1 n m:Nat) (F:Nat → Nat → Bool):Prop:=∃ f:Nat → Nat,∀ k,k < n → w.cell? ⟨B1,k,none⟩ = some (.slice (some ⟨f k,0,none⟩) m m) ∧ ∀ i,i < m → w.cell? ⟨f k,i,none⟩ = some (.bool (F k i))
theorem Z9m.below {w w':World} {B1 n m:Nat} {F:Nat → Nat → Bool} (h:Z9m w B1 n m F) (hb:Below w.heap.size w w'):Z9m w' B1 n m F:=by
  obtain ⟨f,hf⟩:=h
  refine ⟨f,fun k hk => ⟨?_,fun i hi => ?_⟩⟩
  · exact (hb.cell (World.block_lt_of_cell? _ _ (hf k hk).1)).trans (hf k hk).1
  · exact (hb.cell (World.block_lt_of_cell? _ _ ((hf k hk).2 i hi))).trans ((hf k hk).2 i hi)
def admT (l0:List S68) (l1:List S70) (k i:Nat):Bool:=admP (Z16 l1 (k:Int)) (Z0v l0 (i:Int))
def Zhg (l0:List S68) (l1:List S70) (s i:Nat):Nat:=Z30 (l1.map (·.f3)) 0 (Z5v (l1.map fun x => (x.f3,admP x (Z0v l0 (i:Int)))) 0 s 0)
set_option maxRecDepth 100000 in
set_option maxHeartbeats 1000000 in
theorem Zax (l0:List S68) (A1:Option Addr) (c1:Nat) (l1:List S70) (B0 B1 B2:Nat) (s i:Nat) (w:World) (hr1:Kd.C k70 w A1 l1.length l1) (hc1:l1.length ≤ c1) (hl:l1.length ≤ 3) (hs:s < 16) (hi:i < l0.length)
    (h0:w.cell? ⟨B0,0,none⟩ = some (.slice A1 l1.length c1)) (h2:w.cell? ⟨B2,0,none⟩ = some (.slice (some ⟨B1,0,none⟩) l1.length l1.length)) (hT:Z9m w B1 l1.length l0.length (admT l0 l1)) :
    Calls Tryz.prog 118 #[.int .u8 (s:Int),.int .i64 (i:Int),.pointer (some ⟨B0,0,none⟩),.pointer (some ⟨B2,0,none⟩)] w fun e w' => e = .returned (.int .u8 ((Zhg l0 l1 s i:Nat):Int)) ∧ Below w.heap.size w w':=by
  obtain ⟨R,hR⟩:∃ R,Zhg l0 l1 s i = R:=⟨_,rfl⟩;rw [hR];have hR2:R = Z30 (l1.map (·.f3)) 0 (Z5v ((l1.drop 0).map fun x => (x.f3,admP x (Z0v l0 (i:Int)))) 0 s 0):=hR.symm;have hR':=am hR2;have HR1:=am hr1;have HC1:=am hc1;have HL:=am hl;have HS:=am hs;have HI:=am hi;have H0:=am h0;have H2:=am h2;have HT:=am hT;clear hR hR2 hr1 hc1 hl hs hi h2 hT;go_enter Tryz.func118,Tryz.ntmps118;go_wp2;clear h0
  go_loopg [7,12] l1.length (fun kq v7 v12 w' => ∃ a k:Nat,v7 = .int .u8 (a:Int) ∧ v12 = .int .i64 (k:Int) ∧ Aside0 (k + kq = l1.length) ∧ Aside0 (a < 16) ∧ Aside0 (R = Z30 (l1.map (·.f3)) 0 (Z5v ((l1.drop k).map fun x => (x.f3,admP x (Z0v l0 (i:Int)))) k s a)) ∧ Aside0 (Below w.heap.size w w'))
  case atStart => exact ⟨0,0,rfl,rfl,⟨by omega⟩,⟨by omega⟩,hR',⟨Below.refl _ _⟩⟩
  case round =>
    obtain ⟨a,k,rfl,rfl,hk,ha,hRk,HB⟩:=hrel
    cases gk with
    | zero =>
      have h3:¬ ((k:Int) < (l1.length:Int)):=by have:=hk.out;omega
      have h0w:=(HB.out.cell (World.block_lt_of_cell? _ _ H0.out)).trans H0.out;have hcl:=Z8l A1 c1 l1 a wr (Kd.C_below HR1.out HB.out) HC1.out HL.out ha.out
      have hRe:((Z30 (l1.map (·.f3)) 0 a:Nat):Int) = (R:Int):=by
        have h:=hRk.out;rw [List.drop_eq_nil_of_le (by have:=hk.out;omega)] at h;rw [h];rfl
      rw [hRe] at hcl;clear hRe
      go_wp2_with (go_at_call 115;refine hcl.mono ?_;clear hcl;rintro e w5 ⟨rfl,hB5⟩)
      go_ret;exact ⟨rfl,HB.out.trans (hB5.mono HB.out.size)⟩
    | succ g1 =>
      have h3:(k:Int) < (l1.length:Int):=by have:=hk.out;omega
      have h4:0 ≤ (k:Int):=by omega
      obtain ⟨ad,hA,hx0,hx1,hx2,hx3⟩:=Z5x HR1.out (k:Int) h4 h3;subst hA;rw [Int.toNat_natCast] at hx0 hx1 hx2 hx3;replace hx0:=(HB.out.cell (World.block_lt_of_cell? _ _ hx0)).trans hx0;replace hx1:=(HB.out.cell (World.block_lt_of_cell? _ _ hx1)).trans hx1;replace hx2:=(HB.out.cell (World.block_lt_of_cell? _ _ hx2)).trans hx2;replace hx3:=(HB.out.cell (World.block_lt_of_cell? _ _ hx3)).trans hx3;have hdr:=Z7m l1 k (by omega);have hB2:=(HB.out.cell (World.block_lt_of_cell? _ _ H2.out)).trans H2.out;obtain ⟨f,hf⟩:=HT.out.below HB.out;obtain ⟨hf1,hf2⟩:=hf k (by omega);have hf3:=hf2 i HI.out;have hFm:admT l0 l1 k i = admP (Z16 l1 (k:Int)) (Z0v l0 (i:Int)):=rfl;obtain ⟨X,hX⟩:∃ X,Z16 l1 (k:Int) = X:=⟨_,rfl⟩;obtain ⟨X0,X1,X2,X3⟩:=X;rw [hX] at hx0 hx1 hx2 hx3 hdr hFm;dsimp only at hx0 hx1 hx2 hx3;obtain ⟨M,hM⟩:∃ M,admP ⟨X0,X1,X2,X3⟩ (Z0v l0 (i:Int)) = M:=⟨_,rfl⟩;rw [hM] at hFm;rw [hFm] at hf3
      have hRn:R = Z30 (l1.map (·.f3)) 0 (Z5v ((l1.drop (k + 1)).map fun x => (x.f3,admP x (Z0v l0 (i:Int)))) (k + 1) s (if (bit s k && M) = true then setB a (if X3 = true then k else k + 1) else a)):=by
        have h:=hRk.out;rw [hdr,List.map_cons,hM] at h;exact h
      have hfin:wrap64 ((k:Int) + 1) = ((k + 1:Nat):Int):=Z1a (by omega:k < l1.length) (by have:=HL.out;omega);have hand:=Zbn (s:=s) (k:=k) HS.out (by have:=HL.out;omega)
      have hi0:(0:Int) ≤ (i:Int):=by omega
      have hi1:(i:Int) < (l0.length:Int):=by have:=HI.out;omega
      replace hB2:=Z2i (.cells #[.int .u32 X0,.string X1,.bool X2,.bool X3] 70) hB2;replace hf1:=Z2i (.cells #[.int .u32 X0,.string X1,.bool X2,.bool X3] 70) hf1;replace hf3:=Z2i (.cells #[.int .u32 X0,.string X1,.bool X2,.bool X3] 70) hf3;have hRn':=am hRn;have hfin':=am hfin;have hB1':=am (HB.out.alloc HB.out.size (.cells #[.int .u32 X0,.string X1,.bool X2,.bool X3] 70));clear hX hdr hM hFm hRn hf2 hf hfin
      cases hb:bit s k with
      | false =>
        rw [hb] at hand;have hb':=hb;clear hb;replace hand:Go.bits .and .u8 ((s:Int) / 2 ^ min k 8) 1 = 0:=hand;go_wp2
        go_roundg g1
        case measure => omega
        case rel =>
          refine ⟨a,k + 1,rfl,by rw [hfin'.out],⟨by have:=hk.out;omega⟩,ha,⟨?_⟩,hB1'⟩
          rw [hRn'.out,hb',Bool.false_and];rfl
      | true =>
        rw [hb] at hand;have hb':=hb;clear hb;replace hand:Go.bits .and .u8 ((s:Int) / 2 ^ min k 8) 1 = 1:=hand
        cases M with
        | false =>
          go_wp2
          go_roundg g1
          case measure => omega
          case rel =>
            refine ⟨a,k + 1,rfl,by rw [hfin'.out],⟨by have:=hk.out;omega⟩,ha,⟨?_⟩,hB1'⟩
            rw [hRn'.out,Bool.and_false];rfl
        | true =>
          cases X3 with
          | true =>
            have hor:=Zlg (s:=a) (k:=k) ha.out (by have:=HL.out;omega);go_wp2
            go_roundg g1
            case measure => omega
            case rel =>
              refine ⟨setB a k,k + 1,rfl,by rw [hfin'.out],⟨by have:=hk.out;omega⟩,⟨Z9l ha.out (by have:=HL.out;omega)⟩,⟨?_⟩,hB1'⟩
              rw [hRn'.out,hb'];rfl
          | false =>
            have hor:=Zlg (s:=a) (k:=k + 1) ha.out (by have:=HL.out;omega)
            have hk1:0 ≤ (k:Int) + 1:=by omega
            have hk2:((k:Int) + 1).toNat = k + 1:=by omega
            have hfin:=hfin'.out;go_wp2
            go_roundg g1
            case measure => omega
            case rel =>
              refine ⟨setB a (k + 1),k + 1,rfl,by first | rfl | rw [hfin'.out],⟨by have:=hk.out;omega⟩,⟨Z9l ha.out (by have:=HL.out;omega)⟩,⟨?_⟩,hB1'⟩
              rw [hRn'.out,hb'];rfl
end Go.Proofs.YtfbhdjflkaldgaaGreatDoor.Pr
