/- Several texts in one: RfV, CdV, OrW, OrS, PrF32, Bld. -/
import Derived.Test.YtfbhdjflkaldgaaGreatDoorMg14
import Derived.Test.YtfbhdjflkaldgaaGreatDoorMg3
import Derived.Test.YtfbhdjflkaldgaaGreatDoorMg12
import Derived.Test.YtfbhdjflkaldgaaGreatDoorMg11
import Derived.Test.YtfbhdjflkaldgaaGreatDoorMg1
import Derived.Test.YtfbhdjflkaldgaaGreatDoorMg2
import Derived.WalkKit
import Derived.BigCall
import Derived.Lib.OthersKept
import Derived.Shelf.Strings.Builder1
import Derived.Shelf.Strings.BuilderF
/- The reference's Valid of a language's orthography. -/
/- orthography.valid in plain words. -/
/- orthography.Words. -/
/- orthography.Sentences. -/
/- The contracts of strings.Builder's Zd3 and WriteRune at this translation's own numbers: of a builder that the call itself has made and only written. -/
namespace Go.Proofs.YtfbhdjflkaldgaaGreatDoor.Pr
open Go.Proofs.YtfbhdjflkaldgaaGreatDoor.Ct Go.RowKit Go.Maps Go.Lib Go.Proofs.YtfbhdjflkaldgaaGreatDoorW.PrintWords Go.Proofs.YtfbhdjflkaldgaaGreatDoorW.PrintLast Go.Proofs.YtfbhdjflkaldgaaGreatDoorW.PrintMore
set_option linter.unusedVariables false
set_option linter.unusedSimpArgs false
def okR (l:List S68) (r:Int):Bool:=!decide (r ≤ 32) && (!(r == 45) && (!(r == 61) && !isL l r))
def Z6e (l:List S68) (s:ByteArray):Bool:=(Z0d s).all (okR l) && (decide ((Z0d s).length = 1) && validD s.data.toList)
def Z3u (l:List S68) (rules:List S73) (s:ByteArray):Bool:=Z6e l s && Z4f l rules
def Z13.f (gL:Lg):Option Bool:=if (gL.v9.all Z2k = true ∧ Z77 gL.v9 = true) ∧ gL.vt.size ≤ 1099511627776 then some (Z3u gL.v2 gL.v9 gL.vt) else none
theorem Zei (A0:Option Addr) (c0:Nat) (l0:List S68) (A1:Option Addr) (c1:Nat) (l1:List S73) (w:World) (hT:Tabs w) (hr0:Kd.C k68 w A0 l0.length l0) (hc0:l0.length ≤ c0) (hr1:Kd.C k73 w A1 l1.length l1) (hc1:l1.length ≤ c1) (h2:l1.all Z2k = true) (h3:Z77 l1 = true) :
    Calls Tryz.prog 40 #[.slice A0 l0.length c0,.slice A1 l1.length c1] w fun e w' => e = .returned (.bool (Z4f l0 l1)) ∧ Below w.heap.size w w':=by
  obtain ⟨k,hk⟩:=(Zkq l0 l1 hr0.2.1 hr1.2.1 h2 h3).rounds;exact Z06.calls k A0 c0 l0 A1 c1 l1 _ w hT hr0 hc0 hr1 hc1 hk
set_option maxRecDepth 100000 in
set_option maxHeartbeats 2000000 in
theorem Z13.calls (gL:Lg) (pL:La) (r:Bool) (w:World) (hT:Tabs w) (hL:Z2o gL pL w) (h:Z13.f gL = some r) :
    Calls Tryz.prog 21 #[.agg (lcs gL pL)] w fun e w' => e = .returned (.bool r) ∧ Below w.heap.size w w':=by
  unfold Z13.f at h
  by_cases hg:(gL.v9.all Z2k = true ∧ Z77 gL.v9 = true) ∧ gL.vt.size ≤ 1099511627776
  · rw [if_pos hg] at h
    have hr:=Option.some.inj h;clear h;obtain ⟨W0,hW0⟩:∃ W0,w.alloc (.cells (lcs gL pL) 41) = W0:=⟨_,rfl⟩
    have hB0:Below w.heap.size w W0:=by rw [← hW0];exact (Below.refl _ w).alloc (Nat.le_refl _) _
    have hcell:∀ w1,Below W0.heap.size W0 w1 → w1.cell? ⟨w.heap.size,2,none⟩ = some (.slice pL.A2 gL.v2.length pL.c2) ∧ w1.cell? ⟨w.heap.size,9,none⟩ = some (.slice pL.A9 gL.v9.length pL.c9) ∧ w1.cell? ⟨w.heap.size,29,none⟩ = some (.string gL.vt):=by
      intro w1 hB
      have hlt:w.heap.size < W0.heap.size:=by rw [← hW0];simp
      refine ⟨(hB.cell hlt).trans ?_,(hB.cell hlt).trans ?_,(hB.cell hlt).trans ?_⟩
      · rw [← hW0];exact Z2c _ _ _ 2 _ rfl
      · rw [← hW0];exact Z2c _ _ _ 9 _ rfl
      · rw [← hW0];exact Z2c _ _ _ 29 _ rfl
    have hsz0:w.heap.size + 1 = W0.heap.size:=by rw [← hW0];simp
    have hlv:=fun (w1:World) (hB:Below W0.heap.size W0 w1) => Zei pL.A2 pL.c2 gL.v2 pL.A9 pL.c9 gL.v9 w1 (Z1s hT (hB0.trans (hB.mono hB0.size))) (Kd.C_below hL.r2 (hB0.trans (hB.mono hB0.size))) hL.c2 (Kd.C_below hL.r9 (hB0.trans (hB.mono hB0.size))) hL.c9 hg.1.1 hg.1.2
    have hix:=fun (R:Int) (w1:World) (hB:Below W0.heap.size W0 w1) => Z6q pL.A2 pL.c2 gL.v2 R w1 (Kd.C_below hL.r2 (hB0.trans (hB.mono hB0.size))) hL.c2
    have hlv':=am hlv;have hix':=am hix;have hG:=am hg.2;have hr':=am hr;have hcell':=am hcell;have hB0':=am hB0;have HB9:Below W0.heap.size W0 W0:=Below.refl _ _;obtain ⟨k2,k9,k29⟩:=hcell W0 HB9;clear hT hL hg hr hB0 hcell hlv hix;go_enter Tryz.func21,Tryz.ntmps21;go_wp2;obtain ⟨it,hit9⟩:∃ it,W0.heap.size = it:=⟨_,rfl⟩;have hBi:Below W0.heap.size W0 (W0.iter gL.vt 0):=(Below.refl _ W0).alloc (Nat.le_refl _) _;have hBi':=am hBi;have hit0:=am (World.iter_heap W0 gL.vt 0);clear hBi;have hit9':=am hit9;rw [hit9] at hit0 hBi' ⊢;clear hit9
    go_loopg [4,5,7] gL.vt.size (fun kq v4 v5 v7 w' => ∃ (pos:Nat) (done:List Int) (b:ByteArray),v4 = .int .i64 (done.length:Int) ∧ v5 = .string b ∧ Aside0 (w'.heap[it]? = some (.stringIter gL.vt pos)) ∧ Aside0 (gL.vt.size - pos ≤ kq) ∧ Aside0 (done ++ Z3b gL.vt pos = Z0d gL.vt) ∧ Aside0 (done.all (okR gL.v2) = true) ∧ Aside0 (b.data.toList = encL done) ∧ Aside0 (Below it W0 w'))
    case atStart => exact ⟨0,[],⟨#[]⟩,rfl,rfl,hit0,⟨by omega⟩,⟨by rw [Z2t];rfl⟩,⟨rfl⟩,⟨rfl⟩,hBi'⟩
    case round =>
      obtain ⟨pos,done,b,rfl,rfl,hit,hq,hdone,hall,hb,HB⟩:=hrel
      have hdl:done.length ≤ gL.vt.size:=by
        have h1:=congrArg List.length hdone.out;have h2:=Z23 gL.vt;rw [List.length_append] at h1;omega
      have hdl':=am hdl
      by_cases hp:pos < gL.vt.size
      · obtain ⟨g1,rfl⟩:∃ g1,gk = g1 + 1:=⟨gk - 1,by have:=hq.out;omega⟩
        have hnx:∀ ty,(Instr.next (.pointer (some ⟨it,0,none⟩)) true ty).run Tryz.prog wr = _:=fun ty => run_next_any_at wr it gL.vt pos ty hit.out hp
        have hsc:=Z50 gL.vt pos;have hst:=Z34 hp;have hwd:=Z4k hp;obtain ⟨R,hRR⟩:∃ R:Int,((Utf8.decode gL.vt pos).1:Int) = R:=⟨_,rfl⟩;rw [hRR] at hsc hst;simp only [hRR] at hnx;obtain ⟨pos2,hp2⟩:∃ p2,pos + (Utf8.decode gL.vt pos).2 = p2:=⟨_,rfl⟩;rw [hp2] at hst hnx;obtain ⟨W1,hW1⟩:∃ W1,wr.iterAt it gL.vt pos2 = W1:=⟨_,rfl⟩
        have hB1:Below it W0 W1:=by rw [← hW1];exact below_iterAt HB.out (Nat.le_refl _) _ _
        have hit1:W1.heap[it]? = some (.stringIter gL.vt pos2):=by rw [← hW1];exact iterAt_heap _ _ _ _ _ hit.out
        simp only [hW1] at hnx
        have hB1w:Below W0.heap.size W0 W1:=by rw [hit9'.out];exact hB1
        have hix1:=hix'.out R W1 hB1w;obtain ⟨X,hX⟩:∃ X,idxI gL.v2 R = X:=⟨_,rfl⟩;rw [hX] at hix1
        have hbs:b.size ≤ 4 * done.length:=by rw [← sizeL,hb.out];exact Z6v done
        have hadd:¬ 9223372036854775807 < b.size + (Utf8.encode R).size:=by have:=Zbl R hsc;have:=hG.out;omega
        have hfin:=Z1a (i:=done.length) (n:=done.length + 1) (by omega) (by have:=hG.out;omega);have hfin':=am hfin;have hst':=am hst;have hsc':=am hsc;have hw':Aside0 (pos < pos2):=⟨by omega⟩;have hB1':=am hB1;have hB1w':=am hB1w;have hit1':=am hit1;have hX':=am hX;obtain ⟨D,hD⟩:∃ D,done.length = D:=⟨_,rfl⟩;have hD':=am hD;rw [hD] at hfin ⊢;clear hst hsc hwd hp hB1 hit1 hB1w hW1 hX hp2 hRR hbs hdl hD
        by_cases c1:R ≤ 32
        · have c1b:decide (R ≤ 32) = true:=decide_eq_true c1
          have hRf:okR gL.v2 R = false:=by unfold okR;rw [c1b];rfl
          obtain rfl:r = false:=by rw [← hr'.out];unfold Z3u Z6e;rw [← hdone.out,List.all_append,hst'.out,List.all_cons,hRf];simp
          clear hRf;go_wp2;go_ret;exact ⟨rfl,hB0'.out.trans (hB1w'.out.mono hB0'.out.size)⟩
        · have c1b:decide (R ≤ 32) = false:=decide_eq_false c1
          have c1':=am c1
          by_cases c2:R = 45
          · have c2b:(R == 45) = true:=beq_iff_eq.2 c2
            have hRf:okR gL.v2 R = false:=by unfold okR;rw [c2b];simp
            obtain rfl:r = false:=by rw [← hr'.out];unfold Z3u Z6e;rw [← hdone.out,List.all_append,hst'.out,List.all_cons,hRf];simp
            clear hRf c2;go_wp2;go_ret;exact ⟨rfl,hB0'.out.trans (hB1w'.out.mono hB0'.out.size)⟩
          · have c2b:(R == 45) = false:=beq_eq_false_iff_ne.2 c2
            by_cases c3:R = 61
            · have c3b:(R == 61) = true:=beq_iff_eq.2 c3
              have hRf:okR gL.v2 R = false:=by unfold okR;rw [c3b];simp
              obtain rfl:r = false:=by rw [← hr'.out];unfold Z3u Z6e;rw [← hdone.out,List.all_append,hst'.out,List.all_cons,hRf];simp
              clear hRf c3;go_wp2;go_ret;exact ⟨rfl,hB0'.out.trans (hB1w'.out.mono hB0'.out.size)⟩
            · have c3b:(R == 61) = false:=beq_eq_false_iff_ne.2 c3
              have hdx:=Z76 gL.v2 R;rw [hX'.out] at hdx;clear c1 c2 c3
              by_cases c4:0 ≤ X
              · have c4b:decide (X ≥ 0) = true:=decide_eq_true c4
                have c4c:isL gL.v2 R = true:=by rw [← hdx];exact c4b
                have hRf:okR gL.v2 R = false:=by unfold okR;rw [c4c];simp
                obtain rfl:r = false:=by rw [← hr'.out];unfold Z3u Z6e;rw [← hdone.out,List.all_append,hst'.out,List.all_cons,hRf];simp
                clear hRf c4c hdx c4b
                go_wp2_with (go_at_call 39;refine hix1.mono ?_;clear hix1;rintro e w5 ⟨rfl,⟨nd,rfl⟩⟩)
                go_ret;exact ⟨rfl,hB0'.out.trans ((pw_below_drewN hB1w'.out nd).mono hB0'.out.size)⟩
              · have c4b:decide (X ≥ 0) = false:=decide_eq_false c4
                have c4c:isL gL.v2 R = false:=by rw [← hdx];exact c4b
                have hRt:Aside0 (okR gL.v2 R = true):=⟨by unfold okR;rw [c1b,c2b,c3b,c4c];rfl⟩;clear c4c hdx c4b
                go_wp2_with (go_at_call 39;refine hix1.mono ?_;clear hix1;rintro e w5 ⟨rfl,⟨nd,rfl⟩⟩)
                go_roundg g1
                case measure => omega
                case rel =>
                  refine ⟨pos2,done ++ [R],b ++ Utf8.encode R,?_,rfl,hit1',⟨by have:=hq.out;have:=hw'.out;omega⟩,⟨by rw [List.append_assoc,List.singleton_append,← hst'.out];exact hdone.out⟩,⟨by rw [List.all_append,hall.out];simp [hRt.out]⟩,⟨Zbj b done R hb.out hsc'.out⟩,⟨pw_below_drewN hB1'.out nd⟩⟩
                  rw [List.length_append,hD'.out]
                  first | rfl | (rw [← hfin'.out,hD'.out])
      · have hnx:∀ ty,(Instr.next (.pointer (some ⟨it,0,none⟩)) true ty).run Tryz.prog wr = _:=fun ty => run_next_end_at wr it gL.vt pos ty hit.out hp
        have hre:=Z2z hp
        have hd:done = Z0d gL.vt:=by rw [← hdone.out,hre,List.append_nil]
        have HBw:Below W0.heap.size W0 wr:=by rw [hit9'.out];exact HB.out
        obtain ⟨k2,k9,k29⟩:=hcell'.out wr HBw;have hlv1:=hlv'.out wr HBw
        have hv:(b.toList == gL.vt.toList) = validD gL.vt.data.toList:=by
          cases e:validD gL.vt.data.toList with
          | true =>
            refine beq_iff_eq.2 ?_
            rw [ByteArray.toList_eq,ByteArray.toList_eq,hb.out,hd];exact (Z36 _).1 e
          | false =>
            refine beq_eq_false_iff_ne.2 fun h => ?_
            rw [ByteArray.toList_eq,ByteArray.toList_eq,hb.out,hd] at h;have:=(Z36 gL.vt.data.toList).2 h;rw [e] at this;cases this
        have hall2:=hall.out
        have hrr:r = ((decide (done.length = 1) && validD gL.vt.data.toList) && Z4f gL.v2 gL.v9):=by rw [← hr'.out];unfold Z3u Z6e;rw [← hd,hall2,Bool.true_and]
        have hrr':=am hrr;have HBw':=am HBw;clear hre hd hall2 hp hrr HBw hdl
        by_cases d1:done.length = 1
        · have d1b:((done.length:Int) == 1) = true:=beq_iff_eq.2 (by omega)
          have d1c:=am (decide_eq_true d1);obtain ⟨D,hD⟩:∃ D,(done.length:Int) = D:=⟨_,rfl⟩;rw [hD] at d1b ⊢;clear d1 hD
          cases d2:validD gL.vt.data.toList with
          | false =>
            rw [d2] at hv
            obtain rfl:r = false:=by rw [hrr'.out,d2];simp
            clear d2;go_wp2;go_ret;exact ⟨rfl,hB0'.out.trans (HBw'.out.mono hB0'.out.size)⟩
          | true =>
            rw [d2] at hv;obtain ⟨C,hC⟩:∃ C,Z4f gL.v2 gL.v9 = C:=⟨_,rfl⟩;rw [hC] at hlv1
            obtain rfl:r = C:=by rw [hrr'.out,d2,d1c.out,hC];simp
            clear d2 hC
            go_wp2_with (go_at_call 40;refine hlv1.mono ?_;clear hlv1;rintro e w6 ⟨rfl,hB6⟩)
            go_ret;exact ⟨rfl,hB0'.out.trans ((HBw'.out.trans (hB6.mono HBw'.out.size)).mono hB0'.out.size)⟩
        · have d1b:((done.length:Int) == 1) = false:=beq_eq_false_iff_ne.2 (by omega)
          obtain rfl:r = false:=by rw [hrr'.out,decide_eq_false d1];simp
          obtain ⟨D,hD⟩:∃ D,(done.length:Int) = D:=⟨_,rfl⟩;rw [hD] at d1b ⊢;clear d1 hD;go_wp2;go_ret;exact ⟨rfl,hB0'.out.trans (HBw'.out.mono hB0'.out.size)⟩
  · rw [if_neg hg] at h;cases h
def Zho (l:List S68) (s:ByteArray):Bool:=decide (0 < (decodeGo s).2) && (decide ((decodeGo s).2 = s.size) && (decide (¬ (decodeGo s).1 = 65533 ∨ (decodeGo s).2 = 3) && okR l ((decodeGo s).1:Int)))
theorem Z8d (l:List UInt8) (hne:l ≠ []) (h:(decodeL l).1 = 65533) (h2:(decodeL l).2 ≤ l.length):(decodeL l).2 = 1 ∨ (decodeL l).2 = 3:=by
  by_cases h1:(decodeL l).2 = 1
  · exact .inl h1
  · have e:=encode_decode l hne (fun h3 => h1 h3.2)
    rw [h] at e;have e2:=congrArg List.length e;rw [List.length_take,Nat.min_eq_left h2] at e2
    refine .inr (e2.symm.trans ?_)
    decide
theorem Zkr (l:List UInt8) (hne:l ≠ []):(decodeL l).2 ≤ l.length:=by
  have hl:0 < l.length:=List.length_pos_iff.2 hne;rw [decodeL_N];unfold decodeN
  repeat' split
  all_goals (simp only;omega)
theorem Zb6 (s:ByteArray) (h:0 < s.size):decodeGo s = decodeL s.data.toList:=by
  unfold decodeGo;rw [if_neg (by omega)];have:=decodeL_drop s 0;rw [List.drop_zero] at this;exact this.symm
theorem Ziz (l:List S68) (s:ByteArray):Zho l s = Z6e l s:=by
  by_cases hz:0 < s.size
  · have hne:s.data.toList ≠ []:=fun e => by
      have:=congrArg List.length e;rw [sizeL,List.length_nil] at this;omega
    have hle:(decodeL s.data.toList).2 ≤ s.size:=by rw [← sizeL];exact Zkr _ hne
    unfold Zho Z6e Z0d;rw [Zb6 s hz];have hw:=Z4z _ hne;rw [Z3v _ hne,validD_step _ hne];rw [decide_eq_true (show 0 < (decodeL s.data.toList).2 by omega),Bool.true_and]
    by_cases hn:(decodeL s.data.toList).2 = s.size
    · have hd:s.data.toList.drop (decodeL s.data.toList).2 = []:=List.drop_of_length_le (by rw [sizeL];omega)
      rw [hd,Z40,decide_eq_true hn,Bool.true_and]
      have hr:=fun h => Z8d _ hne h (by rw [sizeL];exact hle)
      rw [List.all_cons,List.all_nil,Bool.and_true,decide_eq_true (show [((decodeL s.data.toList).1:Int)].length = 1 from rfl),Bool.true_and,Bool.and_comm]
      congr 1
      by_cases h9:(decodeL s.data.toList).1 = 65533
      · rcases hr h9 with h8 | h8
        · rw [if_pos ⟨h9,h8⟩,decide_eq_false (by omega)]
        · rw [if_neg (by omega),decide_eq_true (.inr h8)];rfl
      · rw [if_neg (fun h => h9 h.1),decide_eq_true (.inl h9)];rfl
    · rw [decide_eq_false hn,Bool.false_and]
      have hd:0 < (s.data.toList.drop (decodeL s.data.toList).2).length:=by rw [List.length_drop,sizeL];omega
      have hd2:s.data.toList.drop (decodeL s.data.toList).2 ≠ []:=fun e => by rw [e] at hd;simp at hd
      rw [Z3v _ hd2,decide_eq_false (by simp),Bool.false_and,Bool.and_false]
  · have he:s.data.toList = []:=List.eq_nil_of_length_eq_zero (by rw [sizeL];omega)
    unfold Zho Z6e Z0d decodeGo;rw [if_pos (by omega),he,Z40];rfl
theorem Zbv (gL:Lg) (h1:Z1z gL.v2 = true) (h2:gL.v9.all Z2k = true):Ev (fun k => Z1p.f k gL) (Z3u gL.v2 gL.v9 gL.vt):=by
  unfold Z3u;rw [← Ziz,Bool.and_comm];obtain ⟨r,hr⟩:∃ r,(decodeGo gL.vt).1 = r:=⟨_,rfl⟩;obtain ⟨n,hn⟩:∃ n,(decodeGo gL.vt).2 = n:=⟨_,rfl⟩
  have hsc:scalar (r:Int):=by
    rw [← hr];unfold decodeGo
    split
    · exact ⟨by decide,by decide⟩
    · exact Z50 _ _
  have hdec:Z1x.f gL.vt = some ((r:Int),(n:Int)):=by unfold Z1x.f;rw [hr,hn]
  have hix:Z1y.f gL.v2 (r:Int) = some (idxI gL.v2 r):=by unfold Z1y.f;rw [if_pos ⟨h1,Z7k hsc⟩]
  have hid:decide (idxI gL.v2 (r:Int) < 0) = !isL gL.v2 r:=by
    have:=Z76 gL.v2 (r:Int)
    by_cases c:idxI gL.v2 (r:Int) ≥ 0
    · rw [decide_eq_true c] at this;rw [decide_eq_false (by omega),← this];rfl
    · rw [decide_eq_false c] at this;rw [decide_eq_true (by omega),← this];rfl
  have e:∀ k,Z1p.f k gL = (Z0u.f k gL.v2 gL.v9).bind fun t129 => some (t129 && Zho gL.v2 gL.vt):=by
    intro k;unfold Z1p.f;rw [hdec,Option.bind_some]
    congr 1
    funext t
    unfold Zho okR;rw [hr,hn]
    cases t with
    | false => rfl
    | true =>
      rw [Bool.true_and,if_pos rfl]
      by_cases c1:0 < n
      · rw [if_pos (by simp;omega),decide_eq_true c1,Bool.true_and]
        by_cases c2:n = gL.vt.size
        · rw [if_pos (by simp;omega),decide_eq_true c2,Bool.true_and]
          have rest:(if (r:Int) > 32 then (if (r:Int) = 45 then (some false) else (if (r:Int) = 61 then (some false) else ((Z1y.f gL.v2 (r:Int)).bind fun t131 => (some (decide (t131 < 0)))))) else (some false)) = some (!decide ((r:Int) ≤ 32) && (!((r:Int) == 45) && (!((r:Int) == 61) && !isL gL.v2 r))):=by
            by_cases d1:(r:Int) > 32
            · rw [if_pos d1,decide_eq_false (by omega)]
              by_cases d2:(r:Int) = 45
              · rw [if_pos d2,beq_iff_eq.2 d2];rfl
              · rw [if_neg d2,beq_eq_false_iff_ne.2 d2]
                by_cases d3:(r:Int) = 61
                · rw [if_pos d3,beq_iff_eq.2 d3];rfl
                · rw [if_neg d3,beq_eq_false_iff_ne.2 d3,hix,Option.bind_some,hid];rfl
            · rw [if_neg d1,decide_eq_true (by omega)];rfl
          by_cases c3:r = 65533
          · rw [if_pos (show (r:Int) = 65533 by omega)]
            by_cases c4:n = 3
            · rw [if_pos (show (n:Int) = 3 by omega),decide_eq_true (.inr c4),Bool.true_and]
              exact rest
            · rw [if_neg (show ¬ (n:Int) = 3 by omega),decide_eq_false (by omega)];rfl
          · rw [if_neg (show ¬ (r:Int) = 65533 by omega),decide_eq_true (.inl c3),Bool.true_and]
            exact rest
        · rw [if_neg (by simp;omega),decide_eq_false c2];rfl
      · rw [if_neg (by simp;omega),decide_eq_false c1];rfl
  exact Ev.congr e (Ev.bind (Z9z gL.v2 gL.v9 h1 h2) (Ev.now _))
theorem Za0 (gL:Lg) (pL:La) (w:World) (hT:Tabs w) (hL:Z2o gL pL w) (h1:Z1z gL.v2 = true) (h2:gL.v9.all Z2k = true) :
    Calls Tryz.prog 17 #[.agg (lcs gL pL)] w fun e w' => e = .returned (.bool (Z3u gL.v2 gL.v9 gL.vt)) ∧ Below w.heap.size w w':=by
  obtain ⟨k,hk⟩:=(Zbv gL h1 h2).rounds;exact Z1p.calls k gL pL _ w hT hL hk
theorem Za1 {l:List S68} {s:ByteArray} (h:Z6e l s = true):s.data.toList = encodeRune ((decodeGo s).1:Int) ∧ scalar ((decodeGo s).1:Int) ∧ okR l ((decodeGo s).1:Int) = true:=by
  have hc:=h;rw [← Ziz] at hc;unfold Zho at hc;simp only [Bool.and_eq_true,decide_eq_true_eq] at hc;unfold Z6e at h;simp only [Bool.and_eq_true,decide_eq_true_eq] at h
  have hz:0 < s.size:=by omega
  have hne:s.data.toList ≠ []:=fun e => by
    have:=congrArg List.length e;rw [sizeL,List.length_nil] at this;omega
  have hb:=(Z36 s.data.toList).1 h.2.2
  have hs:Z32 s.data.toList = [((decodeGo s).1:Int)]:=by
    rw [Zb6 s hz] at hc ⊢;rw [Z3v _ hne,List.drop_of_length_le (by rw [sizeL];omega),Z40]
  refine ⟨?_,?_,hc.2.2.2⟩
  · rw [← hb,hs];simp [encL]
  · exact Z22 s.data.toList _ (by rw [hs];simp)
def Zgi (l:List S68) (rules:List S73) (stop text:ByteArray):List ByteArray × Int:=if Z3u l rules stop = true then (match Z7s l ((decodeGo stop).1:Int) text with | some [ws] => if 40 < ws.length then ([],2) else (ws,0) | _ => ([],3)) else ([],1)
def Z2w.f (gL:Lg) (a1:ByteArray):Option (List ByteArray × Int):=if (Z1z gL.v2 = true ∧ gL.v9.all Z2k = true) ∧ a1.size ≤ 1099511627776 then some (Zgi gL.v2 gL.v9 gL.vt a1) else none
theorem Zmq {W:World} {base:Nat} {ok:Nat → Prop} {A:Option Addr} {n cap:Nat} {xs:List (List ByteArray)} (h:Kd.R (Kd.slice 9 Kd.string) 31 W base ok (.slice A n cap) xs) (i:Nat) (hi:i < xs.length) (x:List ByteArray) (hx:xs[i]? = some x):∃ g,A = some ⟨g,0,none⟩ ∧ ∃ A9 c9,W.cell? ⟨g,i,none⟩ = some (.slice A9 x.length c9) ∧ Kd.R Kd.string 9 W base (fun _ => True) (.slice A9 x.length c9) x:=by
  obtain ⟨g,q,f,_,_,_,_⟩:=Kd.R_form h (by omega)
  injection f with a1 a2 a3
  subst a1 a2 a3
  refine ⟨g,rfl,?_⟩
  obtain ⟨ce,hce,hMe,hcc⟩:=Kd.R_get h ([]:List ByteArray) (i:Int) (by omega) (by omega);obtain ⟨v,rfl,hR⟩:∃ v,ce = [v] ∧ Kd.R Kd.string 9 W base _ v (xs.getD (i:Int).toNat []):=hMe
  have hx2:xs.getD (i:Int).toNat [] = x:=by rw [Int.toNat_natCast,List.getD_eq_getElem?_getD,hx];rfl
  rw [hx2] at hR;have hc:=hcc 0 _ rfl;obtain ⟨A9,c9,e9⟩:=Kd.R_slice hR;subst e9
  refine ⟨A9,c9,?_,Kd.R_mono hR (fun _ _ => trivial)⟩
  rw [show (Kd.slice 9 Kd.string).sz = 1 from rfl,Int.toNat_natCast,Nat.mul_one,Nat.add_zero,Addr.add_lit,Nat.zero_add] at hc;exact hc
theorem Zj0 {p:Prop} (h:p:=by
  go_enter Tryz.func14,Tryz.ntmps14
  go_wp2_with (first | ((with_reducible refine Z0z (t:=41) (p:=2) rfl ?_);(try (refine gate_guard (by rfl) ?_;dsimp only));refine wpList_load_row rfl 41 (.tmp 2) rfl w.heap.size rfl 41 _ (0,0) _ hbk2 Tryz.underlying41 rfl (by kernel_rfl) ?_) | (go_at_call 17;with_reducible refine (hva'.out _ HB0).mono ?_;rw [cv];rintro e z1_ ⟨rfl,z2_⟩;clear hbk2;have HB2:=HB0.trans (z2_.mono HB0.size);have hbk2:=hblk'.out _ HB2) | (have ma_:=ma1_;(go_at_call 25;with_reducible refine (hnr'.out _ HB2).mono ?_;rintro e w3 ⟨B,mb,rfl,hRA,z2_⟩;clear hbk2;have HB3:=HB2.trans (z2_.mono HB2.size);have hRA':=am hRA;clear hRA;have hbk2:=hblk'.out _ HB3)) | (have ma_:=ma2_;(go_at_call 26;with_reducible refine (hrd'.out B mb _ HB3 hRA'.out).mono ?_;rw [ct];rintro e z1_ ⟨z2_,z3_,rfl,⟨z4_,z5_⟩,z6_⟩;subst z4_;obtain ⟨z7_,z8_,z9_⟩:=Kd.R_slice z5_;subst z9_;have z10_:=am (show Kd.R (Kd.slice 9 Kd.string) 31 z1_ w3.heap.size (fun _ => True) (.slice z7_ OUT.length z8_) OUT from z5_);clear z5_;have HB4:=HB3.trans (z6_.mono HB3.size);clear hbk2;have hbk2:=hblk'.out _ HB4)) | (have ma_:=ma3_;(go_at_call 26;with_reducible refine (hrd'.out B mb _ HB3 hRA'.out).mono ?_;rw [ct];rintro e z1_ ⟨z2_,z3_,rfl,⟨z4_,z5_⟩,z6_⟩;subst z4_;obtain ⟨z7_,z8_,z9_⟩:=Kd.R_slice z5_;subst z9_;have z10_:=am (show Kd.R (Kd.slice 9 Kd.string) 31 z1_ w3.heap.size (fun _ => True) (.slice z7_ [ws].length z8_) [ws] from z5_);clear z5_;obtain ⟨z11_,z9_,z12_,z13_,z14_,z15_⟩:=Zmq z10_.out 0 (by simp) ws rfl;subst z9_;have z16_:=am z15_;clear z15_;have HB4:=HB3.trans (z6_.mono HB3.size);clear hbk2;have hbk2:=hblk'.out _ HB4)) | (have ma_:=ma4_;(go_at_call 25;with_reducible refine (hnr'.out _ HB2).mono ?_;rintro e z1_ ⟨B,mb,rfl,hRA,z2_⟩;clear hbk2;have HB3:=HB2.trans (z2_.mono HB2.size);have hRA':=am hRA;clear hRA;have hbk2:=hblk'.out _ HB3)) | (have ma_:=ma5_;(go_at_call 26;with_reducible refine (hrd'.out B mb _ HB3 hRA'.out).mono ?_;rw [ct];rintro e z1_ ⟨z2_,z3_,rfl,z4_,z5_⟩;have z6_:z3_ = false:=z4_;clear z4_;subst z6_;have HB4:=HB3.trans (z5_.mono HB3.size);clear hbk2;have hbk2:=hblk'.out _ HB4)))
  go_ret2
  exact ⟨_,rfl,Kd.R_nil _ _ _ _ _,hB0'.out.trans (HB4.mono hB0'.out.size)⟩):p:=h
set_option maxRecDepth 100000 in
set_option maxHeartbeats 4000000 in
theorem Z2w.calls (gL:Lg) (pL:La) (a1:ByteArray) (r1:List ByteArray) (r2:Int) (w:World) (hT:Tabs w) (hL:Z2o gL pL w) (h:Z2w.f gL a1 = some (r1,r2)) :
    Calls Tryz.prog 14 #[.agg (lcs gL pL),.string a1] w fun e w' => ∃ v0_:Value,e = .returned (.tuple #[v0_,.int .i64 r2]) ∧ Kd.R Kd.string 9 w' w.heap.size (fun _ => True) v0_ r1 ∧ Below w.heap.size w w':=by
  unfold Z2w.f at h
  by_cases hg:(Z1z gL.v2 = true ∧ gL.v9.all Z2k = true) ∧ a1.size ≤ 1099511627776
  · rw [if_pos hg] at h
    have hr:=Option.some.inj h;clear h;have hu41:=Tryz.underlying41;obtain ⟨W0,hW0⟩:∃ W0,w.alloc (.cells (lcs gL pL) 41) = W0:=⟨_,rfl⟩
    have hB0:Below w.heap.size w W0:=by rw [← hW0];exact (Below.refl _ w).alloc (Nat.le_refl _) _
    have hsz0:w.heap.size < W0.heap.size:=by rw [← hW0];simp
    have hblk:∀ w1,Below W0.heap.size W0 w1 → w1.heap[w.heap.size]? = some (.cells (lcs gL pL) 41 (0,0)):=by
      intro w1 hB
      refine (hB.block _ hsz0).trans ?_
      rw [← hW0];exact World.alloc_heap_new w _
    have hva:=fun (w1:World) (hB:Below W0.heap.size W0 w1) => Za0 gL pL w1 (Z1s hT (hB0.trans (hB.mono hB0.size))) (hL.below (hB0.trans (hB.mono hB0.size))) hg.1.1 hg.1.2
    have hnr:=fun (w1:World) (hB:Below W0.heap.size W0 w1) => Z6b gL pL w1 (Z1s hT (hB0.trans (hB.mono hB0.size))) (hL.below (hB0.trans (hB.mono hB0.size))) hg.1.1
    have hrd:=fun (B mb:Nat) (w1:World) (hB:Below W0.heap.size W0 w1) (hR:Z8z w1 B mb gL.v2 ((decodeGo gL.vt).1:Int)) => Zb4 B mb gL.v2 ((decodeGo gL.vt).1:Int) a1 w1 (Z1s hT (hB0.trans (hB.mono hB0.size))) hR hg.2
    obtain ⟨S,hS⟩:∃ S:Int,((decodeGo gL.vt).1:Int) = S:=⟨_,rfl⟩;rw [hS] at hnr hrd;have hva':=am hva;have hnr':=am hnr;have hrd':=am hrd;have hB0':=am hB0;have hblk':=am hblk;have hsz0':=am hsz0;have hG:=am hg.2;have HB0:Below W0.heap.size W0 W0:=Below.refl _ _;have hbk2:=hblk _ HB0;clear hT hL hg hva hnr hrd hB0 hblk hsz0;unfold Zgi at hr;rw [hS] at hr;clear hS
    cases cv:Z3u gL.v2 gL.v9 gL.vt with
    | false =>
      rw [cv,if_neg (by decide)] at hr;obtain ⟨e1,e2⟩:=Prod.mk.inj hr;subst e1 e2;clear hr;go_enter Tryz.func14,Tryz.ntmps14
      go_wp2_with (first | ((with_reducible refine Z0z (t:=41) (p:=2) rfl ?_);(try (refine gate_guard (by rfl) ?_;dsimp only));refine wpList_load_row rfl 41 (.tmp 2) rfl w.heap.size rfl 41 _ (0,0) _ hbk2 Tryz.underlying41 rfl (by kernel_rfl) ?_) | (go_at_call 17;with_reducible refine (hva'.out _ HB0).mono ?_;rw [cv];rintro e w2 ⟨rfl,hB2⟩;clear hbk2;have HB2:=HB0.trans (hB2.mono HB0.size);have hbk2:=hblk'.out _ HB2))
      go_ret2;exact ⟨_,rfl,Kd.R_nil _ _ _ _ _,hB0'.out.trans (HB2.mono hB0'.out.size)⟩
    | true =>
      rw [cv,if_pos rfl] at hr
      cases ct:Z7s gL.v2 S a1 with
      | none =>
        rw [ct] at hr;obtain ⟨e1,e2⟩:=Prod.mk.inj hr;subst e1 e2;clear hr;have ma4_:=trivial;have ma5_:=trivial;exact Zj0
      | some OUT =>
        rw [ct] at hr
        by_cases h1:OUT.length = 1
        · obtain ⟨ws,rfl⟩:∃ ws,OUT = [ws]:=List.length_eq_one_iff.1 h1
          simp only at hr;clear h1
          by_cases h40:40 < ws.length
          · have h40':(40:Int) < (ws.length:Int):=by omega
            rw [if_pos h40] at hr;obtain ⟨e1,e2⟩:=Prod.mk.inj hr;subst e1 e2;clear hr h40;have ma1_:=trivial;have ma3_:=trivial;exact Zj0
          · have h40':¬ (40:Int) < (ws.length:Int):=by omega
            rw [if_neg h40] at hr;obtain ⟨e1,e2⟩:=Prod.mk.inj hr;subst e1 e2;clear hr h40;go_enter Tryz.func14,Tryz.ntmps14
            go_wp2_with (first | ((with_reducible refine Z0z (t:=41) (p:=2) rfl ?_);(try (refine gate_guard (by rfl) ?_;dsimp only));refine wpList_load_row rfl 41 (.tmp 2) rfl w.heap.size rfl 41 _ (0,0) _ hbk2 Tryz.underlying41 rfl (by kernel_rfl) ?_) | (go_at_call 17;with_reducible refine (hva'.out _ HB0).mono ?_;rw [cv];rintro e w2 ⟨rfl,hB2⟩;clear hbk2;have HB2:=HB0.trans (hB2.mono HB0.size);have hbk2:=hblk'.out _ HB2) | (go_at_call 25;with_reducible refine (hnr'.out _ HB2).mono ?_;rintro e w3 ⟨B,mb,rfl,hRA,hB3⟩;clear hbk2;have HB3:=HB2.trans (hB3.mono HB2.size);have hRA':=am hRA;clear hRA;have hbk2:=hblk'.out _ HB3) | (go_at_call 26;with_reducible refine (hrd'.out B mb _ HB3 hRA'.out).mono ?_;rw [ct];rintro e w4 ⟨v4,b4,rfl,⟨hb5,hR4⟩,hB4⟩;subst hb5;obtain ⟨A4,c4,e4⟩:=Kd.R_slice hR4;subst e4;have hR4':=am (show Kd.R (Kd.slice 9 Kd.string) 31 w4 w3.heap.size (fun _ => True) (.slice A4 [ws].length c4) [ws] from hR4);clear hR4;obtain ⟨g4,e4,A9,c9,hx0,hR9⟩:=Zmq hR4'.out 0 (by simp) ws rfl;subst e4;have hR9':=am hR9;clear hR9;have HB4:=HB3.trans (hB4.mono HB3.size);clear hbk2;have hbk2:=hblk'.out _ HB4))
            go_ret2;exact ⟨_,rfl,Kd.R_lower hR9'.out (Nat.le_trans hB0'.out.size HB3.size),hB0'.out.trans (HB4.mono hB0'.out.size)⟩
        · have h1':((OUT.length:Int) == 1) = false:=beq_eq_false_iff_ne.2 (by omega)
          have hr2:(([],3):List ByteArray × Int) = (r1,r2):=by
            rw [← hr]
            cases OUT with
            | nil => rfl
            | cons a t =>
              cases t with
              | nil => exact absurd rfl h1
              | cons b t => rfl
          obtain ⟨e1,e2⟩:=Prod.mk.inj hr2;subst e1 e2;clear hr hr2 h1;have ma1_:=trivial;have ma2_:=trivial;exact Zj0
  · rw [if_neg hg] at h;cases h
theorem Z6j (L:Int → Bool) (stop:Int):∀ (R:List Int) (ws:List (List Int)) (cur:List Int) (ended blank:Bool) (o:List (List (List Int))),Z3l L stop R ws cur ended blank = some o → (∀ x ∈ ws,x.length ≤ 40) → cur.length ≤ 40 → ∀ s ∈ o,s.length ≤ ws.length + R.length + 1 ∧ ∀ x ∈ s,x.length ≤ 40
  | [],ws,cur,ended,blank,o,h,hw,hc => by
    intro s hs;rw [Z3l] at h
    split at h
    · cases h;cases hs
    · cases h
  | r :: t,ws,cur,ended,blank,o,h,hw,hc => by
    intro s hs;rw [Z3l] at h
    split at h
    · rename_i c
      have ih:=Z6j L stop t ws (cur ++ [r]) false false o h hw Gc14 s hs;exact ⟨by rw [List.length_cons];omega,ih.2⟩
    · split at h
      · have hw2:∀ x ∈ (if 0 < cur.length then ws ++ [cur] else ws),x.length ≤ 40:=by
          intro x hx
          split at hx
          · rcases List.mem_append.1 hx with h9 | h9
            · exact hw x h9
            · rw [List.mem_singleton.1 h9];exact hc
          · exact hw x hx
        have ih:=Z6j L stop t _ [] false true o h hw2 (by simp) s hs
        refine ⟨?_,ih.2⟩
        have h1:=ih.1;rw [List.length_cons]
        have h2:(if 0 < cur.length then ws ++ [cur] else ws).length ≤ ws.length + 1:=by split <;> simp
        omega
      · split at h
        · obtain ⟨o',ho',rfl⟩:=Option.map_eq_some_iff.1 h
          rcases List.mem_cons.1 hs with rfl | hs
          · refine ⟨by rw [List.length_append,List.length_singleton,List.length_cons];omega,?_⟩
            intro x hx
            rcases List.mem_append.1 hx with h9 | h9
            · exact hw x h9
            · rw [List.mem_singleton.1 h9];exact hc
          · have ih:=Z6j L stop t [] [] true blank o' ho' (by simp) (by simp) s hs
            exact ⟨by rw [List.length_cons];have:=ih.1;simp at this;omega,ih.2⟩
        · cases h
theorem Zej {l:List S68} {stop:Int} {text:ByteArray} {o:List (List ByteArray)} (h:Z7s l stop text = some o):∀ s ∈ o,s.length ≤ text.size + 1 ∧ ∀ x ∈ s,x.size ≤ 160:=by
  unfold Z7s at h
  split at h
  · obtain ⟨o',ho',rfl⟩:=Option.map_eq_some_iff.1 h
    intro s hs;obtain ⟨s',hs',rfl⟩:=List.mem_map.1 hs;obtain ⟨h1,h2⟩:=Z6j (isL l) stop (Z0d text) [] [] false true o' ho' (by simp) (by simp) s' hs';have h3:=Z23 text;rw [List.length_nil,Nat.zero_add] at h1
    refine ⟨by rw [List.length_map];omega,?_⟩
    intro x hx;obtain ⟨x',hx',rfl⟩:=List.mem_map.1 hx;have:=Z6a x';have:=h2 x' hx';omega
  · cases h
theorem Zj1 (m:Nat):∀ (xs:List (List UInt8)),(∀ x ∈ xs,x.length ≤ m) → lens xs ≤ m * xs.length
  | [],_ => by simp [lens]
  | x :: xs,h => by
    have ih:=Zj1 m xs (fun y hy => h y (by simp [hy]));have h1:=h x (by simp);unfold lens at ih ⊢;rw [List.map_cons,List.sum_cons,List.length_cons,Nat.mul_succ];omega
def Z49 (ws:List ByteArray):ByteArray:=⟨(Lib.join (ws.map (·.data.toList)) [32]).toArray⟩
theorem Z4j (ws:List ByteArray) (n:Nat) (h:∀ x ∈ ws,x.size ≤ n):(Z49 ws).size ≤ (n + 1) * ws.length:=by
  have e:(Z49 ws).size = (Lib.join (ws.map (·.data.toList)) [32]).length:=by unfold Z49;simp [ByteArray.size]
  rw [e]
  cases ws with
  | nil => simp [join_nil]
  | cons w ws =>
    rw [List.map_cons,join_length,List.length_map]
    have hl:=Zj1 n (w.data.toList :: ws.map (·.data.toList)) (fun x hx => by
      rcases List.mem_cons.1 hx with rfl | hx
      · rw [sizeL];exact h w (by simp)
      · obtain ⟨y,hy,rfl⟩:=List.mem_map.1 hx
        rw [sizeL];exact h y (by simp [hy]))
    rw [List.length_cons,List.length_map] at hl;have e1:([32]:List UInt8).length = 1:=rfl;have e2:(w :: ws).length = ws.length + 1:=rfl;rw [e1,Nat.one_mul,e2,Nat.add_mul n 1,Nat.one_mul];generalize n * (ws.length + 1) = q at hl ⊢;omega
theorem Znx (ws:List ByteArray) (n:Nat) (h:∀ x ∈ ws,x.size ≤ 160) (hn:ws.length ≤ 4294967296):Z2j.f ws ⟨#[32]⟩ = some (Z49 ws):=by
  have h1:=Z4j ws 160 h
  have e:(Z49 ws).size = (Lib.join (ws.map (·.data.toList)) [32]).length:=by unfold Z49;simp [ByteArray.size]
  unfold Z2j.f;rw [if_pos ⟨by omega,by show (Lib.join (ws.map (·.data.toList)) [32]).length ≤ _;rw [← e];omega⟩];rfl
def Z6m (stop:ByteArray) (ws:List ByteArray):ByteArray:=Z49 ws ++ stop
def Zb7 (l:List S68) (rules:List S73) (stop text:ByteArray):List ByteArray × Int:=if Z3u l rules stop = true then (if 4096 < text.size then ([],2) else match Z7s l ((decodeGo stop).1:Int) text with | some o => if 8 < o.length then ([],2) else (o.map (Z6m stop),0) | none => ([],3)) else ([],1)
def Z2r.f (gL:Lg) (a1:ByteArray):Option (List ByteArray × Int):=if (Z1z gL.v2 = true ∧ gL.v9.all Z2k = true) ∧ a1.size ≤ 1099511627776 then some (Zb7 gL.v2 gL.v9 gL.vt a1) else none
theorem Z7v {l:List S68} {rules:List S73} {s:ByteArray} (h:Z3u l rules s = true):s.size ≤ 4:=by
  unfold Z3u at h;rw [Bool.and_eq_true] at h;have h1:=(Za1 h.1).1;have h2:=(encodeRuneZ_length ((decodeGo s).1:Int)).2;rw [← sizeL,h1];unfold encodeRune;rw [List.length_map];omega
theorem Zlq {p:Prop} (h:p:=by
  go_enter Tryz.func13,Tryz.ntmps13
  go_wp2_with (first | ((with_reducible refine Z0z (t:=41) (p:=2) rfl ?_);(try (refine gate_guard (by rfl) ?_;dsimp only));refine wpList_load_row rfl 41 (.tmp 2) rfl w.heap.size rfl 41 _ (0,0) _ hbk2 Tryz.underlying41 rfl (by kernel_rfl) ?_) | (go_at_call 17;with_reducible refine (hva'.out _ HB0).mono ?_;rw [cv];rintro e z1_ ⟨rfl,z2_⟩;clear hbk2;have z3_:=HB0.trans (z2_.mono HB0.size);have hbk2:=hblk'.out _ z3_))
  go_ret2
  exact ⟨_,rfl,Kd.R_nil _ _ _ _ _,hB0'.out.trans (z3_.mono hB0'.out.size)⟩):p:=h
set_option maxRecDepth 1000000 in
theorem Zj2 {p:Prop} (h:p:=by
  go_enter Tryz.func13,Tryz.ntmps13
  go_wp2_with (first | ((with_reducible refine Z0z (t:=41) (p:=2) rfl ?_);(try (refine gate_guard (by rfl) ?_;dsimp only));refine wpList_load_row rfl 41 (.tmp 2) rfl w.heap.size rfl 41 _ (0,0) _ hbk2 Tryz.underlying41 rfl (by kernel_rfl) ?_) | (go_at_call 17;with_reducible refine (hva'.out _ HB0).mono ?_;rw [cv];rintro e z1_ ⟨rfl,z2_⟩;clear hbk2;have z3_:=HB0.trans (z2_.mono HB0.size);have hbk2:=hblk'.out _ z3_) | (go_at_call 25;with_reducible refine (hnr'.out _ z3_).mono ?_;rintro e z4_ ⟨B,mb,rfl,hRA,z5_⟩;clear hbk2;have z6_:=z3_.trans (z5_.mono z3_.size);have hRA':=am hRA;clear hRA;have hbk2:=hblk'.out _ z6_) | (go_at_call 26;with_reducible refine (hrd'.out B mb _ z6_ hRA'.out).mono ?_;rw [ct];rintro e z7_ ⟨z8_,z9_,rfl,⟨z10_,z11_⟩,z12_⟩;subst z10_;obtain ⟨z13_,z14_,z15_⟩:=Kd.R_slice z11_;subst z15_;have z16_:=am (show Kd.R (Kd.slice 9 Kd.string) 31 z7_ z4_.heap.size (fun _ => True) (.slice z13_ OUT.length z14_) OUT from z11_);clear z11_;have z17_:=z6_.trans (z12_.mono z6_.size);clear hbk2;have hbk2:=hblk'.out _ z17_))
  first
  | (have mk_:=mk0_
     go_loopg [8,10,31] OUT.length (fun kq z18_ z19_ z20_ w' => ∃ i:Nat,z20_ = .int .i64 (i:Int) ∧ Aside0 (i + kq = OUT.length) ∧ Aside0 (Kd.R Kd.string 9 w' z7_.heap.size (fun _ => True) z18_ ((OUT.take i).map (Z6m gL.vt))) ∧ Aside0 (Below z7_.heap.size z7_ w'))
     case atStart => exact ⟨0,rfl,⟨by omega⟩,⟨Kd.R_nil _ _ _ _ _⟩,⟨Below.refl _ _⟩⟩
     case round =>
       obtain ⟨i,rfl,hik,hO,HB⟩:=hrel;obtain ⟨z21_,z22_,z23_⟩:=Kd.R_slice hO.out;subst z23_
       cases gk with
       | zero =>
         have hcd:¬ ((i:Int) < (OUT.length:Int)):=by have:=hik.out;omega
         have z24_:=am (show Kd.R Kd.string 9 wr z7_.heap.size (fun _ => True) (.slice z21_ ((OUT.take i).map (Z6m gL.vt)).length z22_) r1 from by rw [← hr1.out];have z25_:=hO.out;rw [List.take_of_length_le (by have:=hik.out;omega)] at z25_ ⊢;exact z25_);obtain ⟨z26_,z27_⟩:∃ n,((OUT.take i).map (Z6m gL.vt)).length = n:=⟨_,rfl⟩;rw [z27_] at z24_ ⊢;clear z27_;go_wp2;go_ret2;exact ⟨_,rfl,Kd.R_lower z24_.out (Nat.le_trans hB0'.out.size z17_.size),hB0'.out.trans ((z17_.trans (HB.out.mono z17_.size)).mono hB0'.out.size)⟩
       | succ g1 =>
         have hcd:(i:Int) < (OUT.length:Int):=by have:=hik.out;omega
         have hlt:i < OUT.length:=by omega
         obtain ⟨ws,hws⟩:∃ ws,OUT[i]? = some ws:=⟨_,List.getElem?_eq_getElem hlt⟩;obtain ⟨z28_,z15_,z29_,z30_,z31_,z32_⟩:=Zmq z16_.out i hlt ws hws;subst z15_;have z33_:=(HB.out.cell (World.block_lt_of_cell? _ _ z31_)).trans z31_;have z34_:=am (Kd.R_below z32_ HB.out);have hmem:ws ∈ OUT:=List.mem_of_getElem? hws;have hbw:=hbd.out ws hmem;have hjf:=Znx ws 0 hbw.2 (by have:=h4s.out;omega);have hjs:=Z4j ws 160 hbw.2;obtain ⟨Wd,hWd⟩:∃ Wd,wr.drew = Wd:=⟨_,rfl⟩;have hRd:=Kd.R_drew z34_.out;have hOd:=Kd.R_drew hO.out;have hBd:=HB.out.drew;rw [hWd] at hRd hOd hBd;have hrr:=Kd.R_reads' hRd;have hj:=Z2j.calls z29_ z30_ ws ⟨#[32]⟩ (Z49 ws) Wd hrr.2.2 hrr.2.1 hjf;obtain ⟨JN,hJN⟩:∃ j,Z49 ws = j:=⟨_,rfl⟩;rw [hJN] at hj hjs
         have hadd:¬ 9223372036854775807 < JN.size + gL.vt.size:=by have:=hst4.out;have:=hbw.1;have:=h4s.out;omega
         have z35_:=z17_.trans (HB.out.mono z17_.size)
         have z36_:wr.cell? ⟨w.heap.size,29,none⟩ = some (.string gL.vt):=by rw [blk_cell (hblk'.out _ z35_)];rfl
         have z37_:Wd.cell? ⟨w.heap.size,29,none⟩ = some (.string gL.vt):=by rw [← hWd];exact z36_
         have htk:Aside0 ((OUT.take (i + 1)).map (Z6m gL.vt) = (OUT.take i).map (Z6m gL.vt) ++ [JN ++ gL.vt]):=⟨by rw [List.take_add_one,hws,List.map_append];simp [Z6m,hJN]⟩;obtain ⟨z38_,z39_⟩:∃ X,(OUT.take i).map (Z6m gL.vt) = X:=⟨_,rfl⟩;have z40_:=am (show z38_.length ≤ 8 by rw [← z39_,List.length_map,List.length_take];have:=h8s.out;omega);have z41_:=am z39_;rw [z39_] at hOd ⊢;have hOd':=am hOd;have hBd':=am hBd;have hfin:=am (Z1a (i:=i) (n:=OUT.length) hlt (by have:=h8s.out;omega));clear z31_ z32_ hmem hbw hjf hjs hRd hOd hBd hrr hJN hws z39_ hlt;go_wp2
         refine start_ (n:=9) (S:=fun w' => w'.cell? ⟨w.heap.size,29,none⟩ = some (.string gL.vt)) (ds:=[]) #[false,false,false,false,false,false,false,false,false] (by kernel_rfl) rfl rfl (z36_) (fun hHeld => ?_)
         rw [hWd] at hHeld ⊢
         refine pK 0 35 ?_
         refine pK 1 36 ?_
         refine pK 3 38 ?_
         refine tKt 4 39 hHeld ?_
         refine one_ (i:=2) (N:=some 37) #[true,true,true,true,true,false,false,false,false] rfl rfl (by kernel_rfl) (by decide) (fun K hK => ?_)
         refine goes_ Tryz.func20 (by kernel_rfl) rfl #[.slice z29_ ws.length z30_,.string ⟨#[32]⟩] (by rfl) rfl rfl Gc24 ?_
         with_reducible refine (hj).mono ?_
         rintro e z42_ ⟨rfl,z43_⟩
         refine ⟨_,rfl,?_⟩
         have z44_:=(z43_.cell (World.block_lt_of_cell? _ _ z37_)).trans z37_;have z45_:=am (Kd.R_below hOd'.out z43_);have z46_:=am (hBd'.out.trans (z43_.mono hBd'.out.size))
         refine hK.out _ _ (z44_) (fun hHeld => ?_)
         clear hK K
         refine nR 37 ?_
         refine pK 5 40 ?_
         refine one_ (i:=6) (N:=some 41) #[true,true,true,true,true,true,true,false,false] rfl rfl (by kernel_rfl) (by decide) (fun K hK => ?_)
         refine value_ (w1:=?_) (v:=?_) (by rfl) rfl ?_ ?_
         rotate_left 2
         · go_simp
           constructor
           · rfl
           · rfl
         refine hK.out _ _ (Z2i _ z44_) (fun hHeld => ?_)
         clear hK K
         refine nR 41 ?_
         refine one_ (i:=7) (N:=some 42) #[true,true,true,true,true,true,true,true,false] rfl rfl (by kernel_rfl) (by decide) (fun K hK => ?_)
         refine Kd.R_append_step Kd.string (w0:=z7_) z7_.heap.size (by rfl) (.tmp 35) (.tmp 41) 31 9 (.string ⟨#[]⟩) 16 rfl Tryz.underlying31 Z95 rfl (by decide) (by omega) (.slice z21_ z38_.length z22_) z38_ (JN ++ gL.vt) [.string (JN ++ gL.vt)] (fun _ => True) (fun _ => False) rfl rfl ?aP (fun _ hk => hk.elim) (fun _ _ => trivial) ?aO ?aB ?aS ?aL ?_
         (case aP => exact rfl);(case aO => exact z45_.out);(case aB => exact z46_.out);(case aS => exact z46_.out.size);(case aL => have:=z40_.out;omega);intro z47_ z48_ z49_ z50_ z51_ z52_
         have z53_:z48_.cell? ⟨w.heap.size,29,none⟩ = some (.string gL.vt):=by rw [blk_cell (hblk'.out _ (z17_.trans (z50_.mono z17_.size)))];rfl
         have z54_:=am z49_;have z55_:=am z50_;clear z49_ z50_ z51_ z52_
         refine hK.out _ _ (z53_) (fun hHeld => ?_)
         clear hK K
         refine nR 42 ?_
         refine pK 8 8 ?_
         refine done_ (by kernel_rfl) ?_
         go_wp2
         go_roundg g1
         case measure => omega
         case rel => exact ⟨i + 1,by first | rw [hfin.out] | rfl,⟨by have:=hik.out;omega⟩,⟨by rw [htk.out,z41_.out];exact z54_.out⟩,z55_⟩)
  | (have mk_:=mk1_
     go_ret2
     exact ⟨_,rfl,Kd.R_nil _ _ _ _ _,hB0'.out.trans (z17_.mono hB0'.out.size)⟩)):p:=h
set_option maxRecDepth 100000 in
set_option maxHeartbeats 4000000 in
theorem Z2r.calls (gL:Lg) (pL:La) (a1:ByteArray) (r1:List ByteArray) (r2:Int) (w:World) (hT:Tabs w) (hL:Z2o gL pL w) (h:Z2r.f gL a1 = some (r1,r2)) :
    Calls Tryz.prog 13 #[.agg (lcs gL pL),.string a1] w fun e w' => ∃ v0_:Value,e = .returned (.tuple #[v0_,.int .i64 r2]) ∧ Kd.R Kd.string 9 w' w.heap.size (fun _ => True) v0_ r1 ∧ Below w.heap.size w w':=by
  unfold Z2r.f at h
  by_cases hg:(Z1z gL.v2 = true ∧ gL.v9.all Z2k = true) ∧ a1.size ≤ 1099511627776
  · rw [if_pos hg] at h
    have hr:=Option.some.inj h;clear h;have hu41:=Tryz.underlying41;obtain ⟨W0,hW0⟩:∃ W0,w.alloc (.cells (lcs gL pL) 41) = W0:=⟨_,rfl⟩
    have hB0:Below w.heap.size w W0:=by rw [← hW0];exact (Below.refl _ w).alloc (Nat.le_refl _) _
    have hsz0:w.heap.size < W0.heap.size:=by rw [← hW0];simp
    have hblk:∀ w1,Below W0.heap.size W0 w1 → w1.heap[w.heap.size]? = some (.cells (lcs gL pL) 41 (0,0)):=by
      intro w1 hB
      refine (hB.block _ hsz0).trans ?_
      rw [← hW0];exact World.alloc_heap_new w _
    have hva:=fun (w1:World) (hB:Below W0.heap.size W0 w1) => Za0 gL pL w1 (Z1s hT (hB0.trans (hB.mono hB0.size))) (hL.below (hB0.trans (hB.mono hB0.size))) hg.1.1 hg.1.2
    have hnr:=fun (w1:World) (hB:Below W0.heap.size W0 w1) => Z6b gL pL w1 (Z1s hT (hB0.trans (hB.mono hB0.size))) (hL.below (hB0.trans (hB.mono hB0.size))) hg.1.1
    have hrd:=fun (B mb:Nat) (w1:World) (hB:Below W0.heap.size W0 w1) (hR:Z8z w1 B mb gL.v2 ((decodeGo gL.vt).1:Int)) => Zb4 B mb gL.v2 ((decodeGo gL.vt).1:Int) a1 w1 (Z1s hT (hB0.trans (hB.mono hB0.size))) hR hg.2
    obtain ⟨S,hS⟩:∃ S:Int,((decodeGo gL.vt).1:Int) = S:=⟨_,rfl⟩;rw [hS] at hnr hrd;have hva':=am hva;have hnr':=am hnr;have hrd':=am hrd;have hB0':=am hB0;have hblk':=am hblk;have hsz0':=am hsz0;have hG:=am hg.2;have HB0:Below W0.heap.size W0 W0:=Below.refl _ _;have hbk2:=hblk _ HB0;clear hT hL hg hva hnr hrd hB0 hblk hsz0;unfold Zb7 at hr;rw [hS] at hr;clear hS
    cases cv:Z3u gL.v2 gL.v9 gL.vt with
    | false =>
      rw [cv,if_neg (by decide)] at hr;obtain ⟨e1,e2⟩:=Prod.mk.inj hr;subst e1 e2;clear hr;exact Zlq
    | true =>
      have hst4:=am (Z7v cv);rw [cv,if_pos rfl] at hr
      by_cases h4k:4096 < a1.size
      · have h4k':(4096:Int) < (a1.size:Int):=by omega
        rw [if_pos h4k] at hr;obtain ⟨e1,e2⟩:=Prod.mk.inj hr;subst e1 e2;clear hr h4k;exact Zlq
      · have h4k':¬ (4096:Int) < (a1.size:Int):=by omega
        rw [if_neg h4k] at hr;have h4s:=am (show a1.size ≤ 4096 by omega);clear h4k
        cases ct:Z7s gL.v2 S a1 with
        | none =>
          rw [ct] at hr;obtain ⟨e1,e2⟩:=Prod.mk.inj hr;subst e1 e2;clear hr;go_enter Tryz.func13,Tryz.ntmps13
          go_wp2_with (first | ((with_reducible refine Z0z (t:=41) (p:=2) rfl ?_);(try (refine gate_guard (by rfl) ?_;dsimp only));refine wpList_load_row rfl 41 (.tmp 2) rfl w.heap.size rfl 41 _ (0,0) _ hbk2 Tryz.underlying41 rfl (by kernel_rfl) ?_) | (go_at_call 17;with_reducible refine (hva'.out _ HB0).mono ?_;rw [cv];rintro e w2 ⟨rfl,hB2⟩;clear hbk2;have HB2:=HB0.trans (hB2.mono HB0.size);have hbk2:=hblk'.out _ HB2) | (go_at_call 25;with_reducible refine (hnr'.out _ HB2).mono ?_;rintro e w3 ⟨B,mb,rfl,hRA,hB3⟩;clear hbk2;have HB3:=HB2.trans (hB3.mono HB2.size);have hRA':=am hRA;clear hRA;have hbk2:=hblk'.out _ HB3) | (go_at_call 26;with_reducible refine (hrd'.out B mb _ HB3 hRA'.out).mono ?_;rw [ct];rintro e w4 ⟨v4,b4,rfl,hb4,hB4⟩;have hb5:b4 = false:=hb4;clear hb4;subst hb5;have HB4:=HB3.trans (hB4.mono HB3.size);clear hbk2;have hbk2:=hblk'.out _ HB4))
          go_ret2;exact ⟨_,rfl,Kd.R_nil _ _ _ _ _,hB0'.out.trans (HB4.mono hB0'.out.size)⟩
        | some OUT =>
          have hbd:=am (Zej ct);rw [ct] at hr;simp only at hr
          by_cases h8:8 < OUT.length
          · have h8':(8:Int) < (OUT.length:Int):=by omega
            rw [if_pos h8] at hr;obtain ⟨e1,e2⟩:=Prod.mk.inj hr;subst e1 e2;clear hr h8;have mk1_:=trivial;exact Zj2
          · have h8':¬ (8:Int) < (OUT.length:Int):=by omega
            rw [if_neg h8] at hr;have h8s:=am (show OUT.length ≤ 8 by omega);obtain ⟨e1,e2⟩:=Prod.mk.inj hr;have hr1:=am e1;subst e2;clear hr h8 e1;have mk0_:=trivial;exact Zj2
  · rw [if_neg hg] at h;cases h
end Go.Proofs.YtfbhdjflkaldgaaGreatDoor.Pr

namespace Go.Proofs.YtfbhdjflkaldgaaGreatDoor.Pr
open Go.Proofs.YtfbhdjflkaldgaaGreatDoor.Ct Go.RowKit Go.Proofs.YtfbhdjflkaldgaaGreatDoorW.PrintWords Go.Proofs.YtfbhdjflkaldgaaGreatDoorW.PrintLast Go.Proofs.YtfbhdjflkaldgaaGreatDoorW.PrintMore
attribute [local go_sem] max2_int min2_int max_two min_two max_three min_three max_four min_four
set_option linter.unusedVariables false
set_option linter.unusedSimpArgs false
def Z1n.l0:Nat → List (S68) → List ByteArray → Int → Int → Option (Bool)
 | 0,_,_,_,_ => none
 | k + 1,x0,x7,x8,x9 => if x9 < x8 then (if 0 ≤ x9 then (if x9 < (x7.length:Int) then ((Z29.f x0 (rdOf ByteArray.empty x7 x9)).bind fun t138 => (if t138 = true then (Z1n.l0 k x0 x7 x8 (wrap64 (x9 + 1))) else (some false))) else (none)) else (none)) else (some true)
def Z1n.f (k:Nat) (l0:List (S68)) (l1:List ByteArray):Option (Bool):=Z1n.l0 k l0 l1 (l1.length:Int) 0
set_option maxHeartbeats 8000000 in
set_option maxRecDepth 100000 in
theorem Z1n.calls (k:Nat) (A0:Option Addr) (c0:Nat) (l0:List (S68)) (A1:Option Addr) (c1:Nat) (l1:List ByteArray) (r:Bool) (w:World) (hT:Tabs w) (hr0:Kd.C k68 w A0 l0.length l0) (hc0:l0.length ≤ c0) (hr1:Kd.C Kd.string w A1 l1.length l1) (hc1:l1.length ≤ c1) (h:Z1n.f k l0 l1 = some r) :
 Calls Tryz.prog 32 #[.slice A0 l0.length c0,.slice A1 l1.length c1] w fun e w' => e = .returned (.bool r) ∧ Below w.heap.size w w':=by
 have HT:=am hT;clear hT;have HR0:=am hr0;have HC0:=am hc0;clear hr0 hc0;have HR1:=am hr1;have HC1:=am hc1;clear hr1 hc1;have HB:=am (Below.refl w.heap.size w);have H:(Z1n.l0 k l0 l1 (l1.length:Int) 0) = some r:=h;clear h;have H':=am H;clear H;go_enter Tryz.func32,Tryz.ntmps32;go_wp2
 go_loopg [9] k (fun kq v9 w' => ∃ (x9_1:Int),v9 = .int .i64 x9_1 ∧ Aside0 (Z1n.l0 kq l0 l1 (l1.length:Int) x9_1 = some r) ∧ Aside0 (kq ≤ k) ∧ Aside0 (Below w.heap.size w w'))
 case atStart => exact ⟨(0),tV1,H',⟨Nat.le_refl _⟩,⟨tB HB⟩⟩
 case round =>
  clear H';obtain ⟨x9_1,rfl,HA,HK1,HB⟩:=hrel
  cases gk with
  | zero => exact absurd HA.out (by simp [Z1n.l0])
  | succ k1 =>
   have H:=HA.out;clear HA;simp only [Z1n.l0] at H
   replace H:=iF H;obtain ⟨c3,H⟩ | ⟨c3,H⟩:=H;rotate_left
   ·
    have c3b0:decide (x9_1 < (l1.length:Int)) = false:=decide_eq_false c3;clear c3;obtain rfl:=Option.some.inj H;go_wp2;go_ret;exact ⟨tE,by repeat (first | (with_reducible first | exact HB.out | apply below_alloc | apply pw_below_drewN | apply below_drew1) | exact HB.out)⟩
   have c3b0:decide (x9_1 < (l1.length:Int)) = true:=decide_eq_true c3;clear c3;replace H:=iFn H;obtain ⟨c4,H⟩:=H;have c4b0:decide (0 ≤ x9_1) = true:=decide_eq_true c4;clear c4;replace H:=iFn H;obtain ⟨c5,H⟩:=H;have c5b0:decide (x9_1 < (l1.length:Int)) = true:=decide_eq_true c5;clear c5;replace H:=bI H;obtain ⟨t138,A6,H⟩:=H;(try dsimp only at H)
   replace H:=iT H;obtain ⟨rfl,H⟩ | ⟨rfl,H⟩:=H
   ·
    have H':=am H;clear H;have p137:0 ≤ (x9_1:Int):=oD;have q137:x9_1 < (l1.length:Int):=oD;obtain ⟨ad137,e137,hx137_0⟩:=Kd.at_string HR1.out x9_1 p137 q137;cases e137;replace hx137_0:=celB HB hx137_0;replace p137:=eq_true p137;replace q137:=eq_true q137
    go_wp2_with (first | ((with_reducible refine gate_callee (f:=48) rfl ?_);refine goesL_ (some 15) rfl rfl Tryz.func48 (by kernel_rfl) rfl #[.slice A0 l0.length c0,.string (rdOf ByteArray.empty l1 x9_1)] rfl Gc2 ?_;(with_reducible refine (Z29.calls _ _ l0 (rdOf ByteArray.empty l1 x9_1) true _ ?sT (tC HR0 HB) HC0.out A6.out).mono ?_);(case sT => exact Gc1);rintro e w8 ⟨rfl,hb⟩;refine ⟨_,rfl,?_⟩;have n0_:=am (below_step (tB HB) hb);revert n0_;clear HB;intro HB;(try clear hb);(try clear hb2);(try clear hk);(try clear hi)))
    go_roundg k1
    case measure => have:=HK1.out;omega
    case rel => exact ⟨(wrap64 (x9_1 + 1)),tV1,H',⟨by have:=HK1.out;omega⟩,⟨tB HB⟩⟩
   ·
    obtain rfl:=Option.some.inj H;have p137:0 ≤ (x9_1:Int):=oD;have q137:x9_1 < (l1.length:Int):=oD;obtain ⟨ad137,e137,hx137_0⟩:=Kd.at_string HR1.out x9_1 p137 q137;cases e137;replace hx137_0:=celB HB hx137_0;replace p137:=eq_true p137;replace q137:=eq_true q137
    go_wp2_with (first | ((with_reducible refine gate_callee (f:=48) rfl ?_);refine goesL_ (some 15) rfl rfl Tryz.func48 (by kernel_rfl) rfl #[.slice A0 l0.length c0,.string (rdOf ByteArray.empty l1 x9_1)] rfl Gc2 ?_;(with_reducible refine (Z29.calls _ _ l0 (rdOf ByteArray.empty l1 x9_1) false _ ?sT (tC HR0 HB) HC0.out A6.out).mono ?_);(case sT => exact Gc1);rintro e w9 ⟨rfl,hb⟩;refine ⟨_,rfl,?_⟩;have n0_:=am (below_step (tB HB) hb);revert n0_;clear HB;intro HB;(try clear hb);(try clear hb2);(try clear hk);(try clear hi)))
    go_ret;exact ⟨tE,by repeat (first | (with_reducible first | exact HB.out | apply below_alloc | apply pw_below_drewN | apply below_drew1) | exact HB.out)⟩
end Go.Proofs.YtfbhdjflkaldgaaGreatDoor.Pr

namespace Go.Proofs.YtfbhdjflkaldgaaGreatDoor.Bld
open Go.RowKit
set_option linter.unusedVariables false
theorem Za2:(Tryz.prog.info? 95).map (·.size) = some 2:=by kernel_rfl
theorem Zek:liesAt Tryz.prog Tryz.prog.depth 95 (2 / Tryz.prog.cellsOf 95) 0 95 1 = true:=by kernel_rfl
set_option maxRecDepth 100000 in
theorem Zap (b:Nat) (w:World) (h0:w.cell? ⟨b,0,none⟩ = some (.pointer (some ⟨b,0,none⟩))) :
    Calls Tryz.prog 56 #[.pointer (some ⟨b,0,none⟩)] w fun e w' => e = .returned (.tuple #[]) ∧ w' = w:=by
  obtain ⟨j,hj,hjs⟩:=Option.map_eq_some_iff.1 Za2
  have hn:∀ w,(binOp .neq 92 (.pointer (some ⟨b,0,none⟩)) (.pointer (some ⟨b,0,none⟩))).run Tryz.prog w = .ok (.bool false) w:=fun w => Lib.run_neq_ptr_same w ⟨b,0,none⟩ Tryz.underlying92 hj
  go_enter Tryz.func56,Tryz.ntmps56;go_wp2
  go_end0
  exact ⟨rfl,rfl⟩
set_option maxRecDepth 100000 in
theorem Za3 (b:Nat) (w:World) (h0:w.cell? ⟨b,0,none⟩ = some (.pointer none)) (hsh:w.shape? b = some (95,2)) (hfz:w.frozen? ⟨b,0,none⟩ = false) :
    Calls Tryz.prog 56 #[.pointer (some ⟨b,0,none⟩)] w fun e w' => e = .returned (.tuple #[]) ∧ w' = w.setCell ⟨b,0,none⟩ (.pointer (some ⟨b,0,none⟩)):=by
  obtain ⟨j,hj,hjs⟩:=Option.map_eq_some_iff.1 Za2
  have hn:∀ w,(binOp .neq 92 (.pointer (some ⟨b,0,none⟩)) (.pointer (some ⟨b,0,none⟩))).run Tryz.prog w = .ok (.bool false) w:=fun w => Lib.run_neq_ptr_same w ⟨b,0,none⟩ Tryz.underlying92 hj
  go_enter Tryz.func56,Tryz.ntmps56;go_wp2;rw [Lib.run_to_unsafe w ⟨b,0,none⟩ Tryz.underlying92 Tryz.underlying134 hj (by rw [hjs];decide) hsh (Nat.zero_lt_succ 1)];simp only [Result.andThen];rw [Oper.upon_value];go_wp2;rw [run_callFunc_extern Tryz.func75 (by kernel_rfl) (by kernel_rfl) (by kernel_rfl) (e:=Extern.AbiNoEscape.same) (by kernel_rfl)];rw [Lib.run_noEscape];simp only [Result.andThen];rw [Oper.upon_value];go_wp2;rw [Lib.run_from_unsafe w ⟨b,0,none⟩ Tryz.underlying134 Tryz.underlying92 hj hsh Zek];simp only [Result.andThen];rw [Oper.upon_value];go_wp2
  go_end0
  exact ⟨rfl,rfl⟩
theorem Zd3 (B b:Nat) (bs:List Value) (w:World) (h:Lib.IsBuilderF 95 5 B b bs w) :
    Calls Tryz.prog 56 #[.pointer (some ⟨b,0,none⟩)] w fun e w' => e = .returned (.tuple #[]) ∧ (Lib.BuilderAtF 95 5 B b (.pointer (some ⟨b,0,none⟩)) bs w' ∧ Below B w w' ∧ Lib.OthersKept 5 (some b) w w'):=by
  rcases h with h | h
  · refine (Za3 b w h.cell0 h.shape h.frozen0).mono ?_
    rintro e w' ⟨rfl,rfl⟩;exact ⟨rfl,h.used _,(Below.refl B w).setCell (p:=⟨b,0,none⟩) h.1 _,(Lib.OthersKept.refl _ _ w).setCell ⟨b,0,none⟩ rfl _⟩
  · refine (Zap b w h.cell0).mono ?_
    rintro e w' ⟨rfl,rfl⟩;exact ⟨rfl,h,Below.refl B _,Lib.OthersKept.refl _ _ _⟩
set_option maxHeartbeats 2000000 in
set_option maxRecDepth 100000 in
theorem writeRune (B b:Nat) (bs:List Value) (r:Int) (hr0 : -2147483648 ≤ r) (hr1:r ≤ 2147483647) (w:World) (h:Lib.IsBuilderF 95 5 B b bs w) (hlen:bs.length + 4 ≤ 140737488355328) (hBw:B ≤ w.heap.size) :
    Calls Tryz.prog 74 #[.pointer (some ⟨b,0,none⟩),.int .i32 r] w fun e w' => ∃ v,e = .returned v ∧ (Lib.BuilderAtF 95 5 B b (.pointer (some ⟨b,0,none⟩)) (bs ++ Lib.runeCells r) w' ∧ Below B w w' ∧ Lib.OthersKept 5 (some b) w w'):=by
  have hk4:=Lib.runeCells_le r;go_enter Tryz.func74,Tryz.ntmps74
  go_wp2_with (go_at_call 56;refine (Zd3 B b bs _ h).mono ?_)
  rintro e w1 ⟨rfl,h1,hb1,hk1⟩;obtain ⟨hB,v,hbk,hown,hne⟩:=h1
  obtain ⟨ao,cap,rfl⟩:∃ ao cap,v = .slice ao bs.length cap:=by
    rcases hown.2 with ⟨hv,h0⟩ | ⟨g,cap,cur,fz,hv,_⟩
    · exact ⟨none,0,by rw [hv,h0]⟩
    · exact ⟨_,_,hv⟩
  have c0:w1.cell? ⟨b,0,none⟩ = some (.pointer (some ⟨b,0,none⟩)):=by rw [Lib.cell_of_heap hbk];rfl
  have c1:w1.cell? ⟨b,1,none⟩ = some (.slice ao bs.length cap):=by rw [Lib.cell_of_heap hbk];rfl
  go_wp2_with (go_at_call 89;refine (Tryz.utf8_AppendRune_row B _ bs.length bs r hr0 hr1 _ hown hlen (by have:=hb1.size;omega)).mono ?_)
  rintro e w2 ⟨v',rfl,hown',o,hgrow⟩
  have hlt:b < w1.heap.size:=by
    rcases Nat.lt_or_ge b w1.heap.size with h' | h'
    · exact h'
    · simp [Array.getElem?_eq_none h'] at hbk
  have hb2:w2.heap[b]? = some (.cells #[.pointer (some ⟨b,0,none⟩),.slice ao bs.length cap] 95 (0,0)):=by
    rw [hgrow.block b (by simp;omega) (fun e => hne e.symm),Lib.alloc_old w1 _ b hlt];exact hbk
  have d0:w2.cell? ⟨b,0,none⟩ = some (.pointer (some ⟨b,0,none⟩)):=by rw [Lib.cell_of_heap hb2];rfl
  have d1:w2.cell? ⟨b,1,none⟩ = some (.slice ao bs.length cap):=by rw [Lib.cell_of_heap hb2];rfl
  have f1:w2.frozen? ⟨b,1,none⟩ = false:=Lib.frozen_of_heap hb2 1
  obtain ⟨g,cap',rfl⟩:∃ g cap',v' = .slice (some ⟨g,0,none⟩) (bs.length + (Lib.runeCells r).length) cap':=by
    rcases hown'.2 with ⟨_,h0⟩ | ⟨g,cap',cur,fz,hv,_⟩
    · omega
    · exact ⟨g,cap',hv⟩
  go_wp2;go_ret2
  refine ⟨_,rfl,?_,?_,((hk1.alloc _).grown hgrow (Lib.ownsRowF_kind (hown.alloc _))).setCell ⟨b,1,none⟩ rfl _⟩
  · exact Lib.BuilderAtF.put (T:=95) (e:=5) hB hb2 (bs':=bs ++ Lib.runeCells r) (by simpa using hown') (by decide)
  · exact ((hb1.alloc (by have:=hb1.size;omega) _).grown hgrow (by have:=hb1.size;simp;omega) (fun k hk => (hown.lt k hk).1)).setCell (p:=⟨b,1,none⟩) hB _
end Go.Proofs.YtfbhdjflkaldgaaGreatDoor.Bld
