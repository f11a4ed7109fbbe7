/- Several texts in one: Tab, LibU, AlphW, PrF28, PrF65, PrF47, PrF27, OrP, AlphV, PrF39, Ovr. -/
import Derived.Test.YtfbhdjflkaldgaaGreatDoorMg2
import Derived.Below
import Derived.Test.YtfbhdjflkaldgaaGreatDoorMg1
import Derived.Laws.Runes
import Derived.Laws.AppendOwn
import Derived.RangeFuncBox
/- The tables of unicode/utf8 lie in the world. -/
/- unicode/utf8 and strings, in the printer's form: by the shelf's contracts. -/
/- alphabet.IsWord. -/
/- alphabet.Valid. -/
/- The reference's Over: the places of a string's runes. -/
namespace Go.Proofs.YtfbhdjflkaldgaaGreatDoor.Pr
open Go.RowKit
def Tabs (w:World):Prop:=Lib.Utf8Tabs 0 1 w ∧ 2 ≤ w.heap.size
theorem Zie {w w':World} (h:Tabs w) (hk:∀ k,k < 2 → w'.heap[k]? = w.heap[k]?) (hs:2 ≤ w'.heap.size):Tabs w':=by
  have hc:∀ (b c:Nat),b < 2 → w'.cell? ⟨b,c,none⟩ = w.cell? ⟨b,c,none⟩:=fun b c hb => by unfold World.cell?;rw [hk b hb]
  exact ⟨⟨fun c h1 => (hc 0 c (by omega)).trans (h.1.1 c h1),fun i h1 => ⟨(hc 1 _ (by omega)).trans (h.1.2 i h1).1,(hc 1 _ (by omega)).trans (h.1.2 i h1).2⟩⟩,hs⟩
theorem Z1s {w w':World} (h:Tabs w) (hb:Below w.heap.size w w'):Tabs w' :=
  Zie h (fun k hk => hb.block k (by have:=h.2;omega)) (by have:=h.2;have:=hb.size;omega)
end Go.Proofs.YtfbhdjflkaldgaaGreatDoor.Pr

namespace Go.Proofs.YtfbhdjflkaldgaaGreatDoor.Pr
open Go.RowKit Go.Lib Go.Proofs.YtfbhdjflkaldgaaGreatDoorW.PrintWords Go.Proofs.YtfbhdjflkaldgaaGreatDoorW.PrintLast Go.Proofs.YtfbhdjflkaldgaaGreatDoorW.PrintMore
set_option linter.unusedVariables false
def Z2l.f (a0:ByteArray):Option Bool:=if a0.size ≤ 9223372036854775807 then some (validD a0.data.toList) else none
theorem Z2l.calls (a0:ByteArray) (r:Bool) (w:World) (hT:Tabs w) (h:Z2l.f a0 = some r) :
    Calls Tryz.prog 46 #[.string a0] w fun e w' => e = .returned (.bool r) ∧ Below w.heap.size w w':=by
  unfold Z2l.f at h
  by_cases hs:a0.size ≤ 9223372036854775807
  · rw [if_pos hs] at h
    obtain rfl:=Option.some.inj h;exact Tryz.utf8_ValidString a0 w hs hT.1
  · rw [if_neg hs] at h;cases h
def Z1x.f (a0:ByteArray):Option (Int × Int):=some (((decodeGo a0).1:Int),((decodeGo a0).2:Int))
theorem Z1x.calls (a0:ByteArray) (r1 r2:Int) (w:World) (hT:Tabs w) (h:Z1x.f a0 = some (r1,r2)) :
    Calls Tryz.prog 29 #[.string a0] w fun e w' => e = .returned (.tuple #[.int .i32 r1,.int .i64 r2]) ∧ Below w.heap.size w w':=by
  unfold Z1x.f at h;obtain ⟨rfl,rfl⟩:=Prod.mk.inj (Option.some.inj h);exact Tryz.utf8_DecodeRuneInString a0 w hT.1
def Z1u.f (a0:ByteArray):Option Int:=if a0.size < 9223372036854775807 then some (runeCount a0:Int) else none
theorem Z1u.calls (a0:ByteArray) (r:Int) (w:World) (h:Z1u.f a0 = some r) :
    Calls Tryz.prog 72 #[.string a0] w fun e w' => e = .returned (.int .i64 r) ∧ Below w.heap.size w w':=by
  unfold Z1u.f at h
  by_cases hs:a0.size < 9223372036854775807
  · rw [if_pos hs] at h
    obtain rfl:=Option.some.inj h
    refine (Tryz.utf8_RuneCountInString a0 w hs).mono ?_
    rintro e w' ⟨rfl,pos,rfl⟩;exact ⟨rfl,(Below.refl _ w).alloc (Nat.le_refl _) _⟩
  · rw [if_neg hs] at h;cases h
def Z2p.f (a0:ByteArray) (a1:Int):Option Int:=some (indexByte a0.data.toList a1.toNat.toUInt8)
theorem Z2p.calls (a0:ByteArray) (a1:Int) (r:Int) (w:World) (h:Z2p.f a0 a1 = some r) :
    Calls Tryz.prog 51 #[.string a0,.int .u8 a1] w fun e w' => e = .returned (.int .i64 r) ∧ Drawn0 w w':=by
  unfold Z2p.f at h;obtain rfl:=Option.some.inj h
  refine (Tryz.strings_IndexByte a0 a1 w).mono ?_
  rintro e w' ⟨rfl,rfl⟩;exact ⟨rfl,Drawn0.refl _⟩
def Z2j.f (l0:List ByteArray) (a1:ByteArray):Option ByteArray:=if l0.length ≤ 140737488355328 ∧ (Lib.join (l0.map (·.data.toList)) a1.data.toList).length ≤ 140737488355328 then some ⟨(Lib.join (l0.map (·.data.toList)) a1.data.toList).toArray⟩ else none
theorem Z2j.calls (A0:Option Addr) (c0:Nat) (l0:List ByteArray) (a1:ByteArray) (r:ByteArray) (w:World) (hr0:Kd.C Kd.string w A0 l0.length l0) (hc0:l0.length ≤ c0) (h:Z2j.f l0 a1 = some r) :
    Calls Tryz.prog 20 #[.slice A0 l0.length c0,.string a1] w fun e w' => e = .returned (.string r) ∧ Below w.heap.size w w':=by
  unfold Z2j.f at h
  by_cases hs:l0.length ≤ 140737488355328 ∧ (Lib.join (l0.map (·.data.toList)) a1.data.toList).length ≤ 140737488355328
  · rw [if_pos hs] at h
    obtain rfl:=Option.some.inj h
    cases l0 with
    | nil =>
      refine (Tryz.strings_Join_none A0 c0 a1 w).mono ?_
      rintro e w' ⟨rfl,rfl⟩;exact ⟨rfl,Below.refl _ _⟩
    | cons x xs =>
      obtain ⟨ad,hA,hcell⟩:=hr0.2.2 (by simp);subst hA
      have key:∀ (j:Nat) (y:ByteArray),(x :: xs)[j]? = some y → w.cell? (ad.add j) = some (.string y):=by
        intro j y hj;obtain ⟨c,hl,hk,hc⟩:=hcell j y hj;obtain rfl:c = [.string y]:=hk;have:=hc 0 (.string y) rfl
        rwa [show j * Kd.string.sz + 0 = j from by show j * 1 + 0 = j;omega] at this
      have hsp:ad.spot = none:=by
        have h0:=key 0 x rfl;unfold Addr.add at h0;rw [if_pos rfl] at h0;unfold World.cell? at h0
        cases hs:ad.spot with
        | none => rfl
        | some s =>
          rw [hs] at h0
          split at h0 <;> simp at h0
      obtain ⟨b,o,sp⟩:=ad;obtain rfl:sp = none:=hsp;have hb:b < w.heap.size:=World.block_lt_of_cell? _ _ (key 0 x rfl)
      refine (Tryz.strings_Join b o c0 (x :: xs) a1 w (fun j y hj => ?_) hb hs.1 hc0 hs.2).mono ?_
      · have:=key j y hj
        rwa [Addr.add_lit] at this
      · rintro e w' ⟨rfl,hB⟩
        exact ⟨rfl,hB⟩
  · rw [if_neg hs] at h;cases h
end Go.Proofs.YtfbhdjflkaldgaaGreatDoor.Pr

namespace Go.Proofs.YtfbhdjflkaldgaaGreatDoor.Pr
open Go.Proofs.YtfbhdjflkaldgaaGreatDoor.Ct Go.RowKit Go.Maps Go.Lib Go.Proofs.YtfbhdjflkaldgaaGreatDoorW.PrintWords Go.Proofs.YtfbhdjflkaldgaaGreatDoorW.PrintLast Go.Proofs.YtfbhdjflkaldgaaGreatDoorW.PrintMore
set_option linter.unusedVariables false
set_option linter.unusedSimpArgs false
def isL (l:List S68) (r:Int):Bool:=(look l l.length r).isSome
def Z18 (l:List S68) (s:ByteArray):Bool:=validD s.data.toList && ((Z0d s).all (isL l) && decide ((Z0d s).length ≤ 40))
def Z29.f (l0:List S68) (a1:ByteArray):Option Bool:=if Z1z l0 = true ∧ a1.size ≤ 4611686018427387904 then some (Z18 l0 a1) else none
theorem Z55 {H:Type} {w w':World} {P:Program} {k:TypeId} {R:Value → Option (DataW H × List MemPlace)} {b n:Nat} {D:DataW H} (h:w.ownsMap P k R b n D) (hb:w'.heap[b]? = w.heap[b]?):w'.ownsMap P k R b n D:=by
  obtain ⟨es,clock,h1,h2⟩:=h;exact ⟨es,clock,hb.trans h1,h2⟩
set_option maxRecDepth 100000 in
set_option maxHeartbeats 1000000 in
theorem Z29.calls (A0:Option Addr) (c0:Nat) (l0:List S68) (a1:ByteArray) (r:Bool) (w:World) (hT:Tabs w) (hr0:Kd.C k68 w A0 l0.length l0) (hc0:l0.length ≤ c0) (h:Z29.f l0 a1 = some r) :
    Calls Tryz.prog 48 #[.slice A0 l0.length c0,.string a1] w fun e w' => e = .returned (.bool r) ∧ Below w.heap.size w w':=by
  unfold Z29.f at h
  by_cases hg:Z1z l0 = true ∧ a1.size ≤ 4611686018427387904
  · rw [if_pos hg] at h
    have hr:=Option.some.inj h;clear h;have hv:=Z2l.calls a1 (validD a1.data.toList) w hT Gc26;have hR:=am hr0;have hC:=am hc0;have hG:=am hg;have hr':=am hr;clear hr0 hc0 hr hg hT
    cases hvd:validD a1.data.toList with
    | false =>
      rw [hvd] at hv
      obtain rfl:r = false:=by rw [← hr'.out];unfold Z18;rw [hvd];rfl
      go_enter Tryz.func48,Tryz.ntmps48
      go_wp2_with (go_at_call 46;refine hv.mono ?_;clear hv;rintro e w1 ⟨rfl,hB1⟩)
      go_ret;exact ⟨rfl,hB1⟩
    | true =>
      rw [hvd] at hv
      have hrr:r = ((Z0d a1).all (isL l0) && decide ((Z0d a1).length ≤ 40)):=by rw [← hr'.out];unfold Z18;rw [hvd,Bool.true_and]
      have hvd':=am hvd
      have hin:∀ w1,Below w.heap.size w w1 → _:=fun w1 hB => Z5k A0 c0 l0 w1 (Kd.C_below hR.out hB) hC.out (Z4h hG.out.1)
      have hrr':=am hrr;clear hvd hrr;go_enter Tryz.func48,Tryz.ntmps48
      go_wp2_with (first | (go_at_call 46;refine hv.mono ?_;clear hv;rintro e w1 ⟨rfl,hB1⟩) | (go_at_call 53;refine (hin _ hB1).mono ?_;clear hin;rintro e w2 ⟨rfl,HO,hB2⟩))
      have hBK:Below w.heap.size w (w2.iter a1 0):=(hB1.trans (hB2.mono hB1.size)).alloc (by have:=hB2.size;have:=hB1.size;omega) _;have hlt:w1.heap.size < w2.heap.size:=HO.lt;have HOK:=am (HO.alloc (.stringIter a1 0));have hBK':=am hBK;have hlt':=am hlt;have hs2:=am (Nat.le_trans hB1.size hB2.size);clear hBK hlt HO hB1 hB2
      go_loopg [6] a1.size (fun kq v6 w' => ∃ pos cnt:Nat,v6 = .int .i64 (cnt:Int) ∧ Aside0 (w'.heap[w2.heap.size]? = some (.stringIter a1 pos)) ∧ Aside0 (a1.size - pos ≤ kq) ∧ Aside0 ((Z0d a1).all (isL l0) = (Z3b a1 pos).all (isL l0)) ∧ Aside0 (cnt + (Z3b a1 pos).length = (Z0d a1).length) ∧ Aside0 (w'.ownsMap Tryz.prog 21 (plainElem (H:=Unit) Tryz.prog 3) w1.heap.size l0.length (mapI l0 l0.length)) ∧ Aside0 (Below w.heap.size w w'))
      case atStart => exact ⟨0,0,rfl,⟨World.iter_heap w2 a1 0⟩,⟨by omega⟩,⟨by rw [Z2t]⟩,⟨by rw [Z2t,Nat.zero_add]⟩,HOK,hBK'⟩
      case round =>
        obtain ⟨pos,cnt,rfl,hit,hq,hall,hcnt,HO,HB⟩:=hrel
        by_cases hp:pos < a1.size
        · have hnx:∀ ty,(Instr.next (.pointer (some ⟨w2.heap.size,0,none⟩)) true ty).run Tryz.prog wr = _:=fun ty => run_next_any_at wr w2.heap.size a1 pos ty hit.out hp
          have hsc:=Z50 a1 pos;have hst:=Z34 hp;have hwd:=Z4k hp;obtain ⟨R,hR⟩:∃ R:Int,((Utf8.decode a1 pos).1:Int) = R:=⟨_,rfl⟩;rw [hR] at hsc hst;simp only [hR] at hnx;have hkey:keyOf Tryz.prog 21 (.int .i32 R) = some (rkey R):=keyOf_int_mk Tryz.underlying21 (Z7k hsc);have HO2:=am (Z55 HO.out (iterAt_other wr w2.heap.size w1.heap.size a1 (pos + (Utf8.decode a1 pos).2) (by have:=hlt'.out;omega)));have hz:=Z5l l0 R l0.length;have hst':=am hst;have hsc':=am hsc;have hwd':=am hwd;have hp':=am hp;clear hst hsc hwd hp
          cases hL:(look l0 l0.length R).isSome with
          | false =>
            have hhas:Maps.has (mapI l0 l0.length) (rkey R) = false:=hz.trans hL;have hLn:=am hL;clear hz hL
            obtain rfl:r = false:=by
              rw [hrr'.out,hall.out,hst'.out,List.all_cons,show isL l0 R = false from hLn.out];rfl
            go_wp2_with (at_lookup;refine wpList_lookup_own_ok_int _ rfl _ _ 115 rfl 21 3 .i64 keyR Tryz.underlying115 Tryz.underlying3 (Z9d _) w1.heap.size l0.length (mapI l0 l0.length) rfl HO2.out _ _ rfl hkey ?_;intro cc hcc hwc)
            go_ret;exact ⟨rfl,below_iterAt HB.out hs2.out _ _⟩
          | true =>
            obtain ⟨g1,rfl⟩:∃ g1,gk = g1 + 1:=⟨gk - 1,by have:=hq.out;have:=hp'.out;omega⟩;have hhas:Maps.has (mapI l0 l0.length) (rkey R) = true:=hz.trans hL;have hLn:=am hL;clear hz hL
            go_wp2_with (at_lookup;refine wpList_lookup_own_ok_int _ rfl _ _ 115 rfl 21 3 .i64 keyR Tryz.underlying115 Tryz.underlying3 (Z9d _) w1.heap.size l0.length (mapI l0 l0.length) rfl HO2.out _ _ rfl hkey ?_;intro cc hcc hwc)
            go_roundg g1
            case measure => omega
            case rel =>
              have hcl:(Z3b a1 pos).length = (Z3b a1 (pos + (Utf8.decode a1 pos).2)).length + 1:=by rw [hst'.out];rfl
              refine ⟨pos + (Utf8.decode a1 pos).2,cnt + 1,?_,⟨iterAt_heap _ _ _ _ _ hit.out⟩,⟨?_⟩,⟨?_⟩,⟨?_⟩,HO2,⟨below_iterAt HB.out hs2.out _ _⟩⟩
              · rw [Z1a (i:=cnt) (n:=(Z0d a1).length) (by have:=hcnt.out;omega) (by have:=Z23 a1;have:=hG.out.2;omega)]
              · have:=hq.out;have:=hwd'.out;omega
              · rw [hall.out,hst'.out,List.all_cons,show isL l0 R = true from hLn.out,Bool.true_and]
              · have:=hcnt.out;omega
        · have hnx:∀ ty,(Instr.next (.pointer (some ⟨w2.heap.size,0,none⟩)) true ty).run Tryz.prog wr = _:=fun ty => run_next_end_at wr w2.heap.size a1 pos ty hit.out hp
          have hre:=am (Z2z hp);clear hp
          have hcn:cnt = (Z0d a1).length:=by have:=hcnt.out;rw [hre.out] at this;simpa using this
          have hrv:r = decide ((cnt:Int) ≤ 40):=by
            rw [hrr'.out,hall.out,hre.out,hcn,List.all_nil,Bool.true_and];exact decide_eq_decide.2 (by omega)
          subst hrv;have hcn':=am hcn;clear hcn;go_wp2;go_ret;exact ⟨rfl,HB.out⟩
  · rw [if_neg hg] at h;cases h
end Go.Proofs.YtfbhdjflkaldgaaGreatDoor.Pr

namespace Go.Proofs.YtfbhdjflkaldgaaGreatDoor.Pr
open Go.Proofs.YtfbhdjflkaldgaaGreatDoor.Ct Go.RowKit Go.Proofs.YtfbhdjflkaldgaaGreatDoorW.PrintWords Go.Proofs.YtfbhdjflkaldgaaGreatDoorW.PrintLast Go.Proofs.YtfbhdjflkaldgaaGreatDoorW.PrintMore
attribute [local go_sem] max2_int min2_int max_two min_two max_three min_three max_four min_four
set_option linter.unusedVariables false
set_option linter.unusedSimpArgs false
def Z3o.f (gL:Lg) (a1:ByteArray):Option (Bool):=if a1.toList = ([]:List UInt8) then (some false) else ((Z29.f gL.v2 a1).bind fun t105 => (some t105))
theorem Zfp {p:Prop} (h:p:=by
  go_ret
  exact ⟨tE,by repeat (first | (with_reducible first | exact HB.out | apply below_alloc | apply pw_below_drewN | apply below_drew1 | refine below_set ?_ GE104.out) | exact HB.out)⟩):p:=h
set_option maxHeartbeats 8000000 in
set_option maxRecDepth 100000 in
theorem Z3o.calls (gL:Lg) (pL:La) (a1:ByteArray) (r:Bool) (w:World) (hT:Tabs w) (hL:Z2o gL pL w) (h:Z3o.f gL a1 = some r) :
 Calls Tryz.prog 28 #[.agg (lcs gL pL),.string a1] w fun e w' => e = .returned (.bool r) ∧ Below w.heap.size w w':=by
 have HT:=am hT;clear hT;have hu41:=Tryz.underlying41;have HL:=am hL;clear hL;have HB:=am (Below.refl w.heap.size w);have H:(if a1.toList = ([]:List UInt8) then (some false) else ((Z29.f gL.v2 a1).bind fun t105 => (some t105))) = some r:=h;clear h
 replace H:=iE H;obtain ⟨-,c3b0,c3b1,H⟩ | ⟨c3,c3b0,c3b1,H⟩:=H
 ·
  obtain rfl:=Option.some.inj H;go_enter Tryz.func28,Tryz.ntmps28
  go_wp2_with (first | ((with_reducible refine Z0z (t:=41) (p:=2) rfl ?_);(try (refine gate_guard (by rfl) ?_;dsimp only));refine wpList_load_row rfl 41 (.tmp 2) rfl gb104 rfl 41 _ (0,0) _ (tK BK104) Tryz.underlying41 rfl (by kernel_rfl) ?_) | ((with_reducible refine gate_dst (N:=2) rfl ?_);refine box_event ?hg (N:=2) ?hd (cs:=?cs) (t:=41) ?hr ?_;(case hd => rfl);(case hg => rfl);(case hr => exact Gc5);intro gb104 hg w4 hbox hb;have n0_:=am (below_step (tB HB) hb);have n1_:=am (hbox);have n2_:=tZ hg (tS HB);have n3_:=tZ hg (tS HB);revert n0_ n1_ n2_ n3_;clear HB;intro HB BK104 GW104 GE104;clear hb hbox hg))
  exact Zfp
 ·
  replace H:=bI H;obtain ⟨t105,A5,H⟩:=H;(try dsimp only at H);obtain rfl:=Option.some.inj H;go_enter Tryz.func28,Tryz.ntmps28
  go_wp2_with (first | ((with_reducible refine Z0z (t:=41) (p:=2) rfl ?_);(try (refine gate_guard (by rfl) ?_;dsimp only));refine wpList_load_row rfl 41 (.tmp 2) rfl gb104 rfl 41 _ (0,0) _ (tK BK104) Tryz.underlying41 rfl (by kernel_rfl) ?_) | ((with_reducible refine gate_dst (N:=2) rfl ?_);refine box_event ?hg (N:=2) ?hd (cs:=?cs) (t:=41) ?hr ?_;(case hd => rfl);(case hg => rfl);(case hr => exact Gc5);intro gb104 hg w6 hbox hb;have n0_:=am (below_step (tB HB) hb);have n1_:=am (hbox);have n2_:=tZ hg (tS HB);have n3_:=tZ hg (tS HB);revert n0_ n1_ n2_ n3_;clear HB;intro HB BK104 GW104 GE104;clear hb hbox hg;have hcz7_0:=cel2 BK104 0 rfl;have hcz7_1:=cel2 BK104 1 rfl;have hcz7_2:=cel2 BK104 2 rfl;have hcz7_3:=cel2 BK104 3 rfl;have hcz7_4:=cel2 BK104 4 rfl;have hcz7_5:=cel2 BK104 5 rfl;have hcz7_6:=cel2 BK104 6 rfl;have hcz7_7:=cel2 BK104 7 rfl;have hcz7_8:=cel2 BK104 8 rfl;have hcz7_9:=cel2 BK104 9 rfl;have hcz7_10:=cel2 BK104 10 rfl;have hcz7_11:=cel2 BK104 11 rfl;have hcz7_12:=cel2 BK104 12 rfl;have hcz7_13:=cel2 BK104 13 rfl;have hcz7_14:=cel2 BK104 14 rfl;have hcz7_15:=cel2 BK104 15 rfl;have hcz7_16:=cel2 BK104 16 rfl;have hcz7_17:=cel2 BK104 17 rfl;have hcz7_18:=cel2 BK104 18 rfl;have hcz7_19:=cel2 BK104 19 rfl;have hcz7_20:=cel2 BK104 20 rfl;have hcz7_21:=cel2 BK104 21 rfl;have hcz7_22:=cel2 BK104 22 rfl;have hcz7_23:=cel2 BK104 23 rfl;have hcz7_24:=cel2 BK104 24 rfl;have hcz7_25:=cel2 BK104 25 rfl;have hcz7_26:=cel2 BK104 26 rfl;have hcz7_27:=cel2 BK104 27 rfl;have hcz7_28:=cel2 BK104 28 rfl;have hcz7_29:=cel2 BK104 29 rfl;have hfz7_0:=blk_frozen BK104.out 0;have hfz7_1:=blk_frozen BK104.out 1;have hfz7_2:=blk_frozen BK104.out 2;have hfz7_3:=blk_frozen BK104.out 3;have hfz7_4:=blk_frozen BK104.out 4;have hfz7_5:=blk_frozen BK104.out 5;have hfz7_6:=blk_frozen BK104.out 6;have hfz7_7:=blk_frozen BK104.out 7;have hfz7_8:=blk_frozen BK104.out 8;have hfz7_9:=blk_frozen BK104.out 9;have hfz7_10:=blk_frozen BK104.out 10;have hfz7_11:=blk_frozen BK104.out 11;have hfz7_12:=blk_frozen BK104.out 12;have hfz7_13:=blk_frozen BK104.out 13;have hfz7_14:=blk_frozen BK104.out 14;have hfz7_15:=blk_frozen BK104.out 15;have hfz7_16:=blk_frozen BK104.out 16;have hfz7_17:=blk_frozen BK104.out 17;have hfz7_18:=blk_frozen BK104.out 18;have hfz7_19:=blk_frozen BK104.out 19;have hfz7_20:=blk_frozen BK104.out 20;have hfz7_21:=blk_frozen BK104.out 21;have hfz7_22:=blk_frozen BK104.out 22;have hfz7_23:=blk_frozen BK104.out 23;have hfz7_24:=blk_frozen BK104.out 24;have hfz7_25:=blk_frozen BK104.out 25;have hfz7_26:=blk_frozen BK104.out 26;have hfz7_27:=blk_frozen BK104.out 27;have hfz7_28:=blk_frozen BK104.out 28;have hfz7_29:=blk_frozen BK104.out 29) | (go_at_call 48;(with_reducible refine (Z29.calls _ _ gL.v2 a1 t105 _ ?sT (tC ⟨HL.out.r2⟩ HB) HL.out.c2 A5.out).mono ?_);(case sT => exact Gc1);rintro e w8 ⟨rfl,hb⟩;have n0_:=am (blk_below (tK BK104) hb);have n1_:=am (below_step (tB HB) hb);revert n0_ n1_;clear BK104 HB;intro BK104 HB;(try clear hb);(try clear hb2);(try clear hk);(try clear hi)))
  exact Zfp
def Z26.f (a0:ByteArray) (a1:ByteArray):Option (Bool):=if (a0.size:Int) ≥ (a1.size:Int) then (if 0 ≤ (a1.size:Int) then (if (a1.size:Int) ≤ (a0.size:Int) then (some ((a0.extract 0 ((a1.size:Int):Int).toNat).toList == a1.toList)) else (none)) else (none)) else (some false)
theorem Zfq {p:Prop} (h:p:=by
  obtain rfl:=Option.some.inj H;go_enter Tryz.func65,Tryz.ntmps65;go_wp2;go_ret
  exact ⟨by first | rfl | (simp;done) | (simp [*];done),by repeat (first | exact Drawn0.refl _ | apply Drawn0.step)⟩):p:=h
set_option maxHeartbeats 8000000 in
set_option maxRecDepth 100000 in
theorem Z26.calls (a0:ByteArray) (a1:ByteArray) (r:Bool) (w:World) (h:Z26.f a0 a1 = some r) :
 Calls Tryz.prog 65 #[.string a0,.string a1] w fun e w' => e = .returned (.bool r) ∧ Drawn0 w w':=by
 have H:(if (a0.size:Int) ≥ (a1.size:Int) then (if 0 ≤ (a1.size:Int) then (if (a1.size:Int) ≤ (a0.size:Int) then (some ((a0.extract 0 ((a1.size:Int):Int).toNat).toList == a1.toList)) else (none)) else (none)) else (some false)) = some r:=h;clear h
 replace H:=iF H;obtain ⟨c3,H⟩ | ⟨c3,H⟩:=H
 ·
  have c3b0:decide ((a1.size:Int) ≤ (a0.size:Int)) = true:=decide_eq_true c3;have c3b1:decide (a1.size ≤ a0.size) = true:=decide_eq_true (Int.ofNat_le.mp c3);clear c3;replace H:=iFn H;obtain ⟨c4,H⟩:=H;have c4b0:=eq_true c4;have c4b1:decide (0 ≤ (a1.size:Int)) = true:=decide_eq_true c4;clear c4;replace H:=iFn H;obtain ⟨c5,H⟩:=H;have c5b0:=eq_true c5;have c5b1:decide ((a1.size:Int) ≤ (a0.size:Int)) = true:=decide_eq_true c5;clear c5;exact Zfq
 ·
  have c3b0:decide ((a1.size:Int) ≤ (a0.size:Int)) = false:=decide_eq_false c3;have c3b1:decide (a1.size ≤ a0.size) = false:=decide_eq_false (fun h => c3 (Int.ofNat_le.mpr h));clear c3;exact Zfq
def Z2e.f (a0:ByteArray) (a1:ByteArray):Option (ByteArray × Bool):=(Z26.f a0 a1).bind fun t101 => (if t101 = true then (if 0 ≤ (a1.size:Int) then (if (a1.size:Int) ≤ (a0.size:Int) then (some (a0.extract ((a1.size:Int):Int).toNat a0.size,true)) else (none)) else (none)) else (some (a0,false)))
set_option maxHeartbeats 8000000 in
set_option maxRecDepth 100000 in
theorem Z2e.calls (a0:ByteArray) (a1:ByteArray) (r1:ByteArray) (r2:Bool) (w:World) (h:Z2e.f a0 a1 = some (r1,r2)) :
 Calls Tryz.prog 47 #[.string a0,.string a1] w fun e w' => e = .returned (.tuple #[.string r1,.bool r2]) ∧ Drawn0 w w':=by
 have H:((Z26.f a0 a1).bind fun t101 => (if t101 = true then (if 0 ≤ (a1.size:Int) then (if (a1.size:Int) ≤ (a0.size:Int) then (some (a0.extract ((a1.size:Int):Int).toNat a0.size,true)) else (none)) else (none)) else (some (a0,false)))) = some (r1,r2):=h;clear h;replace H:=bI H;obtain ⟨t101,A3,H⟩:=H;(try dsimp only at H)
 replace H:=iT H;obtain ⟨rfl,H⟩ | ⟨rfl,H⟩:=H
 ·
  replace H:=iFn H;obtain ⟨c5,H⟩:=H;have c5b0:=eq_true c5;have c5b1:decide (0 ≤ (a1.size:Int)) = true:=decide_eq_true c5;clear c5;replace H:=iFn H;obtain ⟨c6,H⟩:=H;have c6b0:=eq_true c6;have c6b1:decide ((a1.size:Int) ≤ (a0.size:Int)) = true:=decide_eq_true c6;clear c6;simp only [Option.some.injEq,Prod.mk.injEq] at H;obtain ⟨rfl,rfl⟩:=H;go_enter Tryz.func47,Tryz.ntmps47
  go_wp2_with (first | ((with_reducible refine gate_callee (f:=65) rfl ?_);refine goesL_ (some 8) rfl rfl Tryz.func65 (by kernel_rfl) rfl #[.string a0,.string a1] rfl Gc2 ?_;(with_reducible refine (Z26.calls a0 a1 true _ A3.out).mono ?_);rintro e w' ⟨rfl,⟨nd,rfl⟩⟩;refine ⟨_,rfl,?_⟩))
  go_ret2;exact ⟨by first | rfl | (simp;done) | (simp [*];done),by repeat (first | exact Drawn0.refl _ | apply Drawn0.step)⟩
 ·
  simp only [Option.some.injEq,Prod.mk.injEq] at H;obtain ⟨rfl,rfl⟩:=H;go_enter Tryz.func47,Tryz.ntmps47
  go_wp2_with (first | ((with_reducible refine gate_callee (f:=65) rfl ?_);refine goesL_ (some 8) rfl rfl Tryz.func65 (by kernel_rfl) rfl #[.string a0,.string a1] rfl Gc2 ?_;(with_reducible refine (Z26.calls a0 a1 false _ A3.out).mono ?_);rintro e w' ⟨rfl,⟨nd,rfl⟩⟩;refine ⟨_,rfl,?_⟩))
  go_ret2;exact ⟨by first | rfl | (simp;done) | (simp [*];done),by repeat (first | exact Drawn0.refl _ | apply Drawn0.step)⟩
def Z35.f (a0:ByteArray) (a1:ByteArray):Option (ByteArray × Bool):=(Z2e.f a0 a1).bind fun bt102 => (some (bt102.1,bt102.2))
set_option maxHeartbeats 8000000 in
set_option maxRecDepth 100000 in
theorem Z35.calls (a0:ByteArray) (a1:ByteArray) (r1:ByteArray) (r2:Bool) (w:World) (h:Z35.f a0 a1 = some (r1,r2)) :
 Calls Tryz.prog 27 #[.string a0,.string a1] w fun e w' => e = .returned (.tuple #[.string r1,.bool r2]) ∧ Drawn0 w w':=by
 have H:((Z2e.f a0 a1).bind fun bt102 => (some (bt102.1,bt102.2))) = some (r1,r2):=h;clear h;replace H:=bI H;obtain ⟨⟨t102,t103⟩,A3,H⟩:=H;(try dsimp only at H);simp only [Option.some.injEq,Prod.mk.injEq] at H;obtain ⟨rfl,rfl⟩:=H;go_enter Tryz.func27,Tryz.ntmps27
 go_wp2_with (first | ((with_reducible refine gate_callee (f:=47) rfl ?_);refine goesL_ (some 8) rfl rfl Tryz.func47 (by kernel_rfl) rfl #[.string a0,.string a1] rfl Gc2 ?_;(with_reducible refine (Z2e.calls a0 a1 t102 t103 _ A3.out).mono ?_);rintro e w' ⟨rfl,⟨nd,rfl⟩⟩;refine ⟨_,rfl,?_⟩))
 go_ret2;exact ⟨by first | rfl | (simp;done) | (simp [*];done),by repeat (first | exact Drawn0.refl _ | apply Drawn0.step)⟩
end Go.Proofs.YtfbhdjflkaldgaaGreatDoor.Pr

/- Patterns: item by item, and by sets of positions. -/
namespace Go.Proofs.YtfbhdjflkaldgaaGreatDoor.Pr
set_option linter.unusedVariables false
section
variable {I A:Type} (adm:I → A → Bool) (rep:I → Bool)
def Z4p:List I → List A → Bool
  | [],s => s.isEmpty
  | x :: p,[] => rep x && Z4p p []
  | x :: p,a :: t => (rep x && Z4p p (a :: t)) || (adm x a && (if rep x = true then Z4p (x :: p) t else Z4p p t))
termination_by p s => p.length + s.length
def One (x:I) (s:List A):Prop:=if rep x = true then ∀ a ∈ s,adm x a = true else ∃ a,s = [a] ∧ adm x a = true
def Lang:List I → List A → Prop
  | [],s => s = []
  | x :: p,s => ∃ u v,s = u ++ v ∧ One adm rep x u ∧ Lang p v
theorem Z6p (x:I) (p:List I) (a:A) (t:List A):Lang adm rep (x :: p) (a :: t) ↔ (rep x = true ∧ Lang adm rep p (a :: t)) ∨ (adm x a = true ∧ (if rep x = true then Lang adm rep (x :: p) t else Lang adm rep p t)):=by
  constructor
  · rintro ⟨u,v,e,h1,h2⟩
    unfold One at h1
    by_cases hr:rep x = true
    · rw [if_pos hr] at h1
      cases u with
      | nil => rw [List.nil_append] at e;subst e;exact .inl ⟨hr,h2⟩
      | cons b u =>
        injection e with e1 e2
        subst e1
        refine .inr ⟨h1 a (by simp),?_⟩
        rw [if_pos hr];exact ⟨u,v,e2,by unfold One;rw [if_pos hr];exact fun c hc => h1 c (by simp [hc]),h2⟩
    · rw [if_neg hr] at h1
      obtain ⟨b,rfl,hb⟩:=h1
      injection e with e1 e2
      subst e1
      refine .inr ⟨hb,?_⟩
      rw [if_neg hr,e2];exact h2
  · rintro (⟨hr,h⟩ | ⟨ha,h⟩)
    · exact ⟨[],a :: t,rfl,by unfold One;rw [if_pos hr];simp,h⟩
    · by_cases hr:rep x = true
      · rw [if_pos hr] at h
        obtain ⟨u,v,e,h1,h2⟩:=h
        refine ⟨a :: u,v,by rw [e];rfl,?_,h2⟩
        unfold One at h1 ⊢;rw [if_pos hr] at h1 ⊢;intro c hc
        rcases List.mem_cons.1 hc with rfl | hc
        · exact ha
        · exact h1 c hc
      · rw [if_neg hr] at h
        exact ⟨[a],t,rfl,by unfold One;rw [if_neg hr];exact ⟨a,rfl,ha⟩,h⟩
theorem Z4t (x:I) (p:List I):Lang adm rep (x :: p) [] ↔ rep x = true ∧ Lang adm rep p []:=by
  constructor
  · rintro ⟨u,v,e,h1,h2⟩
    obtain ⟨rfl,rfl⟩:=List.append_eq_nil_iff.1 e.symm;unfold One at h1
    by_cases hr:rep x = true
    · exact ⟨hr,h2⟩
    · rw [if_neg hr] at h1;obtain ⟨a,e,_⟩:=h1;cases e
  · rintro ⟨hr,h⟩
    exact ⟨[],[],rfl,by unfold One;rw [if_pos hr];simp,h⟩
theorem Zig:∀ (n:Nat) (p:List I) (s:List A),p.length + s.length ≤ n → (Z4p adm rep p s = true ↔ Lang adm rep p s):=by
  intro n
  induction n with
  | zero =>
    intro p s h;obtain rfl:p = []:=List.eq_nil_of_length_eq_zero (by omega);obtain rfl:s = []:=List.eq_nil_of_length_eq_zero (by omega);unfold Z4p
    simp [Lang]
  | succ n ih =>
    intro p s h
    cases p with
    | nil => unfold Z4p;simp [Lang]
    | cons x p =>
      cases s with
      | nil =>
        unfold Z4p;rw [Z4t,Bool.and_eq_true,ih p [] (by simp at h ⊢;omega)]
      | cons a t =>
        unfold Z4p;rw [Z6p,Bool.or_eq_true,Bool.and_eq_true,Bool.and_eq_true,ih p (a :: t) (by simp at h ⊢;omega)]
        by_cases hr:rep x = true
        · simp only [if_pos hr];rw [ih (x :: p) t (by simp at h ⊢;omega)]
        · simp only [if_neg hr];rw [ih p t (by simp at h ⊢;omega)]
theorem Z87 (p:List I) (s:List A):Z4p adm rep p s = true ↔ Lang adm rep p s:=Zig adm rep _ p s (Nat.le_refl _)
theorem Z5n:∀ (p q:List I) (s:List A),Lang adm rep (p ++ q) s ↔ ∃ u v,s = u ++ v ∧ Lang adm rep p u ∧ Lang adm rep q v
  | [],q,s => by
    constructor
    · intro h;exact ⟨[],s,rfl,rfl,h⟩
    · rintro ⟨u,v,rfl,h1,h2⟩
      obtain rfl:u = []:=h1;exact h2
  | x :: p,q,s => by
    constructor
    · rintro ⟨u,v,rfl,h1,h2⟩
      obtain ⟨u',v',rfl,h3,h4⟩:=(Z5n p q v).1 h2;exact ⟨u ++ u',v',by rw [List.append_assoc],⟨u,u',rfl,h1,h3⟩,h4⟩
    · rintro ⟨u,v,rfl,⟨u1,u2,rfl,h1,h2⟩,h3⟩
      exact ⟨u1,u2 ++ v,by rw [List.append_assoc],h1,(Z5n p q _).2 ⟨u2,v,rfl,h2,h3⟩⟩
theorem Zfr (x:I) (s:List A):Lang adm rep [x] s ↔ One adm rep x s:=by
  constructor
  · rintro ⟨u,v,rfl,h1,h2⟩
    obtain rfl:v = []:=h2
    rwa [List.append_nil]
  · intro h;exact ⟨s,[],by rw [List.append_nil],h,rfl⟩
theorem Z9g (x:I) (s:List A):One adm rep x s.reverse ↔ One adm rep x s:=by
  unfold One
  by_cases hr:rep x = true
  · simp [if_pos hr]
  · simp only [if_neg hr]
    constructor
    · rintro ⟨a,e,h⟩
      exact ⟨a,by have:=congrArg List.reverse e;simpa using this,h⟩
    · rintro ⟨a,rfl,h⟩;exact ⟨a,rfl,h⟩
theorem Z3w:∀ (p:List I) (s:List A),Lang adm rep p.reverse s.reverse ↔ Lang adm rep p s
  | [],s => by simp [Lang]
  | x :: p,s => by
    rw [List.reverse_cons,Z5n];constructor
    · rintro ⟨u,v,e,h1,h2⟩
      rw [Zfr] at h2
      refine ⟨v.reverse,u.reverse,?_,(Z9g adm rep x v).2 h2,?_⟩
      · have:=congrArg List.reverse e;simpa using this
      · rw [← Z3w p];simpa using h1
    · rintro ⟨u,v,rfl,h1,h2⟩
      exact ⟨v.reverse,u.reverse,by simp,(Z3w p v).2 h2,(Zfr adm rep x _).2 ((Z9g adm rep x u).2 h1)⟩
theorem Z4u (q:List I) (x:I):Lang adm rep (q ++ [x]) [] ↔ rep x = true ∧ Lang adm rep q []:=by
  rw [Z5n];constructor
  · rintro ⟨u,v,e,h1,h2⟩
    obtain ⟨rfl,rfl⟩:=List.append_eq_nil_iff.1 e.symm;exact ⟨((Z4t adm rep x []).1 h2).1,h1⟩
  · rintro ⟨hr,h⟩
    exact ⟨[],[],rfl,h,(Z4t adm rep x []).2 ⟨hr,rfl⟩⟩
theorem Zc9 (q:List I) (x:I) (s:List A) (a:A):Lang adm rep (q ++ [x]) (s ++ [a]) ↔ (if rep x = true then Lang adm rep q (s ++ [a]) ∨ (adm x a = true ∧ Lang adm rep (q ++ [x]) s) else adm x a = true ∧ Lang adm rep q s):=by
  have h1:=Z3w adm rep (q ++ [x]) (s ++ [a]);have h2:=Z3w adm rep (q ++ [x]) s;have h3:=Z3w adm rep q (s ++ [a]);have h4:=Z3w adm rep q s;simp only [List.reverse_append,List.reverse_cons,List.reverse_nil,List.nil_append,List.cons_append] at h1 h2 h3 h4;rw [← h1,Z6p]
  by_cases hr:rep x = true
  · simp only [if_pos hr]
    rw [h3,h2]
    simp [hr]
  · simp only [if_neg hr]
    rw [h4]
    simp [hr]
def Zbk (p:List I) (j:Nat):Nat:=match p[j]? with
  | some x => if rep x = true then j + 1 else j
  | none => j
def Pos (p:List I) (j:Nat) (s:List A):Prop:=Lang adm rep (p.take (Zbk rep p j)) s
theorem Zml (p:List I) (s:List A):Pos adm rep p p.length s ↔ Lang adm rep p s:=by
  unfold Pos Zbk;rw [List.getElem?_eq_none (Nat.le_refl _)]
  simp
theorem Zhb (p:List I):Pos adm rep p 0 []:=by
  unfold Pos Zbk
  cases h:p[0]? with
  | none => simp [Lang]
  | some x =>
    by_cases hr:rep x = true
    · simp only [if_pos hr]
      cases p with
      | nil => simp at h
      | cons y p =>
        obtain rfl:y = x:=by simpa using h
        simp only [List.take_succ_cons,List.take_zero];exact (Z4t adm rep y []).2 ⟨hr,rfl⟩
    · simp only [if_neg hr];simp [Lang]
theorem Z4x {p:List I} {i:Nat} {x:I} (h:p[i]? = some x):p.take (i + 1) = p.take i ++ [x]:=by
  obtain ⟨hi,rfl⟩:=List.getElem?_eq_some_iff.1 h;exact List.take_succ_eq_append_getElem hi
theorem Z64 {p:List I} {i:Nat} {x:I} (h:p[i]? = some x) (hr:rep x = true):Zbk rep p i = i + 1:=by unfold Zbk;rw [h];simp [hr]
theorem Z9h {p:List I} {i:Nat} {x:I} (h:p[i]? = some x) (hr:¬ rep x = true):Zbk rep p i = i:=by unfold Zbk;rw [h];simp [hr]
theorem Zhc (p:List I) (i:Nat) (x:I) (h:p[i]? = some x):Pos adm rep p (i + 1) [] ↔ rep x = true ∧ Pos adm rep p i []:=by
  have key:Lang adm rep (p.take (i + 1)) [] ↔ rep x = true ∧ Pos adm rep p i []:=by
    rw [Z4x h,Z4u];constructor
    · rintro ⟨hr,hl⟩
      refine ⟨hr,?_⟩
      unfold Pos;rw [Z64 rep h hr,Z4x h,Z4u];exact ⟨hr,hl⟩
    · rintro ⟨hr,hl⟩
      unfold Pos at hl;rw [Z64 rep h hr,Z4x h,Z4u] at hl;exact hl
  cases h':p[i + 1]? with
  | none => unfold Pos Zbk;rw [h'];exact key
  | some y =>
    by_cases hy:rep y = true
    · unfold Pos
      rw [Z64 rep h' hy,Z4x h',Z4u];simp only [hy,true_and];exact key
    · unfold Pos
      rw [Z9h rep h' hy];exact key
theorem Zal (p:List I) (i:Nat) (x:I) (h:p[i]? = some x) (s:List A) (a:A) :
    Lang adm rep (p.take (i + 1)) (s ++ [a]) ↔ (if rep x = true then Pos adm rep p i (s ++ [a]) else adm x a = true ∧ Pos adm rep p i s):=by
  by_cases hr:rep x = true
  · rw [if_pos hr];unfold Pos;rw [Z64 rep h hr]
  · rw [if_neg hr,Z4x h,Zc9,if_neg hr];unfold Pos;rw [Z9h rep h hr]
theorem Zam (p:List I) (s:List A) (a:A):¬ Lang adm rep (p.take 0) (s ++ [a]):=by simp [Lang]
theorem Zfs (p:List I) (j:Nat) (s:List A) (a:A):Pos adm rep p j (s ++ [a]) ↔ Lang adm rep (p.take j) (s ++ [a]) ∨ (∃ x,p[j]? = some x ∧ rep x = true ∧ adm x a = true ∧ Pos adm rep p j s):=by
  cases h:p[j]? with
  | none => unfold Pos Zbk;rw [h];simp
  | some x =>
    by_cases hr:rep x = true
    · unfold Pos
      rw [Z64 rep h hr,Z4x h,Zc9,if_pos hr]
      simp [hr]
    · unfold Pos
      rw [Z9h rep h hr]
      simp [hr]
end
end Go.Proofs.YtfbhdjflkaldgaaGreatDoor.Pr

namespace Go.Proofs.YtfbhdjflkaldgaaGreatDoor.Pr
open Go.Proofs.YtfbhdjflkaldgaaGreatDoor.Ct Go.RowKit Go.Maps Go.Proofs.YtfbhdjflkaldgaaGreatDoorW.PrintWords Go.Proofs.YtfbhdjflkaldgaaGreatDoorW.PrintLast Go.Proofs.YtfbhdjflkaldgaaGreatDoorW.PrintMore
set_option linter.unusedVariables false
set_option linter.unusedSimpArgs false
def Z4d (l:List S68) (k:Nat):Bool:=(List.range k).all fun j => (look l j (Z0v l (j:Int)).f0).isNone
theorem Z9i (l:List S68):∀ k,Maps.Tidy (mapI l k)
  | 0 => Maps.tidy_empty
  | k + 1 => by
    unfold mapI
    split
    · exact Z9i l k
    · exact (Z9i l k).put (Zfn _) _
theorem Zca (l:List S68):∀ k,Maps.size (mapI l k) ≤ k ∧ (Maps.size (mapI l k) = k ↔ Z4d l k = true)
  | 0 => ⟨Nat.le_refl _,by simp [Z4d,mapI,Maps.size_eq]⟩
  | k + 1 => by
    obtain ⟨h1,h2⟩:=Zca l k;have hh:=Z5l l (Z0v l (k:Int)).f0 k
    have ho:Z4d l (k + 1) = (Z4d l k && (look l k (Z0v l (k:Int)).f0).isNone):=by
      unfold Z4d;rw [List.range_succ,List.all_append];simp
    rw [ho,mapI]
    by_cases hc:Maps.has (mapI l k) (rkey (Z0v l (k:Int)).f0) = true
    · rw [if_pos hc]
      refine ⟨by omega,⟨fun h => by omega,fun h => ?_⟩⟩
      rw [hh] at hc;rw [Bool.and_eq_true] at h
      cases e:look l k (Z0v l (k:Int)).f0 <;> simp [e] at hc h
    · rw [if_neg hc,Maps.size_put (Z9i l k),if_neg hc]
      rw [hh] at hc
      have hn:(look l k (Z0v l (k:Int)).f0).isNone = true:=by
        cases e:look l k (Z0v l (k:Int)).f0 <;> simp [e] at hc ⊢
      rw [hn,Bool.and_true];exact ⟨by omega,⟨fun h => h2.1 (by omega),fun h => by rw [h2.2 h]⟩⟩
def Z3m (x:Int):Bool:=decide (32 < x) && Lib.validRune x
def Z4r (l:List S68):Bool:=decide (1 ≤ l.length) && (decide (l.length ≤ 64) && ((l.all fun x => Z3m x.f0) && Z4d l l.length))
def Z2x.f (l0:List S68):Option Bool:=if Z1z l0 = true then some (Z4r l0) else none
theorem Z88 (l:List S68) (i:Nat) (h:i < l.length):l.drop i = Z0v l (i:Int) :: l.drop (i + 1):=by
  rw [List.drop_eq_getElem_cons h]
  congr 1
  unfold Z0v;rw [Int.toNat_natCast,List.getD_eq_getElem?_getD,List.getElem?_eq_getElem h];rfl
set_option maxRecDepth 100000 in
set_option maxHeartbeats 1000000 in
theorem Z2x.calls (A0:Option Addr) (c0:Nat) (l0:List S68) (r:Bool) (w:World) (hr0:Kd.C k68 w A0 l0.length l0) (hc0:l0.length ≤ c0) (h:Z2x.f l0 = some r) :
    Calls Tryz.prog 50 #[.slice A0 l0.length c0] w fun e w' => e = .returned (.bool r) ∧ Below w.heap.size w w':=by
  unfold Z2x.f at h
  by_cases hg:Z1z l0 = true
  · rw [if_pos hg] at h
    have hr:=Option.some.inj h;clear h;have hR:=am hr0;have hC:=am hc0;have hG:=am hg;clear hr0 hc0 hg
    by_cases h1:(l0.length:Int) < 1
    · obtain rfl:r = false:=by rw [← hr];unfold Z4r;rw [decide_eq_false (by omega)];rfl
      go_enter Tryz.func50,Tryz.ntmps50;go_wp2;go_ret;exact ⟨rfl,Below.refl _ _⟩
    · by_cases h2:(64:Int) < (l0.length:Int)
      · obtain rfl:r = false:=by rw [← hr];unfold Z4r;rw [decide_eq_false (show ¬ l0.length ≤ 64 by omega)];simp
        go_enter Tryz.func50,Tryz.ntmps50;go_wp2;go_ret;exact ⟨rfl,Below.refl _ _⟩
      · have hrr:r = ((l0.all fun x => Z3m x.f0) && Z4d l0 l0.length):=by rw [← hr];unfold Z4r;rw [decide_eq_true (by omega),decide_eq_true (by omega)];rfl
        have hrr':=am hrr;have h64:=am (show l0.length ≤ 64 by omega)
        have hin:=fun w1 (hB:Below w.heap.size w w1) => Z5k A0 c0 l0 w1 (Kd.C_below hR.out hB) hC.out (Z4h hG.out)
        clear hr hrr;go_enter Tryz.func50,Tryz.ntmps50;go_wp2
        go_loopg [15] l0.length (fun kq v15 w' => ∃ i:Nat,v15 = .int .i64 (i:Int) ∧ Aside0 (i + kq = l0.length) ∧ Aside0 (r = (((l0.drop i).all fun x => Z3m x.f0) && Z4d l0 l0.length)) ∧ Aside0 (Below w.heap.size w w'))
        case atStart => exact ⟨0,rfl,⟨by omega⟩,⟨by rw [List.drop_zero];exact hrr'.out⟩,⟨Below.refl _ _⟩⟩
        case round =>
          obtain ⟨i,rfl,hik,hri,HB⟩:=hrel
          cases gk with
          | zero =>
            have h3:¬ ((i:Int) < (l0.length:Int)):=by have:=hik.out;omega
            have hsz:=Zca l0 l0.length
            have hrv:r = decide ((Maps.size (mapI l0 l0.length):Int) = (l0.length:Int)):=by
              rw [hri.out,List.drop_eq_nil_of_le (by have:=hik.out;omega),List.all_nil,Bool.true_and]
              cases e:Z4d l0 l0.length with
              | true => exact (decide_eq_true (by have:=hsz.2.2 e;omega)).symm
              | false => exact (decide_eq_false (fun h => by have:=hsz.2.1 (by omega);rw [e] at this;cases this)).symm
            have hrv':=am hrv;clear hsz hrv
            go_wp2_with (first | (go_at_call 53;refine (hin _ HB.out).mono ?_;clear hin;rintro e w2 ⟨rfl,HO,hB2⟩) | (at_len;refine wpList_len_own _ rfl _ 115 rfl 21 3 Tryz.underlying115 _ wr.heap.size l0.length (mapI l0 l0.length) rfl HO ?_))
            go_ret;exact ⟨by rw [hrv'.out];rfl,HB.out.trans (hB2.mono HB.out.size)⟩
          | succ g1 =>
            have h3:(i:Int) < (l0.length:Int):=by have:=hik.out;omega
            have h4:0 ≤ (i:Int):=by omega
            obtain ⟨ad,hA,hx0,hx1⟩:=Z3s hR.out (i:Int) h4 h3;subst hA;rw [Int.toNat_natCast] at hx0 hx1;replace hx0:=(HB.out.cell (World.block_lt_of_cell? _ _ hx0)).trans hx0;replace hx1:=(HB.out.cell (World.block_lt_of_cell? _ _ hx1)).trans hx1;have hdr:=Z88 l0 i (by omega);obtain ⟨R,hRR⟩:∃ R,(Z0v l0 (i:Int)).f0 = R:=⟨_,rfl⟩;obtain ⟨R1,hR1⟩:∃ R1,(Z0v l0 (i:Int)).f1 = R1:=⟨_,rfl⟩;rw [hRR] at hx0;rw [hR1] at hx1
            have hri2:r = ((Z3m R && ((l0.drop (i + 1)).all fun x => Z3m x.f0)) && Z4d l0 l0.length):=by rw [hri.out,hdr,List.all_cons,hRR]
            have hB1:Below w.heap.size w (wr.alloc (.cells #[.int .i32 R,.int .u32 R1] 68)):=HB.out.alloc HB.out.size _;have hfin:wrap64 ((i:Int) + 1) = ((i + 1:Nat):Int):=Z1a (by omega:i < l0.length) (by have:=h64.out;omega);have hfin':=am hfin;have hB1':=am hB1;have hri2':=am hri2;clear hfin hB1 hri2 hdr hRR hR1
            by_cases c1:R ≤ 32
            · obtain rfl:r = false:=by rw [hri2'.out];unfold Z3m;rw [decide_eq_false (show ¬ 32 < R by omega)];rfl
              go_wp2;go_ret;exact ⟨rfl,hB1'.out⟩
            · cases c2:Lib.validRune R with
              | false =>
                obtain rfl:r = false:=by rw [hri2'.out];unfold Z3m;rw [c2];simp
                have hvr:=fun w => Tryz.utf8_ValidRune R w
                rw [c2] at hvr
                go_wp2_with (go_at_call 66;refine (hvr _).mono ?_;rintro e w9 ⟨rfl,rfl⟩)
                go_ret;exact ⟨rfl,hB1'.out⟩
              | true =>
                have hvr:=fun w => Tryz.utf8_ValidRune R w
                rw [c2] at hvr
                have hg:Z3m R = true:=by unfold Z3m;rw [c2,decide_eq_true (show 32 < R by omega)];rfl
                have hg':=am hg;clear hg
                go_wp2_with (go_at_call 66;refine (hvr _).mono ?_;rintro e w9 ⟨rfl,rfl⟩)
                go_roundg g1
                case measure => omega
                case rel => exact ⟨i + 1,by first | rw [hfin'.out] | rfl,⟨by have:=hik.out;omega⟩,⟨by rw [hri2'.out,hg'.out,Bool.true_and]⟩,hB1'⟩
  · rw [if_neg hg] at h;cases h
end Go.Proofs.YtfbhdjflkaldgaaGreatDoor.Pr

namespace Go.Proofs.YtfbhdjflkaldgaaGreatDoor.Pr
open Go.Proofs.YtfbhdjflkaldgaaGreatDoor.Ct Go.RowKit Go.Proofs.YtfbhdjflkaldgaaGreatDoorW.PrintWords Go.Proofs.YtfbhdjflkaldgaaGreatDoorW.PrintLast Go.Proofs.YtfbhdjflkaldgaaGreatDoorW.PrintMore
attribute [local go_sem] max2_int min2_int max_two min_two max_three min_three max_four min_four
set_option linter.unusedVariables false
set_option linter.unusedSimpArgs false
def Z0m.l0:Nat → List (S68) → Int → Int → Option (Int)
 | 0,_,_,_ => none
 | k + 1,x0,x1,x5 => if x5 < (x0.length:Int) then (if 0 ≤ x5 then (if ((Z0v x0 x5).f0) = x1 then (some x5) else (Z0m.l0 k x0 x1 (wrap64 (x5 + 1)))) else (none)) else (some (-1))
def Z0m.f (k:Nat) (l0:List (S68)) (a1:Int):Option (Int):=Z0m.l0 k l0 a1 0
set_option maxHeartbeats 8000000 in
set_option maxRecDepth 100000 in
theorem Z0m.calls (k:Nat) (A0:Option Addr) (c0:Nat) (l0:List (S68)) (a1:Int) (r:Int) (w:World) (hr0:Kd.C k68 w A0 l0.length l0) (hc0:l0.length ≤ c0) (h:Z0m.f k l0 a1 = some r) :
 Calls Tryz.prog 39 #[.slice A0 l0.length c0,.int .i32 a1] w fun e w' => e = .returned (.int .i64 r) ∧ Drawn0 w w':=by
 have HR0:=am hr0;have HC0:=am hc0;clear hr0 hc0;have H:(Z0m.l0 k l0 a1 0) = some r:=h;clear h;have H':=am H;clear H;go_enter Tryz.func39,Tryz.ntmps39;go_wp2
 go_loopg [5] k (fun kq v5 w' => ∃ (x5_1:Int),v5 = .int .i64 x5_1 ∧ Aside0 (Z0m.l0 kq l0 a1 x5_1 = some r) ∧ Aside0 (kq ≤ k) ∧ Drawn0 w w')
 case atStart => exact ⟨(0),tV1,H',⟨Nat.le_refl _⟩,by repeat (first | exact Drawn0.refl _ | apply Drawn0.step)⟩
 case round =>
  clear H';obtain ⟨x5_1,rfl,HA,HK1,⟨m1,rfl⟩⟩:=hrel
  cases gk with
  | zero => exact absurd HA.out (by simp [Z0m.l0])
  | succ k1 =>
   have H:=HA.out;clear HA;simp only [Z0m.l0] at H
   replace H:=iF H;obtain ⟨c3,H⟩ | ⟨c3,H⟩:=H;rotate_left
   ·
    have c3b0:decide (x5_1 < (l0.length:Int)) = false:=decide_eq_false c3;clear c3;obtain rfl:=Option.some.inj H;go_wp2;go_ret;exact ⟨by first | rfl | (simp;done) | (simp [*];done),by repeat (first | exact Drawn0.refl _ | apply Drawn0.step)⟩
   have c3b0:decide (x5_1 < (l0.length:Int)) = true:=decide_eq_true c3;clear c3;replace H:=iFn H;obtain ⟨c4,H⟩:=H;have c4b0:decide (0 ≤ x5_1) = true:=decide_eq_true c4;clear c4
   replace H:=iE H;obtain ⟨-,c5b0,c5b1,H⟩ | ⟨c5,c5b0,c5b1,H⟩:=H
   ·
    obtain rfl:=Option.some.inj H;have p312:0 ≤ (x5_1:Int):=oD;have q312:x5_1 < (l0.length:Int):=oD;obtain ⟨ad312,e312,hx312_0,hx312_1⟩:=Z3s HR0.out x5_1 p312 q312;cases e312;replace p312:=eq_true p312;replace q312:=eq_true q312;go_wp2;go_ret;exact ⟨by first | rfl | (simp;done) | (simp [*];done),by repeat (first | exact Drawn0.refl _ | apply Drawn0.step)⟩
   ·
    have H':=am H;clear H;have p312:0 ≤ (x5_1:Int):=oD;have q312:x5_1 < (l0.length:Int):=oD;obtain ⟨ad312,e312,hx312_0,hx312_1⟩:=Z3s HR0.out x5_1 p312 q312;cases e312;replace p312:=eq_true p312;replace q312:=eq_true q312;go_wp2
    go_roundg k1
    case measure => have:=HK1.out;omega
    case rel => exact ⟨(wrap64 (x5_1 + 1)),tV1,H',⟨by have:=HK1.out;omega⟩,by repeat (first | exact Drawn0.refl _ | apply Drawn0.step)⟩
end Go.Proofs.YtfbhdjflkaldgaaGreatDoor.Pr

namespace Go.Proofs.YtfbhdjflkaldgaaGreatDoor.Pr
open Go.Proofs.YtfbhdjflkaldgaaGreatDoor.Ct Go.RowKit Go.Maps Go.Lib Go.Proofs.YtfbhdjflkaldgaaGreatDoorW.PrintWords Go.Proofs.YtfbhdjflkaldgaaGreatDoorW.PrintLast Go.Proofs.YtfbhdjflkaldgaaGreatDoorW.PrintMore
set_option linter.unusedVariables false
set_option linter.unusedSimpArgs false
theorem Z5c (l:List S68) (r:Int) (k j:Nat) (h:look l k r = some j):∀ m,k ≤ m → look l m r = some j:=by
  intro m
  induction m with
  | zero => intro hk; obtain rfl : k = 0 := by omega
            exact h
  | succ m ih =>
    intro hk
    by_cases e:k = m + 1
    · subst e;exact h
    · unfold look;rw [ih (by omega)]
theorem Ze6 (l:List S68) (r:Int) (hl:l.length ≤ 9223372036854775807):Ev (fun k => Z0m.f k l r) (idxI l r):=by
  have key:∀ d i,l.length - i = d → i ≤ l.length → look l i r = none → Ev (fun k => Z0m.l0 k l r (i:Int)) (idxI l r):=by
    intro d
    induction d with
    | zero =>
      intro i hd hi hn
      obtain rfl:i = l.length:=by omega
      refine Ev.step (f:=fun _ => some (-1)) (fun k => ?_) ?_
      · simp only [Z0m.l0];rw [if_neg (by omega)]
      · unfold idxI;rw [hn];exact Ev.now _
    | succ d ih =>
      intro i hd hi hn
      have hlt:i < l.length:=by omega
      by_cases hr:(Z0v l (i:Int)).f0 = r
      · have h1:look l (i + 1) r = some i:=by unfold look;rw [hn];simp [hr]
        refine Ev.step (f:=fun _ => some (i:Int)) (fun k => ?_) ?_
        · simp only [Z0m.l0];rw [if_pos (by omega),if_pos (by omega),if_pos hr]
        · unfold idxI;rw [Z5c l r _ _ h1 l.length (by omega)];exact Ev.now _
      · refine Ev.step (fun k => ?_) (ih (i + 1) (by omega) (by omega) (by unfold look;rw [hn];simp [hr]))
        simp only [Z0m.l0];rw [if_pos (by omega),if_pos (by omega),if_neg hr,Z1a hlt hl]
  exact key _ 0 rfl (by omega) rfl
theorem Z6q (A:Option Addr) (c:Nat) (l:List S68) (r:Int) (w:World) (hr0:Kd.C k68 w A l.length l) (hc0:l.length ≤ c) :
    Calls Tryz.prog 39 #[.slice A l.length c,.int .i32 r] w fun e w' => e = .returned (.int .i64 (idxI l r)) ∧ Drawn0 w w':=by
  obtain ⟨k,hk⟩:=(Ze6 l r hr0.2.1).rounds;exact Z0m.calls k A c l r _ w hr0 hc0 hk
theorem Z6v:∀ rs:List Int,(encL rs).length ≤ 4 * rs.length
  | [] => Nat.le_refl _
  | r :: rs => by
    have h1:=Z6v rs;have h2:=(encodeRuneZ_length r).2
    have h3:(encodeRune r).length = (encodeRuneZ r).length:=by simp [encodeRune]
    unfold encL at h1 ⊢;rw [List.flatMap_cons,List.length_append,List.length_cons];omega
theorem Zbl (r:Int) (h:scalar r):(Utf8.encode r).size ≤ 4:=by
  rw [← sizeL,Z9f r h];have:=(encodeRuneZ_length r).2
  simpa [encodeRune] using this
theorem Zft {W:World} {k:Nat} {s:ByteArray} {pos:Nat} {b:Nat} {e:TypeId} {size n:Nat} {v:Value} {xs:List Value} (h:W.ownsRow b e size v n xs) (hk:W.heap[k]? = some (.stringIter s pos)) (pos':Nat):(W.iterAt k s pos').ownsRow b e size v n xs:=by
  obtain ⟨hl,hnil | ⟨g,cap,cur,hv,hg,hc,rest⟩⟩:=h
  · exact ⟨hl,.inl hnil⟩
  · refine ⟨hl,.inr ⟨g,cap,cur,hv,hg,(iterAt_other W k g s pos' (fun e => ?_)).trans hc,rest⟩⟩
    subst e;rw [hk] at hc;cases hc
theorem Z9j {W:World} {k:Nat} {s:ByteArray} {pos:Nat} {b:Nat} {e:TypeId} {size n:Nat} {v:Value} {xs:List Value} (h:W.ownsRow b e size v n xs) (hk:W.heap[k]? = some (.stringIter s pos)):some k ≠ v.ownBlock:=by
  rcases h.2 with ⟨rfl,_⟩ | ⟨g,cap,cur,rfl,_,hc,_⟩
  · simp [Value.ownBlock]
  · intro e
    obtain rfl:k = g:=by simpa [Value.ownBlock] using e
    rw [hk] at hc;cases hc
theorem Z65 {W:World} {b:Nat} {e:TypeId} {size n:Nat} {v:Value} {xs:List Value} (h:W.ownsRow b e size v n xs):∃ ao cap,v = .slice ao n cap:=by
  rcases h.2 with ⟨rfl,h0⟩ | ⟨g,cap,cur,rfl,_⟩
  · exact ⟨none,0,by rw [h0]⟩
  · exact ⟨_,cap,rfl⟩
theorem Z3i {W:World} {b:Nat} {e:TypeId} {size n:Nat} {v:Value} {xs:List Value} (h:W.ownsRow b e size v n xs):∀ k,v.ownBlock = some k → b ≤ k:=by
  intro k hk
  rcases h.2 with ⟨rfl,_⟩ | ⟨g,cap,cur,rfl,hb,_⟩
  · simp [Value.ownBlock] at hk
  · obtain rfl:g = k:=by simpa [Value.ownBlock] using hk
    exact hb
theorem Z42 {W W':World} {b:Nat} {e:TypeId} {size n:Nat} {v:Value} {xs:List Value} (h:W.ownsRow b e size v n xs) (hb:Below W.heap.size W W'):W'.ownsRow b e size v n xs:=by
  obtain ⟨hl,hnil | ⟨g,cap,cur,hv,hg,hc,rest⟩⟩:=h
  · exact ⟨hl,.inl hnil⟩
  · exact ⟨hl,.inr ⟨g,cap,cur,hv,hg,(hb.block g (Array.getElem?_eq_some_iff.1 hc).1).trans hc,rest⟩⟩
theorem Z2i {W:World} {p:Addr} {v:Value} (o:Obj) (h:W.cell? p = some v):(W.alloc o).cell? p = some v :=
  (((Below.refl W.heap.size W).alloc (Nat.le_refl _) o).cell (World.block_lt_of_cell? _ _ h)).trans h
theorem Z2c (W:World) (xs:Array Value) (t:TypeId) (j:Nat) (v:Value) (h:xs[j]? = some v):(W.alloc (.cells xs t)).cell? ⟨W.heap.size,j,none⟩ = some v:=by
  unfold World.cell?;rw [World.alloc_heap_new W _]
  simpa using h
theorem Z51 (W:World) (x:Value) (t:TypeId):∀ (j:Nat) (u:Value),[x][j]? = some u → (W.alloc (.cells #[x] t)).cell? ((⟨W.heap.size,0,none⟩:Addr).add j) = some u:=by
  intro j u hu;rw [Addr.add_lit,Nat.zero_add];unfold World.cell?;rw [World.alloc_heap_new W _]
  simpa using hu
theorem Zfu (W:World) (base:Nat) (ok:Nat → Prop):∀ xs:List Int,Reps ((Kd.int .i64).M W base ok) 1 xs (xs.map (Value.int .i64))
  | [] => Reps.none _ _
  | x :: xs => by
    have h:=Zfu W base ok xs
    refine ⟨by simp,fun j q hq => ?_⟩
    cases j with
    | zero => obtain rfl : x = q := by simpa using hq
              exact rfl
    | succ j =>
      have:=h.2 j q (by simpa using hq);rw [List.map_cons,show (j + 1) * 1 = j * 1 + 1 from by omega,List.drop_succ_cons];exact this
theorem Zhd {W:World} {base:Nat} {v:Value} {xs:List Int} (h:W.ownsRow base 3 1 v xs.length (xs.map (Value.int .i64))):Kd.R (Kd.int .i64) 3 W base (fun _ => True) v xs :=
  ⟨fun _ _ => trivial,_,h,Zfu W base _ xs⟩
def Zhe (l:List S68) (s:ByteArray):List Int × Bool:=if (Z0d s).all (isL l) = true then ((Z0d s).map (idxI l),validD s.data.toList) else ([],false)
def Z2f.f (l0:List S68) (a1:ByteArray):Option (List Int × Bool):=if a1.size ≤ 1099511627776 then some (Zhe l0 a1) else none
theorem Z8v (l:List S68) (r:Int):idxI l r < 0 ↔ isL l r = false:=by
  unfold idxI isL
  cases look l l.length r <;> simp
set_option maxRecDepth 100000 in
set_option maxHeartbeats 1000000 in
theorem Z2f.calls (A0:Option Addr) (c0:Nat) (l0:List S68) (a1:ByteArray) (r1:List Int) (r2:Bool) (w:World) (hr0:Kd.C k68 w A0 l0.length l0) (hc0:l0.length ≤ c0) (h:Z2f.f l0 a1 = some (r1,r2)) :
    Calls Tryz.prog 81 #[.slice A0 l0.length c0,.string a1] w fun e w' => ∃ v0_:Value,e = .returned (.tuple #[v0_,.bool r2]) ∧ Kd.R (Kd.int .i64) 3 w' w.heap.size (fun _ => True) v0_ r1 ∧ Below w.heap.size w w':=by
  unfold Z2f.f at h
  by_cases hg:a1.size ≤ 1099511627776
  · rw [if_pos hg] at h
    have hr:=Option.some.inj h;clear h;obtain ⟨i0,hi0,hz0,hz1,hz2⟩:=info_parts Zhx;have hR:=am hr0;have hC:=am hc0;have hG:=am hg;have hr':=am hr;clear hr0 hc0 hr hg;go_enter Tryz.func81,Tryz.ntmps81;go_wp2;have hBK:Below w.heap.size w ((w.alloc (.cells #[] 3)).iter a1 0):=((Below.refl _ w).alloc (Nat.le_refl _) _).alloc (by simp) _;have hBK':=am hBK;have hO0:(((w.alloc (.cells #[] 3)).iter a1 0)).ownsRow w.heap.size 3 1 (.slice (some ⟨w.heap.size,0,none⟩) 0 0) 0 []:=(World.ownsRow_lit _ #[] 0 (Nat.le_refl _) (by decide) rfl).alloc _;have hO0':=am hO0;clear hBK hO0
    go_loopg [6,7] a1.size (fun kq v6 v7 w' => ∃ (pos:Nat) (done:List Int) (b:ByteArray),v7 = .string b ∧ Aside0 (w'.heap[w.heap.size + 1]? = some (.stringIter a1 pos)) ∧ Aside0 (a1.size - pos ≤ kq) ∧ Aside0 (done ++ Z3b a1 pos = Z0d a1) ∧ Aside0 (done.all (isL l0) = true) ∧ Aside0 (b.data.toList = encL done) ∧ Aside0 (w'.ownsRow w.heap.size 3 1 v6 done.length ((done.map (idxI l0)).map (Value.int .i64))) ∧ Aside0 (Below w.heap.size w w'))
    case atStart => exact ⟨0,[],⟨#[]⟩,rfl,⟨by have:=World.iter_heap (w.alloc (.cells #[] 3)) a1 0;simpa using this⟩,⟨by omega⟩,⟨by rw [Z2t];rfl⟩,⟨rfl⟩,⟨rfl⟩,hO0',hBK'⟩
    case round =>
      obtain ⟨pos,done,b,rfl,hit,hq,hdone,hall,hb,hO,HB⟩:=hrel;obtain ⟨ao,cap,hv6⟩:=Z65 hO.out;subst hv6
      by_cases hp:pos < a1.size
      · obtain ⟨g1,rfl⟩:∃ g1,gk = g1 + 1:=⟨gk - 1,by have:=hq.out;omega⟩
        have hnx:∀ ty,(Instr.next (.pointer (some ⟨w.heap.size + 1,0,none⟩)) true ty).run Tryz.prog wr = _:=fun ty => run_next_any_at wr (w.heap.size + 1) a1 pos ty hit.out hp
        have hsc:=Z50 a1 pos;have hst:=Z34 hp;have hwd:=Z4k hp;obtain ⟨R,hRR⟩:∃ R:Int,((Utf8.decode a1 pos).1:Int) = R:=⟨_,rfl⟩;rw [hRR] at hsc hst;simp only [hRR] at hnx;obtain ⟨pos2,hp2⟩:∃ p2,pos + (Utf8.decode a1 pos).2 = p2:=⟨_,rfl⟩;rw [hp2] at hst hnx;obtain ⟨W1,hW1⟩:∃ W1,wr.iterAt (w.heap.size + 1) a1 pos2 = W1:=⟨_,rfl⟩
        have hB1:Below w.heap.size w W1:=by rw [← hW1];exact below_iterAt HB.out (by omega) _ _
        have hit1:W1.heap[w.heap.size + 1]? = some (.stringIter a1 pos2):=by rw [← hW1];exact iterAt_heap _ _ _ _ _ hit.out
        have hO1:W1.ownsRow w.heap.size 3 1 (.slice ao done.length cap) done.length ((done.map (idxI l0)).map (Value.int .i64)):=by rw [← hW1];exact Zft hO.out hit.out _
        simp only [hW1] at hnx;have hix:=Z6q A0 c0 l0 R W1 (Kd.C_below hR.out hB1) hC.out;obtain ⟨X,hX⟩:∃ X,idxI l0 R = X:=⟨_,rfl⟩;rw [hX] at hix;have hst':=am hst;have hsc':=am hsc;have hw':Aside0 (pos < pos2):=⟨by omega⟩;have hB1':=am hB1;have hit1':=am hit1;have hO1':=am hO1;have hX':=am hX;have hp':=am hp;clear hst hsc hwd hp hB1 hit1 hO1 hW1 hX hp2 hRR
        by_cases hXn:X < 0
        · have hLf:isL l0 R = false:=by rw [← Z8v,hX'.out];exact hXn
          have hov:Zhe l0 a1 = ([],false):=by
            unfold Zhe;rw [if_neg];rw [← hdone.out,List.all_append,hst'.out,List.all_cons,hLf]
            simp
          rw [hov] at hr';obtain ⟨e1,e2⟩:=Prod.mk.inj hr'.out;subst e1 e2;clear hLf hov
          go_wp2_with (go_at_call 39;refine hix.mono ?_;clear hix;rintro e w5 ⟨rfl,⟨nd,rfl⟩⟩)
          go_ret2;exact ⟨_,rfl,Kd.R_nil _ _ _ _ _,pw_below_drewN hB1'.out nd⟩
        · have hL:Aside0 (isL l0 R = true):=⟨by
            cases e:isL l0 R with
            | true => rfl
            | false =>
              have h:=(Z8v l0 R).2 e;rw [hX'.out] at h
              exact absurd h hXn⟩
          have hdl:done.length ≤ 1099511627776:=by
            have h1:=congrArg List.length hdone.out;have h2:=Z23 a1;have h3:=hG.out;rw [List.length_append] at h1;omega
          have hbs:b.size ≤ 4 * done.length:=by rw [← sizeL,hb.out];exact Z6v done
          have hadd:¬ 9223372036854775807 < b.size + (Utf8.encode R).size:=by have:=Zbl R hsc'.out;omega
          have hdl':=am hdl;clear hbs hdl
          go_wp2_with (first | (go_at_call 39;refine hix.mono ?_;clear hix;rintro e w5 ⟨rfl,⟨nd,rfl⟩⟩) | ((with_reducible refine gate_builtin (b:=.append) (xs:=#[.tmp 22,.tmp 24]) rfl ?_);at_builtin;refine wpList_append_own _ rfl (.tmp 22) (.tmp 24) 139 rfl w.heap.size 3 i0 (.int .i64 0) 1 8 Tryz.underlying139 hi0 hz0 hz1 hz2 rfl (by decide) (.slice ao done.length cap) done.length ((done.map (idxI l0)).map (Value.int .i64)) rfl (World.ownsRow.alloc (show (W1.drewN nd).ownsRow _ _ _ _ _ _ from hO1'.out) _) ⟨W1.heap.size,0,none⟩ 1 1 [.int .i64 X] rfl rfl ?aC (by simp [Value.oneCell']) ?aM ?aB ?aS ?_;(case aC => exact Z51 (W1.drewN nd) _ _);(case aM => exact Gc28);(case aB => have:=hdl'.out;omega);(case aS => have:=hB1'.out.size;simp;omega);intro v2 w2 ho2 hg2 hi2))
          have hB2:Below w.heap.size w w2:=(((pw_below_drewN hB1'.out nd).alloc (by have:=hB1'.out.size;simpa using this) _)).grown hg2 (by have:=hB1'.out.size;simp;omega) (fun k e => Z3i hO1'.out k e)
          have hit2:w2.heap[w.heap.size + 1]? = some (.stringIter a1 pos2):=by
            have hlt:w.heap.size + 1 < W1.heap.size:=(Array.getElem?_eq_some_iff.1 hit1'.out).1
            refine (hg2.block _ (by simp;omega) (Z9j hO1'.out hit1'.out)).trans ?_
            exact (Below.heap_alloc (W1.drewN nd) _ _ (by simpa using hlt)).trans hit1'.out
          go_roundg g1
          case measure => omega
          case rel =>
            refine ⟨pos2,done ++ [R],b ++ Utf8.encode R,rfl,⟨hit2⟩,⟨by have:=hq.out;have:=hw'.out;omega⟩,⟨by rw [List.append_assoc,List.singleton_append,← hst'.out];exact hdone.out⟩,⟨by rw [List.all_append,hall.out];simp [hL.out]⟩,⟨Zbj b done R hb.out hsc'.out⟩,⟨?_⟩,⟨hB2⟩⟩
            rw [List.length_append,List.map_append,List.map_append];simp only [List.map_cons,List.map_nil,hX'.out,List.length_cons,List.length_nil];exact ho2
      · have hnx:∀ ty,(Instr.next (.pointer (some ⟨w.heap.size + 1,0,none⟩)) true ty).run Tryz.prog wr = _:=fun ty => run_next_end_at wr (w.heap.size + 1) a1 pos ty hit.out hp
        have hre:=Z2z hp
        have hd:done = Z0d a1:=by rw [← hdone.out,hre,List.append_nil]
        have hov:Zhe l0 a1 = (done.map (idxI l0),validD a1.data.toList):=by
          unfold Zhe;rw [← hd,if_pos hall.out]
        rw [hov] at hr';obtain ⟨e1,e2⟩:=Prod.mk.inj hr'.out;subst e1 e2
        have hv:(b.toList == a1.toList) = validD a1.data.toList:=by
          cases e:validD a1.data.toList with
          | true =>
            refine beq_iff_eq.2 ?_
            rw [ByteArray.toList_eq,ByteArray.toList_eq,hb.out,hd];exact (Z36 _).1 e
          | false =>
            refine beq_eq_false_iff_ne.2 fun h => ?_
            rw [ByteArray.toList_eq,ByteArray.toList_eq,hb.out,hd] at h;have:=(Z36 a1.data.toList).2 h;rw [e] at this;cases this
        have hv':=am hv;clear hre hd hov hp hv;go_wp2;go_ret2;exact ⟨.slice ao done.length cap,by rw [← hv'.out];rfl,Zhd (by rw [List.length_map];exact hO.out),HB.out⟩
  · rw [if_neg hg] at h;cases h
end Go.Proofs.YtfbhdjflkaldgaaGreatDoor.Pr
