/- Several texts in one: Seg, Rdf, NewR, Rdr, Rdb, Rdw. -/
import Derived.Test.YtfbhdjflkaldgaaGreatDoorMg3
import Derived.Test.YtfbhdjflkaldgaaGreatDoorMg9
import Derived.Recover
import Derived.WalkLawsBesides
import Derived.Test.YtfbhdjflkaldgaaGreatDoorMg2
/- orthography.segments. -/
/- The reader's deferred closure. -/
/- orthography.newReader. -/
/- A reader of runes against splitting at blanks: no program in sight. -/
/- Splitting at blanks and stops, on bytes and on runes: no program in sight. -/
/- The reader's state in a world. -/
namespace Go.Proofs.YtfbhdjflkaldgaaGreatDoor.Pr
open Go.Proofs.YtfbhdjflkaldgaaGreatDoor.Ct Go.RowKit Go.Maps Go.Lib Go.Proofs.YtfbhdjflkaldgaaGreatDoorW.PrintWords Go.Proofs.YtfbhdjflkaldgaaGreatDoorW.PrintLast Go.Proofs.YtfbhdjflkaldgaaGreatDoorW.PrintMore
set_option linter.unusedVariables false
set_option linter.unusedSimpArgs false
def cutE (t:ByteArray):ByteArray × Bool:=if 1 ≤ t.size ∧ ((t.extract 0 1).toList == [61]) = true then (t.extract 1 t.size,true) else (t,false)
theorem Znw (t:ByteArray):Z35.f t ⟨#[61]⟩ = some (cutE t):=by
  unfold Z35.f Z2e.f Z26.f cutE;have h1:((⟨#[61]⟩:ByteArray).size:Int) = 1:=rfl
  have h2:(⟨#[61]⟩:ByteArray).toList = [61]:=by rw [ByteArray.toList_eq]
  rw [h1,h2]
  by_cases c:1 ≤ t.size
  · rw [if_pos (show (t.size:Int) ≥ 1 by omega),if_pos (show (0:Int) ≤ 1 by decide),if_pos (show (1:Int) ≤ (t.size:Int) by omega)]
    rw [show (1:Int).toNat = 1 from rfl]
    cases e:((t.extract 0 1).toList == [61]) with
    | false => rw [if_neg (show ¬ (1 ≤ t.size ∧ false = true) by simp)];rfl
    | true => rw [if_pos (show 1 ≤ t.size ∧ true = true from ⟨c,rfl⟩),Option.bind_some,if_pos rfl,if_pos (show (0:Int) ≤ 1 by decide),if_pos (show (1:Int) ≤ (t.size:Int) by omega)];rfl
  · rw [if_neg (show ¬ (t.size:Int) ≥ 1 by omega),if_neg (show ¬ (1 ≤ t.size ∧ _) from fun h => c h.1)];rfl
theorem Zcn (t:ByteArray):(cutE t).1.size ≤ t.size:=by
  unfold cutE
  split
  · rw [ByteArray.size_extract];omega
  · exact Nat.le_refl _
def Z5f (l:List S68) (s:ByteArray):Bool:=decide (0 < s.size) && Z18 l s
def Z4e (out:List S60):S60:=Z1w out ((out.length - 1:Nat):Int)
def segF (l:List S68):List ByteArray → List S60 → List S60 × Bool
  | [],out => (out,true)
  | t :: ts,out => if (cutE t).2 = false then (if Z5f l t = true then segF l ts (out ++ [(⟨t,[]⟩:S60)]) else ([],false)) else if Z5f l (cutE t).1 = true ∧ 0 < out.length ∧ (Z4e out).f1.length < 2 then segF l ts (out.set (out.length - 1) ⟨(Z4e out).f0,(Z4e out).f1 ++ [(cutE t).1]⟩) else ([],false)
def segP (l:List S68) (ts:List ByteArray):List S60 × Bool:=if 1 ≤ ts.length ∧ ts.length ≤ 40 then segF l ts [] else ([],false)
def Z2a.f (gL:Lg) (l1:List ByteArray):Option (List S60 × Bool):=if Z1z gL.v2 = true ∧ l1.all (fun t => decide (t.size ≤ 1099511627776)) = true then some (segP gL.v2 l1) else none
theorem Zhl (gL:Lg) (pL:La) (s:ByteArray) (w:World) (hT:Tabs w) (hL:Z2o gL pL w) (h1:Z1z gL.v2 = true) (h2:s.size ≤ 1099511627776) :
    Calls Tryz.prog 28 #[.agg (lcs gL pL),.string s] w fun e w' => e = .returned (.bool (Z5f gL.v2 s)) ∧ Below w.heap.size w w':=by
  refine Z3o.calls gL pL s _ w hT hL ?_
  unfold Z3o.f Z5f
  by_cases c:0 < s.size
  · rw [if_neg,decide_eq_true c,Bool.true_and]
    · unfold Z29.f;rw [if_pos ⟨h1,by omega⟩];rfl
    · intro e
      have:=congrArg List.length e;rw [ByteArray.toList_eq,sizeL,List.length_nil] at this;omega
  · rw [if_pos,decide_eq_false c,Bool.false_and]
    rw [ByteArray.toList_eq];exact List.eq_nil_of_length_eq_zero (by rw [sizeL];omega)
theorem Z4v (l:List ByteArray) (i:Nat) (h:i < l.length):l.drop i = rdOf ByteArray.empty l (i:Int) :: l.drop (i + 1):=by
  unfold rdOf;rw [List.drop_eq_getElem_cons h,Int.toNat_natCast,List.getD_eq_getElem?_getD,List.getElem?_eq_getElem h];rfl
theorem Zlj {p:Prop} (h:p:=by
  go_wp2_with (first | (go_at_call 27;refine (hcc _).mono ?_;rintro e z1_ ⟨rfl,nd,rfl⟩;have z2_:=am (pw_below_drewN HB.out nd);have z3_:=am (Kd.S_drewN HO.out nd);have z4_:=hblk'.out _ z2_.out) | ((with_reducible refine Z0z (t:=41) (p:=2) rfl ?_);(try (refine gate_guard (by rfl) ?_;dsimp only));refine wpList_load_row rfl 41 (.tmp 2) rfl w.heap.size rfl 41 _ (0,0) _ z4_ Tryz.underlying41 rfl (by kernel_rfl) ?_) | (go_at_call 28;with_reducible refine (hwo'.out C Gc30 _ z2_.out).mono ?_;rw [hwe];rintro e z5_ ⟨rfl,z6_⟩;have z7_:=am (z2_.out.trans (z6_.mono z2_.out.size));have z8_:=am (Kd.S_below z3_.out z6_)))
  go_ret2
  exact ⟨_,rfl,Kd.S_nil _ _ _ _ _,hB0'.out.trans (z7_.out.mono hB0'.out.size)⟩):p:=h
set_option maxRecDepth 100000 in
set_option maxHeartbeats 4000000 in
theorem Z2a.calls (gL:Lg) (pL:La) (A1:Option Addr) (c1:Nat) (l1:List ByteArray) (r1:List S60) (r2:Bool) (w:World) (hT:Tabs w) (hL:Z2o gL pL w) (hr1:Kd.C Kd.string w A1 l1.length l1) (hc1:l1.length ≤ c1) (h:Z2a.f gL l1 = some (r1,r2)) :
    Calls Tryz.prog 16 #[.agg (lcs gL pL),.slice A1 l1.length c1] w fun e w' => ∃ v0_:Value,e = .returned (.tuple #[v0_,.bool r2]) ∧ Kd.S k60 60 w' w.heap.size (fun _ => True) v0_ r1 ∧ Below w.heap.size w w':=by
  unfold Z2a.f at h
  by_cases hg:Z1z gL.v2 = true ∧ l1.all (fun t => decide (t.size ≤ 1099511627776)) = true
  · rw [if_pos hg] at h
    have hr:=Option.some.inj h;clear h;have hu41:=Tryz.underlying41;have hu57:=Tryz.underlying60;obtain ⟨W0,hW0⟩:∃ W0,w.alloc (.cells (lcs gL pL) 41) = W0:=⟨_,rfl⟩
    have hB0:Below w.heap.size w W0:=by rw [← hW0];exact (Below.refl _ w).alloc (Nat.le_refl _) _
    have hsz0:w.heap.size < W0.heap.size:=by rw [← hW0];simp
    have hblk:∀ w1,Below W0.heap.size W0 w1 → w1.heap[w.heap.size]? = some (.cells (lcs gL pL) 41 (0,0)):=by
      intro w1 hB
      refine (hB.block _ hsz0).trans ?_
      rw [← hW0];exact World.alloc_heap_new w _
    have hwo:=fun (s:ByteArray) (hs:s.size ≤ 1099511627776) (w1:World) (hB:Below W0.heap.size W0 w1) => Zhl gL pL s w1 (Z1s hT (hB0.trans (hB.mono hB0.size))) (hL.below (hB0.trans (hB.mono hB0.size))) hg.1 hs
    have hts:∀ i:Nat,i < l1.length → (rdOf ByteArray.empty l1 (i:Int)).size ≤ 1099511627776:=by
      intro i hi;have hm:rdOf ByteArray.empty l1 (i:Int) ∈ l1:=List.mem_of_mem_drop (i:=i) (by rw [Z4v l1 i hi];simp)
      simpa using List.all_eq_true.1 hg.2 _ hm
    have hwo':=am hwo;have hblk':=am hblk;have hB0':=am hB0;have hts':=am hts;have HR1:=am hr1;have HC1:=am hc1;have hsz0':=am hsz0
    have hcutc:=fun (t:ByteArray) (w1:World) => Z35.calls t ⟨#[61]⟩ (cutE t).1 (cutE t).2 w1 (Znw t)
    have hcutc':=am hcutc;have HBc:Below W0.heap.size W0 W0:=Below.refl _ _;clear hT hL hr1 hc1 hB0 hblk hwo hg hts hsz0 hcutc
    by_cases hn:1 ≤ l1.length ∧ l1.length ≤ 40
    · have hrr:segF gL.v2 l1 [] = (r1,r2):=by rw [← hr];unfold segP;rw [if_pos hn]
      have hrr':=am hrr;obtain ⟨n,hne⟩:∃ n,l1.length = n:=⟨_,rfl⟩;rw [hne] at hn ⊢
      have hn1:¬ ((n:Int) < 1):=by omega
      have hn2:¬ ((40:Int) < (n:Int)):=by omega
      have hn':=am hn;have hne':=am hne;clear hrr hr hn hne;go_enter Tryz.func16,Tryz.ntmps16;go_wp2
      go_loopg [6,8,9,10,11,22] n (fun kq v6 v8 v9 v10 v11 v22 w' => ∃ (i:Nat) (out:List S60),v22 = .int .i64 (i:Int) ∧ Aside0 (i + kq = n) ∧ Aside0 (segF gL.v2 (l1.drop i) out = (r1,r2)) ∧ Aside0 (out.length ≤ i) ∧ Aside0 (Kd.S k60 60 w' W0.heap.size (fun _ => True) v6 out) ∧ Aside0 (Below W0.heap.size W0 w'))
      case atStart => exact ⟨0,[],rfl,⟨by omega⟩,⟨by rw [List.drop_zero];exact hrr'.out⟩,⟨by simp⟩,⟨Kd.S_nil _ _ _ _ _⟩,⟨Below.refl _ _⟩⟩
      case round =>
        obtain ⟨i,out,rfl,hik,hF,hol,HO,HB⟩:=hrel;obtain ⟨Ao,co,hv6⟩:=Kd.S_slice HO.out;subst hv6
        cases gk with
        | zero =>
          have hcd:¬ ((i:Int) < (n:Int)):=by have:=hik.out;omega
          have hF2:=hF.out;rw [List.drop_of_length_le (by have:=hik.out;have:=hne'.out;omega)] at hF2;obtain ⟨e1,e2⟩:=Prod.mk.inj hF2;subst e1 e2;clear hF2;go_wp2;go_ret2;exact ⟨_,rfl,Kd.S_lower HO.out (Nat.le_of_lt hsz0'.out),hB0'.out.trans (HB.out.mono hB0'.out.size)⟩
        | succ g1 =>
          have hcd:(i:Int) < (n:Int):=by have:=hik.out;omega
          have hlt:i < l1.length:=by have:=hik.out;have:=hne'.out;omega
          have hF2:=hF.out;rw [Z4v l1 i hlt] at hF2;have hsz:=hts'.out i hlt;obtain ⟨ad,hA,hx0⟩:=Kd.at_string HR1.out (i:Int) (by omega) (by omega);subst hA;rw [Int.toNat_natCast] at hx0;have hx:=((HB.out.cell (Nat.lt_of_lt_of_le (World.block_lt_of_cell? _ _ hx0) hB0'.out.size)).trans ((hB0'.out.cell (World.block_lt_of_cell? _ _ hx0)).trans hx0));clear hx0;obtain ⟨T,hT⟩:∃ T,rdOf ByteArray.empty l1 (i:Int) = T:=⟨_,rfl⟩;rw [hT] at hx hF2 hsz;have hcc:=hcutc'.out T;obtain ⟨⟨C,is⟩,hC⟩:∃ c,cutE T = c:=⟨_,rfl⟩;have hCs:=Zcn T;rw [segF,hC] at hF2;simp only [hC] at hcc hCs;simp only at hF2;have hfin:=am (Z1a (i:=i) (n:=n) (by have:=hne'.out;omega) (by have:=hn'.out.2;omega));have HBc2:=HB.out;have hbk:=hblk'.out _ HBc2;have hcs':=am hCs;have hcs':=am hCs;have hszT:=am hsz;clear hT hC hCs hsz hlt hF
          cases is with
          | false =>
            rw [if_pos rfl] at hF2
            cases hwe:Z5f gL.v2 T with
            | false =>
              rw [hwe,if_neg (by decide)] at hF2;obtain ⟨e1,e2⟩:=Prod.mk.inj hF2;subst e1 e2;clear hF2
              go_wp2_with (first | (go_at_call 27;refine (hcc _).mono ?_;rintro e w2 ⟨rfl,nd,rfl⟩;have HB2:=am (pw_below_drewN HB.out nd);have HO2:=am (Kd.S_drewN HO.out nd);have hbk2:=hblk'.out _ HB2.out) | ((with_reducible refine Z0z (t:=41) (p:=2) rfl ?_);(try (refine gate_guard (by rfl) ?_;dsimp only));refine wpList_load_row rfl 41 (.tmp 2) rfl w.heap.size rfl 41 _ (0,0) _ hbk2 Tryz.underlying41 rfl (by kernel_rfl) ?_) | (go_at_call 28;with_reducible refine (hwo'.out T Gc30 _ HB2.out).mono ?_;rw [hwe];rintro e w3 ⟨rfl,hB3⟩;have HB3:=am (HB2.out.trans (hB3.mono HB2.out.size));have HO3:=am (Kd.S_below HO2.out hB3)))
              go_ret2;exact ⟨_,rfl,Kd.S_nil _ _ _ _ _,hB0'.out.trans (HB3.out.mono hB0'.out.size)⟩
            | true =>
              rw [hwe,if_pos rfl] at hF2;have hF3:=am hF2;clear hF2
              go_wp2_with (first | (go_at_call 27;refine (hcc _).mono ?_;rintro e w2 ⟨rfl,nd,rfl⟩;have HB2:=am (pw_below_drewN HB.out nd);have HO2:=am (Kd.S_drewN HO.out nd);have hbk2:=hblk'.out _ HB2.out) | ((with_reducible refine Z0z (t:=41) (p:=2) rfl ?_);(try (refine gate_guard (by rfl) ?_;dsimp only));refine wpList_load_row rfl 41 (.tmp 2) rfl w.heap.size rfl 41 _ (0,0) _ hbk2 Tryz.underlying41 rfl (by kernel_rfl) ?_) | (go_at_call 28;with_reducible refine (hwo'.out T Gc30 _ HB2.out).mono ?_;rw [hwe];rintro e w3 ⟨rfl,hB3⟩;have HB3:=am (HB2.out.trans (hB3.mono HB2.out.size));have HO3:=am (Kd.S_below HO2.out hB3)) | ((with_reducible refine gate_builtin (b:=.append) (xs:=#[.tmp 39,.tmp 42]) rfl ?_);at_builtin;refine Kd.S_append k60 (w0:=W0) W0.heap.size rfl (.tmp 39) (.tmp 42) 56 60 (.agg #[(.string ⟨#[]⟩),(.slice none 0 0)]) 40 rfl Tryz.underlying56 Zl1 rfl (by decide) (by omega) (.slice Ao out.length co) out (⟨T,([]:List ByteArray)⟩:S60) [.string T,.slice none 0 0] (fun _ => True) (fun _ => False) rfl rfl ?aP (fun k_ hk_ => hk_.elim) ?aF ?aO ?aB ?aS ?aL ?_;(case aP => exact Zbi _ _ _ (⟨T,([]:List ByteArray)⟩:S60) (Kd.R_nil _ _ _ _ _));(case aB => exact HB3.out);(case aF => exact Gc25);(case aO => exact Kd.S_mono HO3.out (fun _ _ => ⟨trivial,fun h => h⟩));(case aS => exact HB3.out.size);(case aL => have:=hol.out;have:=hn'.out.2;have:=hik.out;omega);intro v5 w5 ho hb hg hat;have HO5:=am ho;have HB5:=am hb;clear ho hb hg hat))
              go_roundg g1
              case measure => omega
              case rel => exact ⟨i + 1,out ++ [⟨T,[]⟩],by first | rw [hfin.out] | rfl,⟨by have:=hik.out;omega⟩,hF3,⟨by have:=hol.out;rw [List.length_append,List.length_singleton];omega⟩,HO5,HB5⟩
          | true =>
            rw [if_neg (by decide)] at hF2
            cases hwe:Z5f gL.v2 C with
            | false =>
              rw [hwe,if_neg (by simp)] at hF2;obtain ⟨e1,e2⟩:=Prod.mk.inj hF2;subst e1 e2;clear hF2;exact Zlj
            | true =>
              by_cases hz:0 < out.length
              · obtain ⟨g,cap,eo,hbg,hgl,cells9,hcells9⟩:=Kd.S_form HO.out hz
                obtain ⟨rfl,rfl⟩:Ao = some ⟨g,0,none⟩ ∧ co = cap:=by injection eo with a1 a2 a3;exact ⟨a1,a3⟩
                obtain ⟨J,hJ⟩:∃ J,out.length - 1 = J:=⟨_,rfl⟩
                have hJl:J < out.length:=by omega
                have hji:=am (show wrap64 ((out.length:Int) - 1) = (J:Int) by rw [Z6s _ ⟨by omega,by have:=hol.out;have:=hn'.out.2;have:=hik.out;omega⟩];omega);obtain ⟨ad5,A5,c5,e5,hx50,hx51,hl5,hi5⟩:=Zfd (Kd.S_reads' HO.out).2.2 (J:Int) (by omega) (by omega);obtain rfl:=Option.some.inj e5;rw [Int.toNat_natCast] at hx51;obtain ⟨LS,hLS⟩:∃ LS,Z1w out (J:Int) = LS:=⟨_,rfl⟩
                have hlast:Z4e out = LS:=by unfold Z4e;rw [hJ];exact hLS
                rw [hLS] at hx51
                replace hx51:wr.cell? ⟨g,J * 2 + 1,none⟩ = some (.slice A5 LS.f1.length c5):=by rw [Addr.add_lit,Nat.zero_add] at hx51;exact hx51
                rw [hlast] at hF2
                have hz':(0:Int) < (out.length:Int):=by omega
                have hj0:(0:Int) ≤ (J:Int):=by omega
                have hj1:(J:Int) < (out.length:Int):=by omega
                have hji2:=hji.out;have hJ':=am hJ;have hLS':=am hLS;have hrd':=am (show out.getD (J:Int).toNat z60 = LS by rw [← hLS];rfl);have hgl':=am hgl;have hbg':=am hbg;clear hx50 hl5 hi5 hlast hLS hcells9 hgl hbg hJ
                by_cases h2:LS.f1.length < 2
                · have h2':(LS.f1.length:Int) < 2:=by omega
                  rw [if_pos ⟨hwe,hz,h2⟩] at hF2;have hF3:=am hF2;have h2a:=am h2;clear hF2 hz h2 hJl eo e5
                  go_wp2_with (first | (go_at_call 27;refine (hcc _).mono ?_;rintro e w2 ⟨rfl,nd,rfl⟩;have HB2:=am (pw_below_drewN HB.out nd);have HO2:=am (Kd.S_drewN HO.out nd);have hbk2:=hblk'.out _ HB2.out) | ((with_reducible refine Z0z (t:=41) (p:=2) rfl ?_);(try (refine gate_guard (by rfl) ?_;dsimp only));refine wpList_load_row rfl 41 (.tmp 2) rfl w.heap.size rfl 41 _ (0,0) _ hbk2 Tryz.underlying41 rfl (by kernel_rfl) ?_) | (go_at_call 28;with_reducible refine (hwo'.out C Gc30 _ HB2.out).mono ?_;rw [hwe];rintro e w3 ⟨rfl,hB3⟩;have HB3:=am (HB2.out.trans (hB3.mono HB2.out.size));have HO3:=am (Kd.S_below HO2.out hB3);have HW0:=pw_below_drewN (Below.refl wr.heap.size wr) nd;have HW3:Below wr.heap.size wr w3:=HW0.trans (hB3.mono HW0.size);have hx53:=(HW3.cell (show (⟨g,J * 2 + 1,none⟩:Addr).block < _ from hgl'.out)).trans hx51;obtain ⟨oki,ce,hcl,hM,hcc9,hfr9,hoki,hH⟩:=Kd.S_elem HO3.out z60 (J:Int) (Int.natCast_nonneg _) hj1;rw [hrd'.out] at hM;obtain ⟨ve,rfl,hge⟩:=Z61 hM;have hv1:=hcc9 1 _ rfl;rw [Int.toNat_natCast,show k60.sz = 2 from rfl] at hv1;obtain rfl:=Option.some.inj (hv1.symm.trans hx53);have UU:=am (show Kd.R Kd.string 9 w3 W0.heap.size oki (.slice A5 LS.f1.length c5) LS.f1 from hge);have HH3:=am hH;clear hcl hM hcc9 hfr9 hoki hH hge hv1) | ((with_reducible refine gate_builtin (b:=.append) (xs:=#[.tmp 76,.tmp 78]) rfl ?_);at_builtin;refine Kd.R_append Kd.string (w0:=W0) W0.heap.size rfl (.tmp 76) (.tmp 78) 31 9 (.string ⟨#[]⟩) 16 rfl Tryz.underlying31 Z95 rfl (by decide) (by omega) (.slice A5 LS.f1.length c5) LS.f1 C [.string C] (fun k_ => oki k_ ∨ True ∧ w3.heap.size ≤ k_) (fun _ => False) rfl rfl ?aP (fun _ hk => hk.elim) ?aF ?aO ?aB ?aS ?aL ?_;(case aP => exact rfl);(case aB => exact HB3.out);(case aF => exact (fun k_ hk => .inr ⟨trivial,hk⟩));(case aO => exact Kd.R_mono UU.out (fun _ hk => .inl hk));(case aS => exact HB3.out.size);(case aL => have:=h2a.out;omega);intro v5 w5 ho hb hg hat;have HH5:=Kd.H_grown (Kd.H_widen HH3.out) hg (fun k_ e_ => .inl (UU.out.1 k_ e_));obtain ⟨_,hfr6⟩:=Kd.H_at HH5 (Int.natCast_nonneg _) hj1;obtain ⟨_,_,hraw,_,_,hcc6,_⟩:=Kd.H_raw HH5 (Int.natCast_nonneg _) hj1;have hx6:=hcc6 1 _ rfl;have hf6:=hfr6 1;rw [Int.toNat_natCast,show k60.sz = 2 from rfl] at hx6 hf6;obtain ⟨A6,c6,e6⟩:=Kd.R_slice ho;subst e6;have HP:=(Kd.S_seg0 HH5 (Int.natCast_nonneg _) hj1 (seg:=[.slice A6 (LS.f1 ++ [C]).length c6]) (j:=1) (show 2 ≤ 2 from by decide) (x':=(⟨LS.f0,LS.f1 ++ [C]⟩:S60)) (Zbi _ _ _ (⟨LS.f0,LS.f1 ++ [C]⟩:S60) ho) (fun _ hk => hk)).1;rw [Int.toNat_natCast,show k60.sz = 2 from rfl] at HP;have HP':=am HP;have hb':=am hb;clear HP HH5 hraw hfr6 hcc6 ho hb hg hat))
                  go_roundg g1
                  case measure => omega
                  case rel => exact ⟨i + 1,out.set (out.length - 1) ⟨LS.f0,LS.f1 ++ [C]⟩,by first | rw [hfin.out] | rfl,⟨by have:=hik.out;omega⟩,hF3,⟨by have:=hol.out;rw [List.length_set];omega⟩,⟨by rw [hJ'.out];have h9:=HP'.out;rw [List.length_append,List.length_singleton] at h9;exact h9⟩,⟨hb'.out.setCell hbg'.out _⟩⟩
                · have h2':¬ (LS.f1.length:Int) < 2:=by omega
                  rw [if_neg (fun h => h2 h.2.2)] at hF2;obtain ⟨e1,e2⟩:=Prod.mk.inj hF2;subst e1 e2;clear hF2 hz h2 hJl eo e5
                  go_wp2_with (first | (go_at_call 27;refine (hcc _).mono ?_;rintro e w2 ⟨rfl,nd,rfl⟩;have HB2:=am (pw_below_drewN HB.out nd);have HO2:=am (Kd.S_drewN HO.out nd);have hbk2:=hblk'.out _ HB2.out) | ((with_reducible refine Z0z (t:=41) (p:=2) rfl ?_);(try (refine gate_guard (by rfl) ?_;dsimp only));refine wpList_load_row rfl 41 (.tmp 2) rfl w.heap.size rfl 41 _ (0,0) _ hbk2 Tryz.underlying41 rfl (by kernel_rfl) ?_) | (go_at_call 28;with_reducible refine (hwo'.out C Gc30 _ HB2.out).mono ?_;rw [hwe];rintro e w3 ⟨rfl,hB3⟩;have HB3:=am (HB2.out.trans (hB3.mono HB2.out.size));have HO3:=am (Kd.S_below HO2.out hB3);have HW0:=pw_below_drewN (Below.refl wr.heap.size wr) nd;have HW3:Below wr.heap.size wr w3:=HW0.trans (hB3.mono HW0.size);have hx53:=(HW3.cell (show (⟨g,J * 2 + 1,none⟩:Addr).block < _ from hgl'.out)).trans hx51))
                  go_ret2;exact ⟨_,rfl,Kd.S_nil _ _ _ _ _,hB0'.out.trans (HB3.out.mono hB0'.out.size)⟩
              · have hz':¬ (0:Int) < (out.length:Int):=by omega
                rw [if_neg (fun h => hz h.2.1)] at hF2;obtain ⟨e1,e2⟩:=Prod.mk.inj hF2;subst e1 e2;clear hF2 hz;exact Zlj
    · obtain ⟨e1,e2⟩:r1 = [] ∧ r2 = false:=by
        unfold segP at hr;rw [if_neg hn] at hr;exact ⟨(Prod.mk.inj hr).1.symm,(Prod.mk.inj hr).2.symm⟩
      subst e1 e2;obtain ⟨n,hne⟩:∃ n,l1.length = n:=⟨_,rfl⟩;rw [hne] at hn ⊢
      by_cases hn1:n < 1
      · have hn1':(n:Int) < 1:=by omega
        clear hn1 hn hne hr;go_enter Tryz.func16,Tryz.ntmps16;go_wp2;go_ret2;exact ⟨_,rfl,Kd.S_nil _ _ _ _ _,hB0'.out⟩
      · have hn1':¬ (n:Int) < 1:=by omega
        have hn2':(40:Int) < (n:Int):=by omega
        clear hn1 hn hne hr;go_enter Tryz.func16,Tryz.ntmps16;go_wp2;go_ret2;exact ⟨_,rfl,Kd.S_nil _ _ _ _ _,hB0'.out⟩
  · rw [if_neg hg] at h;cases h
theorem Z9s (p q:Addr) (x y:Value) (u:TypeId) (pv:Value) (older:List PanicEntry) (w:World) (hpq:p ≠ q) (hc:w.cell? p = some x) (hz:w.frozen? p = false) (hc2:w.cell? q = some y) (hz2:w.frozen? q = false) :
    CallsD Tryz.prog 45 #[.pointer (some p),.pointer (some q)] (.panicking ({ v:=.iface u pv,recovered:=false } :: older)) w fun e u' w' =>
      e = .returned (.tuple #[]) ∧ u' = .panicking ({ v:=.iface u pv,recovered:=true } :: older) ∧ w' = (w.setCell p (.slice none 0 0)).setCell q (.bool false):=by
  refine callsD_of_wpS Tryz.func45 rfl fun c₀ cs hu => ?_
  apply wpS_seq;apply wpS_region
  simp [wpOpsS,go_sem,recoverD,hu,Tryz.ntmps45,Exit.thenS]
  apply wpS_seq;apply wpS_region
  simp [wpOpsS,go_sem,Exit.thenS]
  refine wpS_cond (t:=true) (by simp [Act.eval,Array.replicate]) ?_
  simp only [if_true];apply wpS_region
  have hc3:(w.setCell p (.slice none 0 0)).cell? q = some y:=by simp [go_sem,hpq,hc2]
  simp [wpOpsS,go_sem,hc,hz,hc3,hz2,bodyPostS,results,Tryz.results45]
theorem Zhm (p q:Addr) (w:World) :
    CallsD Tryz.prog 45 #[.pointer (some p),.pointer (some q)] .returning w fun e u' w' => e = .returned (.tuple #[]) ∧ u' = .returning ∧ w' = w:=by
  refine callsD_of_wpS Tryz.func45 rfl fun c₀ cs hu => ?_
  apply wpS_seq;apply wpS_region
  simp [wpOpsS,go_sem,recoverD,hu,Tryz.ntmps45,Exit.thenS]
  apply wpS_seq;apply wpS_region
  simp [wpOpsS,go_sem,Exit.thenS]
  refine wpS_cond (t:=false) (by simp [Act.eval,Array.replicate]) ?_
  simp only [Bool.false_eq_true,if_false]
  refine wpS_of_wp (wp_skip ?_)
  cases c₀
  simp_all [bodyPostS,results,Tryz.results45]
def mapB (l:List S68):Nat → DataW Unit
  | 0 => .map []
  | k + 1 => (mapB l k).put (rkey (Z0v l (k:Int)).f0) (.lit (.bool true))
theorem Zb3 (l:List S68):∀ k,Maps.IsMap (mapB l k)
  | 0 => Maps.isMap_empty
  | k + 1 => (Zb3 l k).put _ _
theorem Ziu (l:List S68) (r:Int):∀ k,(mapB l k).atKey (rkey r) (.lit (.bool false)) = .lit (.bool (look l k r).isSome)
  | 0 => rfl
  | k + 1 => by
    have ih:=Ziu l r k;unfold mapB look
    by_cases hr:(Z0v l (k:Int)).f0 = r
    · rw [hr,Maps.atKey_put_same (Zb3 l k) (Zfn r)]
      cases look l k r <;> simp
    · rw [Maps.atKey_put_other (Ze4 (fun e => hr e.symm)),ih]
      cases e:look l k r with
      | some j => rfl
      | none => simp [hr]
theorem zeroB (w:World):(zeroValue 4).run Tryz.prog w = .ok (.bool false) w:=by kernel_rfl
def Z8t (w:World) (mb:Nat) (l:List S68) (k:Nat):Prop:=w.ownsMap Tryz.prog 21 (plainElem (H:=Unit) Tryz.prog 4) mb k (mapB l k)
theorem Z8t.look {w:World} {mb:Nat} {l:List S68} (h:Z8t w mb l l.length) (r:Int) (hr:(Lit.int .i32 r).wf = true):(Instr.lookup 103 (.map (some mb)) (.int .i32 r) false).run Tryz.prog w = .ok (.bool (isL l r)) w:=by
  obtain ⟨v,ps,hrun,hv⟩:=World.ownsMap.lookup h keyR Tryz.underlying103 (zeroB w) (plainElem_bool Tryz.underlying4 false) (keyOf_int_mk Tryz.underlying21 hr);rw [hrun];have h2:=Ziu l r l.length;unfold rkey at h2;rw [h2] at hv
  have:v = .bool (isL l r):=by
    unfold plainElem at hv
    split at hv
    · rename_i x heq;cases hv;rfl
    · split at hv <;> cases hv
    · split at hv <;> cases hv
    · cases hv
  rw [this]
theorem Z8t.put {w:World} {mb:Nat} {l:List S68} {k:Nat} (h:Z8t w mb l k) (hk:k < maxLen) (r:Int) (hr:(Lit.int .i32 r).wf = true) (he:(Z0v l (k:Int)).f0 = r):∃ w',(Instr.mapUpdate 103 (.map (some mb)) (.int .i32 r) (.bool true)).run Tryz.prog w = .ok () w' ∧ Z8t w' mb l (k + 1) ∧ w.grownBy w' (some mb):=by
  obtain ⟨w',h1,h2,h3⟩:=World.ownsMap.update h keyR Tryz.underlying103 hk (keyOf_int_mk Tryz.underlying21 hr) (plainElem_bool Tryz.underlying4 true)
  refine ⟨w',h1,?_,h3⟩
  unfold Z8t mapB rkey;rw [he];exact h2
def Z8z (w:World) (B mb:Nat) (l:List S68) (stop:Int):Prop:=w.cell? ⟨B,30,none⟩ = some (.map (some mb)) ∧ w.cell? ⟨B,31,none⟩ = some (.int .i32 stop) ∧ Z8t w mb l l.length
set_option maxRecDepth 100000 in
set_option maxHeartbeats 4000000 in
theorem Z6b (gL:Lg) (pL:La) (w:World) (hT:Tabs w) (hL:Z2o gL pL w) (hg:Z1z gL.v2 = true) :
    Calls Tryz.prog 25 #[.agg (lcs gL pL)] w fun e w' => ∃ B mb,e = .returned (.pointer (some ⟨B,0,none⟩)) ∧ Z8z w' B mb gL.v2 ((decodeGo gL.vt).1:Int) ∧ Below w.heap.size w w':=by
  have hu41:=Tryz.underlying41;have hu91:=Tryz.underlying105;obtain ⟨W0,hW0⟩:∃ W0,w.alloc (.cells (lcs gL pL) 41) = W0:=⟨_,rfl⟩
  have hB0:Below w.heap.size w W0:=by rw [← hW0];exact (Below.refl _ w).alloc (Nat.le_refl _) _
  have hsz0:w.heap.size < W0.heap.size:=by rw [← hW0];simp
  have hblk:∀ w1,Below W0.heap.size W0 w1 → w1.heap[w.heap.size]? = some (.cells (lcs gL pL) 41 (0,0)):=by
    intro w1 hB
    refine (hB.block _ hsz0).trans ?_
    rw [← hW0];exact World.alloc_heap_new w _
  have hmm:∀ w,(Instr.makeMap 103 none).run Tryz.prog w = .ok (.map (some w.heap.size)) (w.alloc (.map #[] 0)):=by
    intro w
    simp [Instr.makeMap,run_underlying Tryz.underlying103,Result.andThen]
  have hbk0:=hblk _ (Below.refl _ _);have hB0':=am hB0;have hblk':=am hblk;have hR:=am hL.r2;have hRO:=am hg;have hT':=am hT;have hLl:=am hL.r2.2.1;obtain ⟨cs,hcs⟩:∃ cs:Array Value,#[.string gL.v0,.bool gL.v1,.slice pL.A2 gL.v2.length pL.c2,.slice pL.A3 gL.v3.length pL.c3,.slice pL.A4 gL.v4.length pL.c4,.slice pL.A5 gL.v5.length pL.c5,.slice pL.A6 gL.v6.length pL.c6,.int .i64 gL.v7,.int .i64 gL.v8,.slice pL.A9 gL.v9.length pL.c9,.int .i64 gL.va,.slice pL.Ab gL.vb.length pL.cb,.slice pL.Ac gL.vc.length pL.cc,.bool gL.vd,.string gL.ve,.int .i64 gL.vf,.string gL.vg,.bool gL.vh,.int .i64 gL.vi,.int .i64 gL.vj,.slice pL.Ak gL.vk.length pL.ck,.slice pL.Al gL.vl.length pL.cl,.slice pL.Am gL.vm.length pL.cm,.slice pL.An gL.vn.length pL.cn,.slice pL.Ao gL.vo.length pL.co,.bool gL.vp,.slice pL.Aq gL.vq.length pL.cq,.slice pL.Ar gL.vr.length pL.cr,.slice pL.As gL.vs.length pL.cs,.string gL.vt,.map (some W0.heap.size),.int .i32 0] = cs:=⟨_,rfl⟩
  have hc30:cs[30]? = some (.map (some W0.heap.size)):=by rw [← hcs];rfl
  have hc31:cs[31]? = some (.int .i32 0):=by rw [← hcs];rfl
  obtain ⟨WM,hWM0⟩:∃ WM,(W0.alloc (.map #[] 0)).alloc (.cells cs 105) = WM:=⟨_,rfl⟩;have hWM:=hWM0;rw [← hcs] at hWM
  have hsetM:Z8t WM W0.heap.size gL.v2 0:=by rw [← hWM0];exact (World.ownsMap_made W0 _ _ _).alloc _
  have hBM:Below W0.heap.size W0 WM:=by rw [← hWM0];exact ((Below.refl _ W0).alloc (Nat.le_refl _) _).alloc (by simp) _
  have hblkM:WM.heap[W0.heap.size + 1]? = some (.cells cs 105 (0,0)):=by rw [← hWM0];have:=World.alloc_heap_new (W0.alloc (.map #[] 0)) (.cells cs 105);simpa using this
  obtain ⟨mb,hmb⟩:∃ mb,W0.heap.size = mb:=⟨_,rfl⟩
  have hk2:WM.cell? ⟨w.heap.size,2,none⟩ = some (.slice pL.A2 gL.v2.length pL.c2):=by rw [Lib.cell_of_heap (hblk _ hBM)];rfl
  have hcs1:=am hc30;have hcs2:=am hc31;have hsetM':=am hsetM;have hBM':=am hBM;have hblkM':=am hblkM;have hmb':=am hmb;have hsz0':=am hsz0;clear hT hL hg hB0 hblk hsz0 hsetM hBM hblkM hWM0 hcs hc30 hc31 hmb;go_enter Tryz.func25,Tryz.ntmps25
  go_wp2_with ((with_reducible refine Z0z (t:=41) (p:=1) rfl ?_);(try (refine gate_guard (by rfl) ?_;dsimp only));refine wpList_load_row rfl 41 (.tmp 1) rfl w.heap.size rfl 41 _ (0,0) _ hbk0 Tryz.underlying41 rfl (by kernel_rfl) ?_)
  rw [hmb'.out] at hsetM' hblkM' hBM' hcs1 hWM ⊢;clear hk2 hbk0 hWM
  go_loopg [14] gL.v2.length (fun kq v14 w' => ∃ i:Nat,v14 = .int .i64 (i:Int) ∧ Aside0 (i + kq = gL.v2.length) ∧ Aside0 (Z8t w' mb gL.v2 i) ∧ Aside0 (w'.heap[mb + 1]? = some (.cells cs 105 (0,0))) ∧ Aside0 (Below mb W0 w'))
  case atStart => exact ⟨0,rfl,⟨by omega⟩,hsetM',hblkM',hBM'⟩
  case round =>
    obtain ⟨i,rfl,hik,HS,HK,HB⟩:=hrel
    have HBw:Below W0.heap.size W0 wr:=by rw [hmb'.out];exact HB.out
    cases gk with
    | zero =>
      have hcd:¬ ((i:Int) < (gL.v2.length:Int)):=by have:=hik.out;omega
      have hdi:Aside0 (i = gL.v2.length):=⟨by have:=hik.out;omega⟩
      have k29:wr.cell? ⟨w.heap.size,29,none⟩ = some (.string gL.vt):=by rw [Lib.cell_of_heap (hblk'.out _ HBw)];rfl
      have hdec:=Z1x.calls gL.vt _ _ wr (Z1s hT'.out (hB0'.out.trans (HBw.mono hB0'.out.size))) rfl;have HBw':=am HBw;clear HBw
      go_wp2_with (go_at_call 29;refine hdec.mono ?_;clear hdec;rintro e w5 ⟨rfl,hB5⟩;have HK5:=(hB5.block (mb + 1) (blk_lt HK.out)).trans HK.out;have hx31:w5.cell? ⟨mb + 1,31,none⟩ = some (.int .i32 0):=(by rw [Lib.cell_of_heap HK5];exact hcs2.out);have hz31:w5.frozen? ⟨mb + 1,31,none⟩ = false:=Lib.frozen_of_heap HK5 31)
      go_ret;have hb5:=hB0'.out.trans ((HBw'.out.trans (hB5.mono HBw'.out.size)).mono hB0'.out.size)
      refine ⟨mb + 1,mb,rfl,⟨?_,?_,?_⟩,hb5.setCell (by have:=hmb'.out;have:=hB0'.out.size;show w.heap.size ≤ mb + 1;omega) _⟩
      · have h9:w5.cell? ⟨mb + 1,30,none⟩ = some (.map (some mb)):=by rw [Lib.cell_of_heap HK5];exact hcs1.out
        simp [go_sem,h9]
      · simp [go_sem,hx31]
      · refine Z55 (hdi.out ▸ HS.out) ?_
        rw [Below.heap_setCell _ _ _ _ (by show mb ≠ mb + 1;omega)];exact hB5.block mb (World.ownsMap.lt HS.out)
    | succ g1 =>
      have hcd:(i:Int) < (gL.v2.length:Int):=by have:=hik.out;omega
      have hlt:i < gL.v2.length:=by have:=hik.out;omega
      obtain ⟨ad,hA,hx0,hx1⟩:=Z3s hR.out (i:Int) (by omega) hcd;(try subst hA);rw [Int.toNat_natCast] at hx0 hx1;have HBf:=hB0'.out.trans (HBw.mono hB0'.out.size);replace hx0:=(HBf.cell (World.block_lt_of_cell? _ _ hx0)).trans hx0;replace hx1:=(HBf.cell (World.block_lt_of_cell? _ _ hx1)).trans hx1;have hwx:=Z4h hRO.out _ (Zic gL.v2 i hlt);obtain ⟨R,hRe⟩:∃ R,(Z0v gL.v2 (i:Int)).f0 = R:=⟨_,rfl⟩;obtain ⟨C,hCe⟩:∃ C,(Z0v gL.v2 (i:Int)).f1 = C:=⟨_,rfl⟩;rw [hRe] at hx0 hwx;rw [hCe] at hx1;obtain ⟨W1,hW1⟩:∃ W1,wr.alloc (.cells #[.int .i32 R,.int .u32 C] 68) = W1:=⟨_,rfl⟩;obtain ⟨LB,hLB⟩:∃ LB,wr.heap.size = LB:=⟨_,rfl⟩
      have q1:W1.cell? ⟨LB,0,none⟩ = some (.int .i32 R):=by rw [← hW1,← hLB];exact Z2c _ _ _ 0 _ rfl
      have hB1:Below mb W0 W1:=by rw [← hW1];exact HB.out.alloc (by have:=hmb'.out;have:=HB.out.size;omega) _
      have HK1:W1.heap[mb + 1]? = some (.cells cs 105 (0,0)):=by rw [← hW1];exact (Below.heap_alloc _ _ _ (blk_lt HK.out)).trans HK.out
      have q0:W1.cell? ⟨mb + 1,30,none⟩ = some (.map (some mb)):=by rw [Lib.cell_of_heap HK1];exact hcs1.out
      have HS1:Z8t W1 mb gL.v2 i:=by rw [← hW1];exact World.ownsMap.alloc HS.out _
      have hLl2:LB < W1.heap.size:=by rw [← hW1,← hLB];simp
      obtain ⟨w2,hput,hset2,hgr2⟩:=Z8t.put (w:=W1.drew) HS1 (by have:=hLl.out;simp only [maxLen];omega) R hwx hRe
      have hne:LB ≠ mb:=by have:=HS.out.lt;omega
      have HK2:w2.heap[mb + 1]? = some (.cells cs 105 (0,0)):=(hgr2.block (mb + 1) (blk_lt HK1) (by simp)).trans HK1
      have q0b:w2.cell? ⟨mb + 1,30,none⟩ = some (.map (some mb)):=by rw [Lib.cell_of_heap HK2];exact hcs1.out
      have q1b:w2.cell? ⟨LB,0,none⟩ = some (.int .i32 R):=cell_grown hgr2 q1 (by simp [hne]);have hB2:Below mb W0 w2:=hB1.drew.grown hgr2 (by have:=hmb'.out;have:=hB1.size;show mb ≤ W1.heap.size;omega) (fun k e => by cases e;exact Nat.le_refl _);have hfin:=am (Z1a (i:=i) (n:=gL.v2.length) hlt hLl.out);have hset2':=am hset2;have HK2':=am HK2;have hB2':=am hB2;have q0b':=am q0b;have q1b':=am q1b;have hdl:=am hlt;clear hRe hCe hwx HBf HBw hB1 HK1 HS1 hLl2 hset2 hgr2 hne HK2 hB2 q0b q1b hlt;go_wp2
      refine start_ (n:=7) (S:=fun w' => w'.cell? ⟨mb + 1,30,none⟩ = some (.map (some mb)) ∧ w'.cell? ⟨LB,0,none⟩ = some (.int .i32 R)) (ds:=[]) #[false,false,false,false,false,false,false] (by kernel_rfl) rfl rfl ⟨q0,q1⟩ (fun hHeld => ?_)
      refine pK 0 18 ?_
      refine pK 1 19 ?_
      refine pK 2 20 ?_
      refine pK 4 22 ?_
      refine tKt 3 21 hHeld ?_
      refine tKt 5 23 hHeld ?_
      refine one_ (i:=6) (N:=none) #[true,true,true,true,true,true,true] rfl rfl (by kernel_rfl) (by decide) (fun K hK => ?_)
      refine skip_ (w1:=?_) (by rfl) rfl ?_ ?_
      rotate_left
      · go_simp
        rfl
      refine hK.out _ _ ⟨q0b'.out,q1b'.out⟩ (fun hHeld => ?_)
      clear hK K
      refine done_ (by kernel_rfl) ?_
      go_wp2
      go_roundg g1
      case measure => omega
      case rel => exact ⟨i + 1,by first | rw [hfin.out] | rfl,⟨by have:=hik.out;omega⟩,hset2',HK2',hB2'⟩
end Go.Proofs.YtfbhdjflkaldgaaGreatDoor.Pr

namespace Go.Proofs.YtfbhdjflkaldgaaGreatDoor.Pr
set_option linter.unusedVariables false
set_option linter.unusedSimpArgs false
section Reader
variable (L:Int → Bool) (stop:Int)
def Z3l:List Int → List (List Int) → List Int → Bool → Bool → Option (List (List (List Int)))
  | [],_,_,ended,_ => if ended = true then some [] else none
  | r :: t,words,cur,ended,blank =>
    if L r = true ∧ (blank = true ∨ 0 < cur.length) ∧ cur.length < 40 then Z3l t words (cur ++ [r]) false false
    else if r = 32 ∧ (0 < cur.length ∨ ended = true) then Z3l t (if 0 < cur.length then words ++ [cur] else words) [] false true
    else if r = stop ∧ 0 < cur.length then (Z3l t [] [] true blank).map fun o => (words ++ [cur]) :: o
    else none
variable {L} {stop}
end Reader
end Go.Proofs.YtfbhdjflkaldgaaGreatDoor.Pr

namespace Go.Proofs.YtfbhdjflkaldgaaGreatDoor.Pr
open Go.Lib
set_option linter.unusedVariables false
set_option linter.unusedSimpArgs false
def Z5w (L:Int → Bool) (w:List UInt8):Bool:=decide (0 < w.length) && (validD w && ((Z32 w).all L && decide ((Z32 w).length ≤ 40)))
end Go.Proofs.YtfbhdjflkaldgaaGreatDoor.Pr

namespace Go.Proofs.YtfbhdjflkaldgaaGreatDoor.Pr
open Go.Proofs.YtfbhdjflkaldgaaGreatDoor.Ct Go.RowKit Go.Maps Go.Lib Go.Proofs.YtfbhdjflkaldgaaGreatDoorW.PrintWords Go.Proofs.YtfbhdjflkaldgaaGreatDoorW.PrintLast Go.Proofs.YtfbhdjflkaldgaaGreatDoorW.PrintMore
set_option linter.unusedVariables false
set_option linter.unusedSimpArgs false
theorem Zcp {α:Type} {d:Kd α} {e base it pos:Nat} {ok:Nat → Prop} {w:World} {v:Value} {xs:List α} {s:ByteArray} (h:d.R e w base ok v xs) (hi:w.heap[it]? = some (.stringIter s pos)):some it ≠ v.ownBlock:=by
  intro e1;obtain ⟨cells,hc⟩:=Kd.R_typed h it e1.symm;rw [hi] at hc;cases hc
theorem Ziw {α:Type} {d:Kd α} {e base it pos:Nat} {ok:Nat → Prop} {w:World} {v:Value} {xs:List α} {s:ByteArray} (h:d.R e w base ok v xs) (hi:w.heap[it]? = some (.stringIter s pos)) (pos':Nat):d.R e (w.iterAt it s pos') base ok v xs:=by
  refine Kd.R_mono (Kd.R_step (Kd.R_bound h) (fun k hk _ => iterAt_other w it k s pos' (fun e1 => ?_))) (fun k hk => hk.1)
  obtain ⟨_,_,_,q,_,cells,hc⟩:=hk;rw [e1,hi] at hc;cases hc
theorem Zll {W:World} {O:Nat} {ok:Nat → Prop} {A:Option Addr} {c:Nat} {cur:List Int} (h:Kd.R (Kd.int .i32) 21 W O ok (.slice A cur.length c) cur) (hs:∀ r ∈ cur,scalar r) (hp:0 < cur.length):(convert 109 9 (.slice A cur.length c)).run Tryz.prog W = .ok (.string (encS cur)) W:=by
  have hC:=(Kd.R_reads' h).2.2;obtain ⟨ad,hA,_⟩:=Kd.at_int hC 0 (Int.le_refl _) (by omega);subst hA
  rw [run_convert_runes W 109 9 21 ad cur.length c cur (Nat.le_refl _) Tryz.underlying109 Tryz.underlying21 Tryz.underlying9 (fun j hj => by
    obtain ⟨ad2,h2,hx⟩:=Kd.at_int hC (j:Int) (by omega) (by omega);obtain rfl:=Option.some.inj h2;rw [Int.toNat_natCast] at hx
    rw [hx];unfold rd;rw [Int.toNat_natCast]),List.take_of_length_le (Nat.le_refl _),Z59 cur hs]
theorem Z74 {P:Program} {fn:Func} {t1 t2:Array Value} {R:Ending → World → Prop} (h:results fn t1 = results fn t2):∀ (ds:List Deferred) (u:FrameMode) (w:World),Leaves P fn t1 R ds u w → Leaves P fn t2 R ds u w
  | [],.returning,w,hl => by
    obtain ⟨v,hr,hR⟩:=hl;exact ⟨v,by rw [← h];exact hr,hR⟩
  | [],.panicking chain,w,hl => hl
  | [],.run,_,hl => hl.elim
  | d :: ds,u,w,hl => by
    obtain ⟨hrun,fv,cap,f,args,htar,hinv,hcall⟩:=hl
    refine ⟨hrun,fv,cap,f,args,htar,hinv,hcall.mono ?_⟩
    intro e u' w' hr
    cases e with
    | returned v => exact Z74 h ds _ _ hr
    | panicked chain => exact Z74 h ds _ _ hr
    | outgrown => exact hr
theorem Z9w {R:Ending → World → Prop} {d:Nat} {v:Value} (h4:d ≠ 4) (h5:d ≠ 5) (c:List PanicEntry) (a:Act) (w:World) (h:bodyPostD Tryz.prog Tryz.f26 R (.panic c) (a.put (some d) v) w):bodyPostD Tryz.prog Tryz.f26 R (.panic c) a w:=by
  refine Z74 ?_ _ _ _ h
  simp [results,Tryz.results26,Act.put,h4,h5]
structure RdW (text:ByteArray) (w2 w:World) (O it pos:Nat) (ws:List (List Int)) (cur:List Int) (outs:List (List (List Int))) (N:Nat) (v6 v7 vo:Value):Prop where
  hit:w.heap[it]? = some (.stringIter text pos)
  row6:Kd.R Kd.string 9 w N (fun _ => True) v6 (ws.map encS)
  row7:Kd.R (Kd.int .i32) 21 w O (fun _ => True) v7 cur
  rowO:Kd.R (Kd.slice 9 Kd.string) 31 w O (fun k => k < N) vo (outs.map (fun ws => ws.map encS))
  hO:w.heap[O]? = some (.cells #[vo] 49 (0,0))
  hK:w.heap[O + 1]? = some (.cells #[.bool false] 4 (0,0))
  hN:N ≤ w.heap.size
  hit2:it < N
  hO2:O + 1 < it
  hB:Below O w2 w
section
variable {text:ByteArray} {w2 w w1 w3:World} {O it pos:Nat} {ws:List (List Int)} {cur:List Int} {outs:List (List (List Int))} {N:Nat} {v6 v7 vo:Value}
theorem RdW.iter (h:RdW text w2 w O it pos ws cur outs N v6 v7 vo) (pos2:Nat):RdW text w2 (w.iterAt it text pos2) O it pos2 ws cur outs N v6 v7 vo where
  hit:=iterAt_heap _ _ _ _ _ h.hit
  row6:=Ziw h.row6 h.hit _
  row7:=Ziw h.row7 h.hit _
  rowO:=Ziw h.rowO h.hit _
  hO:=(iterAt_other _ _ _ _ _ (by have:=h.hO2;omega)).trans h.hO
  hK:=(iterAt_other _ _ _ _ _ (by have:=h.hO2;omega)).trans h.hK
  hN:=by rw [iterAt_size];exact h.hN
  hit2:=h.hit2
  hO2:=h.hO2
  hB:=below_iterAt h.hB (by have:=h.hO2;omega) _ _
theorem RdW.drew (h:RdW text w2 w O it pos ws cur outs N v6 v7 vo):RdW text w2 w.drew O it pos ws cur outs N v6 v7 vo where
  hit:=h.hit
  row6:=Kd.R_drew h.row6
  row7:=Kd.R_drew h.row7
  rowO:=Kd.R_drew h.rowO
  hO:=h.hO
  hK:=h.hK
  hN:=h.hN
  hit2:=h.hit2
  hO2:=h.hO2
  hB:=h.hB.drew
theorem RdW.letter (h:RdW text w2 w O it pos ws cur outs N v6 v7 vo) {R:Int} {v7':Value} (hr:Kd.R (Kd.int .i32) 21 w1 O (fun _ => True) v7' (cur ++ [R])) (hb:Below O w2 w1) (hg:w.grownBy w1 v7.ownBlock):RdW text w2 w1 O it pos ws (cur ++ [R]) outs N v6 v7' vo where
  hit:=(hg.block it (Array.getElem?_eq_some_iff.1 h.hit).1 (Zcp h.row7 h.hit)).trans h.hit
  row6:=Kd.R_over' h.row6 (Kd.R_typed h.row7) (by decide) hg
  row7:=hr
  rowO:=Kd.R_over' h.rowO (Kd.R_typed h.row7) (by decide) hg
  hO:=blk_grown h.hO hg (Kd.R_ne h.row7 h.hO (by decide))
  hK:=blk_grown h.hK hg (Kd.R_ne h.row7 h.hK (by decide))
  hN:=Nat.le_trans h.hN hg.size
  hit2:=h.hit2
  hO2:=h.hO2
  hB:=hb
theorem RdW.clear (h:RdW text w2 w O it pos ws cur outs N v6 v7 vo):RdW text w2 w O it pos ws [] outs N v6 (.slice none 0 0) vo where
  hit:=h.hit
  row6:=h.row6
  row7:=Kd.R_nil _ _ _ _ _
  rowO:=h.rowO
  hO:=h.hO
  hK:=h.hK
  hN:=h.hN
  hit2:=h.hit2
  hO2:=h.hO2
  hB:=h.hB
theorem RdW.far (h:RdW text w2 w O it pos ws cur outs N v6 v7 vo) (k:Nat) (hk:k < N):some k ≠ v6.ownBlock:=fun e => by
  have:=Kd.R_base h.row6 k e.symm;omega
theorem RdW.word (h:RdW text w2 w O it pos ws cur outs N v6 v7 vo) {v6':Value} (hr:Kd.R Kd.string 9 w1 N (fun _ => True) v6' (ws.map encS ++ [encS cur])) (hb:Below N w w1) (hg:w.grownBy w1 v6.ownBlock):RdW text w2 w1 O it pos (ws ++ [cur]) [] outs N v6' (.slice none 0 0) vo where
  hit:=(hg.block it (Array.getElem?_eq_some_iff.1 h.hit).1 (h.far it h.hit2)).trans h.hit
  row6:=by rw [List.map_append];exact hr
  row7:=Kd.R_nil _ _ _ _ _
  rowO:=Kd.R_grown h.rowO hg (fun k hk => h.far k hk)
  hO:=blk_grown h.hO hg (h.far O Gc27)
  hK:=blk_grown h.hK hg (h.far (O + 1) Gc27)
  hN:=Nat.le_trans h.hN hg.size
  hit2:=h.hit2
  hO2:=h.hO2
  hB:=h.hB.trans (hb.mono Gc27)
theorem RdW.mid (h:RdW text w2 w O it pos ws cur outs N v6 v7 vo) (hb:Below N w w1) (hg:w.grownBy w1 v6.ownBlock):Kd.R (Kd.slice 9 Kd.string) 31 w1 O (fun _ => True) vo (outs.map (fun ws => ws.map encS)) ∧ Below O w2 w1 :=
  ⟨Kd.R_mono (Kd.R_grown h.rowO hg (fun k hk => h.far k hk)) (fun _ _ => trivial),h.hB.trans (hb.mono Gc27)⟩
theorem RdW.sentence (h:RdW text w2 w O it pos ws cur outs N v6 v7 vo) {vo':Value} (hb:Below N w w1) (hg:w.grownBy w1 v6.ownBlock) (hr:Kd.R (Kd.slice 9 Kd.string) 31 w3 O (fun _ => True) vo' (outs.map (fun ws => ws.map encS) ++ [ws.map encS ++ [encS cur]])) (hb3:Below O w2 w3) (hg3:w1.grownBy w3 vo.ownBlock):RdW text w2 (w3.setCell ⟨O,0,none⟩ vo') O it pos [] [] (outs ++ [ws ++ [cur]]) (w3.setCell ⟨O,0,none⟩ vo').heap.size (.slice none 0 0) (.slice none 0 0) vo':=by
  obtain ⟨hrO,hbO⟩:=h.mid hb hg;have i1:w1.heap[it]? = some (.stringIter text pos):=(hg.block it (Array.getElem?_eq_some_iff.1 h.hit).1 (h.far it h.hit2)).trans h.hit;have o1:=blk_grown h.hO hg (h.far O Gc27);have k1:=blk_grown h.hK hg (h.far (O + 1) Gc27);have i3:w3.heap[it]? = some (.stringIter text pos):=(hg3.block it (Array.getElem?_eq_some_iff.1 i1).1 (Zcp hrO i1)).trans i1;have o3:=blk_grown o1 hg3 (Kd.R_ne hrO o1 (by decide));have k3:=blk_grown k1 hg3 (Kd.R_ne hrO k1 (by decide))
  have hs:(w3.setCell ⟨O,0,none⟩ vo').heap.size = w3.heap.size:=by simp [World.setCell]
  exact {
    hit:=(Below.heap_setCell _ _ _ _ (by show it ≠ O;have:=h.hO2;omega)).trans i3
    row6:=Kd.R_nil _ _ _ _ _
    row7:=Kd.R_nil _ _ _ _ _
    rowO:=by
      rw [List.map_append,List.map_cons,List.map_nil,List.map_append,List.map_cons,List.map_nil];exact Kd.R_mono (Kd.R_bound (Kd.R_set hr o3 (by decide) 0 vo')) (fun k hk => hk.2.2.1)
    hO:=blk_put o3 0 vo' rfl
    hK:=(Below.heap_setCell _ _ _ _ (by show O + 1 ≠ O;omega)).trans k3
    hN:=Nat.le_refl _
    hit2:=by rw [hs];exact (Array.getElem?_eq_some_iff.1 i3).1
    hO2:=h.hO2
    hB:=hb3.setCell (Nat.le_refl _) _ }
end
end Go.Proofs.YtfbhdjflkaldgaaGreatDoor.Pr
