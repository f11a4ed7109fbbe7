/- Several texts in one: Att, PrF34, PrF18, PrF35, PrF19. -/
import Derived.Test.YtfbhdjflkaldgaaGreatDoorMg14
import Derived.Test.YtfbhdjflkaldgaaGreatDoorMg15
import Derived.Test.YtfbhdjflkaldgaaGreatDoorMg1
import Derived.Test.YtfbhdjflkaldgaaGreatDoorMg2
import Derived.Test.YtfbhdjflkaldgaaGreatDoorMg3
import Derived.Test.YtfbhdjflkaldgaaGreatDoorMg11
import Derived.Test.YtfbhdjflkaldgaaGreatDoorWRepsOne
/- clitic's joint.attach. -/
namespace Go.Proofs.YtfbhdjflkaldgaaGreatDoor.Pr
open Go.Proofs.YtfbhdjflkaldgaaGreatDoor.Ct Go.RowKit Go.Maps Go.Lib Go.Proofs.YtfbhdjflkaldgaaGreatDoorW.PrintWords Go.Proofs.YtfbhdjflkaldgaaGreatDoorW.PrintLast Go.Proofs.YtfbhdjflkaldgaaGreatDoorW.PrintMore
set_option linter.unusedVariables false
set_option linter.unusedSimpArgs false
def Z3k (h c:ByteArray):ByteArray:=h ++ ⟨#[61]⟩ ++ c
def Z3z (l:List S68) (rules:List S73) (h c:ByteArray):ByteArray × Int:=if 40 < (Z0d h).length + 1 + (Z0d c).length then ((⟨#[]⟩:ByteArray),2) else if (Z2b l rules (Z3k h c)).2 = 0 then (encS ((Z0d (Z2b l rules (Z3k h c)).1).filter fun r => r != 61),0) else ((⟨#[]⟩:ByteArray),(Z2b l rules (Z3k h c)).2)
def Z2n.f (l0:List S68) (l1:List S73) (a1 a2:ByteArray):Option (ByteArray × Int):=if (Z1z l0 = true ∧ l1.all Z2k = true) ∧ a1.size ≤ 274877906944 ∧ a2.size ≤ 274877906944 then some (Z3z l0 l1 a1 a2) else none
theorem Zb8 (h c:ByteArray):(Z3k h c).size = h.size + 1 + c.size:=by
  unfold Z3k;rw [ByteArray.size_append,ByteArray.size_append];rfl
theorem Zbw (rs:List Int):(encL rs).length ≤ 4 * rs.length:=by
  have h:=Z6a rs;rw [← sizeL,Z45] at h;exact h
theorem Zj3 (a:List Int) (r:Int):encL (a ++ [r]) = encL a ++ encodeRune r:=by simp [encL]
theorem Zks {n1 n2 m1 m2:Nat} (h1:n1 ≤ m1) (h2:n2 ≤ m2) (h3:m1 ≤ 274877906944) (h4:m2 ≤ 274877906944):wrap64 (((n1 + 1:Nat):Int) + (n2:Int)) = ((n1 + 1 + n2:Nat):Int):=by
  rw [Z6s _ ⟨by omega,by omega⟩];omega
theorem rc_f (s:ByteArray) (hs:s.size ≤ 274877906944):Z1u.f s = some (((Z0d s).length:Nat):Int):=by
  unfold Z1u.f;rw [if_pos (by omega),Z6d]
theorem Zgj (s:ByteArray) (hs:s.size ≤ 274877906944) (n:Nat) (hn:(Z0d s).length = n) (w:World):Calls Tryz.prog 72 #[.string s] w fun e w' => e = .returned (.int .i64 (n:Int)) ∧ Below w.heap.size w w':=by
  subst hn;exact Z1u.calls s _ w (rc_f s hs)
set_option maxRecDepth 1000000 in
theorem Zj4 {p:Prop} (h:p:=by
  go_enter Tryz.func55,Tryz.ntmps55
  go_wp2_with (first | (go_at_call 72;(first | (with_reducible refine (hrc1'.out _).mono ?_) | (with_reducible refine (hrc2'.out _).mono ?_));rintro e z1_ ⟨rfl,hBx⟩;have HBn:=HBc.trans (hBx.mono HBc.size);clear HBc hBx;have HBc:=HBn;clear HBn;obtain ⟨z2_,z3_⟩:=hcell'.out _ HBc) | (go_at_call 73;with_reducible refine (hca'.out _ HBc).mono ?_;rintro e z4_ ⟨rfl,hBx⟩;have HBn:=HBc.trans (hBx.mono HBc.size);clear HBc hBx;have HBc:=HBn;clear HBn))
  first
  | (have mk_:=mk0_
     obtain ⟨b,hb⟩:∃ b,z4_.heap.size = b:=⟨_,rfl⟩;have z5_:=(Lib.IsBuilderF.of (Lib.fresh_isBuilder 95 5 z4_)).alloc (.stringIter q1 0);have z6_:=World.iter_heap (z4_.alloc (.cells #[.pointer none,.slice none 0 0] 95)) q1 0;have hBi:Below z4_.heap.size z4_ ((z4_.alloc (.cells #[.pointer none,.slice none 0 0] 95)).iter q1 0):=((Below.refl _ z4_).alloc (Nat.le_refl _) _).alloc (by simp) _;rw [show (z4_.alloc (.cells #[.pointer none,.slice none 0 0] 95)).heap.size = z4_.heap.size + 1 by simp] at z6_;rw [hb] at z5_ z6_ hBi ⊢;have z7_:=am z5_;have z8_:=am z6_;have hBi':=am hBi;have hb':=am hb;clear z5_ z6_ hBi hb
     have hzf:(q2 != 0) = false:=by unfold bne;rw [czb];rfl
     rw [hzf]
     go_loopg [12] q1.size (fun kq z9_ w' => ∃ (pos:Nat) (done:List Int),Aside0 (w'.heap[b + 1]? = some (.stringIter q1 pos)) ∧ Aside0 (q1.size - pos ≤ kq) ∧ Aside0 (done ++ Z3b q1 pos = Z0d q1) ∧ Aside0 (Lib.IsBuilderF 95 5 b b (Lib.byteCells (encL (done.filter fun r => r != 61))) w') ∧ Aside0 (Below b z4_ w'))
     case atStart => exact ⟨0,[],z8_,⟨by omega⟩,⟨by rw [Z2t];rfl⟩,z7_,hBi'⟩
     case round =>
       obtain ⟨pos,done,hit,hq,hdone,hI,HB⟩:=hrel
       by_cases hp:pos < q1.size
       · obtain ⟨z10_,rfl⟩:∃ z10_,gk = z10_ + 1:=⟨gk - 1,by have:=hq.out;omega⟩
         have hnx:∀ ty,(Instr.next (.pointer (some ⟨b + 1,0,none⟩)) true ty).run Tryz.prog wr = _:=fun ty => run_next_any_at wr (b + 1) q1 pos ty hit.out hp
         have hst:=Z34 hp;have hwd:=Z4k hp;have hsc:=Z50 q1 pos;obtain ⟨R,hRR⟩:∃ R:Int,((Utf8.decode q1 pos).1:Int) = R:=⟨_,rfl⟩;rw [hRR] at hst hsc;simp only [hRR] at hnx;obtain ⟨z11_,z12_⟩:∃ p2,pos + (Utf8.decode q1 pos).2 = p2:=⟨_,rfl⟩;rw [z12_] at hst hnx;obtain ⟨z13_,z14_⟩:∃ z13_,wr.iterAt (b + 1) q1 z11_ = z13_:=⟨_,rfl⟩
         have z15_:Below b z4_ z13_:=by rw [← z14_];exact below_iterAt HB.out (by omega) _ _
         have z16_:z13_.heap[b + 1]? = some (.stringIter q1 z11_):=by rw [← z14_];exact iterAt_heap _ _ _ _ _ hit.out
         have z17_:Lib.IsBuilderF 95 5 b b (Lib.byteCells (encL (done.filter fun r => r != 61))) z13_:=by rw [← z14_];exact hI.out.iterAt hit.out _
         simp only [z14_] at hnx
         have hdl:done.length ≤ q1.size:=by
           have z18_:=congrArg List.length hdone.out;have z19_:=Z23 q1;rw [List.length_append] at z18_;omega
         have hlen:Aside0 ((Lib.byteCells (encL (done.filter fun r => r != 61))).length + 4 ≤ 140737488355328):=⟨by
           rw [Lib.byteCells_length];have z18_:=Zbw (done.filter fun r => r != 61);have z19_:=List.length_filter_le (fun r:Int => r != 61) done;have:=hcs'.out
           omega⟩
         have hst':=am hst;have hw':Aside0 (pos < z11_):=⟨by omega⟩;have z20_:=am z15_;have z21_:=am z16_;have z22_:=am z17_;have hsc':=am hsc;clear hst hwd hp z15_ z16_ z17_ z14_ z12_ hRR hdl hsc
         by_cases z23_:R = 61
         · have z24_:(R == 61) = true:=beq_iff_eq.2 z23_
           have hfl:Aside0 ((done ++ [R]).filter (fun r => r != 61) = done.filter fun r => r != 61):=⟨by rw [List.filter_append,z23_];simp⟩;clear z23_;go_wp2
           go_roundg z10_
           case measure => omega
           case rel => exact ⟨z11_,done ++ [R],z21_,⟨by have:=hq.out;have:=hw'.out;omega⟩,⟨by rw [List.append_assoc,List.singleton_append,← hst'.out];exact hdone.out⟩,⟨by rw [hfl.out];exact z22_.out⟩,z20_⟩
         · have z24_:(R == 61) = false:=beq_eq_false_iff_ne.2 z23_
           have hfl:Aside0 ((done ++ [R]).filter (fun r => r != 61) = (done.filter fun r => r != 61) ++ [R]):=⟨by rw [List.filter_append];simp [z23_]⟩;have hwrite:=Bld.writeRune b b (Lib.byteCells (encL (done.filter fun r => r != 61))) R (by have:=hsc'.out.1;omega) (by have:=hsc'.out.2;omega) z13_ z22_.out hlen.out (by have:=z20_.out.size;have:=hb'.out;omega);clear z23_
           go_wp2_with (go_at_call 74;refine hwrite.mono ?_;clear hwrite;rintro e z25_ ⟨z26_,rfl,z27_,z28_,z29_⟩)
           go_roundg z10_
           case measure => omega
           case rel => exact ⟨z11_,done ++ [R],⟨z29_.iter z21_.out (by omega)⟩,⟨by have:=hq.out;have:=hw'.out;omega⟩,⟨by rw [List.append_assoc,List.singleton_append,← hst'.out];exact hdone.out⟩,⟨by rw [hfl.out,Zj3,Lib.byteCells_append,Lib.byteCells_encodeRune];exact .inr z27_⟩,⟨z20_.out.trans z28_⟩⟩
       · have hnx:∀ ty,(Instr.next (.pointer (some ⟨b + 1,0,none⟩)) true ty).run Tryz.prog wr = _:=fun ty => run_next_end_at wr (b + 1) q1 pos ty hit.out hp
         have hre:=Z2z hp
         have hd:done = Z0d q1:=by rw [← hdone.out,hre,List.append_nil]
         have hstr:=Tryz.Builder_String_any_f b b (encL (done.filter fun r => r != 61)) wr hI.out (by have:=HB.out.size;have:=hb'.out;omega);have hfin:Aside0 ((⟨(encL (done.filter fun r => r != 61)).toArray⟩:ByteArray) = r1):=⟨by rw [← hr4.out,← hd];rfl⟩;rw [hfin.out] at hstr;clear hre hp hd
         go_wp2_with (go_at_call 38;refine hstr.mono ?_;clear hstr;rintro e z30_ ⟨rfl,z31_,z32_⟩)
         go_ret2
         exact ⟨rfl,hB0'.out.trans ((HBc.trans (((hb'.out ▸ (HB.out.trans z32_)):Below z4_.heap.size z4_ z30_).mono HBc.size)).mono hB0'.out.size)⟩)
  | (have mk_:=mk1_
     go_ret2
     exact ⟨rfl,hB0'.out.trans (HBc.mono hB0'.out.size)⟩)):p:=h
set_option maxRecDepth 100000 in
set_option maxHeartbeats 2000000 in
theorem Z2n.calls (A0:Option Addr) (c0:Nat) (l0:List S68) (A1:Option Addr) (c1:Nat) (l1:List S73) (a1 a2:ByteArray) (r1:ByteArray) (r2:Int) (w:World) (hT:Tabs w) (hr0:Kd.C k68 w A0 l0.length l0) (hc0:l0.length ≤ c0) (hr1:Kd.C k73 w A1 l1.length l1) (hc1:l1.length ≤ c1) (h:Z2n.f l0 l1 a1 a2 = some (r1,r2)) :
    Calls Tryz.prog 55 #[.agg #[.slice A0 l0.length c0,.slice A1 l1.length c1],.string a1,.string a2] w fun e w' => e = .returned (.tuple #[.string r1,.int .i64 r2]) ∧ Below w.heap.size w w':=by
  unfold Z2n.f at h
  by_cases hg:(Z1z l0 = true ∧ l1.all Z2k = true) ∧ a1.size ≤ 274877906944 ∧ a2.size ≤ 274877906944
  · rw [if_pos hg] at h
    have hr:=Option.some.inj h;clear h;have hu:=Tryz.underlying89;obtain ⟨W0,hW0⟩:∃ W0,w.alloc (.cells #[.slice A0 l0.length c0,.slice A1 l1.length c1] 89) = W0:=⟨_,rfl⟩
    have hB0:Below w.heap.size w W0:=by rw [← hW0];exact (Below.refl _ w).alloc (Nat.le_refl _) _
    have hcell:∀ w1,Below W0.heap.size W0 w1 → w1.cell? ⟨w.heap.size,0,none⟩ = some (.slice A0 l0.length c0) ∧ w1.cell? ⟨w.heap.size,1,none⟩ = some (.slice A1 l1.length c1):=by
      intro w1 hB
      have hlt:w.heap.size < W0.heap.size:=by rw [← hW0];simp
      refine ⟨(hB.cell hlt).trans ?_,(hB.cell hlt).trans ?_⟩
      · rw [← hW0];exact Z2c _ _ _ 0 _ rfl
      · rw [← hW0];exact Z2c _ _ _ 1 _ rfl
    have hjs:=Zb8 a1 a2;obtain ⟨J,hJ⟩:∃ J,Z3k a1 a2 = J:=⟨_,rfl⟩;rw [hJ] at hjs;have hJ2:a1 ++ ⟨#[61]⟩ ++ a2 = J:=hJ
    have hca:=fun (w1:World) (hB:Below W0.heap.size W0 w1) => Zbu A0 c0 l0 A1 c1 l1 J w1 (Z1s hT (hB0.trans (hB.mono hB0.size))) (Kd.C_below hr0 (hB0.trans (hB.mono hB0.size))) hc0 (Kd.C_below hr1 (hB0.trans (hB.mono hB0.size))) hc1 hg.1.1 hg.1.2 (by have:=hg.2;omega)
    have hcs:=Zcz l0 l1 J 1099511627776 (by decide) (by have:=hg.2;omega);obtain ⟨q1,hq1⟩:∃ q,(Z2b l0 l1 J).1 = q:=⟨_,rfl⟩;obtain ⟨q2,hq2⟩:∃ q,(Z2b l0 l1 J).2 = q:=⟨_,rfl⟩;rw [hq1] at hcs;rw [hq1,hq2] at hca;obtain ⟨n1,hn1⟩:∃ n,(Z0d a1).length = n:=⟨_,rfl⟩;obtain ⟨n2,hn2⟩:∃ n,(Z0d a2).length = n:=⟨_,rfl⟩;have hl1:=Z23 a1;have hl2:=Z23 a2;rw [hn1] at hl1;rw [hn2] at hl2
    have hr':(if 40 < n1 + 1 + n2 then ((⟨#[]⟩:ByteArray),(2:Int)) else if q2 = 0 then (encS ((Z0d q1).filter fun r => r != 61),0) else ((⟨#[]⟩:ByteArray),q2)) = (r1,r2):=by
      rw [← hr];unfold Z3z;rw [hJ,hq1,hq2,hn1,hn2]
    have hrc1:=Zgj a1 hg.2.1 n1 hn1;have hrc2:=Zgj a2 hg.2.2 n2 hn2;have hw1:wrap64 ((n1:Int) + 1) = ((n1 + 1:Nat):Int):=Z1a (i:=n1) (n:=n1 + 1) (by omega) (by have:=hg.2;omega);have hw2:wrap64 (((n1 + 1:Nat):Int) + (n2:Int)) = ((n1 + 1 + n2:Nat):Int):=Zks hl1 hl2 hg.2.1 hg.2.2;have hw1':=am hw1;have hw2':=am hw2;clear hw1 hw2
    have hd1:¬ 9223372036854775807 < a1.size + (⟨#[61]⟩:ByteArray).size:=by have:(⟨#[61]⟩:ByteArray).size = 1:=rfl;have:=hg.2;omega
    have hd2:¬ 9223372036854775807 < (a1 ++ (⟨#[61]⟩:ByteArray)).size + a2.size:=by rw [ByteArray.size_append];have:(⟨#[61]⟩:ByteArray).size = 1:=rfl;have:=hg.2;omega
    obtain ⟨m,hm⟩:∃ m,n1 + 1 + n2 = m:=⟨_,rfl⟩;obtain ⟨m1,hm1⟩:∃ m1,n1 + 1 = m1:=⟨_,rfl⟩;have hw1:=hw1'.out;have hw2:=hw2'.out;rw [hm] at hr' hw2;rw [hm1] at hw1 hw2;clear hw1' hw2';have hca':=am hca;have hrc1':=am hrc1;have hrc2':=am hrc2;have hr2:=am hr';have hcs':=am hcs;have hcell':=am hcell;have hB0':=am hB0;clear hT hr0 hc0 hr1 hc1 hg hr hr' hB0 hcell hjs hJ hca hcs hq1 hq2 hn1 hn2 hl1 hl2 hrc1 hrc2 hm hm1;have HBc:Below W0.heap.size W0 W0:=Below.refl _ _
    by_cases c40:40 < m
    · have c40':(40:Int) < (m:Int):=by omega
      obtain ⟨rfl,rfl⟩:r1 = (⟨#[]⟩:ByteArray) ∧ r2 = 2:=by have:=hr2.out;rw [if_pos c40] at this;exact ⟨(Prod.mk.inj this).1.symm,(Prod.mk.inj this).2.symm⟩
      clear c40;go_enter Tryz.func55,Tryz.ntmps55
      go_wp2_with (go_at_call 72;(first | (with_reducible refine (hrc1'.out _).mono ?_) | (with_reducible refine (hrc2'.out _).mono ?_));rintro e w2 ⟨rfl,hBx⟩;have HBn:=HBc.trans (hBx.mono HBc.size);clear HBc hBx;have HBc:=HBn;clear HBn)
      go_ret2;exact ⟨rfl,hB0'.out.trans (HBc.mono hB0'.out.size)⟩
    · have c40':¬ (40:Int) < (m:Int):=by omega
      have hr3:(if q2 = 0 then (encS ((Z0d q1).filter fun r => r != 61),0) else ((⟨#[]⟩:ByteArray),q2)) = (r1,r2):=by have:=hr2.out;rw [if_neg c40] at this;exact this
      clear c40
      by_cases cz:q2 = 0
      · rw [if_pos cz] at hr3
        obtain ⟨e1,e2⟩:=Prod.mk.inj hr3;subst e2;have czb:(q2 == 0) = true:=beq_iff_eq.2 cz;have hr4:=am e1;clear hr3 cz e1;have mk0_:=trivial;exact Zj4
      · rw [if_neg cz] at hr3
        obtain ⟨e1,e2⟩:=Prod.mk.inj hr3;subst e1 e2;have czb:(q2 == 0) = false:=beq_eq_false_iff_ne.2 cz;clear hr3 cz;have mk1_:=trivial;exact Zj4
  · rw [if_neg hg] at h;cases h
end Go.Proofs.YtfbhdjflkaldgaaGreatDoor.Pr

namespace Go.Proofs.YtfbhdjflkaldgaaGreatDoor.Pr
open Go.Proofs.YtfbhdjflkaldgaaGreatDoor.Ct Go.RowKit Go.Proofs.YtfbhdjflkaldgaaGreatDoorW.PrintWords Go.Proofs.YtfbhdjflkaldgaaGreatDoorW.PrintLast Go.Proofs.YtfbhdjflkaldgaaGreatDoorW.PrintMore
attribute [local go_sem] max2_int min2_int max_two min_two max_three min_three max_four min_four
set_option linter.unusedVariables false
set_option linter.unusedSimpArgs false
def Z1j.l0:Nat → ByteArray → List ByteArray → Int → Int → List (S68) → List (S73) → Option (ByteArray × Int)
 | 0,_,_,_,_,_,_ => none
 | k + 1,x6,x14,x15,x16,x254000,x254001 => if x16 < x15 then (if 0 ≤ x16 then (if x16 < (x14.length:Int) then ((Z2n.f x254000 x254001 x6 (rdOf ByteArray.empty x14 x16)).bind fun bt256 => (if bt256.2 = 0 then (Z1j.l0 k bt256.1 x14 x15 (wrap64 (x16 + 1)) x254000 x254001) else (some ((⟨#[]⟩:ByteArray),bt256.2)))) else (none)) else (none)) else (some (x6,0))
def Z1j.f (k:Nat) (l_0:List (S68)) (l_1:List (S73)) (a1_0:ByteArray) (l1_1:List ByteArray):Option (ByteArray × Int):=Z1j.l0 k a1_0 l1_1 (l1_1.length:Int) 0 l_0 l_1
theorem Zgk {p:Prop} (h:p:=by
  go_ret2
  exact ⟨tE,by repeat (first | (with_reducible first | exact HB.out | apply below_alloc | apply pw_below_drewN | apply below_drew1 | refine below_set ?_ GE253.out | refine below_set ?_ GE254.out) | exact HB.out)⟩):p:=h
theorem Zd4 {p:Prop} (h:p:=by
  have z1_:0 ≤ (x16_1:Int):=oD;have z2_:x16_1 < (l1_1.length:Int):=oD;obtain ⟨z3_,z4_,z5_⟩:=Kd.at_string HR1_1.out x16_1 z1_ z2_;cases z4_;replace z5_:=celB HB z5_;replace z1_:=eq_true z1_;replace z2_:=eq_true z2_;have z6_:=NB253_254.out;have z7_:=NB254_253.out;obtain ⟨z8_,z9_,z10_,z11_⟩:=bx2 BK253
  go_wp2_with (first | ((with_reducible refine gate_callee (f:=55) rfl ?_);refine goesL_ (some 24) rfl rfl Tryz.func55 (by kernel_rfl) rfl #[.agg #[.slice A_0 l_0.length c_0,.slice A_1 l_1.length c_1],.string x6_1,.string (rdOf ByteArray.empty l1_1 x16_1)] rfl Gc2 ?_;(with_reducible refine (Z2n.calls _ _ l_0 _ _ l_1 x6_1 (rdOf ByteArray.empty l1_1 x16_1) t256 t257 _ ?sT (tC HR_0 HB) HC_0.out (tC HR_1 HB) HC_1.out A10.out).mono ?_);(case sT => exact Gc1);rintro e z12_ ⟨rfl,hb⟩;refine ⟨_,rfl,?_⟩;have z13_:=am (blk_below (tK BK253) hb);have z14_:=am (blk_below (tK BK254) hb);have z15_:=am (below_step (tB HB) hb);revert z13_ z14_ z15_;clear BK253 BK254 HB;intro BK253 BK254 HB;(try clear hb);(try clear hb2);(try clear hk);(try clear hi)))
  first
  | (have mk_:=mk0_
     go_roundg k1
     case measure => have:=HK1.out;omega
     case rel => exact ⟨(t256),(wrap64 (x16_1 + 1)),tV1,tV1,H',⟨by have:=HK1.out;omega⟩,⟨tK BK253⟩,⟨tK BK254⟩,⟨tB HB⟩⟩)
  | (have mk_:=mk1_
     exact Zgk)):p:=h
set_option maxHeartbeats 8000000 in
set_option maxRecDepth 100000 in
theorem Z1j.calls (k:Nat) (A_0:Option Addr) (c_0:Nat) (l_0:List (S68)) (A_1:Option Addr) (c_1:Nat) (l_1:List (S73)) (a1_0:ByteArray) (A1_1:Option Addr) (c1_1:Nat) (l1_1:List ByteArray) (r1:ByteArray) (r2:Int) (w:World) (hT:Tabs w) (hr_0:Kd.C k68 w A_0 l_0.length l_0) (hc_0:l_0.length ≤ c_0) (hr_1:Kd.C k73 w A_1 l_1.length l_1) (hc_1:l_1.length ≤ c_1) (hr1_1:Kd.C Kd.string w A1_1 l1_1.length l1_1) (hc1_1:l1_1.length ≤ c1_1) (h:Z1j.f k l_0 l_1 a1_0 l1_1 = some (r1,r2)) :
 Calls Tryz.prog 34 #[.agg #[.slice A_0 l_0.length c_0,.slice A_1 l_1.length c_1],.agg #[.string a1_0,.slice A1_1 l1_1.length c1_1]] w fun e w' => e = .returned (.tuple #[.string r1,.int .i64 r2]) ∧ Below w.heap.size w w':=by
 have HT:=am hT;clear hT;have hu89:=Tryz.underlying89;have hu60:=Tryz.underlying60;have HR_0:=am hr_0;have HC_0:=am hc_0;clear hr_0 hc_0;have HR_1:=am hr_1;have HC_1:=am hc_1;clear hr_1 hc_1;have HR1_1:=am hr1_1;have HC1_1:=am hc1_1;clear hr1_1 hc1_1;have HB:=am (Below.refl w.heap.size w);have H:(Z1j.l0 k a1_0 l1_1 (l1_1.length:Int) 0 l_0 l_1) = some (r1,r2):=h;clear h;have H':=am H;clear H;go_enter Tryz.func34,Tryz.ntmps34
 go_wp2_with (first | ((with_reducible refine gate_dst (N:=2) rfl ?_);refine box_event ?hg (N:=2) ?hd (cs:=#[.slice A_0 l_0.length c_0,.slice A_1 l_1.length c_1]) (t:=89) ?hr ?_;(case hd => rfl);(case hg => rfl);(case hr => exact Gc5);intro gb253 hg w3 hbox hb;have n0_:=am (below_step (tB HB) hb);have n1_:=am (hbox);have n2_:=tZ hg (tS HB);have n3_:=tZ hg (tS HB);revert n0_ n1_ n2_ n3_;clear HB;intro HB BK253 GW253 GE253;clear hb hbox hg) | ((with_reducible refine gate_dst (N:=3) rfl ?_);refine box_event ?hg (N:=3) ?hd (cs:=#[.string a1_0,.slice A1_1 l1_1.length c1_1]) (t:=60) ?hr ?_;(case hd => rfl);(case hg => rfl);(case hr => exact Gc5);intro gb254 hg w4 hbox hb;have n0_:=am (blk_below (tK BK253) hb);have n1_:=am (below_step (tB HB) hb);have n2_:=am (hbox);have n3_:=tZ hg (tS HB);have n4_:=tZ hg (tS HB);have n5_:=tL hg (tK BK253);have n6_:=tG hg (tK BK253);revert n0_ n1_ n2_ n3_ n4_ n5_ n6_;clear BK253 HB;intro BK253 HB BK254 GW254 GE254 NB253_254 NB254_253;clear hb hbox hg;have hnb5:=NB254_253.out;have hnc5:=NB253_254.out;have hcz6_0:=cel2 BK254 0 rfl;have hcz6_1:=cel2 BK254 1 rfl;have hfz6_0:=blk_frozen BK254.out 0;have hfz6_1:=blk_frozen BK254.out 1))
 go_loopg [6,16] k (fun kq v6 v16 w' => ∃ (x6_1:ByteArray) (x16_1:Int),v6 = .string x6_1 ∧ v16 = .int .i64 x16_1 ∧ Aside0 (Z1j.l0 kq x6_1 l1_1 (l1_1.length:Int) x16_1 l_0 l_1 = some (r1,r2)) ∧ Aside0 (kq ≤ k) ∧ Aside0 (w'.heap[gb253]? = some (.cells #[(.slice A_0 l_0.length c_0),(.slice A_1 l_1.length c_1)] 89 (0,0))) ∧ Aside0 (w'.heap[gb254]? = some (.cells #[.string a1_0,(.slice A1_1 l1_1.length c1_1)] 60 (0,0))) ∧ Aside0 (Below w.heap.size w w'))
 case atStart => exact ⟨(a1_0),(0),tV1,tV1,H',⟨Nat.le_refl _⟩,⟨tK BK253⟩,⟨tK BK254⟩,⟨tB HB⟩⟩
 case round =>
  clear H';(try clear hcz6_0);(try clear hcz6_1);(try clear hfz6_0);(try clear hfz6_1);obtain ⟨x6_1,x16_1,rfl,rfl,HA,HK1,BK253,BK254,HB⟩:=hrel
  cases gk with
  | zero => exact absurd HA.out (by simp [Z1j.l0])
  | succ k1 =>
   have H:=HA.out;clear HA;simp only [Z1j.l0] at H
   replace H:=iF H;obtain ⟨c7,H⟩ | ⟨c7,H⟩:=H
   ·
    have c7b0:decide (x16_1 < (l1_1.length:Int)) = true:=decide_eq_true c7;clear c7;replace H:=iFn H;obtain ⟨c8,H⟩:=H;have c8b0:decide (0 ≤ x16_1) = true:=decide_eq_true c8;clear c8;replace H:=iFn H;obtain ⟨c9,H⟩:=H;have c9b0:decide (x16_1 < (l1_1.length:Int)) = true:=decide_eq_true c9;clear c9;replace H:=bI H;obtain ⟨⟨t256,t257⟩,A10,H⟩:=H;(try dsimp only at H)
    replace H:=iE H;obtain ⟨-,c11b0,c11b1,H⟩ | ⟨c11,c11b0,c11b1,H⟩:=H
    ·
     have H':=am H;clear H;have mk0_:=trivial;exact Zd4
    ·
     simp only [Option.some.injEq,Prod.mk.injEq] at H;obtain ⟨rfl,rfl⟩:=H;have mk1_:=trivial;exact Zd4
   ·
    have c7b0:decide (x16_1 < (l1_1.length:Int)) = false:=decide_eq_false c7;clear c7;simp only [Option.some.injEq,Prod.mk.injEq] at H;obtain ⟨rfl,rfl⟩:=H;go_wp2;exact Zgk
def Z0n.j0:Nat → List (S68) → List (S73) → Bool → ByteArray → List ByteArray → Option (ByteArray × Int)
 | 0,_,_,_,_,_ => none
 | k + 1,x0,x1,x26,x259000,x259001 => if x26 = true then (some ((⟨#[]⟩:ByteArray),1)) else ((Z2h.f x0).bind fun t265 => ((Z1j.f k t265 x1 x259000 x259001).bind fun bt268 => (some (bt268.1,bt268.2))))
def Z0n.f (k:Nat) (l0:List (S68)) (l1:List (S73)) (a2_0:ByteArray) (l2_1:List ByteArray):Option (ByteArray × Int):=(Z0u.f k l0 l1).bind fun t259 => (if t259 = true then ((Z1n.f k l0 (([a2_0]:List ByteArray))).bind fun t263 => (if t263 = true then ((Z1n.f k l0 l2_1).bind fun t264 => (Z0n.j0 k l0 l1 (!t264) a2_0 l2_1)) else (Z0n.j0 k l0 l1 true a2_0 l2_1))) else (Z0n.j0 k l0 l1 true a2_0 l2_1))
def Z0n.T3:Bool × List (List Nat × List Nat):=(true,[([],[]),([0],[0]),([],[]),([1,2],[1,2]),([],[]),([3,4,1],[3,4]),([5],[5]),([5],[5]),([6,5,0,1,2,3,4,5,6,7],[6]),([7,8,0,1,2,3,4,5,6,7,8],[7])])
def Z0n.B3:List Nat:=[0,1,0,7,0,31,63,63,255,511]
theorem Z0n.tab3:rtab .any (opsOf Tryz.f18 3) = Z0n.T3:=by kernel_rfl
theorem Z0n.bits3:waitsOk Z0n.T3.2 Z0n.B3 = true:=by kernel_rfl
theorem Zgl {p:Prop} (h:p:=by
  go_ret2
  exact ⟨tE,by repeat (first | (with_reducible first | exact HB.out | apply below_alloc | apply pw_below_drewN | apply below_drew1 | refine below_set ?_ GE258.out) | exact HB.out)⟩):p:=h
set_option maxHeartbeats 8000000 in
set_option maxRecDepth 100000 in
theorem Z0n.calls (k:Nat) (A0:Option Addr) (c0:Nat) (l0:List (S68)) (A1:Option Addr) (c1:Nat) (l1:List (S73)) (a2_0:ByteArray) (A2_1:Option Addr) (c2_1:Nat) (l2_1:List ByteArray) (r1:ByteArray) (r2:Int) (w:World) (hT:Tabs w) (hr0:Kd.C k68 w A0 l0.length l0) (hc0:l0.length ≤ c0) (hr1:Kd.C k73 w A1 l1.length l1) (hc1:l1.length ≤ c1) (hr2_1:Kd.C Kd.string w A2_1 l2_1.length l2_1) (hc2_1:l2_1.length ≤ c2_1) (h:Z0n.f k l0 l1 a2_0 l2_1 = some (r1,r2)) :
 Calls Tryz.prog 18 #[.slice A0 l0.length c0,.slice A1 l1.length c1,.agg #[.string a2_0,.slice A2_1 l2_1.length c2_1]] w fun e w' => e = .returned (.tuple #[.string r1,.int .i64 r2]) ∧ Below w.heap.size w w':=by
 have HT:=am hT;clear hT;have hu60:=Tryz.underlying60;have hu89:=Tryz.underlying89;have HR0:=am hr0;have HC0:=am hc0;clear hr0 hc0;have HR1:=am hr1;have HC1:=am hc1;clear hr1 hc1;have HR2_1:=am hr2_1;have HC2_1:=am hc2_1;clear hr2_1 hc2_1;have HB:=am (Below.refl w.heap.size w);have H:((Z0u.f k l0 l1).bind fun t259 => (if t259 = true then ((Z1n.f k l0 (([a2_0]:List ByteArray))).bind fun t263 => (if t263 = true then ((Z1n.f k l0 l2_1).bind fun t264 => (Z0n.j0 k l0 l1 (!t264) a2_0 l2_1)) else (Z0n.j0 k l0 l1 true a2_0 l2_1))) else (Z0n.j0 k l0 l1 true a2_0 l2_1))) = some (r1,r2):=h;clear h;have HC4:=am H;clear H;go_enter Tryz.func18,Tryz.ntmps18
 go_upto_region 1 with (first | ((with_reducible refine gate_dst (N:=5) rfl ?_);(try (refine gate_guard (by rfl) ?_;dsimp only));refine box_event ?hg (N:=5) ?hd (cs:=#[.string a2_0,.slice A2_1 l2_1.length c2_1]) (t:=60) ?hr ?_;(case hd => rfl);(case hg => rfl);(case hr => exact Gc5);intro gb258 hg w5 hbox hb;have n0_:=am (below_step (tB HB) hb);have n1_:=am (hbox);have n2_:=tZ hg (tS HB);have n3_:=tZ hg (tS HB);revert n0_ n1_ n2_ n3_;clear HB;intro HB BK258 GW258 GE258;clear hb hbox hg))
 (try simp only [Act.put,List.setIfInBounds_toArray,List.set_cons_zero,List.set_cons_succ])
 go_cut [26] (fun v26 wc => ∃ (kq:Nat) (x26_3:Bool),v26 = .bool x26_3 ∧ Aside0 (Z0n.j0 kq l0 l1 x26_3 a2_0 l2_1 = some (r1,r2)) ∧ Aside0 (kq ≤ k) ∧ Aside0 (wc.heap[gb258]? = some (.cells #[.string a2_0,(.slice A2_1 l2_1.length c2_1)] 60 (0,0))) ∧ Aside0 (Below w.heap.size w wc))
 case first =>
  have H:=HC4.out;clear HC4;replace H:=bI H;obtain ⟨t259,A6,H⟩:=H;(try dsimp only at H)
  replace H:=iT H;obtain ⟨rfl,H⟩ | ⟨rfl,H⟩:=H
  ·
   obtain ⟨y260,hy260⟩:∃ y_:List ByteArray,y_ = (([a2_0]:List ByteArray)):=⟨_,rfl⟩
   replace H:((Z1n.f k l0 y260).bind fun t263 => (if t263 = true then ((Z1n.f k l0 l2_1).bind fun t264 => (Z0n.j0 k l0 l1 (!t264) a2_0 l2_1)) else (Z0n.j0 k l0 l1 true a2_0 l2_1))) = some (r1,r2):=by first | (rw [hy260];with_reducible exact H) | (have H2_:=(Option.bind_some _ _).symm.trans H;rw [hy260];with_reducible exact H2_) | (have H2_:=(Option.bind_some _ _).symm.trans H;with_reducible exact H2_) | with_reducible exact H | (rw [hy260];exact H) | exact H
   have Ny260:=am hy260;clear hy260;replace H:=bI H;obtain ⟨t263,A8,H⟩:=H;(try dsimp only at H)
   replace H:=iT H;obtain ⟨rfl,H⟩ | ⟨rfl,H⟩:=H
   ·
    replace H:=bI H;obtain ⟨t264,A10,H⟩:=H;(try dsimp only at H);have H':=am H;clear H
    go_wp2_with (first | ((with_reducible refine gate_callee (f:=30) rfl ?_);refine goesL_ (some 10) rfl rfl Tryz.func30 (by kernel_rfl) rfl #[.slice A0 l0.length c0,.slice A1 l1.length c1] rfl Gc2 ?_;(with_reducible refine (Z0u.calls k _ _ l0 _ _ l1 true _ ?sT (tC HR0 HB) HC0.out (tC HR1 HB) HC1.out A6.out).mono ?_);(case sT => exact Gc1);rintro e w11 ⟨rfl,hb⟩;refine ⟨_,rfl,?_⟩;have n0_:=am (blk_below (tK BK258) hb);have n1_:=am (below_step (tB HB) hb);revert n0_ n1_;clear BK258 HB;intro BK258 HB;(try clear hb);(try clear hb2);(try clear hk);(try clear hi);have hcz12_0:=cel2 BK258 0 rfl;have hcz12_1:=cel2 BK258 1 rfl;have hfz12_0:=blk_frozen BK258.out 0;have hfz12_1:=blk_frozen BK258.out 1) | ((with_reducible refine gate_dst (N:=16) rfl ?_);(try (refine gate_guard (by rfl) ?_;dsimp only));refine Kd.R_lit Kd.string _ 9 ?hg (N:=16) ?hd (xs:=([a2_0]:List ByteArray)) (inner:=[.string a2_0]) (ok:=fun _ => True) (okp:=fun _ => True) ?hr ?hp (fun _ hk => hk) trivial (Below.refl _ _) (Nat.le_refl _) (by simp) ?_;(case hd => rfl);(case hg => rfl);(case hr => exact Gc5);(case hp => exact (Reps.one (show Kd.M Kd.string _ _ _ a2_0 [.string a2_0] from rfl) (Reps.none _ _)));intro v261 w13 ho14 hb hg_ hnew_;clear hg_ hnew_;(first | rw [← Ny260.out] at ho14 | (simp only [Int.reduceToNat] at ho14;rw [← Ny260.out] at ho14));have n0_:=am (Kd.R_lower ho14 (tS HB));have n1_:=am (blk_below (tK BK258) hb);have n2_:=am (below_step (tB HB) hb);revert n0_ n1_ n2_;clear BK258 HB;intro HO262 BK258 HB;clear hb ho14;obtain ⟨Ao15,co15,eo15⟩:=Kd.R_slice HO262.out;subst eo15) | (go_at_call 32;(with_reducible refine (Z1n.calls k _ _ l0 _ _ y260 true _ ?sT (tC HR0 HB) HC0.out ?s3 ?s4 A8.out).mono ?_);(case sT => exact Gc1);(case s3 => repeat (first | exact (Kd.R_reads' HO262.out).2.2 | (with_reducible refine Kd.C_alloc ?_ _) | (with_reducible refine Kd.C_drewN ?_ _) | (with_reducible refine Kd.C_drew ?_)));(case s4 => exact (Kd.R_reads' HO262.out).2.1);rintro e w16 ⟨rfl,hb⟩;have n0_:=am (Kd.R_below (dR HO262) hb);have n1_:=am (blk_below (tK BK258) hb);have n2_:=am (below_step (tB HB) hb);revert n0_ n1_ n2_;clear HO262 BK258 HB;intro HO262 BK258 HB;(try clear hb);(try clear hb2);(try clear hk);(try clear hi);have hcz17_0:=cel2 BK258 0 rfl;have hcz17_1:=cel2 BK258 1 rfl;have hfz17_0:=blk_frozen BK258.out 0;have hfz17_1:=blk_frozen BK258.out 1) | (go_at_call 32;(with_reducible refine (Z1n.calls k _ _ l0 _ _ l2_1 t264 _ ?sT (tC HR0 HB) HC0.out (tC HR2_1 HB) HC2_1.out A10.out).mono ?_);(case sT => exact Gc1);rintro e w18 ⟨rfl,hb⟩;have n0_:=am (Kd.R_below (dR HO262) hb);have n1_:=am (blk_below (tK BK258) hb);have n2_:=am (below_step (tB HB) hb);revert n0_ n1_ n2_;clear HO262 BK258 HB;intro HO262 BK258 HB;(try clear hb);(try clear hb2);(try clear hk);(try clear hi)))
    go_meet
    case rel => exact ⟨_,(!t264),tV1,H',⟨tU⟩,⟨tK BK258⟩,⟨tB HB⟩⟩
   ·
    have H':=am H;clear H
    go_wp2_with (first | ((with_reducible refine gate_callee (f:=30) rfl ?_);refine goesL_ (some 10) rfl rfl Tryz.func30 (by kernel_rfl) rfl #[.slice A0 l0.length c0,.slice A1 l1.length c1] rfl Gc2 ?_;(with_reducible refine (Z0u.calls k _ _ l0 _ _ l1 true _ ?sT (tC HR0 HB) HC0.out (tC HR1 HB) HC1.out A6.out).mono ?_);(case sT => exact Gc1);rintro e w19 ⟨rfl,hb⟩;refine ⟨_,rfl,?_⟩;have n0_:=am (blk_below (tK BK258) hb);have n1_:=am (below_step (tB HB) hb);revert n0_ n1_;clear BK258 HB;intro BK258 HB;(try clear hb);(try clear hb2);(try clear hk);(try clear hi);have hcz20_0:=cel2 BK258 0 rfl;have hcz20_1:=cel2 BK258 1 rfl;have hfz20_0:=blk_frozen BK258.out 0;have hfz20_1:=blk_frozen BK258.out 1) | ((with_reducible refine gate_dst (N:=16) rfl ?_);(try (refine gate_guard (by rfl) ?_;dsimp only));refine Kd.R_lit Kd.string _ 9 ?hg (N:=16) ?hd (xs:=([a2_0]:List ByteArray)) (inner:=[.string a2_0]) (ok:=fun _ => True) (okp:=fun _ => True) ?hr ?hp (fun _ hk => hk) trivial (Below.refl _ _) (Nat.le_refl _) (by simp) ?_;(case hd => rfl);(case hg => rfl);(case hr => exact Gc5);(case hp => exact (Reps.one (show Kd.M Kd.string _ _ _ a2_0 [.string a2_0] from rfl) (Reps.none _ _)));intro v261 w21 ho22 hb hg_ hnew_;clear hg_ hnew_;(first | rw [← Ny260.out] at ho22 | (simp only [Int.reduceToNat] at ho22;rw [← Ny260.out] at ho22));have n0_:=am (Kd.R_lower ho22 (tS HB));have n1_:=am (blk_below (tK BK258) hb);have n2_:=am (below_step (tB HB) hb);revert n0_ n1_ n2_;clear BK258 HB;intro HO262 BK258 HB;clear hb ho22;obtain ⟨Ao23,co23,eo23⟩:=Kd.R_slice HO262.out;subst eo23) | (go_at_call 32;(with_reducible refine (Z1n.calls k _ _ l0 _ _ y260 false _ ?sT (tC HR0 HB) HC0.out ?s3 ?s4 A8.out).mono ?_);(case sT => exact Gc1);(case s3 => repeat (first | exact (Kd.R_reads' HO262.out).2.2 | (with_reducible refine Kd.C_alloc ?_ _) | (with_reducible refine Kd.C_drewN ?_ _) | (with_reducible refine Kd.C_drew ?_)));(case s4 => exact (Kd.R_reads' HO262.out).2.1);rintro e w24 ⟨rfl,hb⟩;have n0_:=am (Kd.R_below (dR HO262) hb);have n1_:=am (blk_below (tK BK258) hb);have n2_:=am (below_step (tB HB) hb);revert n0_ n1_ n2_;clear HO262 BK258 HB;intro HO262 BK258 HB;(try clear hb);(try clear hb2);(try clear hk);(try clear hi)))
    go_meet
    case rel => exact ⟨_,(true),tV1,H',⟨tU⟩,⟨tK BK258⟩,⟨tB HB⟩⟩
  ·
   have H':=am H;clear H
   go_wp2_with (first | ((with_reducible refine gate_callee (f:=30) rfl ?_);refine goesL_ (some 10) rfl rfl Tryz.func30 (by kernel_rfl) rfl #[.slice A0 l0.length c0,.slice A1 l1.length c1] rfl Gc2 ?_;(with_reducible refine (Z0u.calls k _ _ l0 _ _ l1 false _ ?sT (tC HR0 HB) HC0.out (tC HR1 HB) HC1.out A6.out).mono ?_);(case sT => exact Gc1);rintro e w25 ⟨rfl,hb⟩;refine ⟨_,rfl,?_⟩;have n0_:=am (blk_below (tK BK258) hb);have n1_:=am (below_step (tB HB) hb);revert n0_ n1_;clear BK258 HB;intro BK258 HB;(try clear hb);(try clear hb2);(try clear hk);(try clear hi)))
   go_meet
   case rel => exact ⟨_,(true),tV1,H',⟨tU⟩,⟨tK BK258⟩,⟨tB HB⟩⟩
 case rest =>
  clear HC4;obtain ⟨kq,x26_3,rfl,HA,HJ3,BK258,HB⟩:=hcut
  cases kq with
  | zero => exact absurd HA.out (by simp [Z0n.j0])
  | succ kj3 =>
   have H:=HA.out;clear HA;simp only [Z0n.j0] at H
   replace H:=iT H;obtain ⟨rfl,H⟩ | ⟨rfl,H⟩:=H
   ·
    simp only [Option.some.injEq,Prod.mk.injEq] at H;obtain ⟨rfl,rfl⟩:=H;go_wp2;exact Zgl
   ·
    replace H:=bI H;obtain ⟨t265,A27,H⟩:=H;(try dsimp only at H);replace H:=bI H;obtain ⟨⟨t268,t269⟩,A28,H⟩:=H;(try dsimp only at H);simp only [Option.some.injEq,Prod.mk.injEq] at H;obtain ⟨rfl,rfl⟩:=H
    try go_wp2
    have n0_:=am (blk_drew BK258.out);have n1_:=am (below_drew1 HB.out);revert n0_ n1_;clear BK258 HB;intro BK258 HB
    refine start_ (n:=10) (S:=fun w' => w'.cell? ⟨gb258,0,none⟩ = some (.string a2_0) ∧ w'.cell? ⟨gb258,1,none⟩ = some (.slice A2_1 l2_1.length c2_1)) (ds:=[]) #[false,false,false,false,false,false,false,false,false,false] (by kernel_rfl) rfl rfl ⟨(blk_cell BK258.out 0).trans rfl,(blk_cell BK258.out 1).trans rfl⟩ (fun hHeld => ?_);refine with_tabW Z0n.tab3 Z0n.bits3 (fun HT_ HW_ => ?_)
    generalize wc.drew = w29 at BK258 HB hHeld ⊢
    refine pT 0 27 ?_
    refine pT 2 29 ?_
    refine tTt 4 31 hHeld ?_
    refine one_ (i:=1) (N:=some 28) #[true,true,true,false,true,false,false,false,false,false] rfl rfl (one_of HT_.out (by kernel_rfl)) (by decide) (fun K hK => ?_)
    refine goes_ Tryz.func33 (by kernel_rfl) rfl #[.slice A0 l0.length c0] (by rfl) rfl rfl Gc2 ?_
    with_reducible refine (Z2h.calls _ _ l0 t265 _ (tC HR0 HB) HC0.out A27.out).mono ?_
    rintro e w30 ⟨v266,rfl,ho0,hb⟩
    refine ⟨_,rfl,?_⟩
    have n0_:=am (Kd.R_lower ho0 (tS HB));have n1_:=am (blk_below (tK BK258) hb);have n2_:=am (below_step (tB HB) hb);revert n0_ n1_ n2_;clear BK258 HB;intro HO267 BK258 HB
    (try clear hb);(try clear ho0)
    obtain ⟨Ao31,co31,eo31⟩:=Kd.R_slice HO267.out
    (first | subst eo31 | (injection eo31 with f1_ f2_ f3_;have f4_:=f1_.symm;have f5_:=f3_.symm;clear f1_ f2_ f3_;subst f4_;subst f5_))
    refine hK.out _ _ ⟨(blk_cell BK258.out 0).trans rfl,(blk_cell BK258.out 1).trans rfl⟩ (fun hHeld => ?_)
    clear hK K
    refine nR 28 ?_
    refine pT 3 30 ?_
    refine one_ (i:=5) (N:=some 32) #[true,true,true,true,true,true,false,false,false,false] rfl rfl (one_of HT_.out (by kernel_rfl)) (by decide) (fun K hK => ?_)
    refine goes_ Tryz.func34 (by kernel_rfl) rfl #[.agg #[.slice Ao31 t265.length co31,.slice A1 l1.length c1],.agg #[.string a2_0,.slice A2_1 l2_1.length c2_1]] (by rfl) rfl rfl Gc2 ?_
    with_reducible refine (Z1j.calls kj3 _ _ t265 _ _ l1 a2_0 _ _ l2_1 t268 t269 _ ?sT ?s1 ?s2 (tC HR1 HB) HC1.out (tC HR2_1 HB) HC2_1.out A28.out).mono ?_
    (case sT => exact Gc1);(case s1 => repeat (first | exact (Kd.R_reads' HO267.out).2.2 | (with_reducible refine Kd.C_alloc ?_ _) | (with_reducible refine Kd.C_drewN ?_ _) | (with_reducible refine Kd.C_drew ?_)));(case s2 => exact (Kd.R_reads' HO267.out).2.1);rintro e w32 ⟨rfl,hb⟩
    refine ⟨_,rfl,?_⟩
    have n0_:=am (Kd.R_below (dR HO267) hb);have n1_:=am (blk_below (tK BK258) hb);have n2_:=am (below_step (tB HB) hb);revert n0_ n1_ n2_;clear HO267 BK258 HB;intro HO267 BK258 HB;(try clear hb)
    refine hK.out _ _ ⟨(blk_cell BK258.out 0).trans rfl,(blk_cell BK258.out 1).trans rfl⟩ (fun hHeld => ?_)
    clear hK K
    refine nR 32 ?_
    refine pT 6 33 ?_
    refine pT 7 34 ?_
    refine pT 8 6 ?_
    refine pT 9 7 ?_
    refine done_ (done_of HT_.out (by kernel_rfl)) ?_
    try go_wp2
    exact Zgl
def Z0p.l0:Nat → List ByteArray → ByteArray → Int → Int → Option (Int)
 | 0,_,_,_,_ => none
 | k + 1,x0,x1,x7,x8 => if x8 < x7 then (if 0 ≤ x8 then (if x8 < (x0.length:Int) then (if x1.toList = (rdOf ByteArray.empty x0 x8).toList then (some x8) else (Z0p.l0 k x0 x1 x7 (wrap64 (x8 + 1)))) else (none)) else (none)) else (some (-1))
def Z0p.f (k:Nat) (l0:List ByteArray) (a1:ByteArray):Option (Int):=Z0p.l0 k l0 a1 (l0.length:Int) 0
set_option maxHeartbeats 8000000 in
set_option maxRecDepth 100000 in
theorem Z0p.calls (k:Nat) (A0:Option Addr) (c0:Nat) (l0:List ByteArray) (a1:ByteArray) (r:Int) (w:World) (hr0:Kd.C Kd.string w A0 l0.length l0) (hc0:l0.length ≤ c0) (h:Z0p.f k l0 a1 = some r) :
 Calls Tryz.prog 35 #[.slice A0 l0.length c0,.string a1] w fun e w' => e = .returned (.int .i64 r) ∧ Drawn0 w w':=by
 have HR0:=am hr0;have HC0:=am hc0;clear hr0 hc0;have H:(Z0p.l0 k l0 a1 (l0.length:Int) 0) = some r:=h;clear h;have H':=am H;clear H;go_enter Tryz.func35,Tryz.ntmps35;go_wp2
 go_loopg [8] k (fun kq v8 w' => ∃ (x8_1:Int),v8 = .int .i64 x8_1 ∧ Aside0 (Z0p.l0 kq l0 a1 (l0.length:Int) x8_1 = some r) ∧ Aside0 (kq ≤ k) ∧ Drawn0 w w')
 case atStart => exact ⟨(0),tV1,H',⟨Nat.le_refl _⟩,by repeat (first | exact Drawn0.refl _ | apply Drawn0.step)⟩
 case round =>
  clear H';obtain ⟨x8_1,rfl,HA,HK1,⟨m1,rfl⟩⟩:=hrel
  cases gk with
  | zero => exact absurd HA.out (by simp [Z0p.l0])
  | succ k1 =>
   have H:=HA.out;clear HA;simp only [Z0p.l0] at H
   replace H:=iF H;obtain ⟨c3,H⟩ | ⟨c3,H⟩:=H;rotate_left
   ·
    have c3b0:decide (x8_1 < (l0.length:Int)) = false:=decide_eq_false c3;clear c3;obtain rfl:=Option.some.inj H;go_wp2;go_ret;exact ⟨by first | rfl | (simp;done) | (simp [*];done),by repeat (first | exact Drawn0.refl _ | apply Drawn0.step)⟩
   have c3b0:decide (x8_1 < (l0.length:Int)) = true:=decide_eq_true c3;clear c3;replace H:=iFn H;obtain ⟨c4,H⟩:=H;have c4b0:decide (0 ≤ x8_1) = true:=decide_eq_true c4;clear c4;replace H:=iFn H;obtain ⟨c5,H⟩:=H;have c5b0:decide (x8_1 < (l0.length:Int)) = true:=decide_eq_true c5;clear c5
   replace H:=iE H;obtain ⟨-,c6b0,c6b1,H⟩ | ⟨c6,c6b0,c6b1,H⟩:=H
   ·
    obtain rfl:=Option.some.inj H;have p270:0 ≤ (x8_1:Int):=oD;have q270:x8_1 < (l0.length:Int):=oD;obtain ⟨ad270,e270,hx270_0⟩:=Kd.at_string HR0.out x8_1 p270 q270;cases e270;replace p270:=eq_true p270;replace q270:=eq_true q270;go_wp2;go_ret;exact ⟨by first | rfl | (simp;done) | (simp [*];done),by repeat (first | exact Drawn0.refl _ | apply Drawn0.step)⟩
   ·
    have H':=am H;clear H;have p270:0 ≤ (x8_1:Int):=oD;have q270:x8_1 < (l0.length:Int):=oD;obtain ⟨ad270,e270,hx270_0⟩:=Kd.at_string HR0.out x8_1 p270 q270;cases e270;replace p270:=eq_true p270;replace q270:=eq_true q270;go_wp2
    go_roundg k1
    case measure => have:=HK1.out;omega
    case rel => exact ⟨(wrap64 (x8_1 + 1)),tV1,H',⟨by have:=HK1.out;omega⟩,by repeat (first | exact Drawn0.refl _ | apply Drawn0.step)⟩
def Z1i.f (k:Nat) (l0:List ByteArray) (a1:ByteArray):Option (Bool):=(Z0p.f k l0 a1).bind fun t271 => (some (decide (t271 ≥ 0)))
set_option maxHeartbeats 8000000 in
set_option maxRecDepth 100000 in
theorem Z1i.calls (k:Nat) (A0:Option Addr) (c0:Nat) (l0:List ByteArray) (a1:ByteArray) (r:Bool) (w:World) (hr0:Kd.C Kd.string w A0 l0.length l0) (hc0:l0.length ≤ c0) (h:Z1i.f k l0 a1 = some r) :
 Calls Tryz.prog 19 #[.slice A0 l0.length c0,.string a1] w fun e w' => e = .returned (.bool r) ∧ Drawn0 w w':=by
 have HR0:=am hr0;have HC0:=am hc0;clear hr0 hc0;have H:((Z0p.f k l0 a1).bind fun t271 => (some (decide (t271 ≥ 0)))) = some r:=h;clear h;replace H:=bI H;obtain ⟨t271,A3,H⟩:=H;(try dsimp only at H);obtain rfl:=Option.some.inj H;go_enter Tryz.func19,Tryz.ntmps19
 go_wp2_with (first | ((with_reducible refine gate_callee (f:=35) rfl ?_);refine goesL_ (some 7) rfl rfl Tryz.func35 (by kernel_rfl) rfl #[.slice A0 l0.length c0,.string a1] rfl Gc2 ?_;(with_reducible refine (Z0p.calls k _ _ l0 a1 t271 _ ?s1 HC0.out A3.out).mono ?_);(case s1 => exact Gc3);rintro e w' ⟨rfl,⟨nd,rfl⟩⟩;refine ⟨_,rfl,?_⟩))
 go_ret;exact ⟨by first | rfl | (simp;done) | (simp [*];done),by repeat (first | exact Drawn0.refl _ | apply Drawn0.step)⟩
end Go.Proofs.YtfbhdjflkaldgaaGreatDoor.Pr
