/- Several texts in one: RewR, RewS. -/
import Derived.Test.YtfbhdjflkaldgaaGreatDoorMg8
import Derived.Laws.Cover4
import Derived.WalkMore
/- rewrite.result. -/
/- rewrite.Sites. -/
namespace Go.Proofs.YtfbhdjflkaldgaaGreatDoor.Pr
open Go.Proofs.YtfbhdjflkaldgaaGreatDoor.Ct Go.RowKit Go.Maps Go.Lib Go.Proofs.YtfbhdjflkaldgaaGreatDoorW.PrintWords Go.Proofs.YtfbhdjflkaldgaaGreatDoorW.PrintLast Go.Proofs.YtfbhdjflkaldgaaGreatDoorW.PrintMore
set_option linter.unusedVariables false
set_option linter.unusedSimpArgs false
def resF (from0:Bool) (tr:List Int):List Int → Nat → List Int → List Int
  | sites,i,[] => if sites.head? = some (i:Int) then tr else []
  | sites,i,c :: w => if sites.head? = some (i:Int) then tr ++ ((if from0 = true then [c] else []) ++ resF from0 tr sites.tail (i + 1) w) else c :: resF from0 tr sites (i + 1) w
def encS (rs:List Int):ByteArray:=⟨(encL rs).toArray⟩
theorem Z45 (rs:List Int):(encS rs).data.toList = encL rs:=by unfold encS;simp
theorem Z59 (ns:List Int) (h:∀ r ∈ ns,scalar r):runesBytes ns = encS ns:=by
  have key:∀ (ns:List Int) (b:ByteArray) (rs:List Int),(∀ r ∈ ns,scalar r) → b.data.toList = encL rs → (ns.foldl (fun r n => r ++ Utf8.encode n) b).data.toList = encL (rs ++ ns):=by
    intro ns
    induction ns with
    | nil => intro b rs _ hb;simpa using hb
    | cons n ns ih =>
      intro b rs h hb;rw [List.foldl_cons,ih _ (rs ++ [n]) (fun r hr => h r (by simp [hr])) (Zbj b rs n hb (h n (by simp)))]
      simp
  refine Z4l ?_
  rw [Z45];have:=key ns ByteArray.empty [] h rfl;unfold runesBytes
  simpa using this
theorem Z6y (from0:Bool) (tr:List Int) (ht:∀ r ∈ tr,scalar r):∀ (w:List Int) (sites:List Int) (i:Nat),(∀ r ∈ w,scalar r) → ∀ r ∈ resF from0 tr sites i w,scalar r
  | [],sites,i,_ => by
    intro r hr;unfold resF at hr
    split at hr
    · exact ht r hr
    · cases hr
  | c :: w,sites,i,hw => by
    intro r hr;unfold resF at hr
    have ih:=fun s => Z6y from0 tr ht w s (i + 1) (fun r hr => hw r (by simp [hr]))
    split at hr
    · rcases List.mem_append.1 hr with h | h
      · exact ht r h
      · rcases List.mem_append.1 h with h | h
        · split at h
          · obtain rfl:r = c:=by simpa using h
            exact hw r (by simp)
          · cases h
        · exact ih _ r h
    · rcases List.mem_cons.1 hr with rfl | h
      · exact hw r (by simp)
      · exact ih _ r h
theorem Z6z (from0:Bool) (tr:List Int):∀ (w:List Int) (sites:List Int) (i:Nat),(resF from0 tr sites i w).length ≤ (w.length + 1) * (tr.length + 1)
  | [],sites,i => by
    unfold resF
    split <;> simp
  | c :: w,sites,i => by
    have ih:=fun s => Z6z from0 tr w s (i + 1)
    unfold resF
    have e:(w.length + 1 + 1) * (tr.length + 1) = (w.length + 1) * (tr.length + 1) + (tr.length + 1):=by rw [Nat.succ_mul]
    rw [List.length_cons,e]
    split
    · have h1:=ih sites.tail
      rw [List.length_append,List.length_append]
      have h2:(if from0 = true then [c] else ([]:List Int)).length ≤ 1:=by split <;> simp
      omega
    · have h1:=ih sites
      rw [List.length_cons];omega
theorem Z9q (V:List Int) (i:Nat) (h:i < V.length):V.drop i = V.getD i 0 :: V.drop (i + 1):=by
  rw [List.drop_eq_getElem_cons h,List.getD_eq_getElem?_getD,List.getElem?_eq_getElem h];rfl
section Steps
variable {f:Bool} {T V F ss t done:List Int} {i:Nat} {R:Int}
theorem Znv (h:F = done ++ resF f T ss i (V.drop i)) (hlt:i < V.length) (hn:ss.head? ≠ some (i:Int)) (hR:V.getD i 0 = R):F = if i + 1 ≤ V.length then (done ++ [R]) ++ resF f T ss (i + 1) (V.drop (i + 1)) else done ++ [R]:=by
  rw [if_pos (by omega),h,Z9q V i hlt,hR,resF,if_neg hn];simp
theorem Zck (h:F = done ++ resF f T ss i (V.drop i)) (hge:¬ i < V.length) (hn:ss.head? ≠ some (i:Int)):F = if i + 1 ≤ V.length then done ++ resF f T ss (i + 1) (V.drop (i + 1)) else done:=by
  rw [if_neg (by omega),h,List.drop_eq_nil_of_le (by omega),resF,if_neg hn];simp
theorem Zmm (h:F = done ++ resF f T ((i:Int) :: t) i (V.drop i)) (hlt:i < V.length) (hf:f = true) (hR:V.getD i 0 = R):F = if i + 1 ≤ V.length then (done ++ T ++ [R]) ++ resF f T t (i + 1) (V.drop (i + 1)) else done ++ T ++ [R]:=by
  rw [if_pos (by omega),h,Z9q V i hlt,hR,resF,if_pos (show ((i:Int) :: t).head? = some (i:Int) from rfl),if_pos hf];simp
theorem Zmn (h:F = done ++ resF f T ((i:Int) :: t) i (V.drop i)) (hlt:i < V.length) (hf:f = false):F = if i + 1 ≤ V.length then (done ++ T) ++ resF f T t (i + 1) (V.drop (i + 1)) else done ++ T:=by
  subst hf;rw [if_pos (by omega),h,Z9q V i hlt,resF,if_pos (show ((i:Int) :: t).head? = some (i:Int) from rfl),if_neg (by decide)];simp
theorem Zhk (h:F = done ++ resF f T ((i:Int) :: t) i (V.drop i)) (hge:¬ i < V.length):F = if i + 1 ≤ V.length then (done ++ T) ++ resF f T t (i + 1) (V.drop (i + 1)) else done ++ T:=by
  rw [if_neg (by omega),h,List.drop_eq_nil_of_le (by omega),resF,if_pos (show ((i:Int) :: t).head? = some (i:Int) from rfl)]
end Steps
def Z5a (w:World) (b:Nat) (xs:List Int):Prop:=∀ i,i < xs.length → w.cell? ⟨b,i,none⟩ = some (.int .i32 (xs.getD i 0))
theorem Z5a.below {w w':World} {b:Nat} {xs:List Int} (h:Z5a w b xs) (hb:Below w.heap.size w w'):Z5a w' b xs:=fun i hi => (hb.cell (World.block_lt_of_cell? _ _ (h i hi))).trans (h i hi)
theorem Z70 (W:World) (xs:List Int) (n:Nat) (t:TypeId):Z5a (W.alloc (.cells ((xs.map (Value.int .i32)).toArray ++ Array.replicate n (.int .i32 0)) t)) W.heap.size xs:=by
  intro i hi
  refine Z2c W _ t i _ ?_
  have hi':i < ((xs.map (Value.int .i32)).toArray).size:=by simpa using hi
  rw [Array.getElem?_append_left hi']
  simp [hi]
theorem Z71 {W:World} {b:Nat} {xs:List Int} (h:Z5a W b xs):∀ (j:Nat) (u:Value),(xs.map (Value.int .i32))[j]? = some u → W.cell? ((⟨b,0,none⟩:Addr).add j) = some u:=by
  intro j u hu;rw [Addr.add_lit,Nat.zero_add];rw [List.getElem?_map] at hu;obtain ⟨x,hx,rfl⟩:=Option.map_eq_some_iff.1 hu;have hj:=(List.getElem?_eq_some_iff.1 hx).1;rw [h j hj,List.getD_eq_getElem?_getD,hx];rfl
def Z9r (from0:Bool) (tr:ByteArray) (sites:List Int) (word:ByteArray):ByteArray:=encS (resF from0 (Z0d tr) sites 0 (Z0d word))
def Z3g.f (a0:Int) (a1:ByteArray) (l2 l3:List S70) (a4 a5:Bool) (l6:List Int) (a7:ByteArray):Option ByteArray:=if (a1.size ≤ 1099511627776 ∧ a7.size ≤ 1099511627776) ∧ ((Z0d a1).length ≤ 4 ∧ (Z0d a7).length ≤ 40) then some (Z9r (decide (a0 = 0)) a1 l6 a7) else none
theorem Zkl {W:World} {b:Nat} {v:Value} {xs:List Int} (h:W.ownsRow b 21 1 v xs.length (xs.map (Value.int .i32))) (hs:∀ r ∈ xs,scalar r):(convert 109 9 v).run Tryz.prog W = .ok (.string (encS xs)) W:=by
  rcases h.2 with ⟨rfl,h0⟩ | ⟨g,cap,cur,rfl,rest⟩
  · obtain rfl:xs = []:=List.eq_nil_of_length_eq_zero h0
    rw [run_convert_runes_nil W 109 9 21 0 0 Tryz.underlying109 Tryz.underlying21 Tryz.underlying9];rfl
  · rw [run_convert_runes W 109 9 21 ⟨g,0,none⟩ xs.length cap xs (Nat.le_refl _) Tryz.underlying109 Tryz.underlying21 Tryz.underlying9 (fun j hj => h.cells rfl j _ (by simp [hj])),List.take_of_length_le (Nat.le_refl _),Z59 xs hs]
theorem Zip {p:Prop} (h:p:=by
  rw [show (done ++ [R]).length = done.length + 1 by simp,show (done ++ [R]).map (Value.int .i32) = done.map (Value.int .i32) ++ [.int .i32 R] by simp]
  exact ho3'.out):p:=h
theorem Zg5 {p:Prop} (h:p:=by
  obtain ⟨R,hRR⟩:∃ R,V.getD i 0 = R:=⟨_,rfl⟩;have hVR:Aside0 (∀ w4,Below W2.heap.size W2 w4 → w4.cell? ⟨b7,i,none⟩ = some (.int .i32 R)):=⟨fun w4 hB => by rw [← hRR];exact (hV2'.out.below hB) i hlt⟩;have hRR':=am hRR;clear hRR;have z1_:=hVR.out _ HB.out
  go_wp2_with (first | ((with_reducible refine gate_builtin (b:=.append) (xs:=#[.tmp 52,.tmp 57]) rfl ?_);at_builtin;refine wpList_append_own _ rfl (.tmp 52) (.tmp 57) 109 rfl W2.heap.size 21 i0 (.int .i32 0) 1 4 Tryz.underlying109 hi0 hz0 hz1 hz2 rfl (by decide) (.slice ao done.length cap) done.length (done.map (Value.int .i32)) rfl (World.ownsRow.alloc (show wr.ownsRow _ _ _ _ _ _ from hO.out) _) ⟨wr.heap.size,0,none⟩ 1 1 [.int .i32 R] rfl rfl ?aC (by simp [Value.oneCell']) ?aM ?aB ?aS ?_;(case aC => exact Z51 wr _ _);(case aM => exact Gc23);(case aB => exact Gc29);(case aS => exact Gc31);intro z2_ z3_ z4_ z5_ z6_;have z7_:Below W2.heap.size W2 z3_:=(HB.out.alloc HB.out.size _).grown z5_ Gc31 (fun k e => Z3i hO.out k e);have ho3':=am z4_;clear z4_))
  go_roundg g1
  case measure => omega
  first
  | (have mk_:=mk0_
     case rel =>
       refine ⟨i + 1,some ad,c,x :: t,done ++ [R],rfl,by rw [hfin.out],⟨by have:=hik.out;omega⟩,hss,⟨Znv hFe3.out hlt (by simpa using hxi) hRR'.out⟩,⟨?_⟩,⟨z7_⟩⟩
       exact Zip)
  | (have mk_:=mk1_
     case rel =>
       refine ⟨i + 1,A,c,[],done ++ [R],rfl,by rw [hfin.out],⟨by have:=hik.out;omega⟩,hss,⟨Znv hFe3.out hlt (by simp) hRR'.out⟩,⟨?_⟩,⟨z7_⟩⟩
       exact Zip)):p:=h
set_option maxRecDepth 100000 in
set_option maxHeartbeats 1000000 in
theorem Z3g.calls (a0:Int) (a1:ByteArray) (A2:Option Addr) (c2:Nat) (l2:List S70) (A3:Option Addr) (c3:Nat) (l3:List S70) (a4 a5:Bool) (A6:Option Addr) (c6:Nat) (l6:List Int) (a7:ByteArray) (r:ByteArray) (w:World) (hr2:Kd.C k70 w A2 l2.length l2) (hc2:l2.length ≤ c2) (hr3:Kd.C k70 w A3 l3.length l3) (hc3:l3.length ≤ c3) (hr6:Kd.C (Kd.int .i64) w A6 l6.length l6) (hc6:l6.length ≤ c6) (h:Z3g.f a0 a1 l2 l3 a4 a5 l6 a7 = some r) :
    Calls Tryz.prog 97 #[.agg #[.int .i32 a0,.string a1,.slice A2 l2.length c2,.slice A3 l3.length c3,.bool a4,.bool a5],.slice A6 l6.length c6,.string a7] w fun e w' => e = .returned (.string r) ∧ Below w.heap.size w w':=by
  unfold Z3g.f at h
  by_cases hg:(a1.size ≤ 1099511627776 ∧ a7.size ≤ 1099511627776) ∧ ((Z0d a1).length ≤ 4 ∧ (Z0d a7).length ≤ 40)
  · rw [if_pos hg] at h
    have hr:=Option.some.inj h;clear h;obtain ⟨T,hT⟩:∃ T,Z0d a1 = T:=⟨_,rfl⟩;obtain ⟨V,hV⟩:∃ V,Z0d a7 = V:=⟨_,rfl⟩
    have hTs:∀ r ∈ T,scalar r:=by rw [← hT];exact Z22 _
    have hVs:∀ r ∈ V,scalar r:=by rw [← hV];exact Z22 _
    have hr2:r = encS (resF (decide (a0 = 0)) T l6 0 V):=by rw [← hr,← hT,← hV];rfl
    obtain ⟨W0,hW0⟩:∃ W0,w.alloc (.cells #[.int .i32 a0,.string a1,.slice A2 l2.length c2,.slice A3 l3.length c3,.bool a4,.bool a5] 73) = W0:=⟨_,rfl⟩;have hcv7:=Z5d W0 9 109 21 a7 Tryz.underlying9 Tryz.underlying109 Tryz.underlying21 (by omega);obtain ⟨W1,hW1⟩:∃ W1,(W0.drew.alloc (.cells (((Z0d a7).map (Value.int .i32)).toArray ++ Array.replicate (grownCap W0 (Z0d a7).length 0 21 - (Z0d a7).length) (.int .i32 0)) 21)) = W1:=⟨_,rfl⟩;have hcap7:=grownCap_ge W0 (Z0d a7).length 0 21;rw [hW1] at hcv7;have hcv1:=Z5d W1 9 109 21 a1 Tryz.underlying9 Tryz.underlying109 Tryz.underlying21 (by omega);obtain ⟨W2,hW2⟩:∃ W2,(W1.drew.alloc (.cells (((Z0d a1).map (Value.int .i32)).toArray ++ Array.replicate (grownCap W1 (Z0d a1).length 0 21 - (Z0d a1).length) (.int .i32 0)) 21)) = W2:=⟨_,rfl⟩;have hcap1:=grownCap_ge W1 (Z0d a1).length 0 21;rw [hW2] at hcv1
    have hB0:Below w.heap.size w W0:=by rw [← hW0];exact (Below.refl _ w).alloc (Nat.le_refl _) _
    have hB01:Below W0.heap.size W0 W1:=by rw [← hW1];exact (Below.refl _ W0).drew.alloc (Nat.le_refl _) _
    have hB12:Below W1.heap.size W1 W2:=by rw [← hW2];exact (Below.refl _ W1).drew.alloc (Nat.le_refl _) _
    have hB02:Below W0.heap.size W0 W2:=hB01.trans (hB12.mono hB01.size);have hB:Below w.heap.size w W2:=hB0.trans (hB02.mono hB0.size)
    have hk0:W0.cell? ⟨w.heap.size,0,none⟩ = some (.int .i32 a0):=by rw [← hW0];exact Z2c _ _ _ 0 _ rfl
    have hk1:W0.cell? ⟨w.heap.size,1,none⟩ = some (.string a1):=by rw [← hW0];exact Z2c _ _ _ 1 _ rfl
    have hk11:W1.cell? ⟨w.heap.size,1,none⟩ = some (.string a1):=(hB01.cell (World.block_lt_of_cell? _ _ hk1)).trans hk1;have hk02:W2.cell? ⟨w.heap.size,0,none⟩ = some (.int .i32 a0):=(hB02.cell (World.block_lt_of_cell? _ _ hk0)).trans hk0
    have hV1:Z5a W1 W0.heap.size (Z0d a7):=by rw [← hW1];exact Z70 W0.drew _ _ _
    have hV2:Z5a W2 W0.heap.size (Z0d a7):=hV1.below hB12
    have hT2:Z5a W2 W1.heap.size (Z0d a1):=by rw [← hW2];exact Z70 W1.drew _ _ _
    obtain ⟨b7,hb7⟩:∃ b7,W0.heap.size = b7:=⟨_,rfl⟩;obtain ⟨b1,hb1⟩:∃ b1,W1.heap.size = b1:=⟨_,rfl⟩;obtain ⟨cap7,hc7⟩:∃ c,grownCap W0 (Z0d a7).length 0 21 = c:=⟨_,rfl⟩;obtain ⟨cap1,hc1⟩:∃ c,grownCap W1 (Z0d a1).length 0 21 = c:=⟨_,rfl⟩;rw [hb7] at hcv7 hV2;rw [hb1] at hcv1 hT2;rw [hc7] at hcv7 hcap7;rw [hc1] at hcv1 hcap1;rw [hT] at hcv1 hg hT2 hcap1;rw [hV] at hcv7 hg hV2 hcap7;have hB':=am hB;have hk02':=am hk02;have hV2':=am hV2;have hT2':=am hT2;have hTs':=am hTs;have hVs':=am hVs;have hrr':=am hr2;have hR6:=am hr6;have hC6:=am hc6;have hG:=am hg;have hcp:=am (And.intro hcap7 hcap1);obtain ⟨i0,hi0,hz0,hz1,hz2⟩:=info_parts Z6n;clear hr2 hc2 hr3 hc3 hr6 hc6 hg hr hTs hVs hT hV hW1 hW2 hB hB0 hB01 hB12 hB02 hk0 hk02 hV1 hV2 hT2 hb7 hb1 hc7 hc1 hcap7 hcap1 hk1;go_enter Tryz.func97,Tryz.ntmps97;go_wp2;have hlen:=Z6z (decide (a0 = 0)) T V l6 0;have hscl:=Z6y (decide (a0 = 0)) T hTs'.out V l6 0 hVs'.out;obtain ⟨F,hF⟩:∃ F,resF (decide (a0 = 0)) T l6 0 V = F:=⟨_,rfl⟩;rw [hF] at hlen hscl;have hrr2:=am (show r = encS F by rw [hrr'.out,hF]);have hFl:Aside0 (F.length ≤ 205):=⟨Nat.le_trans hlen (Nat.le_trans (Nat.mul_le_mul (show V.length + 1 ≤ 41 by have:=hG.out.2.2;omega) (show T.length + 1 ≤ 5 by have:=hG.out.2.1;omega)) (by decide))⟩;have hscl':=am hscl;have hF':=am hF;clear hlen hscl hF hrr'
    go_loopg [1,9,10] (V.length + 1) (fun kq v1 v9 v10 w' => ∃ (i:Nat) (A:Option Addr) (c:Nat) (ss done:List Int),v1 = .slice A ss.length c ∧ v10 = .int .i64 (i:Int) ∧ Aside0 (i + kq = V.length + 1) ∧ Aside0 (Kd.C (Kd.int .i64) w A ss.length ss ∧ ss.length ≤ c) ∧ Aside0 (F = if i ≤ V.length then done ++ resF (decide (a0 = 0)) T ss i (V.drop i) else done) ∧ Aside0 (w'.ownsRow W2.heap.size 21 1 v9 done.length (done.map (Value.int .i32))) ∧ Aside0 (Below W2.heap.size W2 w'))
    case atStart => exact ⟨0,A6,c6,l6,[],rfl,rfl,⟨by omega⟩,⟨⟨hR6.out,hC6.out⟩⟩,⟨by rw [if_pos (Nat.zero_le _),List.drop_zero,hF'.out];rfl⟩,⟨World.ownsRow_nil _ _ _ _⟩,⟨Below.refl _ _⟩⟩
    case round =>
      obtain ⟨i,A,c,ss,done,rfl,rfl,hik,hss,hFe,hO,HB⟩:=hrel;have hcz:=(HB.out.cell (World.block_lt_of_cell? _ _ hk02'.out)).trans hk02'.out
      cases gk with
      | zero =>
        have hcd:¬ ((i:Int) ≤ (V.length:Int)):=by have:=hik.out;omega
        have hdF:done = F:=by rw [hFe.out,if_neg (by omega)]
        subst hdF;have hcs:=Zkl hO.out hscl'.out;go_wp2;go_ret;exact ⟨by rw [hrr2.out];rfl,hB'.out.trans (HB.out.mono hB'.out.size)⟩
      | succ g1 =>
        have hcd:(i:Int) ≤ (V.length:Int):=by have:=hik.out;omega
        have hFe2:=hFe.out;rw [if_pos (by omega)] at hFe2;obtain ⟨ao,cap,hv9⟩:=Z65 hO.out;subst hv9;have hdl':Aside0 (done.length ≤ 205):=⟨by have:=congrArg List.length hFe2;rw [List.length_append] at this;have:=hFl.out;omega⟩;have hfin:=am (Z1a (i:=i) (n:=V.length + 1) (by omega) (by have:=hG.out.2.2;omega));have hFe3:=am hFe2;clear hFe2
        cases ss with
        | nil =>
          by_cases hlt:i < V.length
          · have hlt2:(i:Int) < (V.length:Int):=by omega
            have mk1_:=trivial;exact Zg5
          · have hlt2:¬ ((i:Int) < (V.length:Int)):=by omega
            go_wp2
            go_roundg g1
            case measure => omega
            case rel =>
              exact ⟨i + 1,A,c,[],done,rfl,by rw [hfin.out],⟨by have:=hik.out;omega⟩,hss,⟨Zck hFe3.out hlt (by simp)⟩,hO,HB⟩
        | cons x t =>
          obtain ⟨ad,hA,hx⟩:=Kd.at_int hss.out.1 0 (Int.le_refl _) (by simp);subst hA
          have hx':w.cell? ad = some (.int .i64 x):=by simpa [Addr.add,rd] using hx
          replace hx:=(HB.out.cell (Nat.lt_of_lt_of_le (World.block_lt_of_cell? _ _ hx') hB'.out.size)).trans ((hB'.out.cell (World.block_lt_of_cell? _ _ hx')).trans hx');clear hx'
          by_cases hxi:x = (i:Int)
          · subst hxi
            by_cases hlt:i < V.length
            · have hlt2:(i:Int) < (V.length:Int):=by omega
              obtain ⟨R,hRR⟩:∃ R,V.getD i 0 = R:=⟨_,rfl⟩;have hVR:Aside0 (∀ w4,Below W2.heap.size W2 w4 → w4.cell? ⟨b7,i,none⟩ = some (.int .i32 R)):=⟨fun w4 hB => by rw [← hRR];exact (hV2'.out.below hB) i hlt⟩;have hRR':=am hRR;clear hRR
              by_cases hz:a0 = 0
              · have hzb:=am (decide_eq_true hz);have hzc:(a0 == 0) = true:=beq_iff_eq.2 hz;clear hz
                go_wp2_with (first | ((with_reducible refine gate_builtin (b:=.append) (xs:=#[.tmp 36,.tmp 37]) rfl ?_);at_builtin;refine wpList_append_own _ rfl (.tmp 36) (.tmp 37) 109 rfl W2.heap.size 21 i0 (.int .i32 0) 1 4 Tryz.underlying109 hi0 hz0 hz1 hz2 rfl (by decide) (.slice ao done.length cap) done.length (done.map (Value.int .i32)) rfl hO.out ⟨b1,0,none⟩ T.length cap1 (T.map (Value.int .i32)) rfl (by simp) ?aC (by simp [Value.oneCell']) ?aM ?aB HB.out.size ?_;(case aC => exact Z71 (hT2'.out.below HB.out));(case aM => exact Gc23);(case aB => exact Gc29);intro v2 w2a ho2 hg2 hi2;have hB2a:Below W2.heap.size W2 w2a:=HB.out.grown hg2 HB.out.size (fun k e => Z3i hO.out k e);have hcz:=(hB2a.cell (World.block_lt_of_cell? _ _ hk02'.out)).trans hk02'.out;have hv2:=hVR.out _ hB2a;have ho2':=am ho2;clear ho2) | ((with_reducible refine gate_builtin (b:=.append) (xs:=#[.tmp 52,.tmp 57]) rfl ?_);at_builtin;refine wpList_append_own _ rfl (.tmp 52) (.tmp 57) 109 rfl W2.heap.size 21 i0 (.int .i32 0) 1 4 Tryz.underlying109 hi0 hz0 hz1 hz2 rfl (by decide) v2 (done.length + T.length) (done.map (Value.int .i32) ++ T.map (Value.int .i32)) rfl (World.ownsRow.alloc (show w2a.ownsRow _ _ _ _ _ _ from ho2'.out) _) ⟨w2a.heap.size,0,none⟩ 1 1 [.int .i32 R] rfl rfl ?aC (by simp [Value.oneCell']) ?aM ?aB ?aS ?_;(case aC => exact Z51 w2a _ _);(case aM => exact Gc23);(case aB => exact Gc29);(case aS => have:=hB2a.size;simp;omega);intro v3 w3a ho3 hg3 hi3;have hB3a:Below W2.heap.size W2 w3a:=(hB2a.alloc hB2a.size _).grown hg3 (by have:=hB2a.size;simp;omega) (fun k e => Z3i ho2'.out k e);have ho3':=am ho3;clear ho3))
                all_goals
                  go_roundg g1
                  case measure => omega
                  case rel =>
                    refine ⟨i + 1,(if c = 1 then some ad else (some ad).map (·.add (1 * 1))),c - 1,t,done ++ T ++ [R],?_,by rw [hfin.out],⟨by have:=hik.out;omega⟩,⟨⟨Kd.C_drop (m:=1) hss.out.1 (by simp) hss.out.2,by have:=hss.out.2;rw [List.length_cons] at this;omega⟩⟩,⟨Zmm hFe3.out hlt hzb.out hRR'.out⟩,⟨?_⟩,⟨hB3a⟩⟩
                    · simp [*,Addr.add]
                    · rw [show (done ++ T ++ [R]).length = done.length + T.length + 1 by simp [Nat.add_assoc],show (done ++ T ++ [R]).map (Value.int .i32) = (done.map (Value.int .i32) ++ T.map (Value.int .i32)) ++ [.int .i32 R] by simp]
                      exact ho3'.out
              · have hzb:=am (decide_eq_false hz);have hzc:(a0 == 0) = false:=beq_eq_false_iff_ne.2 hz;clear hz
                go_wp2_with (first | ((with_reducible refine gate_builtin (b:=.append) (xs:=#[.tmp 36,.tmp 37]) rfl ?_);at_builtin;refine wpList_append_own _ rfl (.tmp 36) (.tmp 37) 109 rfl W2.heap.size 21 i0 (.int .i32 0) 1 4 Tryz.underlying109 hi0 hz0 hz1 hz2 rfl (by decide) (.slice ao done.length cap) done.length (done.map (Value.int .i32)) rfl hO.out ⟨b1,0,none⟩ T.length cap1 (T.map (Value.int .i32)) rfl (by simp) ?aC (by simp [Value.oneCell']) ?aM ?aB HB.out.size ?_;(case aC => exact Z71 (hT2'.out.below HB.out));(case aM => exact Gc23);(case aB => exact Gc29);intro v2 w2a ho2 hg2 hi2;have hB2a:Below W2.heap.size W2 w2a:=HB.out.grown hg2 HB.out.size (fun k e => Z3i hO.out k e);have hcz:=(hB2a.cell (World.block_lt_of_cell? _ _ hk02'.out)).trans hk02'.out;have hv2:=hVR.out _ hB2a;have ho2':=am ho2;clear ho2))
                all_goals
                  go_roundg g1
                  case measure => omega
                  case rel =>
                    refine ⟨i + 1,(if c = 1 then some ad else (some ad).map (·.add (1 * 1))),c - 1,t,done ++ T,?_,by rw [hfin.out],⟨by have:=hik.out;omega⟩,⟨⟨Kd.C_drop (m:=1) hss.out.1 (by simp) hss.out.2,by have:=hss.out.2;rw [List.length_cons] at this;omega⟩⟩,⟨Zmn hFe3.out hlt hzb.out⟩,⟨?_⟩,⟨hB2a⟩⟩
                    · simp [*,Addr.add]
                    · rw [List.length_append,List.map_append]
                      exact ho2'.out
            · have hlt2:¬ ((i:Int) < (V.length:Int)):=by omega
              go_wp2_with (first | ((with_reducible refine gate_builtin (b:=.append) (xs:=#[.tmp 36,.tmp 37]) rfl ?_);at_builtin;refine wpList_append_own _ rfl (.tmp 36) (.tmp 37) 109 rfl W2.heap.size 21 i0 (.int .i32 0) 1 4 Tryz.underlying109 hi0 hz0 hz1 hz2 rfl (by decide) (.slice ao done.length cap) done.length (done.map (Value.int .i32)) rfl hO.out ⟨b1,0,none⟩ T.length cap1 (T.map (Value.int .i32)) rfl (by simp) ?aC (by simp [Value.oneCell']) ?aM ?aB HB.out.size ?_;(case aC => exact Z71 (hT2'.out.below HB.out));(case aM => exact Gc23);(case aB => exact Gc29);intro v2 w2a ho2 hg2 hi2;have hB2a:Below W2.heap.size W2 w2a:=HB.out.grown hg2 HB.out.size (fun k e => Z3i hO.out k e);have hcz:=(hB2a.cell (World.block_lt_of_cell? _ _ hk02'.out)).trans hk02'.out;have ho2':=am ho2;clear ho2))
              all_goals
                go_roundg g1
                case measure => omega
                case rel =>
                  refine ⟨i + 1,(if c = 1 then some ad else (some ad).map (·.add (1 * 1))),c - 1,t,done ++ T,?_,by rw [hfin.out],⟨by have:=hik.out;omega⟩,⟨⟨Kd.C_drop (m:=1) hss.out.1 (by simp) hss.out.2,by have:=hss.out.2;rw [List.length_cons] at this;omega⟩⟩,⟨Zhk hFe3.out hlt⟩,⟨?_⟩,⟨hB2a⟩⟩
                  · simp [*,Addr.add]
                  · rw [List.length_append,List.map_append]
                    exact ho2'.out
          · have hxb:(x == (i:Int)) = false:=beq_eq_false_iff_ne.2 hxi
            by_cases hlt:i < V.length
            · have hlt2:(i:Int) < (V.length:Int):=by omega
              have mk0_:=trivial;exact Zg5
            · have hlt2:¬ ((i:Int) < (V.length:Int)):=by omega
              go_wp2
              go_roundg g1
              case measure => omega
              case rel =>
                exact ⟨i + 1,some ad,c,x :: t,done,rfl,by rw [hfin.out],⟨by have:=hik.out;omega⟩,hss,⟨Zck hFe3.out hlt (by simpa using hxi)⟩,hO,HB⟩
  · rw [if_neg hg] at h;cases h
def upTo (f:Nat → Bool) (n:Nat):List Int:=((List.range n).filter f).map Int.ofNat
theorem Zcl (f:Nat → Bool) (n:Nat):upTo f (n + 1) = if f n = true then upTo f n ++ [(n:Int)] else upTo f n:=by
  unfold upTo;rw [List.range_succ,List.filter_append,List.map_append]
  by_cases h:f n = true
  · rw [if_pos h];simp [h]
  · rw [if_neg h];simp [h]
theorem Z72 (f:Nat → Bool) (n:Nat):(upTo f n).length ≤ n:=by
  unfold upTo;rw [List.length_map];exact Nat.le_trans (List.length_filter_le _ _) (by simp)
def Z46 (l:List S68) (r:S73) (V:List Int) (i:Nat):Bool :=
  (decide (r.f0 = 0) || (decide (i < V.length) && decide (V.getD i 0 = r.f0))) && (Z43 l r.f2 r.f4 ((V.take i).map (idxI l)) && Z3j l r.f3 r.f5 ((V.drop (if r.f0 = 0 then i else i + 1)).map (idxI l)))
def Z4s (l:List S68) (r:S73) (s:ByteArray):List Int:=if Z3r l r = true ∧ Z18 l s = true then upTo (Z46 l r (Z0d s)) ((Z0d s).length + 1) else []
def Z3n.f (l0:List S68) (a0:Int) (a1:ByteArray) (l2 l3:List S70) (a4 a5:Bool) (a6:ByteArray):Option (List Int):=if Z1z l0 = true ∧ Z2k ⟨a0,a1,l2,l3,a4,a5⟩ = true ∧ a6.size ≤ 1099511627776 then some (Z4s l0 ⟨a0,a1,l2,l3,a4,a5⟩ a6) else none
theorem Z4i (rs:List Int) (h:∀ r ∈ rs,scalar r):Z0d (encS rs) = rs:=by
  unfold Z0d;rw [Z45];have:=Z6h rs h [];rw [List.append_nil] at this;rw [this,Z40,List.append_nil]
theorem Z6a (rs:List Int):(encS rs).size ≤ 4 * rs.length:=by
  have h1:(encS rs).size = (encL rs).length:=by rw [← sizeL,Z45]
  rw [h1];unfold encL
  induction rs with
  | nil => simp
  | cons r t ih =>
    clear h1;have ih:(List.flatMap encodeRune t).length ≤ 4 * t.length:=ih (by rw [← sizeL,Z45]);rw [List.flatMap_cons,List.length_append,List.length_cons]
    have h2:(encodeRune r).length ≤ 4:=by
      have:=(encodeRuneZ_length r).2;unfold encodeRune;rw [List.length_map];omega
    omega
theorem Z54.part {l:List S68} {p:List S70} {rs:List Int} (h1:Z1z l = true) (h2:patP l p = true) (h3:Z37 p = true) (h4:rs.length ≤ 40) (h5:∀ r ∈ rs,scalar r) (h6:rs.all (isL l) = true):Z54 l p (encS rs) :=
  ⟨h1,h2,h3,by have:=Z6a rs;omega,by rw [Z45];exact Z41 rs h5,by rw [Z4i rs h5];exact h6⟩
theorem Zcm {l:List S68} {rs:List Int} (h5:∀ r ∈ rs,scalar r):idxs l (encS rs) = rs.map (idxI l):=by unfold idxs;rw [Z4i rs h5]
theorem Ziq (w:World) (s:ByteArray) (hs:s.size ≤ 1099511627776):∃ (W1:World) (cap:Nat),(convert 9 109 (.string s)).run Tryz.prog w = .ok (.slice (some ⟨w.heap.size,0,none⟩) (Z0d s).length cap) W1 ∧ (Z0d s).length ≤ cap ∧ Z5a W1 w.heap.size (Z0d s) ∧ Below w.heap.size w W1 :=
  ⟨_,_,Z5d w 9 109 21 s Tryz.underlying9 Tryz.underlying109 Tryz.underlying21 (by omega),grownCap_ge w (Z0d s).length 0 21,Z70 w.drew (Z0d s) _ _,(Below.refl _ w).drew.alloc (Nat.le_refl _) _⟩
theorem Z5e {W:World} {b:Nat} {V:List Int} (hs:∀ r ∈ V,scalar r) (i n c:Nat) (h:Z5a W b V) (hi:i + n ≤ V.length):(convert 109 9 (.slice (some ⟨b,i,none⟩) n c)).run Tryz.prog W = .ok (.string (encS ((V.drop i).take n))) W:=by
  rw [run_convert_runes W 109 9 21 ⟨b,i,none⟩ n c ((V.drop i).take n) (by rw [List.length_take,List.length_drop];omega) Tryz.underlying109 Tryz.underlying21 Tryz.underlying9 (fun j hj => by
    have hj':j < n:=by rw [List.length_take,List.length_drop] at hj;omega
    have:=h (i + j) (by omega);rw [show ((⟨b,i,none⟩:Addr).add j) = ⟨b,i + j,none⟩ by simp [Addr.add],this]
    congr 2
    simp [List.getD_eq_getElem?_getD,List.getElem?_take_of_lt hj',List.getElem?_drop]),List.take_of_length_le Gc36,Z59 _ (fun r hr => hs r (List.mem_of_mem_drop (List.mem_of_mem_take hr)))]
theorem Zir {p:Prop} (h:p:=by
  have hdl':Aside0 ((upTo f i).length ≤ 41):=⟨Nat.le_trans (Z72 _ _) (by have:=hVw'.out.1;have:=hik.out;omega)⟩
  cases PB with
  | false =>
    have hsite:=am (show upTo f (i + 1) = upTo f i by rw [hst.out,if_neg];rw [hsq];simp);clear hsq;go_wp2
    go_roundg g1
    case measure => omega
    case rel => exact ⟨i + 1,by rw [hfin.out],⟨by have:=hik.out;omega⟩,⟨by rw [hsite.out];exact Z42 hO.out HW5⟩,HB5⟩
  | true =>
    have hsite:=am (show upTo f (i + 1) = upTo f i ++ [(i:Int)] by rw [hst.out,if_pos];rw [hsq];rfl);clear hsq
    go_wp2_with ((with_reducible refine gate_builtin (b:=.append) (xs:=#[.tmp 64,.tmp 66]) rfl ?_);at_builtin;refine wpList_append_own _ rfl (.tmp 64) (.tmp 66) 139 rfl W1.heap.size 3 i0 (.int .i64 0) 1 8 Tryz.underlying139 hi0 hz0 hz1 hz2 rfl (by decide) (.slice ao (upTo f i).length cp) (upTo f i).length ((upTo f i).map (Value.int .i64)) rfl (World.ownsRow.alloc (Z42 hO.out HW5) _) ⟨w5.heap.size,0,none⟩ 1 1 [.int .i64 (i:Int)] rfl rfl ?aC (by simp [Value.oneCell']) ?aM ?aB ?aS ?_;(case aC => exact Z51 w5 _ _);(case aM => exact Gc28);(case aB => have:=hdl'.out;omega);(case aS => have:=HB.out.size;have:=HB5.out.size;simp;omega);intro z1_ z2_ z3_ z4_ z5_;have z6_:Below W1.heap.size W1 z2_:=((HB5.out.alloc HB5.out.size _)).grown z4_ (by have:=HB5.out.size;simp;omega) (fun k e => Z3i hO.out k e);have z7_:=am z3_;clear z3_)
    go_roundg g1
    case measure => omega
    case rel =>
      refine ⟨i + 1,by rw [hfin.out],⟨by have:=hik.out;omega⟩,⟨?_⟩,⟨z6_⟩⟩
      rw [hsite.out,List.length_append,List.map_append]
      exact z7_.out):p:=h
theorem Zis {p:Prop} (h:p:=by
  refine pK 12 45 ?_
  refine done_ (by kernel_rfl) ?_
  go_wp2
  go_roundg g1
  case measure => omega
  case rel => exact ⟨i + 1,by rw [hfin.out],⟨by have:=hik.out;omega⟩,⟨by rw [hsite.out];exact hO.out⟩,⟨hBd'.out⟩⟩):p:=h
theorem Zit {p:Prop} (h:p:=by
  go_wp2
  go_roundg g1
  case measure => omega
  case rel => exact ⟨i + 1,by rw [hfin.out],⟨by have:=hik.out;omega⟩,⟨by rw [hsite.out];exact Z42 hO.out HW5⟩,HB5⟩):p:=h
set_option maxRecDepth 1000000 in
theorem Z8y {p:Prop} (h:p:=by
  refine start_ (n:=16) (S:=fun w' => w'.cell? ⟨w.heap.size,0,none⟩ = some (.int .i32 a0) ∧ w'.cell? ⟨w.heap.size,1,none⟩ = some (.string a1) ∧ w'.cell? ⟨w.heap.size,2,none⟩ = some (.slice A2 l2.length c2) ∧ w'.cell? ⟨w.heap.size,3,none⟩ = some (.slice A3 l3.length c3) ∧ w'.cell? ⟨w.heap.size,4,none⟩ = some (.bool a4) ∧ w'.cell? ⟨w.heap.size,5,none⟩ = some (.bool a5)) (ds:=[]) #[false,false,false,false,false,false,false,false,false,false,false,false,false,false,false,false] (by kernel_rfl) rfl rfl ⟨q0,q1,q2,q3,q4,q5⟩ (fun hHeld => ?_)
  refine pK 0 48 ?_
  refine pK 2 50 ?_
  refine pK 3 51 ?_
  refine pK 4 52 ?_
  refine tKt 1 49 hHeld ?_
  refine one_ (i:=5) (N:=some 53) #[true,true,true,true,true,true,false,false,false,false,false,false,false,false,false,false] rfl rfl (by kernel_rfl) (by decide) (fun K hK => ?_)
  refine value_ (w1:=?_) (v:=?_) (by rfl) rfl ?_ ?_
  rotate_left 2
  · go_simp
    constructor
    · rfl
    · rfl
  refine hK.out _ _ ⟨q0,q1,q2,q3,q4,q5⟩ (fun hHeld => ?_)
  clear hK K
  refine nR 53 ?_
  refine one_ (i:=6) (N:=some 54) #[true,true,true,true,true,true,true,false,false,false,false,false,false,false,false,false] rfl rfl (by kernel_rfl) (by decide) (fun K hK => ?_)
  refine goes_ Tryz.func100 (by kernel_rfl) rfl #[.slice A0 l0.length c0,.agg #[.int .i32 a0,.string a1,.slice A2 l2.length c2,.slice A3 l3.length c3,.bool a4,.bool a5],.string (encS (V.take i))] (by rfl) rfl rfl Gc24 ?_
  with_reducible refine (hfoA).mono ?_
  first
  | (have mk_:=mk0_
     rintro e w4 ⟨rfl,hB4⟩
     refine ⟨_,rfl,?_⟩
     have hB4':=am hB4;have hcB:=hcvB'.out w4 (hBc'.out.trans (hB4.mono hBc'.out.size));have hprB:=hprA'.out w4 (hBW'.out.trans ((hBc'.out.trans (hB4.mono hBc'.out.size)).mono hBW'.out.size))
     refine hK.out _ _ ⟨(hB4.cell (World.block_lt_of_cell? _ _ q0)).trans q0,(hB4.cell (World.block_lt_of_cell? _ _ q1)).trans q1,(hB4.cell (World.block_lt_of_cell? _ _ q2)).trans q2,(hB4.cell (World.block_lt_of_cell? _ _ q3)).trans q3,(hB4.cell (World.block_lt_of_cell? _ _ q4)).trans q4,(hB4.cell (World.block_lt_of_cell? _ _ q5)).trans q5⟩ (fun hHeld => ?_)
     clear hK K
     refine nR 54 ?_
     refine pK 7 55 ?_
     refine pK 8 56 ?_
     refine pK 10 58 ?_
     refine pK 11 59 ?_
     refine pK 12 60 ?_
     refine tKt 9 57 hHeld ?_
     refine one_ (i:=13) (N:=some 61) #[true,true,true,true,true,true,true,true,true,true,true,true,true,true,false,false] rfl rfl (by kernel_rfl) (by decide) (fun K hK => ?_)
     refine value_ (w1:=?_) (v:=?_) (by rfl) rfl ?_ ?_
     rotate_left 2
     · go_simp
       constructor
       · rfl
       · rfl
     refine hK.out _ _ ⟨(hB4'.out.cell (World.block_lt_of_cell? _ _ q0)).trans q0,(hB4'.out.cell (World.block_lt_of_cell? _ _ q1)).trans q1,(hB4'.out.cell (World.block_lt_of_cell? _ _ q2)).trans q2,(hB4'.out.cell (World.block_lt_of_cell? _ _ q3)).trans q3,(hB4'.out.cell (World.block_lt_of_cell? _ _ q4)).trans q4,(hB4'.out.cell (World.block_lt_of_cell? _ _ q5)).trans q5⟩ (fun hHeld => ?_)
     clear hK K
     refine nR 61 ?_
     refine one_ (i:=14) (N:=some 62) #[true,true,true,true,true,true,true,true,true,true,true,true,true,true,true,false] rfl rfl (by kernel_rfl) (by decide) (fun K hK => ?_)
     refine goes_ Tryz.func101 (by kernel_rfl) rfl #[.slice A0 l0.length c0,.agg #[.int .i32 a0,.string a1,.slice A2 l2.length c2,.slice A3 l3.length c3,.bool a4,.bool a5],.string (encS (V.drop i))] (by rfl) rfl rfl Gc24 ?_
     with_reducible refine (hprB).mono ?_
     rintro e w5 ⟨rfl,hB5⟩
     refine ⟨_,rfl,?_⟩
     have hB5':=am hB5
     refine hK.out _ _ ⟨((hB4'.out.trans (hB5.mono hB4'.out.size)).cell (World.block_lt_of_cell? _ _ q0)).trans q0,((hB4'.out.trans (hB5.mono hB4'.out.size)).cell (World.block_lt_of_cell? _ _ q1)).trans q1,((hB4'.out.trans (hB5.mono hB4'.out.size)).cell (World.block_lt_of_cell? _ _ q2)).trans q2,((hB4'.out.trans (hB5.mono hB4'.out.size)).cell (World.block_lt_of_cell? _ _ q3)).trans q3,((hB4'.out.trans (hB5.mono hB4'.out.size)).cell (World.block_lt_of_cell? _ _ q4)).trans q4,((hB4'.out.trans (hB5.mono hB4'.out.size)).cell (World.block_lt_of_cell? _ _ q5)).trans q5⟩ (fun hHeld => ?_)
     clear hK K
     refine nR 62 ?_
     refine pK 15 63 ?_
     refine done_ (by kernel_rfl) ?_
     have HB5:=am (hBc'.out.trans ((hB4'.out.trans (hB5'.out.mono hB4'.out.size)).mono hBc'.out.size));have HW5:Below wr.heap.size wr w5:=(fun (h:Below wr.drew.heap.size wr.drew w5) => ⟨h.os,h.tape,h.output,h.size,h.block⟩) (hB4'.out.trans (hB5'.out.mono hB4'.out.size));generalize (if cap = i then some (⟨b7,0,none⟩:Addr) else some ⟨b7,i,none⟩) = xx
     exact Zir)
  | (have mk_:=mk1_
     rintro e w4 ⟨rfl,hB4⟩
     refine ⟨_,rfl,?_⟩
     have hB4':=am hB4;have hcB:=hcvB'.out w4 (hBc'.out.trans (hB4.mono hBc'.out.size));have hprB:=hprA'.out w4 (hBW'.out.trans ((hBc'.out.trans (hB4.mono hBc'.out.size)).mono hBW'.out.size))
     refine hK.out _ _ ⟨(hB4.cell (World.block_lt_of_cell? _ _ q0)).trans q0,(hB4.cell (World.block_lt_of_cell? _ _ q1)).trans q1,(hB4.cell (World.block_lt_of_cell? _ _ q2)).trans q2,(hB4.cell (World.block_lt_of_cell? _ _ q3)).trans q3,(hB4.cell (World.block_lt_of_cell? _ _ q4)).trans q4,(hB4.cell (World.block_lt_of_cell? _ _ q5)).trans q5⟩ (fun hHeld => ?_)
     clear hK K
     refine nR 54 ?_
     refine pK 7 55 ?_
     refine pK 8 56 ?_
     refine pK 10 58 ?_
     refine pK 11 59 ?_
     refine pK 12 60 ?_
     refine tKt 9 57 hHeld ?_
     refine one_ (i:=13) (N:=some 61) #[true,true,true,true,true,true,true,true,true,true,true,true,true,true,false,false] rfl rfl (by kernel_rfl) (by decide) (fun K hK => ?_)
     refine value_ (w1:=?_) (v:=?_) (by rfl) rfl ?_ ?_
     rotate_left 2
     · go_simp
       constructor
       · rfl
       · rfl
     refine hK.out _ _ ⟨(hB4'.out.cell (World.block_lt_of_cell? _ _ q0)).trans q0,(hB4'.out.cell (World.block_lt_of_cell? _ _ q1)).trans q1,(hB4'.out.cell (World.block_lt_of_cell? _ _ q2)).trans q2,(hB4'.out.cell (World.block_lt_of_cell? _ _ q3)).trans q3,(hB4'.out.cell (World.block_lt_of_cell? _ _ q4)).trans q4,(hB4'.out.cell (World.block_lt_of_cell? _ _ q5)).trans q5⟩ (fun hHeld => ?_)
     clear hK K
     refine nR 61 ?_
     refine one_ (i:=14) (N:=some 62) #[true,true,true,true,true,true,true,true,true,true,true,true,true,true,true,false] rfl rfl (by kernel_rfl) (by decide) (fun K hK => ?_)
     refine goes_ Tryz.func101 (by kernel_rfl) rfl #[.slice A0 l0.length c0,.agg #[.int .i32 a0,.string a1,.slice A2 l2.length c2,.slice A3 l3.length c3,.bool a4,.bool a5],.string (encS (V.drop j))] (by rfl) rfl rfl Gc24 ?_
     with_reducible refine (hprB).mono ?_
     rintro e w5 ⟨rfl,hB5⟩
     refine ⟨_,rfl,?_⟩
     have hB5':=am hB5
     refine hK.out _ _ ⟨((hB4'.out.trans (hB5.mono hB4'.out.size)).cell (World.block_lt_of_cell? _ _ q0)).trans q0,((hB4'.out.trans (hB5.mono hB4'.out.size)).cell (World.block_lt_of_cell? _ _ q1)).trans q1,((hB4'.out.trans (hB5.mono hB4'.out.size)).cell (World.block_lt_of_cell? _ _ q2)).trans q2,((hB4'.out.trans (hB5.mono hB4'.out.size)).cell (World.block_lt_of_cell? _ _ q3)).trans q3,((hB4'.out.trans (hB5.mono hB4'.out.size)).cell (World.block_lt_of_cell? _ _ q4)).trans q4,((hB4'.out.trans (hB5.mono hB4'.out.size)).cell (World.block_lt_of_cell? _ _ q5)).trans q5⟩ (fun hHeld => ?_)
     clear hK K
     refine nR 62 ?_
     refine pK 15 63 ?_
     refine done_ (by kernel_rfl) ?_
     have HB5:=am (hBc'.out.trans ((hB4'.out.trans (hB5'.out.mono hB4'.out.size)).mono hBc'.out.size));have HW5:Below wq.heap.size wq w5:=(fun (h:Below wq.drew.heap.size wq.drew w5) => ⟨h.os,h.tape,h.output,h.size,h.block⟩) (hB4'.out.trans (hB5'.out.mono hB4'.out.size));generalize (if cap = j then some (⟨b7,0,none⟩:Addr) else some ⟨b7,j,none⟩) = xx
     exact Zir)
  | (have mk_:=mk2_
     rintro e z1_ ⟨rfl,z2_⟩
     refine ⟨_,rfl,?_⟩
     have z3_:=am z2_
     refine hK.out _ _ ⟨(z2_.cell (World.block_lt_of_cell? _ _ q0)).trans q0,(z2_.cell (World.block_lt_of_cell? _ _ q1)).trans q1,(z2_.cell (World.block_lt_of_cell? _ _ q2)).trans q2,(z2_.cell (World.block_lt_of_cell? _ _ q3)).trans q3,(z2_.cell (World.block_lt_of_cell? _ _ q4)).trans q4,(z2_.cell (World.block_lt_of_cell? _ _ q5)).trans q5⟩ (fun hHeld => ?_)
     clear hK K
     refine nR 54 ?_
     refine pK 7 55 ?_
     refine uK 8 56 ?_
     refine uK 9 57 ?_
     refine uK 10 58 ?_
     refine uK 11 59 ?_
     refine uK 12 60 ?_
     refine uK 13 61 ?_
     refine uK 14 62 ?_
     refine pK 15 63 ?_
     refine done_ (by kernel_rfl) ?_
     have HB5:=am (hBc'.out.trans (z3_.out.mono hBc'.out.size));have HW5:Below wr.heap.size wr z1_:=⟨z3_.out.os,z3_.out.tape,z3_.out.output,z3_.out.size,z3_.out.block⟩
     exact Zit)
  | (have mk_:=mk3_
     rintro e z1_ ⟨rfl,z2_⟩
     refine ⟨_,rfl,?_⟩
     have z3_:=am z2_
     refine hK.out _ _ ⟨(z2_.cell (World.block_lt_of_cell? _ _ q0)).trans q0,(z2_.cell (World.block_lt_of_cell? _ _ q1)).trans q1,(z2_.cell (World.block_lt_of_cell? _ _ q2)).trans q2,(z2_.cell (World.block_lt_of_cell? _ _ q3)).trans q3,(z2_.cell (World.block_lt_of_cell? _ _ q4)).trans q4,(z2_.cell (World.block_lt_of_cell? _ _ q5)).trans q5⟩ (fun hHeld => ?_)
     clear hK K
     refine nR 54 ?_
     refine pK 7 55 ?_
     refine uK 8 56 ?_
     refine uK 9 57 ?_
     refine uK 10 58 ?_
     refine uK 11 59 ?_
     refine uK 12 60 ?_
     refine uK 13 61 ?_
     refine uK 14 62 ?_
     refine pK 15 63 ?_
     refine done_ (by kernel_rfl) ?_
     have HB5:=am (hBc'.out.trans (z3_.out.mono hBc'.out.size));have HW5:Below wq.heap.size wq z1_:=⟨z3_.out.os,z3_.out.tape,z3_.out.output,z3_.out.size,z3_.out.block⟩
     exact Zit)):p:=h
set_option maxRecDepth 1000000 in
theorem Zg6 {p:Prop} (h:p:=by
  go_wp2
  refine start_ (n:=13) (S:=fun w' => w'.cell? ⟨b7,i,none⟩ = some (.int .i32 R) ∧ w'.cell? ⟨w.heap.size,0,none⟩ = some (.int .i32 a0)) (ds:=[]) #[false,false,false,false,false,false,false,false,false,false,false,false,false] (by kernel_rfl) rfl rfl ⟨hR9,q0⟩ (fun hHeld => ?_)
  refine pK 0 33 ?_
  refine pK 1 34 ?_
  refine pK 2 35 ?_
  refine pK 3 36 ?_
  refine pK 4 37 ?_
  refine pK 5 38 ?_
  refine pK 6 39 ?_
  refine pK 7 40 ?_
  refine pK 9 42 ?_
  refine tKt 8 41 hHeld ?_
  refine tKt 10 43 hHeld ?_
  refine pK 11 44 ?_
  first
  | (have mk_:=mk0_
     refine pK 12 45 ?_
     refine done_ (by kernel_rfl) ?_
     go_wp2;obtain ⟨j,hj0⟩:∃ j,i + 1 = j:=⟨_,rfl⟩;have hj:=am hj0;have hfj:=hfin.out;rw [hj0] at hfj;rw [hfj];clear hfj hj0;obtain ⟨wq,hwq⟩:∃ wq,wr.drew = wq:=⟨_,rfl⟩;replace hBc:Below W1.heap.size W1 wq:=hwq ▸ hBc.drew;replace HB:Aside0 (Below W1.heap.size W1 wq):=⟨hBc⟩;replace hO:Aside0 (wq.ownsRow W1.heap.size 3 1 (.slice ao (upTo f i).length cp) (upTo f i).length ((upTo f i).map (Value.int .i64))):=hwq ▸ hO;replace q0:wq.cell? ⟨w.heap.size,0,none⟩ = some (.int .i32 a0):=hwq ▸ q0;replace q1:wq.cell? ⟨w.heap.size,1,none⟩ = some (.string a1):=hwq ▸ q1;replace q2:wq.cell? ⟨w.heap.size,2,none⟩ = some (.slice A2 l2.length c2):=hwq ▸ q2;replace q3:wq.cell? ⟨w.heap.size,3,none⟩ = some (.slice A3 l3.length c3):=hwq ▸ q3;replace q4:wq.cell? ⟨w.heap.size,4,none⟩ = some (.bool a4):=hwq ▸ q4;replace q5:wq.cell? ⟨w.heap.size,5,none⟩ = some (.bool a5):=hwq ▸ q5;rw [hwq];clear hwq hR9 hBd';have hlt:=hlt'.out;have hRa:=hRa'.out
     have hmt:∀ r ∈ V.take i,r ∈ V:=fun r hr => List.mem_of_mem_take hr
     have hmd:∀ r ∈ V.drop j,r ∈ V:=fun r hr => List.mem_of_mem_drop hr
     have hcA:(convert 109 9 (.slice (some ⟨b7,0,none⟩) i cap)).run Tryz.prog wq.drew = .ok (.string (encS (V.take i))) wq.drew:=by
       have:=Z5e (W:=wq.drew) hVs'.out 0 i cap (hVat'.out.below hBc.drew) (by have:=hik.out;omega);rw [List.drop_zero] at this;exact this
     have hcvB':Aside0 (∀ w4,Below W1.heap.size W1 w4 → (convert 109 9 (.slice (if cap = j then some ⟨b7,0,none⟩ else some ⟨b7,j,none⟩) (V.length - j) (cap - j))).run Tryz.prog w4 = .ok (.string (encS (V.drop j))) w4):=⟨fun w4 hB => by
       have hVat:=hVat'.out.below hB;have hlt:=hlt;have:=hj.out
       split
       · have h9:=Z5e (W:=w4) hVs'.out 0 (V.length - j) (cap - j) hVat (by omega)
         rw [h9,show V.length - j = 0 by omega,List.take_zero,List.drop_of_length_le (by omega)]
       · have h9:=Z5e (W:=w4) hVs'.out (j) (V.length - j) (cap - j) hVat (by omega)
         rw [h9,List.take_of_length_le (by rw [List.length_drop];omega)]⟩
     have hfoA:=hfo'.out (V.take i) hmt Gc36 wq.drew (hBW'.out.trans (hBc.drew.mono hBW'.out.size));have hprA:=hpr'.out (V.drop j) hmd (by rw [List.length_drop];omega);obtain ⟨FB,hFB⟩:∃ b,Z43 l0 l2 a4 ((V.take i).map (idxI l0)) = b:=⟨_,rfl⟩;obtain ⟨PB,hPB⟩:∃ b,Z3j l0 l3 a5 ((V.drop j).map (idxI l0)) = b:=⟨_,rfl⟩;rw [hFB] at hfoA;rw [hPB] at hprA;have hprA':=am hprA;have hBc':=am hBc.drew
     have hcic:i ≤ cap:=by have:=hik.out;omega
     have hcib:j ≤ V.length:=by have:=hj.out;omega
     have hcib2:V.length ≤ cap:=hcap
     have hsq:Z46 l0 ⟨a0,a1,l2,l3,a4,a5⟩ V i = (FB && PB):=by
       show ((decide (a0 = 0) || (decide (i < V.length) && decide (V.getD i 0 = a0))) && (Z43 l0 l2 a4 ((V.take i).map (idxI l0)) && Z3j l0 l3 a5 ((V.drop (if a0 = 0 then i else i + 1)).map (idxI l0)))) = _;rw [if_neg hzb.out,hj.out,hFB,hPB,decide_eq_false hzb.out,decide_eq_true hlt,decide_eq_true hRa];rfl
     rw [hf'.out] at hsq;clear hFB hPB hprA hmt hmd hBc
     cases FB with
     | false =>
       have hsite:=am (show upTo f (i + 1) = upTo f i by rw [hst.out,if_neg];rw [hsq];simp);clear hsq;have mk3_:=trivial;exact Z8y
     | true =>
       have mk1_:=trivial
       exact Z8y)
  | (have mk_:=mk1_
     exact Zis)):p:=h
set_option maxRecDepth 100000 in
set_option maxHeartbeats 2000000 in
theorem Z3n.calls (A0:Option Addr) (c0:Nat) (l0:List S68) (a0:Int) (a1:ByteArray) (A2:Option Addr) (c2:Nat) (l2:List S70) (A3:Option Addr) (c3:Nat) (l3:List S70) (a4 a5:Bool) (a6:ByteArray) (r:List Int) (w:World) (hT:Tabs w) (hr0:Kd.C k68 w A0 l0.length l0) (hc0:l0.length ≤ c0) (hr2:Kd.C k70 w A2 l2.length l2) (hc2:l2.length ≤ c2) (hr3:Kd.C k70 w A3 l3.length l3) (hc3:l3.length ≤ c3) (h:Z3n.f l0 a0 a1 l2 l3 a4 a5 a6 = some r) :
    Calls Tryz.prog 98 #[.slice A0 l0.length c0,.agg #[.int .i32 a0,.string a1,.slice A2 l2.length c2,.slice A3 l3.length c3,.bool a4,.bool a5],.string a6] w fun e w' => ∃ v0_:Value,e = .returned v0_ ∧ Kd.R (Kd.int .i64) 3 w' w.heap.size (fun _ => True) v0_ r ∧ Below w.heap.size w w':=by
  unfold Z3n.f at h
  by_cases hg:Z1z l0 = true ∧ Z2k ⟨a0,a1,l2,l3,a4,a5⟩ = true ∧ a6.size ≤ 1099511627776
  · rw [if_pos hg] at h
    have hr:=Option.some.inj h;clear h
    obtain ⟨hg1,hg2,hg3⟩:a1.size ≤ 1099511627776 ∧ Z37 l2 = true ∧ Z37 l3 = true:=by
      have:=hg.2.1;unfold Z2k at this;rw [Bool.and_eq_true,Bool.and_eq_true,decide_eq_true_eq] at this;exact this
    have hu:=Tryz.underlying73;obtain ⟨W0,hW0⟩:∃ W0,w.alloc (.cells #[.int .i32 a0,.string a1,.slice A2 l2.length c2,.slice A3 l3.length c3,.bool a4,.bool a5] 73) = W0:=⟨_,rfl⟩
    have hB0:Below w.heap.size w W0:=by rw [← hW0];exact (Below.refl _ w).alloc (Nat.le_refl _) _
    have hcell:∀ w1,Below W0.heap.size W0 w1 → (w1.cell? ⟨w.heap.size,0,none⟩ = some (.int .i32 a0) ∧ w1.cell? ⟨w.heap.size,1,none⟩ = some (.string a1) ∧ w1.cell? ⟨w.heap.size,2,none⟩ = some (.slice A2 l2.length c2)) ∧ w1.cell? ⟨w.heap.size,3,none⟩ = some (.slice A3 l3.length c3) ∧ w1.cell? ⟨w.heap.size,4,none⟩ = some (.bool a4) ∧ w1.cell? ⟨w.heap.size,5,none⟩ = some (.bool a5):=by
      intro w1 hB
      have hlt:w.heap.size < W0.heap.size:=by rw [← hW0];simp
      refine ⟨⟨(hB.cell hlt).trans ?_,(hB.cell hlt).trans ?_,(hB.cell hlt).trans ?_⟩,(hB.cell hlt).trans ?_,(hB.cell hlt).trans ?_,(hB.cell hlt).trans ?_⟩
      · rw [← hW0];exact Z2c _ _ _ 0 _ rfl
      · rw [← hW0];exact Z2c _ _ _ 1 _ rfl
      · rw [← hW0];exact Z2c _ _ _ 2 _ rfl
      · rw [← hW0];exact Z2c _ _ _ 3 _ rfl
      · rw [← hW0];exact Z2c _ _ _ 4 _ rfl
      · rw [← hW0];exact Z2c _ _ _ 5 _ rfl
    have hva:=fun (w1:World) (hB:Below W0.heap.size W0 w1) => Z1r.calls A0 c0 l0 a0 a1 A2 c2 l2 A3 c3 l3 a4 a5 (Z3r l0 ⟨a0,a1,l2,l3,a4,a5⟩) w1 (Z1s hT (hB0.trans (hB.mono hB0.size))) (Kd.C_below hr0 (hB0.trans (hB.mono hB0.size))) hc0 (Kd.C_below hr2 (hB0.trans (hB.mono hB0.size))) hc2 (Kd.C_below hr3 (hB0.trans (hB.mono hB0.size))) hc3 (by unfold Z1r.f;rw [if_pos ⟨hg.1,hg.2.1⟩])
    have hwo:=fun (w1:World) (hB:Below W0.heap.size W0 w1) => Z19.calls A0 c0 l0 a6 (Z18 l0 a6) w1 (Z1s hT (hB0.trans (hB.mono hB0.size))) (Kd.C_below hr0 (hB0.trans (hB.mono hB0.size))) hc0 (by unfold Z19.f;rw [if_pos hg.2.2])
    have HBc:Below W0.heap.size W0 W0:=Below.refl _ _;obtain ⟨⟨k0,k1,k2⟩,k3,k4,k5⟩:=hcell _ HBc;have hcell':=am hcell;have hB0':=am hB0;clear hcell hB0
    cases cv:Z3r l0 ⟨a0,a1,l2,l3,a4,a5⟩ with
    | false =>
      obtain rfl:r = []:=by rw [← hr];unfold Z4s;rw [if_neg (by rw [cv];simp)]
      rw [cv] at hva;have hva':=am hva;clear hr0 hc0 hr2 hc2 hr3 hc3 hg hr hT hva hwo hg1 hg2 hg3 cv;go_enter Tryz.func98,Tryz.ntmps98;go_wp2
      go_step3
      go_wp2_with (go_at_call 52;with_reducible refine (hva'.out _ HBc).mono ?_;rintro e w2 ⟨rfl,hBx⟩;have HBn:=HBc.trans (hBx.mono HBc.size);clear HBc hBx k0 k1 k2 k3 k4 k5;have HBc:=HBn;clear HBn)
      (try rw [Exit.noGoto_ret]);go_ret
      exact ⟨_,rfl,Kd.R_nil _ _ _ _ _,hB0'.out.trans (HBc.mono hB0'.out.size)⟩
    | true =>
      rw [cv] at hva
      cases cw:Z18 l0 a6 with
      | false =>
        obtain rfl:r = []:=by rw [← hr];unfold Z4s;rw [if_neg (by rw [cw];simp)]
        rw [cw] at hwo;have hva':=am hva;have hwo':=am hwo;clear hr0 hc0 hr2 hc2 hr3 hc3 hg hr hT hva hwo hg1 hg2 hg3 cv cw;go_enter Tryz.func98,Tryz.ntmps98;go_wp2
        go_step3
        go_wp2_with (first | (go_at_call 52;with_reducible refine (hva'.out _ HBc).mono ?_;rintro e w2 ⟨rfl,hBx⟩;have HBn:=HBc.trans (hBx.mono HBc.size);clear HBc hBx k0 k1 k2 k3 k4 k5;have HBc:=HBn;clear HBn) | (go_at_call 92;with_reducible refine (hwo'.out _ HBc).mono ?_;rintro e w2 ⟨rfl,hBx⟩;have HBn:=HBc.trans (hBx.mono HBc.size);clear HBc hBx;have HBc:=HBn;clear HBn))
        (try rw [Exit.noGoto_ret]);go_ret
        exact ⟨_,rfl,Kd.R_nil _ _ _ _ _,hB0'.out.trans (HBc.mono hB0'.out.size)⟩
      | true =>
        rw [cw] at hwo;obtain ⟨V,hV⟩:∃ V,Z0d a6 = V:=⟨_,rfl⟩;obtain ⟨f,hf⟩:∃ f,Z46 l0 ⟨a0,a1,l2,l3,a4,a5⟩ V = f:=⟨_,rfl⟩
        have hrr:r = upTo f (V.length + 1):=by rw [← hr,← hf,← hV];unfold Z4s;rw [if_pos ⟨cv,cw⟩]
        have hVs:∀ r ∈ V,scalar r:=by rw [← hV];exact Z22 _
        have hVw:V.length ≤ 40 ∧ V.all (isL l0) = true:=by
          unfold Z18 at cw;rw [hV] at cw;simp only [Bool.and_eq_true,decide_eq_true_eq] at cw;exact ⟨cw.2.2,cw.2.1⟩
        have hpat:patP l0 l2 = true ∧ patP l0 l3 = true:=by
          have h9:=cv;unfold Z3r at h9;simp only [Bool.and_eq_true] at h9;exact ⟨h9.2.2.1,h9.2.2.2⟩
        have hfo:∀ xs:List Int,(∀ r ∈ xs,r ∈ V) → xs.length ≤ V.length → ∀ w1,Below W0.heap.size W0 w1 → Calls Tryz.prog 100 #[.slice A0 l0.length c0,.agg #[.int .i32 a0,.string a1,.slice A2 l2.length c2,.slice A3 l3.length c3,.bool a4,.bool a5],.string (encS xs)] w1 fun e w' => e = .returned (.bool (Z43 l0 l2 a4 (xs.map (idxI l0)))) ∧ Below w1.heap.size w1 w':=by
          intro xs hx hx2 w1 hB
          have hsx:∀ r ∈ xs,scalar r:=fun r hr => hVs r (hx r hr)
          rw [← Zcm (l:=l0) hsx];exact Zbq A0 c0 l0 a0 a1 A2 c2 l2 A3 c3 l3 a4 a5 (encS xs) w1 (Z1s hT (hB0'.out.trans (hB.mono hB0'.out.size))) (Kd.C_below hr0 (hB0'.out.trans (hB.mono hB0'.out.size))) hc0 (Kd.C_below hr2 (hB0'.out.trans (hB.mono hB0'.out.size))) hc2 (Kd.C_below hr3 (hB0'.out.trans (hB.mono hB0'.out.size))) hc3 (Z54.part hg.1 hpat.1 hg2 (by omega) hsx (List.all_eq_true.2 fun r hr => List.all_eq_true.1 hVw.2 r (hx r hr)))
        have hpr:∀ xs:List Int,(∀ r ∈ xs,r ∈ V) → xs.length ≤ V.length → ∀ w1,Below W0.heap.size W0 w1 → Calls Tryz.prog 101 #[.slice A0 l0.length c0,.agg #[.int .i32 a0,.string a1,.slice A2 l2.length c2,.slice A3 l3.length c3,.bool a4,.bool a5],.string (encS xs)] w1 fun e w' => e = .returned (.bool (Z3j l0 l3 a5 (xs.map (idxI l0)))) ∧ Below w1.heap.size w1 w':=by
          intro xs hx hx2 w1 hB
          have hsx:∀ r ∈ xs,scalar r:=fun r hr => hVs r (hx r hr)
          rw [← Zcm (l:=l0) hsx];exact Zao A0 c0 l0 a0 a1 A2 c2 l2 A3 c3 l3 a4 a5 (encS xs) w1 (Z1s hT (hB0'.out.trans (hB.mono hB0'.out.size))) (Kd.C_below hr0 (hB0'.out.trans (hB.mono hB0'.out.size))) hc0 (Kd.C_below hr2 (hB0'.out.trans (hB.mono hB0'.out.size))) hc2 (Kd.C_below hr3 (hB0'.out.trans (hB.mono hB0'.out.size))) hc3 (Z54.part hg.1 hpat.2 hg3 (by omega) hsx (List.all_eq_true.2 fun r hr => List.all_eq_true.1 hVw.2 r (hx r hr)))
        have hsz6:=hg.2.2;obtain ⟨i0,hi0,hz0,hz1,hz2⟩:=info_parts Zhx;have hVs':=am hVs;have hVw':=am hVw;have hfo':=am hfo;have hpr':=am hpr;have hva':=am hva;have hwo':=am hwo;have hrr':=am hrr;have hf':=am hf;have hV':=am hV;have hsz':=am hsz6;clear hr0 hc0 hr2 hc2 hr3 hc3 hg hr hT hva hwo hg1 hg2 hg3 cv cw hVs hVw hpat hfo hpr hrr hf hV hsz6;go_enter Tryz.func98,Tryz.ntmps98;go_wp2
        go_step3
        go_wp2_with (first | (go_at_call 52;with_reducible refine (hva'.out _ HBc).mono ?_;rintro e w2 ⟨rfl,hBx⟩;have HBn:=HBc.trans (hBx.mono HBc.size);clear HBc hBx k0 k1 k2 k3 k4 k5;have HBc:=HBn;clear HBn) | (go_at_call 92;with_reducible refine (hwo'.out _ HBc).mono ?_;rintro e w3 ⟨rfl,hBx⟩;have HBn:=HBc.trans (hBx.mono HBc.size);clear HBc hBx;have HBc:=HBn;clear HBn;obtain ⟨W1,cap,hcv,hcap,hVat,hB1⟩:=Ziq w3 a6 hsz'.out;have hBW:=HBc.trans (hB1.mono HBc.size);rw [hV'.out] at hcv hcap hVat;obtain ⟨b7,hb7⟩:∃ b7,w3.heap.size = b7:=⟨_,rfl⟩;rw [hb7] at hcv hVat;have hVat':=am hVat;have hBW':=am hBW;clear hB1 hVat hb7 hBW))
        go_step3
        go_wp2
        go_loopg [8,9,10] (V.length + 1) (fun kq v8 v9 v10 w' => ∃ i:Nat,v9 = .int .i64 (i:Int) ∧ Aside0 (i + kq = V.length + 1) ∧ Aside0 (w'.ownsRow W1.heap.size 3 1 v8 (upTo f i).length ((upTo f i).map (Value.int .i64))) ∧ Aside0 (Below W1.heap.size W1 w'))
        case atStart => exact ⟨0,rfl,⟨by omega⟩,⟨World.ownsRow_nil _ _ _ _⟩,⟨Below.refl _ _⟩⟩
        case round =>
          obtain ⟨i,rfl,hik,hO,HB⟩:=hrel;obtain ⟨ao,cp,hv8⟩:=Z65 hO.out;subst hv8
          cases gk with
          | zero =>
            have hcd:¬ ((i:Int) ≤ (V.length:Int)):=by have:=hik.out;omega
            have hdI:Aside0 (i = V.length + 1):=⟨by have:=hik.out;omega⟩;go_wp2
            (try rw [Exit.noGoto_ret]);go_ret
            refine ⟨_,rfl,Kd.R_lower (Zhd ?_) (Nat.le_trans hB0'.out.size hBW'.out.size),hB0'.out.trans ((hBW'.out.trans (HB.out.mono hBW'.out.size)).mono hB0'.out.size)⟩
            rw [hrr'.out,← hdI.out];exact hO.out
          | succ g1 =>
            have hcd:(i:Int) ≤ (V.length:Int):=by have:=hik.out;omega
            have hfin:=am (Z1a (i:=i) (n:=V.length + 1) (by omega) (by have:=hVw'.out.1;omega));have hst:=am (Zcl f i);have hBc:=HB.out
            by_cases hz:a0 = 0
            · have hzb:=am hz
              have hzc:(a0 == 0) = true:=beq_iff_eq.2 hz;clear hz;obtain ⟨⟨q0,q1,q2⟩,q3,q4,q5⟩:=hcell'.out _ (hBW'.out.trans (hBc.mono hBW'.out.size));go_wp2
              have hmt:∀ r ∈ V.take i,r ∈ V:=fun r hr => List.mem_of_mem_take hr
              have hmd:∀ r ∈ V.drop i,r ∈ V:=fun r hr => List.mem_of_mem_drop hr
              have hcA:(convert 109 9 (.slice (some ⟨b7,0,none⟩) i cap)).run Tryz.prog wr.drew = .ok (.string (encS (V.take i))) wr.drew:=by
                have:=Z5e (W:=wr.drew) hVs'.out 0 i cap (hVat'.out.below hBc.drew) (by have:=hik.out;omega);rw [List.drop_zero] at this;exact this
              have hcvB':Aside0 (∀ w4,Below W1.heap.size W1 w4 → (convert 109 9 (.slice (if cap = i then some ⟨b7,0,none⟩ else some ⟨b7,i,none⟩) (V.length - i) (cap - i))).run Tryz.prog w4 = .ok (.string (encS (V.drop i))) w4):=⟨fun w4 hB => by
                have hVat:=hVat'.out.below hB;have hlt:=hik.out
                split
                · have h9:=Z5e (W:=w4) hVs'.out 0 (V.length - i) (cap - i) hVat (by omega)
                  rw [h9,show V.length - i = 0 by omega,List.take_zero,List.drop_of_length_le (by omega)]
                · have h9:=Z5e (W:=w4) hVs'.out (i) (V.length - i) (cap - i) hVat (by omega)
                  rw [h9,List.take_of_length_le (by rw [List.length_drop];omega)]⟩
              have hfoA:=hfo'.out (V.take i) hmt Gc36 wr.drew (hBW'.out.trans (hBc.drew.mono hBW'.out.size));have hprA:=hpr'.out (V.drop i) hmd (by rw [List.length_drop];omega);obtain ⟨FB,hFB⟩:∃ b,Z43 l0 l2 a4 ((V.take i).map (idxI l0)) = b:=⟨_,rfl⟩;obtain ⟨PB,hPB⟩:∃ b,Z3j l0 l3 a5 ((V.drop i).map (idxI l0)) = b:=⟨_,rfl⟩;rw [hFB] at hfoA;rw [hPB] at hprA;have hprA':=am hprA;have hBc':=am hBc.drew
              have hcic:i ≤ cap:=by have:=hik.out;omega
              have hcib:i ≤ V.length:=by have:=hik.out;omega
              have hcib2:V.length ≤ cap:=hcap
              have hsq:Z46 l0 ⟨a0,a1,l2,l3,a4,a5⟩ V i = (FB && PB):=by
                show ((decide (a0 = 0) || _) && (Z43 l0 l2 a4 ((V.take i).map (idxI l0)) && Z3j l0 l3 a5 ((V.drop (if a0 = 0 then i else i + 1)).map (idxI l0)))) = _;rw [if_pos hzb.out,hFB,hPB,decide_eq_true hzb.out];rfl
              rw [hf'.out] at hsq;clear hFB hPB hprA hmt hmd hBc
              cases FB with
              | false =>
                have hsite:=am (show upTo f (i + 1) = upTo f i by rw [hst.out,if_neg];rw [hsq];simp);clear hsq;have mk2_:=trivial;exact Z8y
              | true =>
                have mk0_:=trivial;exact Z8y
            · have hzb:=am hz
              have hzc:(a0 == 0) = false:=beq_eq_false_iff_ne.2 hz;clear hz;obtain ⟨⟨q0,q1,q2⟩,q3,q4,q5⟩:=hcell'.out _ (hBW'.out.trans (hBc.mono hBW'.out.size));have hBd':=am hBc.drew
              by_cases hie:i = V.length
              · have hib:((i:Int) == (V.length:Int)) = true:=beq_iff_eq.2 (by omega)
                have hsite:=am (show upTo f (i + 1) = upTo f i by rw [hst.out,if_neg];rw [← hf'.out];unfold Z46;simp [hzb.out,hie]);clear hie;go_wp2
                refine start_ (n:=13) (S:=fun w' => True) (ds:=[]) #[false,false,false,false,false,false,false,false,false,false,false,false,false] (by kernel_rfl) rfl rfl trivial (fun hHeld => ?_)
                refine pK 0 33 ?_
                refine pK 1 34 ?_
                refine pK 2 35 ?_
                refine pK 3 36 ?_
                refine pK 4 37 ?_
                refine uK 5 38 ?_
                refine uK 6 39 ?_
                refine uK 7 40 ?_
                refine uK 8 41 ?_
                refine uK 9 42 ?_
                refine uK 10 43 ?_
                refine uK 11 44 ?_
                exact Zis
              · have hlt:i < V.length:=by have:=hik.out;omega
                have hib:((i:Int) == (V.length:Int)) = false:=beq_eq_false_iff_ne.2 (by omega)
                have hlt2:(i:Int) < (V.length:Int):=by omega
                obtain ⟨R,hRR⟩:∃ R,V.getD i 0 = R:=⟨_,rfl⟩
                have hR9:wr.cell? ⟨b7,i,none⟩ = some (.int .i32 R):=by rw [← hRR];exact (hVat'.out.below hBc) i hlt
                by_cases hra:R = a0
                · have hRa:V.getD i 0 = a0:=hRR.trans hra
                  have hrb:(R == a0) = true:=beq_iff_eq.2 hra;have hRa':=am hRa;have hlt':=am hlt;clear hra hRR hRa hie hlt;have mk0_:=trivial;exact Zg6
                · have hrb:(R == a0) = false:=beq_eq_false_iff_ne.2 hra
                  have hsite:=am (show upTo f (i + 1) = upTo f i by rw [hst.out,if_neg];rw [← hf'.out];unfold Z46;simp only [List.getD_eq_getElem?_getD] at hRR;simp [hzb.out,hRR,hra]);clear hra hRR hie;have mk1_:=trivial;exact Zg6
  · rw [if_neg hg] at h;cases h
end Go.Proofs.YtfbhdjflkaldgaaGreatDoor.Pr
