/- Several texts in one: Sge, RfT, PureOrthographyText. -/
import Derived.Test.YtfbhdjflkaldgaaGreatDoorMg20
import Derived.Test.YtfbhdjflkaldgaaGreatDoorMg25
import Derived.Test.YtfbhdjflkaldgaaGreatDoorMg24
import Derived.Test.YtfbhdjflkaldgaaGreatDoorRf7
/- The reference's Segments, plainly. -/
/- The reference's attaching, sentences and texts, plainly: the same as the code's. -/
/- OrthographyText, plainly. -/
namespace Go.Proofs.YtfbhdjflkaldgaaGreatDoor.Pr
open Go.Proofs.YtfbhdjflkaldgaaGreatDoor.Ct Go.RowKit Go.Maps Go.Lib Go.Proofs.YtfbhdjflkaldgaaGreatDoorW.PrintWords Go.Proofs.YtfbhdjflkaldgaaGreatDoorW.PrintLast Go.Proofs.YtfbhdjflkaldgaaGreatDoorW.PrintMore
set_option linter.unusedVariables false
theorem Zh5 {l:List S68} (h61:isL l 61 = false) {t:ByteArray} (h:(cutE t).2 = true):Z7z l t = false ∧ 1 ≤ t.size ∧ (cutE t).1 = t.extract 1 t.size:=by
  unfold cutE at h ⊢
  split at h
  · rename_i hc
    refine ⟨?_,hc.1,by rw [if_pos hc]⟩
    have h2:(t.extract 0 1).toList = [61]:=by simpa using hc.2
    rw [ByteArray.toList_eq,extract_data,List.drop_zero] at h2
    have e:t.data.toList = encodeRune 61 ++ t.data.toList.drop 1:=by
      rw [show encodeRune 61 = [61] by decide,← h2];exact (List.take_append_drop 1 _).symm
    unfold Z7z Z5w;rw [e,Z62 61 (by unfold scalar;omega),List.all_cons,h61,Bool.false_and,Bool.false_and,Bool.and_false,Bool.and_false]
  · cases h
theorem Zaj {l:List S68} (t:ByteArray):Z7z l t = Z5f l t:=by
  unfold Z7z Z5w Z5f;rw [sizeL];rfl
theorem Zo5 (gL:Lg) (h61:isL gL.v2 61 = false) (ts:List ByteArray) (ht:∀ t ∈ ts,t.size ≤ 1099511627776) (hn:ts.length ≤ 1048576) (hok:(segF gL.v2 ts []).2 = true):Ev (fun k => Z0b.f k gL ts) (segF gL.v2 ts []).1:=by
  have key:∀ d i (out:List S60),ts.length - i = d → i ≤ ts.length → out.length ≤ i → (segF gL.v2 (ts.drop i) out).2 = true → Ev (fun k => Z0b.l0 k ts out (i:Int) gL) (segF gL.v2 (ts.drop i) out).1:=by
    intro d
    induction d with
    | zero =>
      intro i out hd hi ho _
      obtain rfl:i = ts.length:=by omega
      rw [List.drop_length]
      refine Ev.step (f:=fun _ => some out) (fun k => ?_) (Ev.now _)
      simp only [Z0b.l0];rw [if_neg (by omega)]
    | succ d ih =>
      intro i out hd hi ho hk
      have hlt:i < ts.length:=by omega
      rw [Z4v ts i hlt] at hk ⊢;have hm:=ht _ (Zhr ts i hlt);obtain ⟨t,htt⟩:∃ t,rdOf ByteArray.empty ts (i:Int) = t:=⟨_,rfl⟩;rw [htt] at hk hm ⊢;have hh:=Zls gL t h61 hm;unfold segF at hk ⊢
      by_cases c1:(cutE t).2 = false
      · rw [if_pos c1] at hk ⊢
        by_cases c2:Z5f gL.v2 t = true
        · rw [if_pos c2] at hk ⊢
          refine Ev.step (fun k => ?_) (ih (i + 1) _ (by omega) (by omega) Gc14 hk)
          simp only [Z0b.l0];rw [if_pos (by omega),if_pos (by omega),htt,hh,Zaj,c2,Option.bind_some,if_pos rfl,if_pos (by omega),Z1a hlt (by omega)]
        · rw [if_neg c2] at hk;cases hk
      · rw [if_neg c1] at hk ⊢
        by_cases c2:Z5f gL.v2 (cutE t).1 = true ∧ 0 < out.length ∧ (Z4e out).f1.length < 2
        · rw [if_pos c2] at hk ⊢
          obtain ⟨q1,q2,q3⟩:=Zh5 h61 (t:=t) (by simpa using c1)
          have hw:wrap64 ((out.length:Int) - 1) = ((out.length - 1:Nat):Int):=by unfold wrap64;omega
          refine Ev.step (fun k => ?_) (ih (i + 1) _ (by omega) (by omega) (by rw [List.length_set];omega) hk)
          have hl2:=c2.2.2;unfold Z4e at hl2;simp only [Z0b.l0];rw [if_pos (by omega),if_pos (by omega),htt,hh,q1,Option.bind_some,if_neg (by decide),hw,if_pos (by omega),if_pos (by omega),if_pos (by omega),if_pos (by omega),Z1a hlt (by omega),q3,Int.toNat_natCast];rfl
        · rw [if_neg c2] at hk;cases hk
  have:=key ts.length 0 [] (by omega) (by omega) (by simp) (by rw [List.drop_zero];exact hok);rw [List.drop_zero] at this;exact this
set_option linter.unusedSimpArgs false
theorem Zjn {l:List S68} {rules:List S73} {stop:ByteArray} (h:Z3u l rules stop = true):isL l 61 = false:=by
  unfold Z3u Z4f at h;simp only [Bool.and_eq_true,Bool.not_eq_true'] at h;exact h.2.1.2
theorem Zo6 (r:Int) (h:scalar r) (hr:r ≠ 61):∀ b ∈ encodeRune r,b ≠ 61:=by
  obtain ⟨h0,h1⟩:=h;obtain ⟨n,rfl⟩:∃ n:Nat,r = (n:Int):=⟨r.toNat,by omega⟩
  have b8:∀ (z:Int) (m:Nat),z.toNat = m → m < 256 → m ≠ 61 → z.toNat.toUInt8 ≠ 61:=by
    intro z m h1 h2 h3 e;have:=congrArg UInt8.toNat e;rw [h1] at this
    simp at this
    omega
  intro b hb;unfold encodeRune at hb
  by_cases c1:(n:Int) ≤ 127
  · rw [encodeRuneZ_one h0 c1] at hb
    simp only [List.map_cons,List.map_nil,List.mem_singleton] at hb;subst hb;exact b8 _ n (by omega) (by omega) (by omega)
  · by_cases c2:(n:Int) ≤ 2047
    · rw [encodeRuneZ_two (by omega) c2] at hb
      simp only [List.map_cons,List.map_nil,List.mem_cons,List.not_mem_nil,or_false] at hb
      rcases hb with rfl | rfl
      · exact b8 _ (192 + n / 64) (by omega) (by omega) (by omega)
      · exact b8 _ (128 + n % 64) (by omega) (by omega) (by omega)
    · by_cases c3:(n:Int) ≤ 65535
      · rw [encodeRuneZ_three (by omega)] at hb
        simp only [List.map_cons,List.map_nil,List.mem_cons,List.not_mem_nil,or_false] at hb
        rcases hb with rfl | rfl | rfl
        · exact b8 _ (224 + n / 4096) (by omega) (by omega) (by omega)
        · exact b8 _ (128 + n / 64 % 64) (by omega) (by omega) (by omega)
        · exact b8 _ (128 + n % 64) (by omega) (by omega) (by omega)
      · rw [encodeRuneZ_four (by omega) (by omega)] at hb
        simp only [List.map_cons,List.map_nil,List.mem_cons,List.not_mem_nil,or_false] at hb
        rcases hb with rfl | rfl | rfl | rfl
        · exact b8 _ (240 + n / 262144) (by omega) (by omega) (by omega)
        · exact b8 _ (128 + n / 4096 % 64) (by omega) (by omega) (by omega)
        · exact b8 _ (128 + n / 64 % 64) (by omega) (by omega) (by omega)
        · exact b8 _ (128 + n % 64) (by omega) (by omega) (by omega)
theorem Ze2:∀ (rs:List Int),(∀ r ∈ rs,scalar r) → (encL rs).filter (fun b => b != 61) = encL (rs.filter fun r => r != 61)
  | [],_ => rfl
  | r :: rs,h => by
    have ih:=Ze2 rs (fun x hx => h x (by simp [hx]))
    have e:encL (r :: rs) = encodeRune r ++ encL rs:=by simp [encL]
    rw [e,List.filter_append,ih,List.filter_cons]
    by_cases hr:r = 61
    · subst hr
      rw [if_neg (by decide),show (encodeRune 61).filter (fun b => b != 61) = [] by decide,List.nil_append]
    · rw [if_pos (by simpa using hr)]
      have:(encodeRune r).filter (fun b => b != 61) = encodeRune r:=List.filter_eq_self.2 (fun b hb => by simpa using Zo6 r (h r (by simp)) hr b hb);rw [this];simp [encL]
theorem Zhv (s:ByteArray) (hs:s.size ≤ 1099511627776):Ev (fun k => Z0x.f k s) (toB (s.data.toList.filter fun b => b != 61)):=by
  have hn:=sizeL s
  have key:∀ d i (out:ByteArray) (done:List UInt8),s.size - i = d → i ≤ s.size → out.data.toList = done → done.length ≤ i → Ev (fun k => Z0x.l0 k s out (i:Int)) (toB (done ++ (s.data.toList.drop i).filter fun b => b != 61)):=by
    intro d
    induction d with
    | zero =>
      intro i out done hd hi ho hl
      obtain rfl:i = s.size:=by omega
      rw [List.drop_of_length_le (by omega),List.filter_nil,List.append_nil,← ho,Zjb]
      refine Ev.step (f:=fun _ => some out) (fun k => ?_) (Ev.now _)
      simp only [Z0x.l0];rw [if_neg (by omega)]
    | succ d ih =>
      intro i out done hd hi ho hl
      have hlt:i < s.size:=by omega
      have hlt2:i < s.data.toList.length:=by omega
      have hb:=bt_L s i hlt2;have hnx:=am (show wrap64 ((i:Int) + 1) = ((i + 1:Nat):Int) from Z1a hlt (by omega))
      have hos:out.size = done.length:=by rw [← sizeL,ho]
      rw [List.drop_eq_getElem_cons hlt2,List.filter_cons]
      by_cases c:s.data.toList[i] = 61
      · rw [if_neg (by rw [c];decide)]
        refine Ev.step (fun k => ?_) (ih (i + 1) out done (by omega) (by omega) ho (by omega))
        simp only [Z0x.l0];rw [if_pos (by omega),if_pos (by omega),if_pos (by rw [hb,c];rfl),hnx.out]
      · rw [if_pos (by simpa using c)]
        have hex:s.extract i (i + 1) = toB [s.data.toList[i]]:=by
          rw [Zeo,show i + 1 - i = 1 by omega,List.drop_eq_getElem_cons hlt2];rfl
        have:=ih (i + 1) (out ++ s.extract i (i + 1)) (done ++ [s.data.toList[i]]) (by omega) (by omega) (by rw [Zhq,ho,hex,Z5p]) Gc14;rw [List.append_assoc,List.singleton_append] at this
        refine Ev.step (fun k => ?_) this
        have hsz1:(s.extract i (i + 1)).size = 1:=by rw [ByteArray.size_extract];omega
        simp only [Z0x.l0];rw [if_pos (by omega),if_pos (by omega),if_neg,hnx.out,if_pos (by omega),if_pos (by omega),Int.toNat_natCast,Int.toNat_natCast,if_pos (by omega)];rw [hb];intro h9;apply c;apply UInt8.toNat_inj.1
        have:(s.data.toList[i]'hlt2).toNat = 61:=by omega
        rw [this];rfl
  have:=key s.size 0 (⟨#[]⟩:ByteArray) [] (by omega) (by omega) rfl (by simp);rw [List.drop_zero,List.nil_append] at this;exact this
theorem Zlv {l:List S68} {r:Int} (h:isL l r = true):isL (ext l) r = true:=by
  have e:=Z69 (ext l) l.length r l.length (Nat.le_refl _)
  have e2:(ext l).take l.length = l:=by unfold ext;simp
  rw [e2] at e;unfold isL at h ⊢;obtain ⟨j,hj⟩:=Option.isSome_iff_exists.1 h;rw [Z9y,look,← e,hj];rfl
theorem Zo7 (l:List S68):isL (ext l) 61 = true:=by
  unfold isL;rw [Z9y,look]
  cases look (ext l) l.length 61 with
  | some j => rfl
  | none =>
    simp only;rw [if_pos]
    · rfl
    · unfold Z0v ext;simp
theorem Zeu {h c:ByteArray} (h1:validD h.data.toList = true) (h2:validD c.data.toList = true):(Z3k h c).data.toList = encL (Z0d h ++ 61 :: Z0d c):=by
  unfold Z3k Z0d;rw [Zhq,Zhq];have e1:=(Z36 _).1 h1;have e2:=(Z36 _).1 h2
  conv => lhs;rw [← e1,← e2]
  simp only [encL,List.flatMap_append,List.flatMap_cons];rw [show encodeRune 61 = [61] by decide,List.append_assoc]
theorem Zh6 (l:List S68):∀ (rs:List S73) (w:ByteArray),¬ (casF l rs w).2 = 0 → (casF l rs w).1 = (⟨#[]⟩:ByteArray)
  | [],w,h => absurd rfl h
  | r :: rs,w,h => by
    unfold casF at h ⊢
    split
    · rename_i e
      rw [if_pos e] at h;exact Zh6 l rs _ h
    · rfl
theorem Zev (l:List S68) (rules:List S73) (h c:ByteArray) (hl:l.length ≤ 1099511627776) (hrl:rules.length ≤ 9223372036854775807) (hs:rules.all Z2k = true) (ho:Z77 rules = true) (hh:Z18 l h = true) (hc:Z18 l c = true):Ev (fun k => Z27.f k l rules h c) (Z3z (ext l) rules h c):=by
  have s1:=Z5r hh;have s2:=Z5r hc;have hh2:=hh;have hc2:=hc;unfold Z18 at hh2 hc2;simp only [Bool.and_eq_true,List.all_eq_true] at hh2 hc2
  have hex:Z1g.f l = some (ext l):=by
    unfold Z1g.f
    first | (rw [if_pos (by omega)];rfl) | (simp;omega) | (simp [ext];omega)
  have hJ:=Zeu hh2.1 hc2.1;have hJs:=Zb8 h c
  have hsc:∀ q ∈ Z0d h ++ 61 :: Z0d c,scalar q:=by
    intro q hq
    rcases List.mem_append.1 hq with hq | hq
    · exact Z22 _ q hq
    · rcases List.mem_cons.1 hq with rfl | hq
      · unfold scalar;omega
      · exact Z22 _ q hq
  have hJe:Z3k h c = encS (Z0d h ++ 61 :: Z0d c):=Z4l (by rw [Z45];exact hJ)
  have hword:Z18 (ext l) (Z3k h c) = decide (¬ 40 < (Z0d h).length + 1 + (Z0d c).length):=by
    unfold Z18;rw [hJ,Z41 _ hsc,hJe,Z4i _ hsc,List.all_eq_true.2,Bool.true_and,Bool.true_and,decide_eq_decide]
    · simp;omega
    · intro q hq
      rcases List.mem_append.1 hq with hq | hq
      · exact Zlv (hh2.2.1 q hq)
      · rcases List.mem_cons.1 hq with rfl | hq
        · exact Zo7 l
        · exact Zlv (hc2.2.1 q hq)
  have hw7:=Zc4 (ext l) (Z3k h c) (by omega);rw [hword] at hw7;have hJ2:(h ++ (⟨#[61]⟩:ByteArray)) ++ c = Z3k h c:=rfl
  have hsz:(h ++ (⟨#[61]⟩:ByteArray)).size = h.size + 1:=by rw [ByteArray.size_append];rfl
  refine Ev.congr (f:=fun k => if (decide (¬ 40 < (Z0d h).length + 1 + (Z0d c).length)) = true then ((Z25.f k (ext l) rules (Z3k h c)).bind fun bt490 => ((Z0x.f k bt490.1).bind fun t492 => (some (t492,bt490.2)))) else (some ((⟨#[]⟩:ByteArray),2))) (fun k => ?_) ?_
  · unfold Z27.f
    rw [hex,Option.bind_some,if_pos (by omega),if_pos (by omega),hJ2,hw7,Option.bind_some]
  · unfold Z3z
    by_cases c1:40 < (Z0d h).length + 1 + (Z0d c).length
    · rw [if_pos c1]
      exact Ev.congr (f:=fun _ => some _) (fun k => if_neg (by simpa using c1)) (Ev.now _)
    · rw [if_neg c1]
      have hcas:=Zet (ext l) rules (Z3k h c) (by rw [Z9y];omega) hrl hs ho (by omega)
      refine Ev.congr (fun k => if_pos (by simpa using c1)) (Ev.bind hcas ?_)
      have hsz2:=Z80 (ext l) rules (Z3k h c);have hwo:=Zhv (Z2b (ext l) rules (Z3k h c)).1 (by omega)
      by_cases c2:(Z2b (ext l) rules (Z3k h c)).2 = 0
      · rw [if_pos c2]
        have hw:Z18 (ext l) (Z2b (ext l) rules (Z3k h c)).1 = true:=by
          unfold Z2b at c2 ⊢
          split at c2
          · rename_i hcc
            rw [if_pos hcc];exact Zae _ _ hcc.2.1 c2
          · exact absurd c2 (by decide)
        generalize (Z2b (ext l) rules (Z3k h c)).1 = s at hw hwo;rw [c2];unfold Z18 at hw;simp only [Bool.and_eq_true] at hw
        have e:toB (s.data.toList.filter fun b => b != 61) = encS ((Z0d s).filter fun r => r != 61):=by
          have e1:=(Z36 _).1 hw.1;unfold Z0d;rw [Zh0,← Ze2 _ (Z22 _),e1]
        rw [e] at hwo;exact Ev.bind hwo (Ev.now _)
      · rw [if_neg c2]
        have e0:(Z2b (ext l) rules (Z3k h c)).1 = (⟨#[]⟩:ByteArray):=by
          unfold Z2b at c2 ⊢
          split
          · rename_i hcc
            rw [if_pos hcc] at c2;exact Zh6 _ _ _ c2
          · rfl
        rw [e0] at hwo ⊢;exact Ev.bind hwo (Ev.now _)
theorem Zky (l:List S68) (rules:List S73) (hl:l.length ≤ 1099511627776) (hrl:rules.length ≤ 9223372036854775807) (hs:rules.all Z2k = true) (ho:Z77 rules = true) (h:ByteArray) (cs:List ByteArray) (hh:Z18 l h = true) (hc:∀ c ∈ cs,Z18 l c = true) (hn:cs.length ≤ 9223372036854775807):Ev (fun k => Z0y.f k l rules h cs) (allF (ext l) rules cs h):=by
  have key:∀ d i w,cs.length - i = d → i ≤ cs.length → Z18 l w = true → Ev (fun k => Z0y.l0 k l rules w (i:Int) h cs) (allF (ext l) rules (cs.drop i) w):=by
    intro d
    induction d with
    | zero =>
      intro i w hd hi hw
      obtain rfl:i = cs.length:=by omega
      rw [List.drop_length]
      refine Ev.step (f:=fun _ => some (w,0)) (fun k => ?_) (Ev.now _)
      simp only [Z0y.l0];rw [if_neg (by omega)]
    | succ d ih =>
      intro i w hd hi hw
      have hlt:i < cs.length:=by omega
      have hat:=Zev l rules w (rdOf ByteArray.empty cs (i:Int)) hl hrl hs ho hw (hc _ (Zhr cs i hlt));rw [Z4v cs i hlt]
      refine Ev.step (f:=fun k => (Z27.f k l rules w (rdOf ByteArray.empty cs (i:Int))).bind fun bt495 => (if bt495.2 = 0 then (Z0y.l0 k l rules bt495.1 ((i + 1:Nat):Int) h cs) else (some ((⟨#[]⟩:ByteArray),bt495.2)))) (fun k => ?_) (Ev.bind hat ?_)
      · simp only [Z0y.l0]
        rw [if_pos (by omega),if_pos (by omega),Z1a hlt hn]
      · unfold allF
        by_cases e:(Z3z (ext l) rules w (rdOf ByteArray.empty cs (i:Int))).2 = 0
        · rw [if_pos e]
          exact Ev.congr (fun k => if_pos e) (ih (i + 1) _ (by omega) (by omega) (Zaf e))
        · rw [if_neg e]
          exact Ev.congr (f:=fun _ => some _) (fun k => if_neg e) (Ev.now _)
  have:=key cs.length 0 h (by omega) (by omega) hh;rw [List.drop_zero] at this;exact this
theorem Zh7 {l:List S68} {t:ByteArray} (h:Z5f l t = true):Z18 l t = true:=by
  unfold Z5f at h;rw [Bool.and_eq_true] at h;exact h.2
theorem Zak {l:List S68}:∀ (ts:List ByteArray) (out:List S60),(segF l ts out).2 = true → (∀ s ∈ out,Z18 l s.f0 = true ∧ ∀ c ∈ s.f1,Z18 l c = true) → ∀ s ∈ (segF l ts out).1,Z18 l s.f0 = true ∧ ∀ c ∈ s.f1,Z18 l c = true
  | [],out,_,h => h
  | t :: ts,out,h2,h => by
    unfold segF at h2 ⊢
    by_cases c1:(cutE t).2 = false
    · rw [if_pos c1] at h2 ⊢
      by_cases c2:Z5f l t = true
      · rw [if_pos c2] at h2 ⊢
        refine Zak ts _ h2 (fun s hs => ?_)
        rcases List.mem_append.1 hs with hs | hs
        · exact h s hs
        · obtain rfl:=List.mem_singleton.1 hs
          exact ⟨Zh7 c2,by simp⟩
      · rw [if_neg c2] at h2;cases h2
    · rw [if_neg c1] at h2 ⊢
      by_cases c2:Z5f l (cutE t).1 = true ∧ 0 < out.length ∧ (Z4e out).f1.length < 2
      · rw [if_pos c2] at h2 ⊢
        have hlast:Z4e out ∈ out:=by
          unfold Z4e Z1w;rw [Int.toNat_natCast,List.getD_eq_getElem?_getD,List.getElem?_eq_getElem (by omega)];exact List.getElem_mem _
        refine Zak ts _ h2 (fun s hs => ?_)
        rcases List.mem_or_eq_of_mem_set hs with hs | rfl
        · exact h s hs
        · refine ⟨(h _ hlast).1,fun c hc => ?_⟩
          rcases List.mem_append.1 hc with hc | hc
          · exact (h _ hlast).2 c hc
          · obtain rfl:=List.mem_singleton.1 hc
            exact Zh7 c2.1
      · rw [if_neg c2] at h2;cases h2
theorem Zjo {l:List S68} {ts:List ByteArray} (h:(segP l ts).2 = true):segP l ts = segF l ts [] ∧ 1 ≤ ts.length ∧ ts.length ≤ 40:=by
  unfold segP at h ⊢
  split at h
  · rename_i hc;rw [if_pos hc];exact ⟨rfl,hc⟩
  · cases h
theorem Zkz (gL:Lg) (hl:gL.v2.length ≤ 1099511627776) (hrl:gL.v9.length ≤ 1099511627776) (hs:gL.v9.all Z2k = true) (ho:Z77 gL.v9 = true) (hv:Z3u gL.v2 gL.v9 gL.vt = true) (ts:List ByteArray) (ht:∀ t ∈ ts,t.size ≤ 1099511627776) (hok:(segP gL.v2 ts).2 = true):Ev (fun k => Z09.f k gL ts) (if (Z3a gL.v2 gL.v9 (segP gL.v2 ts).1 []).2 = 0 then (if hasE (Z3a gL.v2 gL.v9 (segP gL.v2 ts).1 []).1 = true then ([],1) else ((Z3a gL.v2 gL.v9 (segP gL.v2 ts).1 []).1,0)) else ([],(Z3a gL.v2 gL.v9 (segP gL.v2 ts).1 []).2)):=by
  have h61:isL gL.v2 61 = false:=Zjn hv
  have hcl:Z4f gL.v2 gL.v9 = true:=by
    unfold Z3u at hv;rw [Bool.and_eq_true] at hv;exact hv.2
  obtain ⟨e1,e2,e3⟩:=Zjo hok;have hsg:=Zo5 gL h61 ts ht (by omega) (by rw [← e1];exact hok);have hws:=Zak ts [] (by rw [← e1];exact hok) (by simp);rw [← e1] at hsg hws;obtain ⟨hle2,hle⟩:=Zac (l:=gL.v2) (fun _ => True) (fun _ _ => trivial) ts (fun _ _ => trivial);generalize (segP gL.v2 ts).1 = ss at hsg hws hle2 hle
  have hend:∀ d i (out:List ByteArray),out.length ≤ 1099511627776 → out.length - i = d → i ≤ out.length → (∀ x ∈ out.take i,x ≠ (⟨#[]⟩:ByteArray)) → Ev (fun k => Z09.l1 k out (i:Int)) (if hasE out = true then (([]:List ByteArray),(1:Int)) else (out,0)):=by
    intro d
    induction d with
    | zero =>
      intro i out hb hd hi hx
      obtain rfl:i = out.length:=by omega
      rw [List.take_length] at hx;rw [if_neg (fun h => hx _ (Z92.1 h) rfl)]
      refine Ev.step (f:=fun _ => some (out,0)) (fun k => ?_) (Ev.now _)
      simp only [Z09.l1];rw [if_neg (by omega)]
    | succ d ih =>
      intro i out hb hd hi hx
      have hlt:i < out.length:=by omega
      by_cases c:(rdOf ByteArray.empty out (i:Int)).toList = []
      · have e:rdOf ByteArray.empty out (i:Int) = (⟨#[]⟩:ByteArray):=by
          rw [ByteArray.toList_eq] at c;exact Z4l (by rw [c])
        rw [if_pos (Z92.2 (by rw [← e];exact Zhr out i hlt))]
        refine Ev.step (f:=fun _ => some _) (fun k => ?_) (Ev.now _)
        simp only [Z09.l1];rw [if_pos (by omega),if_pos (by omega),if_pos c]
      · refine Ev.step (fun k => ?_) (ih (i + 1) out hb (by omega) (by omega) (fun x h => ?_))
        · simp only [Z09.l1]
          rw [if_pos (by omega),if_pos (by omega),if_neg c,Z1a hlt (by omega)]
        · rw [List.take_add_one,List.getElem?_eq_getElem hlt] at h
          rcases List.mem_append.1 h with h | h
          · exact hx x h
          · rintro rfl
            apply c
            have:rdOf ByteArray.empty out (i:Int) = out[i]:=by
              unfold rdOf;rw [Int.toNat_natCast,List.getD_eq_getElem?_getD,List.getElem?_eq_getElem hlt];rfl
            rw [this]
            have h2:(⟨#[]⟩:ByteArray) = out[i]:=by simpa using h
            rw [← h2,ByteArray.toList_eq]
  have key:∀ d i (acc:List ByteArray),ss.length - i = d → i ≤ ss.length → acc.length ≤ i → Ev (fun k => Z09.l0 k ss acc (i:Int) gL) (if (Z3a gL.v2 gL.v9 (ss.drop i) acc).2 = 0 then (if hasE (Z3a gL.v2 gL.v9 (ss.drop i) acc).1 = true then ([],1) else ((Z3a gL.v2 gL.v9 (ss.drop i) acc).1,0)) else ([],(Z3a gL.v2 gL.v9 (ss.drop i) acc).2)):=by
    intro d
    induction d with
    | zero =>
      intro i acc hd hi ha
      obtain rfl:i = ss.length:=by omega
      rw [List.drop_length];show Ev _ (if (0:Int) = 0 then (if hasE acc = true then ([],1) else (acc,0)) else _);rw [if_pos rfl]
      refine Ev.step (fun k => ?_) (hend acc.length 0 acc (by omega) (by omega) (by omega) (by simp))
      simp only [Z09.l0];rw [if_neg (by omega)];rfl
    | succ d ih =>
      intro i acc hd hi ha
      have hlt:i < ss.length:=by omega
      rw [Z93 ss i hlt];have hm:Z1w ss (i:Int) ∈ ss:=List.mem_of_mem_drop (i:=i) (by rw [Z93 ss i hlt];simp);obtain ⟨s,hss⟩:∃ s,Z1w ss (i:Int) = s:=⟨_,rfl⟩;rw [hss] at hm ⊢;obtain ⟨w1,w2⟩:=hws s hm;have hal:=Zky gL.v2 gL.v9 hl (by omega) hs ho s.f0 s.f1 w1 w2 (by have:=(hle2 s hm).2.1;omega)
      have hAA:Z28 gL.v2 gL.v9 s.f0 s.f1 = allF (ext gL.v2) gL.v9 s.f1 s.f0:=by unfold Z28;rw [if_pos ⟨hcl,w1,List.all_eq_true.2 w2⟩]
      rw [← hAA] at hal
      refine Ev.step (f:=fun k => (Z0y.f k gL.v2 gL.v9 s.f0 s.f1).bind fun bt505 => (if bt505.2 = 0 then (Z09.l0 k ss (acc ++ [bt505.1]) ((i + 1:Nat):Int) gL) else (some (([]:List ByteArray),bt505.2)))) (fun k => ?_) (Ev.bind hal ?_)
      · simp only [Z09.l0]
        rw [if_pos (by omega),if_pos (by omega),hss,Z1a hlt (by omega)]
        congr 1
        funext t
        rw [if_pos (show acc.length < 8796093022208 by omega)]
      · unfold Z3a
        by_cases e:(Z28 gL.v2 gL.v9 s.f0 s.f1).2 = 0
        · rw [if_pos e]
          exact Ev.congr (fun k => if_pos e) (ih (i + 1) _ (by omega) (by omega) Gc14)
        · rw [if_neg e,if_neg e]
          exact Ev.congr (f:=fun _ => some _) (fun k => if_neg e) (Ev.now _)
  have:=key ss.length 0 [] (by omega) (by omega) (by simp);rw [List.drop_zero] at this;exact Ev.bind hsg this
theorem Zl0 (gL:Lg) (t:ByteArray) (h:t.size ≤ 1099511627776):Z0r.f gL t = some ((cutE t).2 && Z5f gL.v2 (cutE t).1):=by
  unfold Z0r.f cutE
  by_cases c1:t.size > 1
  · have hlt:0 < t.data.toList.length:=by rw [sizeL];omega
    have hbt:=bt_L t 0 hlt;rw [if_pos (by omega),if_pos (by omega),show (0:Int) = ((0:Nat):Int) from rfl,hbt]
    have hex:(t.extract 0 1).toList = [t.data.toList[0]]:=by
      rw [ByteArray.toList_eq,extract_data,List.drop_zero,List.take_one,List.head?_eq_getElem?,List.getElem?_eq_getElem hlt];rfl
    have hsz:(t.extract 1 t.size).size = t.size - 1:=by rw [ByteArray.size_extract];omega
    by_cases c2:t.data.toList[0] = 61
    · rw [if_pos (by rw [c2];rfl),if_pos (by omega),Zbe gL.v2 _ (by omega),Option.bind_some,if_pos ⟨by omega,by rw [hex,c2];rfl⟩]
      show some (Z18 gL.v2 (t.extract 1 t.size)) = some (true && (decide (0 < (t.extract 1 t.size).size) && Z18 gL.v2 (t.extract 1 t.size)));rw [Bool.true_and,decide_eq_true (by omega),Bool.true_and]
    · rw [if_neg,if_neg]
      · rfl
      · rintro ⟨_,h9⟩
        rw [hex] at h9;apply c2
        simpa using h9
      · intro h9
        apply c2;apply UInt8.toNat_inj.1
        have:(t.data.toList[0]'hlt).toNat = 61:=by omega
        rw [this];rfl
  · rw [if_neg (by omega)]
    split
    · rename_i hc
      have:(t.extract 1 t.size).size = 0:=by rw [ByteArray.size_extract];omega
      show some false = some (true && (decide (0 < (t.extract 1 t.size).size) && Z18 gL.v2 (t.extract 1 t.size)));rw [decide_eq_false (by omega)];rfl
    · rfl
theorem Zjp {l:List S68} (h61:isL l 61 = false) {t:ByteArray} (h:Z7z l t = true):(cutE t).2 = false:=by
  cases c:(cutE t).2 with
  | false => rfl
  | true => rw [(Zh5 h61 c).1] at h;cases h
theorem Zn2 (gL:Lg) (h61:isL gL.v2 61 = false) (ts:List ByteArray) (ht:∀ t ∈ ts,t.size ≤ 1099511627776) (hn:ts.length ≤ 1048576):Ev (fun k => Z0e.f k gL ts) (segP gL.v2 ts).2:=by
  have hend:∀ x:Int,Ev (fun k => Z0e.l0 k ts x (ts.length:Int) gL) (decide (1 ≤ ts.length ∧ ts.length ≤ 40)):=by
    intro x
    refine Ev.step (f:=fun _ => some _) (fun k => ?_) (Ev.now _)
    simp only [Z0e.l0];rw [if_neg (by omega)]
    by_cases c:1 ≤ ts.length
    · rw [if_pos (by omega)]
      congr 1
      rw [decide_eq_decide];omega
    · rw [if_neg (by omega),decide_eq_false (by omega)]
  have key:∀ d i (x:Int) (out:List S60),ts.length - i = d → i ≤ ts.length → ((out = [] ∧ x = 3) ∨ (out ≠ [] ∧ x = ((Z4e out).f1.length:Int) ∧ (Z4e out).f1.length ≤ 2)) → Ev (fun k => Z0e.l0 k ts x (i:Int) gL) ((segF gL.v2 (ts.drop i) out).2 && decide (1 ≤ ts.length ∧ ts.length ≤ 40)):=by
    intro d
    induction d with
    | zero =>
      intro i x out hd hi hx
      obtain rfl:i = ts.length:=by omega
      rw [List.drop_length];exact hend x
    | succ d ih =>
      intro i x out hd hi hx
      have hlt:i < ts.length:=by omega
      rw [Z4v ts i hlt];have hm:=ht _ (Zhr ts i hlt);obtain ⟨t,htt⟩:∃ t,rdOf ByteArray.empty ts (i:Int) = t:=⟨_,rfl⟩;rw [htt] at hm ⊢;have hh:=Zls gL t h61 hm;have hc:=Zl0 gL t hm;have hnx:=am (show wrap64 ((i:Int) + 1) = ((i + 1:Nat):Int) from Z1a hlt (by omega));unfold segF
      by_cases c0:Z7z gL.v2 t = true
      · have c1:=Zjp h61 c0
        have c2:Z5f gL.v2 t = true:=by rw [← Zaj];exact c0
        rw [if_pos c1,if_pos c2]
        refine Ev.step (fun k => ?_) (ih (i + 1) 0 _ (by omega) (by omega) (.inr ⟨by simp,?_,?_⟩))
        · simp only [Z0e.l0]
          rw [if_pos (by omega),if_pos (by omega),htt,hh,c0,Option.bind_some,if_pos rfl,hnx.out]
        · unfold Z4e Z1w
          rw [Int.toNat_natCast];simp
        · unfold Z4e Z1w
          rw [Int.toNat_natCast];simp
      · have c0':Z7z gL.v2 t = false:=by simpa using c0
        have no:((cutE t).2 && Z5f gL.v2 (cutE t).1) = false → Ev (fun k => Z0e.l0 k ts x (i:Int) gL) false:=by
          intro h9
          refine Ev.step (f:=fun _ => some false) (fun k => ?_) (Ev.now _)
          simp only [Z0e.l0];rw [if_pos (by omega),if_pos (by omega),htt,hh,c0',Option.bind_some,if_neg (by decide),hc,h9,Option.bind_some,if_neg (by decide)]
        by_cases c1:(cutE t).2 = false
        · rw [if_pos c1,if_neg (by rw [← Zaj];exact c0)]
          exact no (by rw [c1];rfl)
        · have c1':(cutE t).2 = true:=by simpa using c1
          rw [if_neg c1]
          by_cases c2:Z5f gL.v2 (cutE t).1 = true
          · by_cases c3:0 < out.length ∧ (Z4e out).f1.length < 2
            · rw [if_pos ⟨c2,c3⟩]
              have hne:out ≠ []:=fun e => by rw [e] at c3;simp at c3
              obtain ⟨_,hx1,hx2⟩:=hx.resolve_left (fun h => hne h.1);have hw:=am (show wrap64 (x + 1) = (((Z4e out).f1.length + 1:Nat):Int) from by rw [hx1];unfold wrap64;omega)
              have hlast:Z4e (out.set (out.length - 1) ⟨(Z4e out).f0,(Z4e out).f1 ++ [(cutE t).1]⟩) = ⟨(Z4e out).f0,(Z4e out).f1 ++ [(cutE t).1]⟩:=by
                generalize (⟨(Z4e out).f0,(Z4e out).f1 ++ [(cutE t).1]⟩:S60) = z;unfold Z4e Z1w;rw [Int.toNat_natCast,List.length_set,List.getD_eq_getElem?_getD,List.getElem?_set_self (by omega)];rfl
              refine Ev.step (fun k => ?_) (ih (i + 1) (((Z4e out).f1.length + 1:Nat):Int) _ (by omega) (by omega) (.inr ⟨?_,?_,?_⟩))
              · simp only [Z0e.l0]
                rw [if_pos (by omega),if_pos (by omega),htt,hh,c0',Option.bind_some,if_neg (by decide),hc,c1',c2,Bool.true_and,Option.bind_some,if_pos rfl,if_pos (by omega),hnx.out,hw.out]
              · intro e
                have:=congrArg List.length e;rw [List.length_set,List.length_nil] at this;omega
              · rw [hlast];simp
              · rw [hlast];simp;omega
            · rw [if_neg (fun h => c3 h.2)]
              refine Ev.step (f:=fun _ => some false) (fun k => ?_) (Ev.now _)
              simp only [Z0e.l0];rw [if_pos (by omega),if_pos (by omega),htt,hh,c0',Option.bind_some,if_neg (by decide),hc,c1',c2,Bool.true_and,Option.bind_some,if_pos rfl,if_neg];intro h9
              rcases hx with ⟨_,rfl⟩ | ⟨g1,g2,g3⟩
              · omega
              · exact c3 ⟨List.length_pos_iff.2 g1,by omega⟩
          · rw [if_neg (fun h => c2 h.1)]
            exact no (by simp at c2;rw [c2,Bool.and_false])
  have:=key ts.length 0 3 [] (by omega) (by omega) (.inl ⟨rfl,rfl⟩);rw [List.drop_zero] at this
  have e:(segP gL.v2 ts).2 = ((segF gL.v2 ts []).2 && decide (1 ≤ ts.length ∧ ts.length ≤ 40)):=by
    unfold segP
    by_cases c:1 ≤ ts.length ∧ ts.length ≤ 40
    · rw [if_pos c,decide_eq_true c,Bool.and_true]
    · rw [if_neg c,decide_eq_false c,Bool.and_false]
  rw [e];exact this
theorem Z6u (gL:Lg) (hl:gL.v2.length ≤ 1099511627776) (hrl:gL.v9.length ≤ 1099511627776) (hs:gL.v9.all Z2k = true) (ho:Z77 gL.v9 = true) (h29:gL.vt.size ≤ 1099511627776) (ts:List ByteArray) (ht:∀ t ∈ ts,t.size ≤ 1099511627776) (hn:ts.length ≤ 1048576):Ev (fun k => Z0k.f k gL ts) (Z2y gL.v2 gL.v9 gL.vt ts):=by
  have bad:Ev (fun k => Z0k.j0 k ts true gL) ((⟨#[]⟩:ByteArray),(1:Int)):=Ev.step (f:=fun _ => some _) (fun k => by simp only [Z0k.j0];rfl) (Ev.now _)
  have hv:Z13.f gL = some (Z3u gL.v2 gL.v9 gL.vt):=by unfold Z13.f;rw [if_pos ⟨⟨hs,ho⟩,h29⟩]
  unfold Z2y
  cases c1:Z3u gL.v2 gL.v9 gL.vt with
  | false =>
    rw [if_neg (by simp)]
    refine Ev.congr (fun k => ?_) bad
    unfold Z0k.f;rw [hv,c1];rfl
  | true =>
    have hli:=Zn2 gL (Zjn c1) ts ht hn
    refine Ev.congr (f:=fun k => (Z0e.f k gL ts).bind fun t515 => (Z0k.j0 k ts (!t515) gL)) (fun k => ?_) (Ev.bind hli ?_)
    · unfold Z0k.f
      rw [hv,c1];rfl
    · cases c2:(segP gL.v2 ts).2 with
      | false => rw [if_neg (by simp)];exact bad
      | true =>
        rw [if_pos ⟨rfl,rfl⟩];have hf:=Zkz gL hl hrl hs ho c1 ts ht c2
        refine Ev.step (fun k => ?_) (Ev.bind hf (f:=fun k bt516 => (if bt516.2 = 0 then ((Z11.f k bt516.1).bind fun t520 => (if t520.size + gL.vt.size ≤ 9223372036854775807 then (some (t520 ++ gL.vt,0)) else (none))) else (some ((⟨#[]⟩:ByteArray),bt516.2)))) ?_)
        · simp only [Z0k.j0]
          rw [if_neg (by decide)]
        · obtain ⟨f1,f2⟩:=Z7a gL.v2 gL.v9 (segP gL.v2 ts).1 [] (by simp)
          obtain ⟨_,hle⟩:=Zac (l:=gL.v2) (fun _ => True) (fun _ _ => trivial) ts (fun _ _ => trivial);rw [List.length_nil] at f2;generalize Z3a gL.v2 gL.v9 (segP gL.v2 ts).1 [] = q at f1 f2
          by_cases d1:q.2 = 0
          · rw [if_pos d1,if_pos d1]
            by_cases d2:hasE q.1 = true
            · rw [if_pos d2,if_pos d2]
              exact Ev.congr (f:=fun _ => some _) (fun k => if_neg (by decide)) (Ev.now _)
            · rw [if_neg d2,if_neg d2]
              have hj:=Zje q.1 (fun x hx => Nat.le_trans (f1 x hx) (by decide)) (by omega)
              refine Ev.congr (fun k => if_pos rfl) (Ev.bind hj ?_)
              have hsz:=Z4j q.1 3280 f1;have hst:=Z7v c1;exact Ev.congr (f:=fun _ => some _) (fun k => if_pos (by omega)) (Ev.now _)
          · rw [if_neg d1,if_neg d1]
            exact Ev.congr (f:=fun _ => some _) (fun k => if_neg d1) (Ev.now _)
theorem Zhw (gL:Lg) (hl:gL.v2.length ≤ 1099511627776) (hrl:gL.v9.length ≤ 1099511627776) (hs:gL.v9.all Z2k = true) (ho:Z77 gL.v9 = true) (h29:gL.vt.size ≤ 1099511627776) (sents:List (List ByteArray)) (ht:∀ ts ∈ sents,∀ t ∈ ts,t.size ≤ 1099511627776) (hn:∀ ts ∈ sents,ts.length ≤ 1048576):Ev (fun k => Z08.f k gL sents) (Zkv gL.v2 gL.v9 gL.vt sents):=by
  have bad:Ev (fun k => Z08.j0 k sents true gL) ((⟨#[]⟩:ByteArray),(1:Int)):=Ev.step (f:=fun _ => some _) (fun k => by simp only [Z08.j0];rfl) (Ev.now _)
  have hv:Z13.f gL = some (Z3u gL.v2 gL.v9 gL.vt):=by unfold Z13.f;rw [if_pos ⟨⟨hs,ho⟩,h29⟩]
  unfold Zkv
  refine Ev.congr (f:=fun k => if Z3u gL.v2 gL.v9 gL.vt = true then (if (sents.length:Int) < 1 then (Z08.j0 k sents true gL) else (Z08.j0 k sents (decide ((sents.length:Int) > 8)) gL)) else (Z08.j0 k sents true gL)) (fun k => ?_) ?_
  · unfold Z08.f
    rw [hv];rfl
  cases c1:Z3u gL.v2 gL.v9 gL.vt with
  | false => rw [if_neg (by simp)];exact Ev.congr (fun k => if_neg (by decide)) bad
  | true =>
    refine Ev.congr (fun k => if_pos rfl) ?_
    by_cases c2:1 ≤ sents.length
    · refine Ev.congr (fun k => if_neg (by omega)) ?_
      by_cases c3:sents.length ≤ 8
      · rw [if_pos ⟨rfl,c2,c3⟩]
        refine Ev.congr (f:=fun k => Z08.j0 k sents false gL) (fun k => by rw [decide_eq_false (by omega)]) ?_
        have key:∀ d i acc,sents.length - i = d → i ≤ sents.length → acc.length ≤ i → (∀ x ∈ acc,x.size ≤ 131244) → Ev (fun k => Z08.l0 k sents acc (i:Int) gL) (Zaq gL.v2 gL.v9 gL.vt (sents.drop i) acc):=by
          intro d
          induction d with
          | zero =>
            intro i acc hd hi ha hsz
            obtain rfl:i = sents.length:=by omega
            rw [List.drop_length]
            refine Ev.step (fun k => ?_) (Ev.bind (Zje acc (fun x hx => Nat.le_trans (hsz x hx) (by decide)) (by omega)) (f:=fun _ t540 => some (t540,(0:Int))) (Ev.now _))
            simp only [Z08.l0];rw [if_neg (by omega)]
          | succ d ih =>
            intro i acc hd hi ha hsz
            have hlt:i < sents.length:=by omega
            rw [Z6f sents i hlt];have hm:Z3h sents (i:Int) ∈ sents:=List.mem_of_mem_drop (i:=i) (by rw [Z6f sents i hlt];simp);obtain ⟨ts,hts⟩:∃ ts,Z3h sents (i:Int) = ts:=⟨_,rfl⟩;rw [hts] at hm ⊢
            refine Ev.step (f:=fun k => (Z0k.f k gL ts).bind fun bt535 => (if bt535.2 = 0 then (Z08.l0 k sents (acc ++ [bt535.1]) ((i + 1:Nat):Int) gL) else (some ((⟨#[]⟩:ByteArray),bt535.2)))) (fun k => ?_) (Ev.bind (Z6u gL hl hrl hs ho h29 ts (ht ts hm) (hn ts hm)) ?_)
            · simp only [Z08.l0]
              rw [if_pos (by omega),if_pos (by omega),hts,Z1a hlt (by omega)]
              congr 1
              funext t
              rw [if_pos (show acc.length < 8796093022208 by omega)]
            · unfold Zaq
              by_cases e:(Z2y gL.v2 gL.v9 gL.vt ts).2 = 0
              · rw [if_pos e]
                exact Ev.congr (fun k => if_pos e) (ih (i + 1) _ (by omega) (by omega) Gc14 (fun x hx => by
                  rcases List.mem_append.1 hx with hx | hx
                  · exact hsz x hx
                  · obtain rfl:=List.mem_singleton.1 hx
                    exact Z81 _ _ _ _))
              · rw [if_neg e]
                exact Ev.congr (f:=fun _ => some _) (fun k => if_neg e) (Ev.now _)
        have:=key sents.length 0 [] (by omega) (by omega) (by simp) (by simp);rw [List.drop_zero] at this
        refine Ev.step (fun k => ?_) this
        simp only [Z08.j0];rw [if_neg (by decide)];rfl
      · rw [if_neg (by omega)]
        refine Ev.congr (fun k => ?_) bad
        rw [decide_eq_true (by omega)]
    · rw [if_neg (by omega)]
      exact Ev.congr (fun k => if_pos (by omega)) bad
end Go.Proofs.YtfbhdjflkaldgaaGreatDoor.Pr

namespace Go.Proofs.YtfbhdjflkaldgaaGreatDoor.PuOrthographyText
open Go.RowKit Go.Proofs.YtfbhdjflkaldgaaGreatDoor.Pr Go.Proofs.YtfbhdjflkaldgaaGreatDoor.Ct Go.Proofs.YtfbhdjflkaldgaaGreatDoor.Opn Go.Lib Go.Proofs.YtfbhdjflkaldgaaGreatDoorW.PrintWords Go.Proofs.YtfbhdjflkaldgaaGreatDoorW.PrintLast
set_option linter.unusedVariables false
theorem few_some (gL:Lg):∃ b,Z1m.f gL = some b:=by
  unfold Z1m.f
  repeat' split
  all_goals exact ⟨_,rfl⟩
theorem short_ev (ts:List ByteArray) (hn:ts.length ≤ 1048576):∃ b,Ev (fun k => Z0l.f k ts) b:=by
  have key:∀ d i,ts.length - i = d → i ≤ ts.length → ∃ b,Ev (fun k => Z0l.l0 k ts (i:Int)) b:=by
    intro d
    induction d with
    | zero =>
      intro i hd hi
      refine ⟨_,Ev.step (f:=fun _ => some (decide ((ts.length:Int) ≤ 45))) (fun k => ?_) (Ev.now _)⟩
      simp only [Z0l.l0];rw [if_neg (by omega)]
    | succ d ih =>
      intro i hd hi
      have hlt:i < ts.length:=by omega
      by_cases c:((rdOf ByteArray.empty ts (i:Int)).size:Int) > 60
      · refine ⟨_,Ev.step (f:=fun _ => some false) (fun k => ?_) (Ev.now _)⟩
        simp only [Z0l.l0];rw [if_pos (by omega),if_pos (by omega),if_pos c]
      · obtain ⟨b,hb⟩:=ih (i + 1) (by omega) (by omega)
        refine ⟨b,Ev.step (fun k => ?_) hb⟩
        simp only [Z0l.l0];rw [if_pos (by omega),if_pos (by omega),if_neg c,Z1a hlt (by omega)]
  exact key ts.length 0 (by omega) (by omega)
set_option maxHeartbeats 2000000 in
theorem ProvedUpto:Upto:=by
  intro gL l1 g0 g1 hb;have hL:Z1z gL.v2 = true:=Zbf _ g0.2.2.1.1;have hb2:=hb;simp only [Ms.pair] at hb2
  have h9:(Ms.slice ms73).bulk gL.v9 ≤ 1048576:=by omega
  have h2:(Ms.slice ms68).bulk gL.v2 ≤ 1048576:=by omega
  have h29:gL.vt.size ≤ 1099511627776:=by
    have:Ms.string.bulk gL.vt ≤ 1048576:=by omega
    have h3:gL.vt.size + 1 ≤ 1048576:=this;omega
  have hll:gL.v2.length ≤ 1099511627776:=by
    have h3:(gL.v2.map ms68.bulk).sum + 1 ≤ 1048576:=h2;have:=Z58 ms68 (fun x => by show 1 ≤ 1 + _;omega) gL.v2;omega
  have hrl:gL.v9.length ≤ 1099511627776:=by
    have h3:(gL.v9.map ms73.bulk).sum + 1 ≤ 1048576:=h9;have:=Z58 ms73 (fun x => by show 1 ≤ 1 + _;omega) gL.v9;omega
  obtain ⟨hs,ho⟩:=Zaa _ h9
  have h1:(Ms.slice (Ms.slice Ms.string)).bulk l1 ≤ 1048576:=by omega
  have hts:∀ ts ∈ l1,(Ms.slice Ms.string).bulk ts ≤ 1048576:=fun ts h => by
    have h3:(l1.map (Ms.slice Ms.string).bulk).sum + 1 ≤ 1048576:=h1;have:=Z6k (Ms.slice Ms.string) l1 ts h;omega
  have hto:∀ ts ∈ l1,∀ t ∈ ts,t.size ≤ 1048576:=fun ts h t ht => by
    have h3:(ts.map Ms.string.bulk).sum + 1 ≤ 1048576:=hts ts h;have h4:=Z6k Ms.string ts t ht;have h5:Ms.string.bulk t = t.size + 1:=rfl;omega
  have htl:∀ ts ∈ l1,ts.length ≤ 1048576:=fun ts h => by
    have h3:(ts.map Ms.string.bulk).sum + 1 ≤ 1048576:=hts ts h;have:=Z58 Ms.string (fun x => by show 1 ≤ x.size + 1;omega) ts;omega
  clear hb hb2 g0 g1 h9 h1 h2 hts;have jt:Ev (fun k => Z04.j0 k l1 true gL) true:=Ev.step (f:=fun _ => some true) (fun k => by simp only [Z04.j0];rfl) (Ev.now _)
  have jf:l1.length ≤ 10 → Ev (fun k => Z04.j0 k l1 false gL) true:=by
    intro h10;have e1:=Zmy gL l1 hL hs hll (fun ts h t ht => Nat.le_trans (hto ts h t ht) (by decide));have e2:=Zhw gL hll hrl hs ho h29 l1 (fun ts h t ht => Nat.le_trans (hto ts h t ht) (by decide)) htl
    have key:∀ d i,l1.length - i = d → i ≤ l1.length → Ev (fun k => Z04.l0 k l1 (i:Int) gL) true:=by
      intro d
      induction d with
      | zero =>
        intro i hd hi
        refine Ev.step (fun k => ?_) (Ev.bind e1 (f:=fun k bt546 => ((Z08.f k gL l1).bind fun bt548 => (if bt546.1.toList = bt548.1.toList then (some (bt546.2 == bt548.2)) else (some false)))) (Ev.bind e2 ?_))
        · simp only [Z04.l0]
          rw [if_neg (by omega)]
        · refine Ev.congr (f:=fun _ => some true) (fun k => ?_) (Ev.now _)
          rw [if_pos rfl,beq_self_eq_true]
      | succ d ih =>
        intro i hd hi
        have hlt:i < l1.length:=by omega
        have hm:Z3h l1 (i:Int) ∈ l1:=List.mem_of_mem_drop (i:=i) (by rw [Z6f l1 i hlt];simp);obtain ⟨b,hb⟩:=short_ev (Z3h l1 (i:Int)) (htl _ hm)
        refine Ev.step (f:=fun k => (Z0l.f k (Z3h l1 (i:Int))).bind fun t545 => (if t545 = true then (Z04.l0 k l1 ((i + 1:Nat):Int) gL) else (some true))) (fun k => ?_) (Ev.bind hb ?_)
        · simp only [Z04.l0]
          rw [if_pos (by omega),if_pos (by omega),Z1a hlt (by omega)]
        · cases b with
          | true => exact Ev.congr (fun k => if_pos rfl) (ih (i + 1) (by omega) (by omega))
          | false => exact Ev.congr (f:=fun _ => some true) (fun k => if_neg (by decide)) (Ev.now _)
    refine Ev.step (fun k => ?_) (key l1.length 0 (by omega) (by omega))
    simp only [Z04.j0];rw [if_neg (by decide)];rfl
  obtain ⟨b,hf⟩:=few_some gL
  have hall:Ev (fun k => Z04.f k gL l1) true:=by
    have e:∀ k,Z04.f k gL l1 = if b = true then Z04.j0 k l1 (decide ((l1.length:Int) > 10)) gL else Z04.j0 k l1 true gL:=by
      intro k;unfold Z04.f;rw [hf];rfl
    refine Ev.congr e ?_
    cases b with
    | true =>
      refine Ev.congr (fun k => if_pos rfl) ?_
      by_cases c:(l1.length:Int) > 10
      · rw [decide_eq_true c];exact jt
      · rw [decide_eq_false c];exact jf (by omega)
    | false => exact Ev.congr (fun k => if_neg (by decide)) jt
  exact hall.rounds
end Go.Proofs.YtfbhdjflkaldgaaGreatDoor.PuOrthographyText
