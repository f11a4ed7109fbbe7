/- Several texts in one: Alph, OrU, OrR, Shelf. -/
import Derived.Test.YtfbhdjflkaldgaaGreatDoorMg1
import Derived.Test.YtfbhdjflkaldgaaGreatDoorCt
import Derived.Maps.Own
import Derived.Maps.OwnSet
import Derived.Maps.OwnOps
import Derived.Maps.Views
import Derived.Maps.Keyed
import Derived.Lib.MapLaws
import Derived.Lib.ValidLaws
import Derived.Lib.TrimUEq
import Derived.Lib.OthersKept
import Derived.Laws.RangeString
import Derived.Laws.RangeAny
import Derived.WalkSmall
import Derived.WalkArith
import Derived.Shelf.Strings.Builder1
import Derived.Shelf.Strings.Builder2
import Derived.Shelf.Strings.OnBuilder
import Derived.Shelf.Small.Utf8
import Derived.Shelf.Small.Strs
import Derived.Shelf.Small.Wraps
import Derived.Shelf.Strings.BuilderF
import Derived.Shelf.Strings.BuilderK
import Derived.Shelf.Strings.BuilderRune
import Derived.Shelf.Utf8.AppendRune
import Derived.Shelf.Utf8.RuneCount
import Derived.Shelf.Strings.Search1
import Derived.Shelf.Strings.Prefix
import Derived.Shelf.Unicode.Decode
import Derived.Shelf.Strings.RuneCount
import Derived.Shelf.Unicode.DecodeSlow
import Derived.Shelf.Unicode.DecodeAny
import Derived.Test.YtfbhdjflkaldgaaGreatDoorProg
import Derived.Shelf.Unicode.ValidAny
import Derived.Ground.NamesProg
/- The index of each rune of an alphabet: the map that alphabet.indices makes. -/
/- UTF-8, on lists of bytes: what is decoded and encoded again. -/
/- The runes of a string from a place on; its iterator. -/
/-
  DERIVED: THE SHELF's CONTRACTS AT THIS DUMP, IN PLAIN WORDS (tools/lay-plain.mjs out of 'TryzShelf.lean', which tools/lay-shelf.mjs wrote): THE SAME DECLARATIONS UNDER THE SAME NAMES: 'import', 'namespace', 'open', 'def', 'theorem' AND NOTHING ELSE: no command of the shelf's: FOR A HAND-IN. Each laying: the table of numbers ('.._ren') and one theorem, a field a fact of the dump's own or the kernel's comparison; each contract: ONE APPLICATION.
-/
namespace Go.Proofs.YtfbhdjflkaldgaaGreatDoor.Pr
open Go.Proofs.YtfbhdjflkaldgaaGreatDoor.Ct Go.RowKit Go.Maps Go.Proofs.YtfbhdjflkaldgaaGreatDoorW.PrintWords Go.Proofs.YtfbhdjflkaldgaaGreatDoorW.PrintLast Go.Proofs.YtfbhdjflkaldgaaGreatDoorW.PrintMore
set_option linter.unusedVariables false
set_option linter.unusedSimpArgs false
def rkey (r:Int):Lit:=.int .i32 r
def mapI (l:List S68):Nat → DataW Unit
  | 0 => .map []
  | k + 1 => if Maps.has (mapI l k) (rkey (Z0v l (k:Int)).f0) = true then mapI l k else (mapI l k).put (rkey (Z0v l (k:Int)).f0) (.lit (.int .i64 (k:Int)))
theorem Z5j {H:Type} {w w':World} {P:Program} {k:TypeId} {R:Value → Option (DataW H × List MemPlace)} {b n:Nat} {D:DataW H} (h:w.ownsMap P k R b n D) (hb:Below w.heap.size w w'):w'.ownsMap P k R b n D:=by
  have hl:=h.lt;obtain ⟨es,clock,h1,h2⟩:=h;exact ⟨es,clock,(hb.block b hl).trans h1,h2⟩
theorem keyR:Keyed Tryz.prog 21:=int_keyed Tryz.underlying21
theorem Z9d (w:World):(zeroValue 3).run Tryz.prog w = .ok (.int .i64 0) w:=by kernel_rfl
theorem Z5u {P:Program} {t k e:TypeId} (hu:P.underlying t = some (.map k e)) (q:IntKind) (n:Int) (w:World):(Instr.makeMap t (some (.int q n))).run P w = .ok (.map (some w.heap.size)) (w.alloc (.map #[] 0)):=by
  simp [Instr.makeMap,run_underlying hu,asInt,asIntOf,Result.andThen]
theorem Z1a {i n:Nat} (h:i < n) (hn:n ≤ 9223372036854775807):wrap64 ((i:Int) + 1) = ((i + 1:Nat):Int):=by
  unfold wrap64;omega
theorem Zic (l:List S68) (i:Nat) (h:i < l.length):Z0v l (i:Int) ∈ l:=by
  unfold Z0v;rw [Int.toNat_natCast,List.getD_eq_getElem?_getD,List.getElem?_eq_getElem h];exact List.getElem_mem h
set_option maxRecDepth 100000 in
set_option maxHeartbeats 1000000 in
theorem Z5k (A:Option Addr) (c:Nat) (l:List S68) (w:World) (hr0:Kd.C k68 w A l.length l) (hc0:l.length ≤ c) (hwf:∀ x ∈ l,(Lit.int .i32 x.f0).wf = true) :
    Calls Tryz.prog 53 #[.slice A l.length c] w fun e w' => e = .returned (.map (some w.heap.size)) ∧ w'.ownsMap Tryz.prog 21 (plainElem (H:=Unit) Tryz.prog 3) w.heap.size l.length (mapI l l.length) ∧ Below w.heap.size w w':=by
  have hmm:=@Z5u Tryz.prog 115 _ _ Tryz.underlying115;have hL:l.length ≤ 9223372036854775807:=hr0.2.1;have HR:=am hr0;have HC:=am hc0;have HW:=am hwf;have HL:=am hL;clear hr0 hc0 hwf hL;go_enter Tryz.func53,Tryz.ntmps53;go_wp2
  go_loopg [13] l.length (fun kq v13 w' => ∃ i:Nat,v13 = .int .i64 (i:Int) ∧ Aside0 (i + kq = l.length) ∧ Aside0 (w'.ownsMap Tryz.prog 21 (plainElem (H:=Unit) Tryz.prog 3) w.heap.size i (mapI l i)) ∧ Aside0 (Below w.heap.size w w'))
  case atStart => exact ⟨0,rfl,⟨by omega⟩,⟨World.ownsMap_made _ _ _ _⟩,⟨(Below.refl _ _).alloc (Nat.le_refl _) _⟩⟩
  case round =>
    obtain ⟨i,rfl,hik,HO,HB⟩:=hrel
    cases gk with
    | zero =>
      have h3:¬ ((i:Int) < (l.length:Int)):=by have:=hik.out;omega
      go_wp2;go_ret
      obtain rfl:i = l.length:=by have:=hik.out;omega
      exact ⟨rfl,HO.out,HB.out⟩
    | succ g1 =>
      have h3:(i:Int) < (l.length:Int):=by have:=hik.out;omega
      have h4:0 ≤ (i:Int):=by omega
      obtain ⟨ad,hA,hx0,hx1⟩:=Z3s HR.out (i:Int) h4 h3;subst hA;rw [Int.toNat_natCast] at hx0 hx1;replace hx0:=(HB.out.cell (World.block_lt_of_cell? _ _ hx0)).trans hx0;replace hx1:=(HB.out.cell (World.block_lt_of_cell? _ _ hx1)).trans hx1;have hwx:=HW.out _ (Zic l i (by have:=hik.out;omega));have hkey:keyOf Tryz.prog 21 (.int .i32 (Z0v l (i:Int)).f0) = some (rkey (Z0v l (i:Int)).f0):=keyOf_int_mk Tryz.underlying21 hwx
      have hlt:i < l.length:=by have:=hik.out;omega
      have hi64:(Lit.int .i64 (i:Int)).wf = true:=by
        have:=HL.out;exact WalkArith.wf_i64 (by omega)
      have hB1:Below w.heap.size w (wr.alloc (.cells #[.int .i32 (Z0v l (i:Int)).f0,.int .u32 (Z0v l (i:Int)).f1] 68)):=HB.out.alloc HB.out.size _
      have hmx:i < maxLen:=by have:=HL.out;simp only [maxLen];omega
      have hfin:wrap64 ((i:Int) + 1) = ((i + 1:Nat):Int):=Z1a hlt HL.out;have hfin':=am hfin;have hmx':=am hmx;have hi':=am hi64;have hB1':=am hB1;have hlt':=am hlt;clear hfin hmx hi64 hB1 hlt
      by_cases hh:Maps.has (mapI l i) (rkey (Z0v l (i:Int)).f0) = true
      · have hh':=am hh
        go_wp2_with (at_lookup;refine wpList_lookup_own_ok_int _ rfl _ _ 115 rfl 21 3 .i64 keyR Tryz.underlying115 Tryz.underlying3 (Z9d _) w.heap.size i (mapI l i) rfl (HO.out.alloc _) _ _ rfl hkey ?_;intro cc hat hwc)
        go_roundg g1
        case measure => omega
        case rel =>
          refine ⟨i + 1,by rw [hfin'.out],⟨by have:=hik.out;omega⟩,⟨?_⟩,hB1'⟩
          rw [show mapI l (i + 1) = mapI l i from by rw [mapI,if_pos hh'.out]];exact (HO.out.alloc _).mono (by omega)
      · have hh':=am hh
        go_wp2_with (first | (at_lookup;refine wpList_lookup_own_ok_int _ rfl _ _ 115 rfl 21 3 .i64 keyR Tryz.underlying115 Tryz.underlying3 (Z9d _) w.heap.size i (mapI l i) rfl (HO.out.alloc _) _ _ rfl hkey ?_;intro cc hat hwc) | (at_mapUpdate;refine wpList_mapUpdate_own _ rfl _ _ _ 115 rfl 21 3 keyR Tryz.underlying115 _ w.heap.size i (mapI l i) rfl (HO.out.alloc _) hmx'.out _ _ _ rfl rfl hkey _ [] (plainElem_int Tryz.underlying3 hi'.out) ?_;intro w1 hown1 hgrow1))
        go_roundg g1
        case measure => omega
        case rel =>
          refine ⟨i + 1,by rw [hfin'.out],⟨by have:=hik.out;omega⟩,⟨?_⟩,⟨hB1'.out.grown hgrow1 hB1'.out.size (fun j hj => by cases hj;exact Nat.le_refl _)⟩⟩
          rw [show mapI l (i + 1) = (mapI l i).put (rkey (Z0v l (i:Int)).f0) (.lit (.int .i64 (i:Int))) from by rw [mapI,if_neg hh'.out]];exact hown1
def look (l:List S68):Nat → Int → Option Nat
  | 0,_ => none
  | k + 1,r => match look l k r with
    | some j => some j
    | none => if (Z0v l (k:Int)).f0 = r then some k else none
theorem Z6g (l:List S68):∀ k,Maps.IsMap (mapI l k)
  | 0 => Maps.isMap_empty
  | k + 1 => by
    unfold mapI
    split
    · exact Z6g l k
    · exact (Z6g l k).put _ _
theorem Zfn (r:Int):WideAt.IsKeyLit (rkey r):=by unfold rkey;simp [WideAt.IsKeyLit]
theorem Ze4 {r s:Int} (h:r ≠ s):rkey r ≠ rkey s:=fun e => h (by unfold rkey at e;injection e)
theorem Z5l (l:List S68) (r:Int):∀ k,Maps.has (mapI l k) (rkey r) = (look l k r).isSome
  | 0 => rfl
  | k + 1 => by
    have ih:=Z5l l r k;unfold mapI look
    by_cases hh:Maps.has (mapI l k) (rkey (Z0v l (k:Int)).f0) = true
    · rw [if_pos hh,ih]
      cases e:look l k r with
      | some j => rfl
      | none =>
        by_cases hr:(Z0v l (k:Int)).f0 = r
        · rw [hr,ih,e] at hh;cases hh
        · simp [hr]
    · rw [if_neg hh]
      by_cases hr:(Z0v l (k:Int)).f0 = r
      · rw [hr,Maps.has_put_same (Z6g l k) (Zfn r)]
        cases e:look l k r <;> simp
      · rw [Maps.has_put_other (Ze4 (fun e => hr e.symm)),ih]
        cases e:look l k r with
        | some j => rfl
        | none => simp [hr]
theorem Ze5 (l:List S68) (r:Int) (z:DataW Unit):∀ k j,look l k r = some j → (mapI l k).atKey (rkey r) z = .lit (.int .i64 (j:Int))
  | 0,j,h => by cases h
  | k + 1,j,h => by
    have ih:=Ze5 l r z k;have hs:=Z5l l r k;unfold look at h;unfold mapI
    by_cases hh:Maps.has (mapI l k) (rkey (Z0v l (k:Int)).f0) = true
    · rw [if_pos hh]
      cases e:look l k r with
      | some i => rw [e] at h;cases h;exact ih _ e
      | none =>
        rw [e] at h
        by_cases hr:(Z0v l (k:Int)).f0 = r
        · rw [hr,hs,e] at hh;cases hh
        · simp [hr] at h
    · rw [if_neg hh]
      cases e:look l k r with
      | some i =>
        rw [e] at h;cases h
        by_cases hr:(Z0v l (k:Int)).f0 = r
        · rw [hr,hs,e] at hh;simp at hh
        · rw [Maps.atKey_put_other (Ze4 (fun e => hr e.symm))];exact ih _ e
      | none =>
        rw [e] at h
        by_cases hr:(Z0v l (k:Int)).f0 = r
        · simp [hr] at h;subst h;rw [hr,Maps.atKey_put_same (Z6g l k) (Zfn r)]
        · simp [hr] at h
def Z1z (l:List S68):Bool:=l.all fun x => (Lit.int .i32 x.f0).wf
theorem Z4h {l:List S68} (h:Z1z l = true):∀ x ∈ l,(Lit.int .i32 x.f0).wf = true:=fun x hx => List.all_eq_true.1 h x hx
def idxI (l:List S68) (r:Int):Int:=match look l l.length r with
  | some j => (j:Int)
  | none => -1
def Z1y.f (l0:List S68) (a1:Int):Option Int:=if Z1z l0 = true ∧ (Lit.int .i32 a1).wf = true then some (idxI l0 a1) else none
set_option maxRecDepth 100000 in
set_option maxHeartbeats 1000000 in
theorem Z1y.calls (A0:Option Addr) (c0:Nat) (l0:List S68) (a1:Int) (r:Int) (w:World) (hr0:Kd.C k68 w A0 l0.length l0) (hc0:l0.length ≤ c0) (h:Z1y.f l0 a1 = some r) :
    Calls Tryz.prog 31 #[.slice A0 l0.length c0,.int .i32 a1] w fun e w' => e = .returned (.int .i64 r) ∧ Below w.heap.size w w':=by
  unfold Z1y.f at h
  by_cases hg:Z1z l0 = true ∧ (Lit.int .i32 a1).wf = true
  · rw [if_pos hg] at h
    have hr:=Option.some.inj h;clear h;have hkey:keyOf Tryz.prog 21 (.int .i32 a1) = some (rkey a1):=keyOf_int_mk Tryz.underlying21 hg.2;have hin:=Z5k A0 c0 l0 w hr0 hc0 (Z4h hg.1);have hr':=am hr;have hz:=am (Z5l l0 a1 l0.length);clear hr0 hc0 hg hr
    cases e:look l0 l0.length a1 with
    | some j =>
      have hat:=am (Ze5 l0 a1 (.lit (.int .i64 0)) _ _ e)
      have hhas:Maps.has (mapI l0 l0.length) (rkey a1) = true:=by rw [hz.out,e];rfl
      have hj:r = (j:Int):=by rw [← hr'.out];unfold idxI;rw [e]
      subst hj;go_enter Tryz.func31,Tryz.ntmps31
      go_wp2_with (first | (go_at_call 53;refine hin.mono ?_;clear hin;rintro e w1 ⟨rfl,HO,HB⟩) | (at_lookup;refine wpList_lookup_own_ok_int _ rfl _ _ 115 rfl 21 3 .i64 keyR Tryz.underlying115 Tryz.underlying3 (Z9d _) w.heap.size l0.length (mapI l0 l0.length) rfl HO _ _ rfl hkey ?_;intro cc hcc hwc;obtain rfl:cc = (j:Int):=(by have:=hat.out.symm.trans hcc;injection this with this;injection this with _ this;exact this.symm)))
      go_ret;exact ⟨rfl,HB⟩
    | none =>
      have hhas:Maps.has (mapI l0 l0.length) (rkey a1) = false:=by rw [hz.out,e];rfl
      have hj:r = -1:=by rw [← hr'.out];unfold idxI;rw [e]
      subst hj;go_enter Tryz.func31,Tryz.ntmps31
      go_wp2_with (first | (go_at_call 53;refine hin.mono ?_;clear hin;rintro e w1 ⟨rfl,HO,HB⟩) | (at_lookup;refine wpList_lookup_own_ok_int _ rfl _ _ 115 rfl 21 3 .i64 keyR Tryz.underlying115 Tryz.underlying3 (Z9d _) w.heap.size l0.length (mapI l0 l0.length) rfl HO _ _ rfl hkey ?_;intro cc hcc hwc))
      go_ret;exact ⟨rfl,HB⟩
  · rw [if_neg hg] at h;cases h
end Go.Proofs.YtfbhdjflkaldgaaGreatDoor.Pr

namespace Go.Proofs.YtfbhdjflkaldgaaGreatDoor.Pr
open Go.Lib
set_option linter.unusedVariables false
def scalar (r:Int):Prop:=0 ≤ r ∧ (r < 55296 ∨ (57344 ≤ r ∧ r ≤ 1114111))
def Z8h:Nat → List UInt8 → List Int
  | 0,_ => []
  | n + 1,l => if l = [] then [] else ((decodeL l).1:Int) :: Z8h n (l.drop (decodeL l).2)
def Z32 (l:List UInt8):List Int:=Z8h l.length l
theorem Z4z (l:List UInt8) (h:l ≠ []):1 ≤ (decodeL l).2:=by
  rw [decodeL_N];unfold decodeN;repeat' split
  all_goals simp
theorem Z9e:∀ (n m:Nat) (l:List UInt8),l.length ≤ n → l.length ≤ m → Z8h n l = Z8h m l
  | 0,m,l,h,_ => by
    obtain rfl:l = []:=List.eq_nil_of_length_eq_zero (by omega)
    cases m <;> simp [Z8h]
  | n + 1,0,l,_,h => by
    obtain rfl:l = []:=List.eq_nil_of_length_eq_zero (by omega)
    simp [Z8h]
  | n + 1,m + 1,l,h1,h2 => by
    unfold Z8h
    split
    · rfl
    · next hne =>
      have hw:=Z4z l hne;have hl:0 < l.length:=List.length_pos_iff.2 hne;rw [Z9e n m (l.drop (decodeL l).2) (by rw [List.length_drop];omega) (by rw [List.length_drop];omega)]
theorem Z40:Z32 [] = []:=rfl
theorem Z3v (l:List UInt8) (h:l ≠ []):Z32 l = ((decodeL l).1:Int) :: Z32 (l.drop (decodeL l).2):=by
  have hl:0 < l.length:=List.length_pos_iff.2 h;have hw:=Z4z l h;unfold Z32;obtain ⟨n,hn⟩:∃ n,l.length = n + 1:=⟨l.length - 1,by omega⟩;rw [hn]
  conv => lhs;unfold Z8h
  rw [if_neg h,Z9e n (l.drop (decodeL l).2).length _ (by rw [List.length_drop];omega) (Nat.le_refl _)]
theorem Z7j (l:List UInt8):scalar ((decodeL l).1:Int):=by
  have k0:=(l.getD 0 0).toNat_lt;have k1:=(l.getD 1 0).toNat_lt;have k2:=(l.getD 2 0).toNat_lt;have k3:=(l.getD 3 0).toNat_lt;rw [decodeL_N];unfold scalar decodeN
  repeat' split
  all_goals simp only
  all_goals omega
theorem Zau:∀ (n:Nat) (l:List UInt8),l.length ≤ n → validD l = true → (Z32 l).flatMap encodeRune = l
  | 0,l,h,_ => by
    obtain rfl:l = []:=List.eq_nil_of_length_eq_zero (by omega);rfl
  | n + 1,l,h,hv => by
    by_cases hne:l = []
    · subst hne;rfl
    · have hw:=Z4z l hne
      have hl:0 < l.length:=List.length_pos_iff.2 hne;rw [validD_step l hne] at hv
      by_cases hb:(decodeL l).1 = 65533 ∧ (decodeL l).2 = 1
      · rw [if_pos hb] at hv;cases hv
      · rw [if_neg hb] at hv
        rw [Z3v l hne,List.flatMap_cons,encode_decode l hne hb,Zau n _ (by rw [List.length_drop];omega) hv,List.take_append_drop]
set_option maxRecDepth 100000 in
set_option maxHeartbeats 2000000 in
theorem Zav (r:Int) (h:scalar r) (t:List UInt8):decodeL (encodeRune r ++ t) = (r.toNat,(encodeRune r).length):=by
  obtain ⟨h0,h1⟩:=h;obtain ⟨n,rfl⟩:∃ n:Nat,r = (n:Int):=⟨r.toNat,by omega⟩
  have b8:∀ (z:Int) (m:Nat),z.toNat = m → m < 256 → (z.toNat.toUInt8).toNat = m:=by
    intro z m h1 h2;rw [h1];simp;omega
  rw [decodeL_N];unfold encodeRune;rw [Int.toNat_natCast]
  by_cases c1:(n:Int) ≤ 127
  · rw [encodeRuneZ_one h0 c1]
    simp only [List.map_cons,List.map_nil,List.cons_append,List.nil_append,List.getD_cons_zero,List.length_cons,List.length_nil];rw [b8 _ n (by omega) (by omega)];unfold decodeN;rw [if_pos (by omega)]
  · by_cases c2:(n:Int) ≤ 2047
    · rw [encodeRuneZ_two (by omega) c2]
      simp only [List.map_cons,List.map_nil,List.cons_append,List.nil_append,List.getD_cons_zero,List.getD_cons_succ,List.length_cons,List.length_nil];rw [b8 _ (192 + n / 64) (by omega) (by omega),b8 _ (128 + n % 64) (by omega) (by omega)];unfold decodeN;rw [if_neg (by omega),if_pos (by omega),if_pos (by omega)];exact Prod.ext (by simp only;omega) rfl
    · by_cases c3:(n:Int) ≤ 65535
      · rw [encodeRuneZ_three (by omega)]
        simp only [List.map_cons,List.map_nil,List.cons_append,List.nil_append,List.getD_cons_zero,List.getD_cons_succ,List.length_cons,List.length_nil];rw [b8 _ (224 + n / 4096) (by omega) (by omega),b8 _ (128 + n / 64 % 64) (by omega) (by omega),b8 _ (128 + n % 64) (by omega) (by omega)];unfold decodeN;rw [if_neg (by omega),if_neg (by omega),if_pos (by omega),if_pos (by omega)];exact Prod.ext (by simp only;omega) rfl
      · rw [encodeRuneZ_four (by omega) (by omega)]
        simp only [List.map_cons,List.map_nil,List.cons_append,List.nil_append,List.getD_cons_zero,List.getD_cons_succ,List.length_cons,List.length_nil];rw [b8 _ (240 + n / 262144) (by omega) (by omega),b8 _ (128 + n / 4096 % 64) (by omega) (by omega),b8 _ (128 + n / 64 % 64) (by omega) (by omega),b8 _ (128 + n % 64) (by omega) (by omega)];unfold decodeN;rw [if_neg (by omega),if_neg (by omega),if_neg (by omega),if_pos (by omega),if_pos (by omega)];exact Prod.ext (by simp only;omega) rfl
theorem Zfo (r:Int) (t:List UInt8):encodeRune r ++ t ≠ []:=by
  intro e;have h:=congrArg List.length e;have h2:=(encodeRuneZ_length r).1
  have h3:(encodeRune r).length = (encodeRuneZ r).length:=by simp [encodeRune]
  rw [List.length_append,List.length_nil] at h;omega
theorem Z62 (r:Int) (h:scalar r) (t:List UInt8):Z32 (encodeRune r ++ t) = r :: Z32 t:=by
  rw [Z3v _ (Zfo r t),Zav r h t];simp only [List.drop_left];rw [Int.toNat_of_nonneg h.1]
theorem Zid (r:Int) (h:scalar r) (t:List UInt8):validD (encodeRune r ++ t) = validD t:=by
  rw [validD_step _ (Zfo r t),Zav r h t];simp only [List.drop_left];rw [if_neg];rintro ⟨h1,h2⟩
  have e:r = 65533:=by have:=h.1;omega
  subst e;revert h2;decide
def encL (rs:List Int):List UInt8:=rs.flatMap encodeRune
theorem Z6h:∀ (rs:List Int),(∀ r ∈ rs,scalar r) → ∀ t,Z32 (encL rs ++ t) = rs ++ Z32 t
  | [],_,t => rfl
  | r :: rs,h,t => by
    unfold encL;rw [List.flatMap_cons,List.append_assoc,Z62 r (h r (by simp))];exact congrArg (r :: ·) (Z6h rs (fun x hx => h x (by simp [hx])) t)
theorem Z41:∀ (rs:List Int),(∀ r ∈ rs,scalar r) → validD (encL rs) = true
  | [],_ => rfl
  | r :: rs,h => by
    unfold encL;rw [List.flatMap_cons,Zid r (h r (by simp))];exact Z41 rs (fun x hx => h x (by simp [hx]))
theorem Z8i:∀ (n:Nat) (l:List UInt8),l.length ≤ n → ∀ r ∈ Z32 l,scalar r
  | 0,l,h,r,hr => by
    obtain rfl:l = []:=List.eq_nil_of_length_eq_zero (by omega)
    simp [Z40] at hr
  | n + 1,l,h,r,hr => by
    by_cases hne:l = []
    · subst hne;simp [Z40] at hr
    · have hw:=Z4z l hne
      have hl:0 < l.length:=List.length_pos_iff.2 hne;rw [Z3v l hne] at hr
      rcases List.mem_cons.1 hr with rfl | hr
      · exact Z7j l
      · exact Z8i n _ (by rw [List.length_drop];omega) r hr
theorem Z22 (l:List UInt8):∀ r ∈ Z32 l,scalar r:=Z8i _ l (Nat.le_refl _)
theorem Z36 (l:List UInt8):validD l = true ↔ encL (Z32 l) = l :=
  ⟨Zau _ l (Nat.le_refl _),fun h => by rw [← h];exact Z41 _ (Z22 l)⟩
end Go.Proofs.YtfbhdjflkaldgaaGreatDoor.Pr

namespace Go.Proofs.YtfbhdjflkaldgaaGreatDoor.Pr
open Go.RowKit Go.Lib
set_option linter.unusedVariables false
def Z3b (s:ByteArray) (pos:Nat):List Int:=Z32 (s.data.toList.drop pos)
def Z0d (s:ByteArray):List Int:=Z32 s.data.toList
theorem Z2t (s:ByteArray):Z3b s 0 = Z0d s:=by unfold Z3b Z0d;rw [List.drop_zero]
theorem sizeL (s:ByteArray):s.data.toList.length = s.size:=Array.length_toList
theorem Z2z {s:ByteArray} {pos:Nat} (h:¬ pos < s.size):Z3b s pos = []:=by
  unfold Z3b;rw [List.drop_eq_nil_of_le (by rw [sizeL];omega)];rfl
theorem Z34 {s:ByteArray} {pos:Nat} (h:pos < s.size):Z3b s pos = ((Utf8.decode s pos).1:Int) :: Z3b s (pos + (Utf8.decode s pos).2):=by
  unfold Z3b
  have hne:s.data.toList.drop pos ≠ []:=by
    intro e;have:=congrArg List.length e;rw [List.length_drop,sizeL] at this
    simp at this
    omega
  rw [Z3v _ hne,decodeL_drop,List.drop_drop]
theorem Z4k {s:ByteArray} {pos:Nat} (h:pos < s.size):1 ≤ (Utf8.decode s pos).2:=by
  rw [← decodeL_drop]
  refine Z4z _ fun e => ?_
  have:=congrArg List.length e;rw [List.length_drop,sizeL] at this
  simp at this
  omega
theorem Z50 (s:ByteArray) (pos:Nat):scalar ((Utf8.decode s pos).1:Int):=by
  rw [← decodeL_drop];exact Z7j _
theorem Z7k {r:Int} (h:scalar r):(Lit.int .i32 r).wf = true:=by
  obtain ⟨h1,h2⟩:=h
  have e1:IntKind.i32.min = -2147483648:=by decide
  have e2:IntKind.i32.max = 2147483647:=by decide
  simp [Lit.wf,e1,e2]
  omega
theorem Z5m:∀ (n:Nat) (l:List UInt8),l.length ≤ n → (Z32 l).length ≤ l.length
  | 0,l,h => by
    obtain rfl:l = []:=List.eq_nil_of_length_eq_zero (by omega)
    simp [Z40]
  | n + 1,l,h => by
    by_cases hne:l = []
    · subst hne;simp [Z40]
    · have hw:=Z4z l hne
      have hl:0 < l.length:=List.length_pos_iff.2 hne;rw [Z3v l hne,List.length_cons];have:=Z5m n (l.drop (decodeL l).2) (by rw [List.length_drop];omega);rw [List.length_drop] at this;omega
theorem Z23 (s:ByteArray):(Z0d s).length ≤ s.size:=by
  have:=Z5m _ s.data.toList (Nat.le_refl _)
  rwa [sizeL] at this
theorem Z9f (r:Int) (h:scalar r):(Utf8.encode r).data.toList = encodeRune r:=by
  obtain ⟨h0,h1⟩:=h;obtain ⟨n,rfl⟩:∃ n:Nat,r = (n:Int):=⟨r.toNat,by omega⟩
  have v:Utf8.valid (n:Int) = true:=by first | (simp [Utf8.valid];done) | (simp [Utf8.valid];omega)
  have b8:∀ (z:Int) (m:Nat),z.toNat = m → z.toNat.toUInt8 = UInt8.ofNat m:=by intro z m h;rw [h]
  unfold encodeRune
  by_cases c1:n < 128
  · rw [encodeRuneZ_one (by omega) (by omega)]
    simp only [List.map_cons,List.map_nil];rw [b8 _ n (by omega)]
    simp [Utf8.encode,v,c1]
  · by_cases c2:n < 2048
    · rw [encodeRuneZ_two (by omega) (by omega)]
      simp only [List.map_cons,List.map_nil];rw [b8 _ (192 + n / 64) (by omega),b8 _ (128 + n % 64) (by omega)]
      simp [Utf8.encode,v,c1,c2]
    · by_cases c3:n < 65536
      · rw [encodeRuneZ_three (by omega)]
        simp only [List.map_cons,List.map_nil];rw [b8 _ (224 + n / 4096) (by omega),b8 _ (128 + n / 64 % 64) (by omega),b8 _ (128 + n % 64) (by omega)]
        simp [Utf8.encode,v,c1,c2,c3]
      · rw [encodeRuneZ_four (by omega) (by omega)]
        simp only [List.map_cons,List.map_nil];rw [b8 _ (240 + n / 262144) (by omega),b8 _ (128 + n / 4096 % 64) (by omega),b8 _ (128 + n / 64 % 64) (by omega),b8 _ (128 + n % 64) (by omega)]
        simp [Utf8.encode,v,c1,c2,c3]
theorem Zbj (b:ByteArray) (rs:List Int) (r:Int) (hb:b.data.toList = encL rs) (h:scalar r):(b ++ Utf8.encode r).data.toList = encL (rs ++ [r]):=by
  rw [ByteArray.data_append,Array.toList_append,hb,Z9f r h];unfold encL;rw [List.flatMap_append]
  simp
theorem Z4l {a b:ByteArray} (h:a.data.toList = b.data.toList):a = b:=by
  cases a;cases b;simp at h;simp [h]
end Go.Proofs.YtfbhdjflkaldgaaGreatDoor.Pr

namespace Go.Proofs
open Go.Shelf
def Tryz.lays169_ren:Go.Shelf.Ren:=⟨fun | 169 => 38 | n => n,fun | 70 => 92 | 9 => 9 | 0 => 0 | 72 => 95 | 37 => 93 | 127 => 118 | 3 => 3 | 5 => 5 | n => n,fun | n => n⟩
theorem Tryz.lays169:Go.Proofs.Lays.n169 Tryz.prog Tryz.lays169_ren:={
  mixed:=by kernel_rfl
  f169:=Tryz.func38.trans (congrArg some (by kernel_rfl))
  t0:=Tryz.underlying0
  a0:=Tryz.isAgg0
  z0:=Tryz.sizeOf0
  v0:=Tryz.zeroValue0
  t3:=Tryz.underlying3
  a3:=Tryz.isAgg3
  z3:=Tryz.sizeOf3
  v3:=Tryz.zeroValue3
  t9:=Tryz.underlying9
  a9:=Tryz.isAgg9
  z9:=Tryz.sizeOf9
  v9:=Tryz.zeroValue9
  t37:=Tryz.underlying93
  a37:=Tryz.isAgg93
  z37:=Tryz.sizeOf93
  v37:=Tryz.zeroValue93
  t70:=Tryz.underlying92
  a70:=Tryz.isAgg92
  z70:=Tryz.sizeOf92
  v70:=Tryz.zeroValue92
  t72:=Tryz.underlying95
  a72:=Tryz.isAgg95
  z72:=Tryz.sizeOf95
  v72:=Tryz.zeroValue95
  t127:=Tryz.underlying118
  a127:=Tryz.isAgg118
  z127:=Tryz.sizeOf118
  v127:=Tryz.zeroValue118 }
theorem Tryz.Builder_Extra_169:Builder.Extra Tryz.prog Tryz.lays169_ren:={
  sizeBuilder:=by kernel_rfl
  liesBuilder:=by kernel_rfl
  t5:=Tryz.underlying5
  a5:=Tryz.isAgg5
  z5:=Tryz.sizeOf5
  v5:=Tryz.zeroValue5
  infoByte:=by kernel_rfl
  cellsByte:=by kernel_rfl
  sizeByte:=by kernel_rfl
  neB5:=by decide }
def Tryz.lays156_ren:Go.Shelf.Ren:=⟨fun | 156 => 20 | 165 => 36 | 166 => 37 | 169 => 38 | 240 => 56 | 241 => 57 | 276 => 75 | 277 => 76 | n => n,fun | 31 => 31 | 9 => 9 | 3 => 3 | 4 => 4 | 0 => 0 | 20 => 20 | 72 => 95 | 76 => 99 | 70 => 92 | 37 => 93 | 75 => 98 | 127 => 118 | 164 => 134 | 5 => 5 | 80 => 101 | n => n,fun | n => n⟩
theorem Tryz.lays156:Go.Proofs.Lays.n156 Tryz.prog Tryz.lays156_ren:={
  mixed:=by kernel_rfl
  f156:=Tryz.func20.trans (congrArg some (by kernel_rfl))
  f165:=Tryz.func36.trans (congrArg some (by kernel_rfl))
  f166:=Tryz.func37.trans (congrArg some (by kernel_rfl))
  f169:=Tryz.func38.trans (congrArg some (by kernel_rfl))
  f240:=Tryz.func56.trans (congrArg some (by kernel_rfl))
  f241:=Tryz.func57.trans (congrArg some (by kernel_rfl))
  f276:=Tryz.func75.trans (congrArg some (by kernel_rfl))
  f277:=Tryz.func76.trans (congrArg some (by kernel_rfl))
  t0:=Tryz.underlying0
  a0:=Tryz.isAgg0
  z0:=Tryz.sizeOf0
  v0:=Tryz.zeroValue0
  t3:=Tryz.underlying3
  a3:=Tryz.isAgg3
  z3:=Tryz.sizeOf3
  v3:=Tryz.zeroValue3
  t4:=Tryz.underlying4
  a4:=Tryz.isAgg4
  z4:=Tryz.sizeOf4
  v4:=Tryz.zeroValue4
  t9:=Tryz.underlying9
  a9:=Tryz.isAgg9
  z9:=Tryz.sizeOf9
  v9:=Tryz.zeroValue9
  t20:=Tryz.underlying20
  a20:=Tryz.isAgg20
  z20:=Tryz.sizeOf20
  v20:=Tryz.zeroValue20
  t31:=Tryz.underlying31
  a31:=Tryz.isAgg31
  z31:=Tryz.sizeOf31
  v31:=Tryz.zeroValue31
  t37:=Tryz.underlying93
  a37:=Tryz.isAgg93
  z37:=Tryz.sizeOf93
  v37:=Tryz.zeroValue93
  t70:=Tryz.underlying92
  a70:=Tryz.isAgg92
  z70:=Tryz.sizeOf92
  v70:=Tryz.zeroValue92
  t72:=Tryz.underlying95
  a72:=Tryz.isAgg95
  z72:=Tryz.sizeOf95
  v72:=Tryz.zeroValue95
  t75:=Tryz.underlying98
  a75:=Tryz.isAgg98
  z75:=Tryz.sizeOf98
  v75:=Tryz.zeroValue98
  t76:=Tryz.underlying99
  a76:=Tryz.isAgg99
  z76:=Tryz.sizeOf99
  v76:=Tryz.zeroValue99
  t127:=Tryz.underlying118
  a127:=Tryz.isAgg118
  z127:=Tryz.sizeOf118
  v127:=Tryz.zeroValue118
  t164:=Tryz.underlying134
  a164:=Tryz.isAgg134
  z164:=Tryz.sizeOf134
  v164:=Tryz.zeroValue134 }
theorem Tryz.Builder_Extra_156:Builder.Extra Tryz.prog Tryz.lays156_ren:={
  sizeBuilder:=by kernel_rfl
  liesBuilder:=by kernel_rfl
  t5:=Tryz.underlying5
  a5:=Tryz.isAgg5
  z5:=Tryz.sizeOf5
  v5:=Tryz.zeroValue5
  infoByte:=by kernel_rfl
  cellsByte:=by kernel_rfl
  sizeByte:=by kernel_rfl
  neB5:=by decide }
open Go.RowKit in
theorem Tryz.strings_Join_none (a:Option Addr) (c:Nat) (sep:ByteArray) (w:World) :
    Calls Tryz.prog 20 #[.slice a 0 c,.string sep] w fun e w' => e = .returned (.string ⟨#[]⟩) ∧ w' = w:=Any.strings_Join_none Tryz.lays156 Tryz.Builder_Extra_156 a c sep w
open Go.RowKit in
theorem Tryz.strings_Join (bk o c:Nat) (xs:List ByteArray) (sep:ByteArray) (w:World) (hcells:∀ (j:Nat) x,xs[j]? = some x → w.cell? ⟨bk,o + j,none⟩ = some (.string x)) (hbk:bk < w.heap.size) (hN:xs.length ≤ 140737488355328) (hcap:xs.length ≤ c) (hlen:(Lib.join (xs.map (·.data.toList)) sep.data.toList).length ≤ 140737488355328) :
    Calls Tryz.prog 20 #[.slice (some ⟨bk,o,none⟩) xs.length c,.string sep] w fun e w' => e = .returned (.string ⟨(Lib.join (xs.map (·.data.toList)) sep.data.toList).toArray⟩) ∧ Below w.heap.size w w':=Any.strings_Join Tryz.lays156 Tryz.Builder_Extra_156 bk o c xs sep w hcells hbk hN hcap hlen
def Tryz.lays119_ren:Go.Shelf.Ren:=⟨fun | 119 => 66 | n => n,fun | 21 => 21 | 4 => 4 | n => n,fun | n => n⟩
theorem Tryz.lays119:Go.Proofs.Lays.n119 Tryz.prog Tryz.lays119_ren:={
  mixed:=by kernel_rfl
  f119:=Tryz.func66.trans (congrArg some (by kernel_rfl))
  t4:=Tryz.underlying4
  a4:=Tryz.isAgg4
  z4:=Tryz.sizeOf4
  v4:=Tryz.zeroValue4
  t21:=Tryz.underlying21
  a21:=Tryz.isAgg21
  z21:=Tryz.sizeOf21
  v21:=Tryz.zeroValue21 }
theorem Tryz.utf8_ValidRune (r:Int) (w:World) :
    Calls Tryz.prog 66 #[.int .i32 r] w fun e w' => e = .returned (.bool (Lib.validRune r)) ∧ w' = w:=Any.utf8_ValidRune Tryz.lays119 r w
def Tryz.lays137_ren:Go.Shelf.Ren:=⟨fun | 137 => 51 | 217 => 67 | 266 => 85 | n => n,fun | 9 => 9 | 5 => 5 | 3 => 3 | n => n,fun | n => n⟩
theorem Tryz.lays137:Go.Proofs.Lays.n137 Tryz.prog Tryz.lays137_ren:={
  mixed:=by kernel_rfl
  f137:=Tryz.func51.trans (congrArg some (by kernel_rfl))
  f217:=Tryz.func67.trans (congrArg some (by kernel_rfl))
  f266:=Tryz.func85.trans (congrArg some (by kernel_rfl))
  t3:=Tryz.underlying3
  a3:=Tryz.isAgg3
  z3:=Tryz.sizeOf3
  v3:=Tryz.zeroValue3
  t5:=Tryz.underlying5
  a5:=Tryz.isAgg5
  z5:=Tryz.sizeOf5
  v5:=Tryz.zeroValue5
  t9:=Tryz.underlying9
  a9:=Tryz.isAgg9
  z9:=Tryz.sizeOf9
  v9:=Tryz.zeroValue9 }
open Go.RowKit in
theorem Tryz.strings_IndexByte (s:ByteArray) (c:Int) (w:World) :
    Calls Tryz.prog 51 #[.string s,.int .u8 c] w fun e w' => e = .returned (.int .i64 (Lib.indexByte s.data.toList c.toNat.toUInt8)) ∧ w' = w:=Any.strings_IndexByte Tryz.lays137 s c w
open Go.RowKit in
theorem Tryz.Builder_String_any_f (B b:Nat) (l:List UInt8) (w:World) (h:Lib.IsBuilderF 95 5 B b (Lib.byteCells l) w) (hBw:B ≤ w.heap.size) :
    Calls Tryz.prog 38 #[.pointer (some ⟨b,0,none⟩)] w fun e w' => e = .returned (.string ⟨l.toArray⟩) ∧ (Lib.IsBuilderF 95 5 B b (Lib.byteCells l) w' ∧ Below B w w'):=Any.Builder_String_any_f Tryz.lays169 Tryz.Builder_Extra_169 B b l w h hBw
def Tryz.lays242_ren:Go.Shelf.Ren:=⟨fun | 242 => 89 | 278 => 94 | n => n,fun | 37 => 93 | 21 => 21 | 51 => 66 | 4 => 4 | 5 => 5 | 46 => 125 | n => n,fun | n => n⟩
theorem Tryz.lays242:Go.Proofs.Lays.n242 Tryz.prog Tryz.lays242_ren:={
  mixed:=by kernel_rfl
  f242:=Tryz.func89.trans (congrArg some (by kernel_rfl))
  f278:=Tryz.func94.trans (congrArg some (by kernel_rfl))
  t4:=Tryz.underlying4
  a4:=Tryz.isAgg4
  z4:=Tryz.sizeOf4
  v4:=Tryz.zeroValue4
  t5:=Tryz.underlying5
  a5:=Tryz.isAgg5
  z5:=Tryz.sizeOf5
  v5:=Tryz.zeroValue5
  t21:=Tryz.underlying21
  a21:=Tryz.isAgg21
  z21:=Tryz.sizeOf21
  v21:=Tryz.zeroValue21
  t37:=Tryz.underlying93
  a37:=Tryz.isAgg93
  z37:=Tryz.sizeOf93
  v37:=Tryz.zeroValue93
  t46:=Tryz.underlying125
  a46:=Tryz.isAgg125
  z46:=Tryz.sizeOf125
  v46:=Tryz.zeroValue125
  t51:=Tryz.underlying66
  a51:=Tryz.isAgg66
  z51:=Tryz.sizeOf66
  v51:=Tryz.zeroValue66 }
open Go.RowKit in
theorem Tryz.utf8_AppendRune_row (B:Nat) (v:Value) (n:Nat) (xs:List Value) (r:Int) (hr0 : -2147483648 ≤ r) (hr1:r ≤ 2147483647) (w:World) (hown:w.ownsRowF B 5 1 v n xs) (hlen:n + 4 ≤ 140737488355328) (hBw:B ≤ w.heap.size) :
    Calls Tryz.prog 89 #[v,.int .i32 r] w fun e w' => ∃ v',e = .returned v' ∧ w'.ownsRowF B 5 1 v' (n + (Lib.runeCells r).length) (xs ++ Lib.runeCells r) ∧ ∃ o,(w.alloc o).grownBy w' v.ownBlock:=Any.utf8_AppendRune_row Tryz.lays242 (by kernel_rfl) B v n xs r hr0 hr1 w hown hlen hBw
def Tryz.lays195_ren:Go.Shelf.Ren:=⟨fun | 195 => 72 | n => n,fun | 9 => 9 | 3 => 3 | 0 => 0 | 4 => 4 | n => n,fun | n => n⟩
theorem Tryz.lays195:Go.Proofs.Lays.n195 Tryz.prog Tryz.lays195_ren:={
  mixed:=by kernel_rfl
  f195:=Tryz.func72.trans (congrArg some (by kernel_rfl))
  t0:=Tryz.underlying0
  a0:=Tryz.isAgg0
  z0:=Tryz.sizeOf0
  v0:=Tryz.zeroValue0
  t3:=Tryz.underlying3
  a3:=Tryz.isAgg3
  z3:=Tryz.sizeOf3
  v3:=Tryz.zeroValue3
  t4:=Tryz.underlying4
  a4:=Tryz.isAgg4
  z4:=Tryz.sizeOf4
  v4:=Tryz.zeroValue4
  t9:=Tryz.underlying9
  a9:=Tryz.isAgg9
  z9:=Tryz.sizeOf9
  v9:=Tryz.zeroValue9 }
open Go.RowKit in
theorem Tryz.utf8_RuneCountInString (s:ByteArray) (w:World) (hs:s.size < 9223372036854775807) :
    Calls Tryz.prog 72 #[.string s] w fun e w' => e = .returned (.int .i64 (Lib.runeCount s)) ∧ ∃ pos,w' = w.iter s pos:=Any.utf8_RuneCountInString Tryz.lays195 s w hs
def Tryz.lays197_ren:Go.Shelf.Ren:=⟨fun | 197 => 29 | 260 => 49 | n => n,fun | 9 => 9 | 21 => 21 | 3 => 3 | 4 => 4 | 5 => 5 | 105 => 82 | 119 => 121 | 0 => 0 | 46 => 125 | 139 => 124 | 138 => 123 | n => n,fun | 3 => 0 | 4 => 1 | n => n⟩
theorem Tryz.lays197:Go.Proofs.Lays.n197 Tryz.prog Tryz.lays197_ren:={
  mixed:=by kernel_rfl
  f197:=Tryz.func29.trans (congrArg some (by kernel_rfl))
  f260:=Tryz.func49.trans (congrArg some (by kernel_rfl))
  t0:=Tryz.underlying0
  a0:=Tryz.isAgg0
  z0:=Tryz.sizeOf0
  v0:=Tryz.zeroValue0
  t3:=Tryz.underlying3
  a3:=Tryz.isAgg3
  z3:=Tryz.sizeOf3
  v3:=Tryz.zeroValue3
  t4:=Tryz.underlying4
  a4:=Tryz.isAgg4
  z4:=Tryz.sizeOf4
  v4:=Tryz.zeroValue4
  t5:=Tryz.underlying5
  a5:=Tryz.isAgg5
  z5:=Tryz.sizeOf5
  v5:=Tryz.zeroValue5
  t9:=Tryz.underlying9
  a9:=Tryz.isAgg9
  z9:=Tryz.sizeOf9
  v9:=Tryz.zeroValue9
  t21:=Tryz.underlying21
  a21:=Tryz.isAgg21
  z21:=Tryz.sizeOf21
  v21:=Tryz.zeroValue21
  t46:=Tryz.underlying125
  a46:=Tryz.isAgg125
  z46:=Tryz.sizeOf125
  v46:=Tryz.zeroValue125
  t105:=Tryz.underlying82
  a105:=Tryz.isAgg82
  z105:=Tryz.sizeOf82
  v105:=Tryz.zeroValue82
  t119:=Tryz.underlying121
  a119:=Tryz.isAgg121
  z119:=Tryz.sizeOf121
  t138:=Tryz.underlying123
  a138:=Tryz.isAgg123
  z138:=Tryz.sizeOf123
  v138:=Tryz.zeroValue123
  t139:=Tryz.underlying124
  a139:=Tryz.isAgg124
  z139:=Tryz.sizeOf124
  v139:=Tryz.zeroValue124
  g3:=by kernel_rfl
  g4:=by kernel_rfl }
open Go.RowKit Go.Lib in
theorem Tryz.utf8_DecodeRuneInString (s:ByteArray) (w:World) (hT:Lib.Utf8Tabs 0 1 w) :
    Calls Tryz.prog 29 #[.string s] w fun e w' => e = .returned (.tuple #[.int .i32 (Lib.decodeGo s).1,.int .i64 (Lib.decodeGo s).2]) ∧ Below w.heap.size w w':=Any.utf8_DecodeRuneInString Tryz.lays197 s w hT
def Tryz.lays196v_ren:Go.Shelf.Ren:=⟨fun | 196 => 46 | 259 => 64 | n => n,fun | 9 => 9 | 4 => 4 | 3 => 3 | 5 => 5 | 12 => 12 | 119 => 121 | 0 => 0 | 46 => 125 | 139 => 124 | 138 => 123 | 53 => 143 | n => n,fun | 3 => 0 | 4 => 1 | n => n⟩
theorem Tryz.lays196v:Go.Proofs.Lays.n196 Tryz.prog Tryz.lays196v_ren:={
  mixed:=by kernel_rfl
  f196:=Tryz.func46.trans (congrArg some (by kernel_rfl))
  f259:=Tryz.func64.trans (congrArg some (by kernel_rfl))
  t0:=Tryz.underlying0
  a0:=Tryz.isAgg0
  z0:=Tryz.sizeOf0
  v0:=Tryz.zeroValue0
  t3:=Tryz.underlying3
  a3:=Tryz.isAgg3
  z3:=Tryz.sizeOf3
  v3:=Tryz.zeroValue3
  t4:=Tryz.underlying4
  a4:=Tryz.isAgg4
  z4:=Tryz.sizeOf4
  v4:=Tryz.zeroValue4
  t5:=Tryz.underlying5
  a5:=Tryz.isAgg5
  z5:=Tryz.sizeOf5
  v5:=Tryz.zeroValue5
  t9:=Tryz.underlying9
  a9:=Tryz.isAgg9
  z9:=Tryz.sizeOf9
  v9:=Tryz.zeroValue9
  t12:=Tryz.underlying12
  a12:=Tryz.isAgg12
  z12:=Tryz.sizeOf12
  v12:=Tryz.zeroValue12
  t46:=Tryz.underlying125
  a46:=Tryz.isAgg125
  z46:=Tryz.sizeOf125
  v46:=Tryz.zeroValue125
  t53:=Tryz.underlying143
  a53:=Tryz.isAgg143
  z53:=Tryz.sizeOf143
  v53:=Tryz.zeroValue143
  t119:=Tryz.underlying121
  a119:=Tryz.isAgg121
  z119:=Tryz.sizeOf121
  t138:=Tryz.underlying123
  a138:=Tryz.isAgg123
  z138:=Tryz.sizeOf123
  v138:=Tryz.zeroValue123
  t139:=Tryz.underlying124
  a139:=Tryz.isAgg124
  z139:=Tryz.sizeOf124
  v139:=Tryz.zeroValue124
  g3:=by kernel_rfl
  g4:=by kernel_rfl }
open Go.RowKit Go.Lib in
theorem Tryz.utf8_ValidString (s:ByteArray) (w:World) (hs:s.size ≤ 9223372036854775807) (hT:Lib.Utf8Tabs 0 1 w) :
    Calls Tryz.prog 46 #[.string s] w fun e w' => e = .returned (.bool (Lib.validD s.data.toList)) ∧ Below w.heap.size w w':=Any.utf8_ValidString Tryz.lays196v s w hs hT
end Go.Proofs
