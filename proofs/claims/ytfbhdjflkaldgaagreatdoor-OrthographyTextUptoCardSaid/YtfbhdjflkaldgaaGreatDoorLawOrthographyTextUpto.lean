-- Written by a program of this session (ownprint.py, over the kit's printer). Not trusted: Lean checks it.
import Derived.Test.YtfbhdjflkaldgaaGreatDoorRows
import Derived.Test.YtfbhdjflkaldgaaGreatDoorMg1
import Derived.Test.YtfbhdjflkaldgaaGreatDoorMg26
import Derived.WalkKit
import Derived.ProofKit
import Derived.OpenShut
import Derived.ShutString
import Derived.ChangeOld
import Derived.Below
import Derived.JoinedCond
import Derived.SizedLaws
import Derived.Lib.LaidIn
import Derived.Lib.LaidU8T
import Derived.Deep.DeepHandedRow
import Derived.Deep.DeepWitnessRowRef
import Derived.Test.YtfbhdjflkaldgaaGreatDoorCards
import Derived.Test.YtfbhdjflkaldgaaGreatDoorTie
namespace Go.Proofs.YtfbhdjflkaldgaaGreatDoor.orthographyTextUpto
open Go.ChangeShapes Go.WideShapes Go.ChangeAt Go.RowKit Go.Proofs.YtfbhdjflkaldgaaGreatDoor.Pr Go.Proofs.YtfbhdjflkaldgaaGreatDoor.Opn
open Go.ChangeMaps (open_string shut_string)
set_option linter.unusedVariables false
theorem own:ownKnob Tryz.prog.godebug = none:=by kernel_rfl
theorem laidOut:laidOutB Tryz.prog = true:=by kernel_rfl
noncomputable def laidWorld (os:Os):World :=
  let w0:=World.holding Tryz.prog os ⟨#[],#[],[]⟩
  let put (h:Array Obj) (g:Nat) (cs:Array Value):Array Obj:=h.modify g fun
    | .cells _ t frozen => .cells cs t frozen
    | o => o
  let h1:=put w0.heap 0 (Lib.firstTab.map fun z => Value.int .u8 z).toArray
  let h2:=put h1 1 ((List.range 16).flatMap fun i => [Value.int .u8 (Lib.accLo i),Value.int .u8 (Lib.accHi i)]).toArray
  { w0 with heap:=h2 }
theorem laid_met (os:Os) (args:Array Value):laidMet Tryz.prog Rows.orthographyTextUptoRow.laid ((laidWorld os).forCall (fun _ _ => 0) ⟨#[],args,[]⟩).memory :=
  (LaidIn.of_run (l:=Rows.orthographyTextUptoRow.laid) [1,0] 8 (by kernel_rfl) (by kernel_rfl) (by kernel_rfl) (by kernel_rfl)).met
theorem first_eq:(Rows.laid_unicode_utf8_first:DataW Unit) = Lib.firstData:=by kernel_rfl
theorem accept_eq:(Rows.laid_unicode_utf8_acceptRanges:DataW Unit) = Lib.acceptData:=by kernel_rfl
theorem tabs_of {W:World} (hL:laidMet Tryz.prog Rows.orthographyTextUptoRow.laid W):Tabs W:=by
  have r1:Lib.VarReads Tryz.prog W "unicode/utf8.acceptRanges" Rows.laid_unicode_utf8_acceptRanges:=Lib.laidMet.reads hL (.head _);have r2:Lib.VarReads Tryz.prog W "unicode/utf8.first" Rows.laid_unicode_utf8_first:=Lib.laidMet.reads hL (.tail _ (.head _));rw [accept_eq] at r1;rw [first_eq] at r2;have h:Lib.Utf8Tabs 0 1 W:=utf8Tabs_of_readsT (U8Types.of196 Tryz.lays196v) ⟨by kernel_rfl,by kernel_rfl,by kernel_rfl,by kernel_rfl,by kernel_rfl,by kernel_rfl,by kernel_rfl⟩ r2 r1
  refine ⟨h,?_⟩
  have hc:=(h.2 0 (by decide)).1;unfold World.cell? at hc
  cases e:W.heap[1]? with
  | none => rw [e] at hc;cases hc
  | some o => obtain ⟨h1,_⟩:=Array.getElem?_eq_some_iff.1 e;omega
theorem witness_row (os:Os) {H:Type} (enc:TypeId × Value → H) :
    (Rows.OpenSpec.upto Rows.orthographyTextSpec).preRow enc Tryz.prog Tryz.f4 Rows.orthographyTextUptoRow.domain false Rows.orthographyTextUptoRow.laid ((laidWorld os).forCall (fun _ _ => 0) ⟨#[],#[.agg #[.string ByteArray.empty,.bool false,.slice none 0 0,.slice none 0 0,.slice none 0 0,.slice none 0 0,.slice none 0 0,.int .i64 0,.int .i64 0,.slice none 0 0,.int .i64 0,.slice none 0 0,.slice none 0 0,.bool false,.string ByteArray.empty,.int .i64 0,.string ByteArray.empty,.bool false,.int .i64 0,.int .i64 0,.slice none 0 0,.slice none 0 0,.slice none 0 0,.slice none 0 0,.slice none 0 0,.bool false,.slice none 0 0,.slice none 0 0,.slice none 0 0,.string ByteArray.empty],.slice none 0 0],[]⟩).memory #[.agg #[.string ByteArray.empty,.bool false,.slice none 0 0,.slice none 0 0,.slice none 0 0,.slice none 0 0,.slice none 0 0,.int .i64 0,.int .i64 0,.slice none 0 0,.int .i64 0,.slice none 0 0,.slice none 0 0,.bool false,.string ByteArray.empty,.int .i64 0,.string ByteArray.empty,.bool false,.int .i64 0,.int .i64 0,.slice none 0 0,.slice none 0 0,.slice none 0 0,.slice none 0 0,.slice none 0 0,.bool false,.slice none 0 0,.slice none 0 0,.slice none 0 0,.string ByteArray.empty],.slice none 0 0]:=by
  have hw:(DataW.whole enc Tryz.prog ((laidWorld os).forCall (fun _ _ => 0) ⟨#[],#[.agg #[.string ByteArray.empty,.bool false,.slice none 0 0,.slice none 0 0,.slice none 0 0,.slice none 0 0,.slice none 0 0,.int .i64 0,.int .i64 0,.slice none 0 0,.int .i64 0,.slice none 0 0,.slice none 0 0,.bool false,.string ByteArray.empty,.int .i64 0,.string ByteArray.empty,.bool false,.int .i64 0,.int .i64 0,.slice none 0 0,.slice none 0 0,.slice none 0 0,.slice none 0 0,.slice none 0 0,.bool false,.slice none 0 0,.slice none 0 0,.slice none 0 0,.string ByteArray.empty],.slice none 0 0],[]⟩).memory Tryz.f4.params.toList (Rows.OpenSpec.upto Rows.orthographyTextSpec).vars false (#[.agg #[.string ByteArray.empty,.bool false,.slice none 0 0,.slice none 0 0,.slice none 0 0,.slice none 0 0,.slice none 0 0,.int .i64 0,.int .i64 0,.slice none 0 0,.int .i64 0,.slice none 0 0,.slice none 0 0,.bool false,.string ByteArray.empty,.int .i64 0,.string ByteArray.empty,.bool false,.int .i64 0,.int .i64 0,.slice none 0 0,.slice none 0 0,.slice none 0 0,.slice none 0 0,.slice none 0 0,.bool false,.slice none 0 0,.slice none 0 0,.slice none 0 0,.string ByteArray.empty],.slice none 0 0]:Array Value).toList 8).map (fun x => (x.1,x.2.1)) =
      some ([.agg [.lit (.string []),.lit (.bool false),.agg [.nil,.nil,.nil,.nil],.agg [.nil,.lit (.int .i64 0),.lit (.int .i64 0)],.nil,.agg [.lit (.int .i64 0),.nil,.nil,.lit (.bool false),.lit (.string []),.lit (.int .i64 0),.lit (.string []),.lit (.bool false)],.agg [.lit (.int .i64 0),.lit (.int .i64 0),.nil,.nil,.nil,.nil,.nil,.lit (.bool false)],.nil,.nil,.nil,.lit (.string [])],.nil],[]):=by kernel_rfl
  obtain ⟨⟨x1,x2,x3⟩,hx,hx1⟩:=Option.map_eq_some_iff.1 hw;simp only [Prod.mk.injEq] at hx1;obtain ⟨rfl,rfl⟩:=hx1;exact OpenSpec.preRow_of_cond 8 hx (by kernel_rfl) (fun k hk => by cases hk;kernel_rfl) (by kernel_rfl) (laid_met os _)
set_option maxRecDepth 100000 in
set_option maxHeartbeats 2000000 in
theorem lifted (os:Os) (started:os.Started) (H:Type) (enc:TypeId × Value → H) (F:Stop.Interp) :
    ReturnsInHanded {} Tryz.checked os 4 .any ((Rows.OpenSpec.upto Rows.orthographyTextSpec).preRow enc Tryz.prog Tryz.f4 Rows.orthographyTextUptoRow.domain false Rows.orthographyTextUptoRow.laid) (((Rows.OpenSpec.upto Rows.orthographyTextSpec).at F).post enc Tryz.prog Tryz.f4 false true false false):=by
  refine returnsInHanded_of_row (C:=Tryz.checked) (s:=Rows.OpenSpec.upto Rows.orthographyTextSpec) own started (by kernel_rfl) Tryz.func4
    (witness_row_atRef (enc:=enc) (C:=Tryz.checked) false (laidWorld os) #[.agg #[.string ByteArray.empty,.bool false,.slice none 0 0,.slice none 0 0,.slice none 0 0,.slice none 0 0,.slice none 0 0,.int .i64 0,.int .i64 0,.slice none 0 0,.int .i64 0,.slice none 0 0,.slice none 0 0,.bool false,.string ByteArray.empty,.int .i64 0,.string ByteArray.empty,.bool false,.int .i64 0,.int .i64 0,.slice none 0 0,.slice none 0 0,.slice none 0 0,.slice none 0 0,.slice none 0 0,.bool false,.slice none 0 0,.slice none 0 0,.slice none 0 0,.string ByteArray.empty],.slice none 0 0] rfl (by kernel_rfl) (by kernel_rfl) (by kernel_rfl) (witness_row os enc)) ?_
  intro W base args ds gs before hval0 hW hcnd hc _ hL _ _;have hT:=tabs_of hL;have hk:=hc _ rfl;have hval:∀ (j:Nat) t v,Tryz.f4.params[j]? = some t → args[j]? = some v → Value.okWide Tryz.prog W .any base t v:=hval0;have hW':=hW;obtain ⟨p,q,hA0,hV,rfl,hfz,hnd⟩:=hW;have hA:DataW.TrodAll enc Tryz.prog W 0 (fun _ => true) true Tryz.f4.params.toList args.toList ds p:=hA0;rw [Tryz.params4] at hA hval;obtain ⟨v0,vs0,d0,ds0,p0,q0,hargs,rfl,rfl,h0,r0⟩:=trodAll_cons hA;obtain ⟨v1,vs1,d1,ds1,p1,q1,rfl,rfl,rfl,h1,r1⟩:=trodAll_cons r0;obtain ⟨rfl,rfl,rfl⟩:=trodAll_nil r1
  obtain rfl:args = #[v0,v1]:=by cases args;simp_all
  obtain ⟨rfl,rfl⟩:=trodVars_none hV;have hbb:=bound hk;have k0:=h0
  have lt0:∀ x ∈ p0,x.block < W.heap.size:=by obtain ⟨m,hm⟩:=k0;exact DataW.trod_lt m _ _ _ hm
  obtain ⟨fuel0,hf0⟩:=h0;obtain ⟨⟨a_0,a_1,⟨l_2,l_3,l_4,l_5⟩,⟨l_6,a_7,a_8⟩,l_9,⟨a_a,l_b,l_c,a_d,a_e,a_f,a_g,a_h⟩,⟨a_i,a_j,l_k,l_l,l_m,l_n,l_o,a_p⟩,l_q,l_r,l_s,a_t⟩,hK0,hg0,hb0⟩:=Zfl.go hf0;obtain ⟨cs0,rfl⟩:=Zl4 Tryz.underlying41 (hval 0 41 v0 rfl rfl);obtain ⟨z59,y59,hcs0,rfl,⟨z60,y60,rfl,rfl,⟨z61,y61,rfl,⟨z62,y62,rfl,⟨A_2,c_2,rfl,m_2,g_2⟩,⟨z63,y63,rfl,⟨A_3,c_3,rfl,m_3,g_3⟩,⟨z64,y64,rfl,⟨A_4,c_4,rfl,m_4,g_4⟩,⟨A_5,c_5,rfl,m_5,g_5⟩⟩⟩⟩,⟨z65,y65,rfl,⟨z66,y66,rfl,⟨A_6,c_6,rfl,m_6,g_6⟩,⟨z67,y67,rfl,rfl,rfl⟩⟩,⟨z68,y68,rfl,⟨A_9,c_9,rfl,m_9,g_9⟩,⟨z69,y69,rfl,⟨z70,y70,rfl,rfl,⟨z71,y71,rfl,⟨A_b,c_b,rfl,m_b,g_b⟩,⟨z72,y72,rfl,⟨A_c,c_c,rfl,m_c,g_c⟩,⟨z73,y73,rfl,rfl,⟨z74,y74,rfl,rfl,⟨z75,y75,rfl,rfl,⟨z76,y76,rfl,rfl,rfl⟩⟩⟩⟩⟩⟩⟩,⟨z77,y77,rfl,⟨z78,y78,rfl,rfl,⟨z79,y79,rfl,rfl,⟨z80,y80,rfl,⟨A_k,c_k,rfl,m_k,g_k⟩,⟨z81,y81,rfl,⟨A_l,c_l,rfl,m_l,g_l⟩,⟨z82,y82,rfl,⟨A_m,c_m,rfl,m_m,g_m⟩,⟨z83,y83,rfl,⟨A_n,c_n,rfl,m_n,g_n⟩,⟨z84,y84,rfl,⟨A_o,c_o,rfl,m_o,g_o⟩,rfl⟩⟩⟩⟩⟩⟩⟩,⟨z85,y85,rfl,⟨A_q,c_q,rfl,m_q,g_q⟩,⟨z86,y86,rfl,⟨A_r,c_r,rfl,m_r,g_r⟩,⟨z87,y87,rfl,⟨A_s,c_s,rfl,m_s,g_s⟩,rfl⟩⟩⟩⟩⟩⟩⟩⟩⟩⟩:=hK0
  obtain rfl:cs0 = #[.string a_0,.bool a_1,.slice A_2 l_2.length c_2,.slice A_3 l_3.length c_3,.slice A_4 l_4.length c_4,.slice A_5 l_5.length c_5,.slice A_6 l_6.length c_6,.int .i64 a_7,.int .i64 a_8,.slice A_9 l_9.length c_9,.int .i64 a_a,.slice A_b l_b.length c_b,.slice A_c l_c.length c_c,.bool a_d,.string a_e,.int .i64 a_f,.string a_g,.bool a_h,.int .i64 a_i,.int .i64 a_j,.slice A_k l_k.length c_k,.slice A_l l_l.length c_l,.slice A_m l_m.length c_m,.slice A_n l_n.length c_n,.slice A_o l_o.length c_o,.bool a_p,.slice A_q l_q.length c_q,.slice A_r l_r.length c_r,.slice A_s l_s.length c_s,.string a_t]:=by cases cs0;simpa [Value.cells] using hcs0
  have k1:=h1
  have lt1:∀ x ∈ p1,x.block < W.heap.size:=by obtain ⟨m,hm⟩:=k1;exact DataW.trod_lt m _ _ _ hm
  obtain ⟨fuel1,hf1⟩:=h1;obtain ⟨l1,hK1,hg1,hb1⟩:=Zmk.go hf1;obtain ⟨A1,len1,c1,rfl⟩:=okWide_slice Tryz.underlying49 (hval 1 49 v1 rfl rfl);obtain ⟨A1',c1',hcs1,m1,g1⟩:=hK1
  obtain ⟨rfl,rfl,rfl⟩:A1 = A1' ∧ len1 = l1.length ∧ c1 = c1':=by simpa [Value.cells] using hcs1
  have hq0:(Ms.pair Ms.string (Ms.pair Ms.bool (Ms.pair (Ms.pair (Ms.slice ms68) (Ms.pair (Ms.slice ms73) (Ms.pair (Ms.slice Z7i) (Ms.slice Z7h)))) (Ms.pair (Ms.pair (Ms.slice (Ms.slice (Ms.int .u32))) (Ms.pair (Ms.int .i64) (Ms.int .i64))) (Ms.pair (Ms.slice ms73) (Ms.pair (Ms.pair (Ms.int .i64) (Ms.pair (Ms.slice Ms.string) (Ms.pair (Ms.slice Ms.string) (Ms.pair Ms.bool (Ms.pair Ms.string (Ms.pair (Ms.int .i64) (Ms.pair Ms.string Ms.bool))))))) (Ms.pair (Ms.pair (Ms.int .i64) (Ms.pair (Ms.int .i64) (Ms.pair (Ms.slice Z4n) (Ms.pair (Ms.slice Z4n) (Ms.pair (Ms.slice Ms.string) (Ms.pair (Ms.slice Ms.string) (Ms.pair (Ms.slice Ms.string) Ms.bool))))))) (Ms.pair (Ms.slice Z86) (Ms.pair (Ms.slice Z85) (Ms.pair (Ms.slice Z84) Ms.string)))))))))).bulk (a_0,a_1,(l_2,l_3,l_4,l_5),(l_6,a_7,a_8),l_9,(a_a,l_b,l_c,a_d,a_e,a_f,a_g,a_h),(a_i,a_j,l_k,l_l,l_m,l_n,l_o,a_p),l_q,l_r,l_s,a_t) ≤ Rows.uptoBulk d0:=hb0;have hq1:(Ms.slice (Ms.slice Ms.string)).bulk l1 ≤ Rows.uptoBulk d1:=hb1
  have hbulk:(Ms.pair Ms.string (Ms.pair Ms.bool (Ms.pair (Ms.pair (Ms.slice ms68) (Ms.pair (Ms.slice ms73) (Ms.pair (Ms.slice Z7i) (Ms.slice Z7h)))) (Ms.pair (Ms.pair (Ms.slice (Ms.slice (Ms.int .u32))) (Ms.pair (Ms.int .i64) (Ms.int .i64))) (Ms.pair (Ms.slice ms73) (Ms.pair (Ms.pair (Ms.int .i64) (Ms.pair (Ms.slice Ms.string) (Ms.pair (Ms.slice Ms.string) (Ms.pair Ms.bool (Ms.pair Ms.string (Ms.pair (Ms.int .i64) (Ms.pair Ms.string Ms.bool))))))) (Ms.pair (Ms.pair (Ms.int .i64) (Ms.pair (Ms.int .i64) (Ms.pair (Ms.slice Z4n) (Ms.pair (Ms.slice Z4n) (Ms.pair (Ms.slice Ms.string) (Ms.pair (Ms.slice Ms.string) (Ms.pair (Ms.slice Ms.string) Ms.bool))))))) (Ms.pair (Ms.slice Z86) (Ms.pair (Ms.slice Z85) (Ms.pair (Ms.slice Z84) Ms.string)))))))))).bulk (a_0,a_1,(l_2,l_3,l_4,l_5),(l_6,a_7,a_8),l_9,(a_a,l_b,l_c,a_d,a_e,a_f,a_g,a_h),(a_i,a_j,l_k,l_l,l_m,l_n,l_o,a_p),l_q,l_r,l_s,a_t) + (Ms.slice (Ms.slice Ms.string)).bulk l1 ≤ 1048576:=by simp only [List.append_nil,Rows.uptoBulkAll] at hbb;omega
  obtain ⟨kk,hh⟩:=PuOrthographyText.ProvedUpto ⟨a_0,a_1,l_2,l_3,l_4,l_5,l_6,a_7,a_8,l_9,a_a,l_b,l_c,a_d,a_e,a_f,a_g,a_h,a_i,a_j,l_k,l_l,l_m,l_n,l_o,a_p,l_q,l_r,l_s,a_t⟩ l1 hg0 hg1 hbulk
  refine (Z04.calls kk ⟨a_0,a_1,l_2,l_3,l_4,l_5,l_6,a_7,a_8,l_9,a_a,l_b,l_c,a_d,a_e,a_f,a_g,a_h,a_i,a_j,l_k,l_l,l_m,l_n,l_o,a_p,l_q,l_r,l_s,a_t⟩ ⟨A_2,c_2,A_3,c_3,A_4,c_4,A_5,c_5,A_6,c_6,A_9,c_9,A_b,c_b,A_c,c_c,A_k,c_k,A_l,c_l,A_m,c_m,A_n,c_n,A_o,c_o,A_q,c_q,A_r,c_r,A_s,c_s⟩ A1 c1 l1 true W hT ⟨g_2,m_2,g_3,m_3,g_4,m_4,g_5,m_5,g_6,m_6,g_9,m_9,g_b,m_b,g_c,m_c,g_k,m_k,g_l,m_l,g_m,m_m,g_n,m_n,g_o,m_o,g_q,m_q,g_r,m_r,g_s,m_s⟩ g1 m1 hh).mono fun e W' ⟨he,hd⟩ => ?_
  have bel:Below W.heap.size W W':=hd;subst he;exact ⟨_,rfl,_,_,_,[],_,[],hW',trodAll_mk1 (shut_bool Tryz.underlying4 _),(trodAll_cons_mk (Below.trod laidOut (by kernel_rfl) (of_decide_eq_true (by kernel_rfl)) k0 bel lt0) (trodAll_cons_mk (Below.trod laidOut (by kernel_rfl) (of_decide_eq_true (by kernel_rfl)) k1 bel lt1) trodAll_mk0)),rfl,bel.frame _,fun h => by cases h⟩
theorem over:Rows.orthographyTextUptoRow.holds Tryz.pinned (Rows.OpenSpec.upto Rows.orthographyTextSpec) :=
  OpenClaim.holds_of_cond 4 Tryz.f4 rfl rfl rfl rfl rfl rfl rfl ⟨rfl,rfl,rfl,rfl,rfl⟩ rfl rfl rfl rfl rfl (by kernel_rfl) Tryz.func4 (by kernel_rfl)
    (of_decide_eq_true (by kernel_rfl)) (by unfold Func.isWrapper;first | (rw [if_pos (by decide +kernel)];kernel_rfl) | (rw [if_neg (by decide +kernel)];exact ⟨rfl,rfl⟩))
    (fun os started H enc _ F => by rw [OpenClaim.pre_eq_preRow];exact lifted os started H enc F)
theorem said:Rows.OrthographyTextUptoSaid:=over
theorem plain (f:FuncId) (fn:Func) (hf:Tryz.pinned.checked.prog.funcNamed "pentaglot/pentaglotlaw42.OrthographyText" = some f) (hfn:Tryz.pinned.checked.prog.funcs[f]? = some fn) :
    false = Tryz.pinned.checked.prog.looks [] ∧ ∀ (j:Nat) t,fn.params[j]? = some t → Tryz.pinned.checked.prog.wantsStandIn t = false:=by
  obtain rfl:f = 4:=Option.some.inj ((show Tryz.prog.funcNamed "pentaglot/pentaglotlaw42.OrthographyText" = some 4 by kernel_rfl).symm.trans hf) |>.symm
  obtain rfl:fn = Tryz.f4:=(Option.some.inj (Tryz.func4.symm.trans hfn)).symm
  refine ⟨by kernel_rfl,fun j t ht => ?_⟩
  rw [Tryz.params4] at ht
  have hm:t = 41 ∨ t = 49:=by simpa using Array.mem_of_getElem? ht
  rcases hm with rfl | rfl
  · exact (show Tryz.prog.wantsStandIn 41 = false by kernel_rfl)
  · exact (show Tryz.prog.wantsStandIn 49 = false by kernel_rfl)
theorem proved:Rows.OrthographyTextUptoCardSaid :=
  Claim7.holds_tied_plain_at .later [] _ _ _ _ said (fun _ h => by cases h) (by kernel_rfl) (fun _ h => by cases h) orthographyTextUpto_row_tie rfl ⟨rfl,rfl⟩ (by kernel_rfl) rfl plain (by kernel_rfl)
#print axioms proved
end Go.Proofs.YtfbhdjflkaldgaaGreatDoor.orthographyTextUpto
