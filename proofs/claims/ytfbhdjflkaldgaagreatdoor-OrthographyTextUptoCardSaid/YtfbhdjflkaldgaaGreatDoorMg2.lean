/- Several texts in one: Ct, Alph, OrU, OrR, Shelf. -/
import Derived.Test.YtfbhdjflkaldgaaGreatDoorMg1
import Derived.Maps.Own
import Derived.Maps.OwnSet
import Derived.Maps.OwnOps
import Derived.Maps.Views
import Derived.Maps.Keyed
import Derived.Lib.MapLaws
import Derived.Lib.ValidLaws
import Derived.Lib.TrimUEq
import Derived.Lib.OthersKept
import Derived.Laws.RangeString
import Derived.Laws.RangeAny
import Derived.WalkSmall
import Derived.WalkArith
import Derived.Shelf.Strings.Builder1
import Derived.Shelf.Strings.Builder2
import Derived.Shelf.Strings.OnBuilder
import Derived.Shelf.Small.Utf8
import Derived.Shelf.Small.Strs
import Derived.Shelf.Small.Wraps
import Derived.Shelf.Strings.BuilderF
import Derived.Shelf.Strings.BuilderK
import Derived.Shelf.Strings.BuilderRune
import Derived.Shelf.Utf8.AppendRune
import Derived.Shelf.Utf8.RuneCount
import Derived.Shelf.Strings.Search1
import Derived.Shelf.Strings.Prefix
import Derived.Shelf.Unicode.Decode
import Derived.Shelf.Strings.RuneCount
import Derived.Shelf.Unicode.DecodeSlow
import Derived.Shelf.Unicode.DecodeAny
import Derived.Test.YtfbhdjflkaldgaaGreatDoorProg
import Derived.Shelf.Unicode.ValidAny
import Derived.Ground.NamesProg
/- Short names for rows that the printed walks repeat: each theorem bears its proof's steps as a default. -/
/- The index of each rune of an alphabet: the map that alphabet.indices makes. -/
/- UTF-8, on lists of bytes: what is decoded and encoded again. -/
/- The runes of a string from a place on; its iterator. -/
/-
  DERIVED: THE SHELF's CONTRACTS AT THIS DUMP, IN PLAIN WORDS (tools/lay-plain.mjs out of 'TryzShelf.lean', which tools/lay-shelf.mjs wrote): THE SAME DECLARATIONS UNDER THE SAME NAMES: 'import', 'namespace', 'open', 'def', 'theorem' AND NOTHING ELSE: no command of the shelf's: FOR A HAND-IN. Each laying: the table of numbers ('.._ren') and one theorem, a field a fact of the dump's own or the kernel's comparison; each contract: ONE APPLICATION.
-/
namespace Go.Proofs.YtfbhdjflkaldgaaGreatDoor.Ct
open Go.RowKit Go.Proofs.YtfbhdjflkaldgaaGreatDoorW.PrintWords Go.Proofs.YtfbhdjflkaldgaaGreatDoorW.PrintLast Go.Proofs.YtfbhdjflkaldgaaGreatDoorW.PrintMore
set_option linter.unusedVariables false
theorem am {P:Prop} (h:P):Aside0 P:=⟨h⟩
theorem Z4o:(Value.slice none 0 0).ownBlock = none:=rfl
theorem tB {P Q:Prop} (q:Aside0 Q) (h:Q → P:=by intro h_;repeat (first | (with_reducible first | exact h_ | apply below_alloc | apply pw_below_drewN | apply below_drew1 | refine below_set ?_ (Aside0.out (by assumption))) | exact h_)):P:=h q.out
theorem tS {w w0 W:World} (q:Aside0 (Below w.heap.size w w0)) (h:Below w.heap.size w w0 → Below w.heap.size w W:=by intro h_;repeat (first | (with_reducible first | exact h_ | apply below_alloc | apply pw_below_drewN | apply below_drew1 | refine below_set ?_ (Aside0.out (by assumption))) | exact h_)):w.heap.size ≤ W.heap.size:=below_size (h q.out)
theorem Zfm {w:World} {g:Nat} {o:Obj} {p:Addr} {u:Value} (hp:Aside0 (g ≠ p.block)) (h:w.heap[g]? = some o):(w.setCell p u).heap[g]? = some o:=(Below.heap_setCell w p u g hp.out).trans h
theorem tK {w0 w1:World} {g:Nat} {o:Obj} (q:Aside0 (w0.heap[g]? = some o)) (h:w0.heap[g]? = some o → w1.heap[g]? = some o:=by intro h_;(repeat (with_reducible first | refine blk_drewN ?_ _ | refine blk_drew ?_ | refine blk_alloc ?_ _ | (refine Zfm ?_ ?_;focus assumption) | apply blk_put));(exact h_);all_goals rfl):w1.heap[g]? = some o:=h q.out
theorem tKp {w0 w1:World} {g:Nat} {o o':Obj} (q:Aside0 (w0.heap[g]? = some o)) (h:w0.heap[g]? = some o → w1.heap[g]? = some o':=by intro h_;(repeat (with_reducible first | refine blk_drewN ?_ _ | refine blk_drew ?_ | refine blk_alloc ?_ _ | (refine Zfm ?_ ?_;focus assumption) | apply blk_put));(exact h_);all_goals rfl):w1.heap[g]? = some o':=h q.out
theorem Zl6 {α:Type} {d:Kd α} {e base:Nat} {ok ok':Nat → Prop} {w w':World} {v:Value} {xs:List α} (h:Kd.R d e w base ok v xs) (hs:Kd.R d e w base ok v xs → Kd.R d e w' base ok v xs) (hok:∀ k,ok k → ok' k):Kd.R d e w' base ok' v xs:=Kd.R_mono (hs h) hok
theorem dR {P Q:Prop} (q:Aside0 Q) (h:Q → P:=by
  intro h_
  first
  | ((repeat (with_reducible first | apply Kd.R_alloc | apply Kd.R_drewN | apply Kd.R_drew));(with_reducible exact h_))
  | (refine Zl6 h_ ?_ (by with_reducible exact (fun _ h_ => h_));intro h_;(repeat (first | (with_reducible first | apply Kd.R_alloc | apply Kd.R_drewN | apply Kd.R_drew) | ((with_reducible refine Zl5 ?_ ?_);(intro k_ hk_;(try dsimp only at hk_);(try simp only [and_assoc] at hk_);repeat (first | exact hk_ | exact hk_.1 | replace hk_:=hk_.2)))));(with_reducible exact h_))
  | (refine Zl6 h_ ?_ ?_;(focus (intro h_;(repeat (first | (with_reducible first | apply Kd.R_alloc | apply Kd.R_drewN | apply Kd.R_drew) | ((with_reducible refine Zl5 ?_ ?_);(intro k_ hk_;(try dsimp only at hk_);(try simp only [and_assoc] at hk_);repeat (first | exact hk_ | exact hk_.1 | replace hk_:=hk_.2)))));(with_reducible exact h_)));(focus (intro k_ hk_;first | exact trivial | ((try dsimp only at hk_ ⊢);simp only [hk_,ne_eq,not_false_eq_true,and_self,Z4o,reduceCtorEq]))))):P:=h q.out
theorem Zlb {α:Type} {d:Kd α} {e base:Nat} {ok:Nat → Prop} {w:World} {v:Value} {xs:List α} {p:Addr} {u:Value} (hok:∀ k,ok k → k ≠ p.block) (h:Kd.S d e w base ok v xs):Kd.S d e (w.setCell p u) base ok v xs:=Kd.S_far h hok u
theorem Zlc {α:Type} {d:Kd α} {e base:Nat} {ok ok':Nat → Prop} {w w':World} {v:Value} {xs:List α} (h:Kd.S d e w base ok v xs) (hs:Kd.S d e w base ok v xs → Kd.S d e w' base ok v xs) (hok:∀ k,ok k → ok' k):Kd.S d e w' base ok' v xs:=Kd.S_mono (hs h) hok
theorem dS {P Q:Prop} (q:Aside0 Q) (h:Q → P:=by
  intro h_
  first
  | ((repeat (with_reducible first | apply Kd.S_alloc | apply Kd.S_drewN | apply Kd.S_drew));(with_reducible exact h_))
  | (refine Zlc h_ ?_ (by with_reducible exact (fun _ h_ => h_));intro h_;(repeat (first | (with_reducible first | apply Kd.S_alloc | apply Kd.S_drewN | apply Kd.S_drew) | ((with_reducible refine Zlb ?_ ?_);(intro k_ hk_;(try dsimp only at hk_);(try simp only [and_assoc] at hk_);repeat (first | exact hk_ | exact hk_.1 | replace hk_:=hk_.2)))));(with_reducible exact h_))
  | (refine Zlc h_ ?_ ?_;(focus (intro h_;(repeat (first | (with_reducible first | apply Kd.S_alloc | apply Kd.S_drewN | apply Kd.S_drew) | ((with_reducible refine Zlb ?_ ?_);(intro k_ hk_;(try dsimp only at hk_);(try simp only [and_assoc] at hk_);repeat (first | exact hk_ | exact hk_.1 | replace hk_:=hk_.2)))));(with_reducible exact h_)));(focus (intro k_ hk_;first | exact trivial | ((try dsimp only at hk_ ⊢);simp only [hk_,ne_eq,not_false_eq_true,and_self,Z4o,reduceCtorEq]))))):P:=h q.out
theorem tC {P Q R:Prop} (q:Aside0 Q) (b:Aside0 R) (h:Q → R → P:=by intro q_ b_;repeat (first | exact (Kd.C_below q_ b_) | (with_reducible refine Kd.C_alloc ?_ _) | (with_reducible refine Kd.C_drewN ?_ _) | (with_reducible refine Kd.C_drew ?_))):P:=h q.out b.out
theorem tL {g g':Nat} {W:World} {o:Obj} (hg:g' = W.heap.size) (h:W.heap[g]? = some o):Aside0 (g ≠ g'):=⟨by rw [hg];exact Nat.ne_of_lt (blk_lt h)⟩
theorem tG {g g':Nat} {W:World} {o:Obj} (hg:g' = W.heap.size) (h:W.heap[g]? = some o):Aside0 (g' ≠ g):=⟨by rw [hg];exact Nat.ne_of_gt (blk_lt h)⟩
theorem tZ {a g:Nat} {W:World} (hg:g = W.heap.size) (h:a ≤ W.heap.size):Aside0 (a ≤ g):=⟨by rw [hg];exact h⟩
theorem tV1 {P:Prop} (h:P:=by first | rfl | (simp;done) | (simp [*];done)):P:=h
theorem tU {P:Prop} (h:P:=by first | omega | exact Nat.le_refl _):P:=h
theorem eP2 {a b:Nat} (h:(a:Int) = (b:Int)):((a:Int) == (b:Int)) = true ∧ ((a:Int) != (b:Int)) = false ∧ (a == b) = true:=⟨beq_iff_eq.mpr h,bne_eq_false_iff_eq.mpr h,beq_iff_eq.mpr (Int.ofNat.inj h)⟩
theorem eN2 {a b:Nat} (h:¬ (a:Int) = (b:Int)):((a:Int) == (b:Int)) = false ∧ ((a:Int) != (b:Int)) = true ∧ (a == b) = false:=⟨beq_eq_false_iff_ne.mpr h,bne_iff_ne.mpr h,beq_eq_false_iff_ne.mpr (fun e => h (congrArg _ e))⟩
theorem cel1 {w:World} {g:Nat} {t:TypeId} {cs:Array Value} (h:Aside0 (w.heap[g]? = some (.cells cs t (0,0)))) (i:Nat) {v:Value} (e:cs[i]? = some v):w.cell? ⟨g,i,none⟩ = some v:=(blk_cell h.out i).trans e
theorem cel2 {w:World} {g:Nat} {t:TypeId} {cs:List Value} (h:Aside0 (w.heap[g]? = some (.cells ⟨cs⟩ t (0,0)))) (i:Nat) {v:Value} (e:cs[i]? = some v):w.cell? ⟨g,i,none⟩ = some v:=(blk_cell h.out i).trans (by simpa using e)
theorem celB {w w1:World} {a:Addr} {v:Value} (h:Aside0 (Below w.heap.size w w1)) (hc:w.cell? a = some v):w1.cell? a = some v:=(h.out.cell (World.block_lt_of_cell? w _ hc)).trans hc
theorem Z0z {P:Program} {ops:Array Oper} {rest:List Oper} {o:Oper} {a:Act} {W:World} {Q:Exit → Act → World → Prop} {t:TypeId} {p:Tmp} (_ho:o.op = .load t (.tmp p)) (h:wpList P ops Q (o :: rest) a W):wpList P ops Q (o :: rest) a W:=h
theorem Z5b {P:Program} {o:Oper} {a:Act} {w:World} (ty:TypeId) (x:Operand) (ho:o.op = .load ty x) (g:Nat) (hx:a.eval x = .pointer (some ⟨g,0,none⟩)) (t:TypeId) (cs:Array Value) (d:TypeDesc) (hg:w.heap[g]? = some (.cells cs t (0,0)))
    (hu:P.underlying ty = some d) (hd:(match d with | .struct _ | .array _ _ => true | _ => false) = true) (hi:(P.info? ty).map (·.size) = some cs.size):(execOp a.eval o).run P w = .ok (.value (.agg cs)) w:=by
  unfold execOp;simp only [ho,hx,Instr.loadAt,Instr.sureAddr,Sem.run_bind,Sem.run_pure,Result.andThen_ok,run_loadVar_row w g t ty cs (0,0) d hg hu hd hi]
theorem oD {p:Prop} [Decidable p] (h:decide p = true:=by first | (with_reducible assumption) | assumption):p:=of_decide_eq_true h
theorem tE {P:Prop} (h:P:=by first | rfl | (simp [Z3e,Z3f] <;> rfl) | (simp [*,Z3e,Z3f] <;> rfl)):P:=h
theorem zel1 {w:World} {g:Nat} {t:TypeId} {cs:Array Value} (h:Aside0 (w.heap[g]? = some (.cells cs t (0,0)))) (i:Nat):w.frozen? ⟨g,i,none⟩ = false:=blk_frozen h.out i
theorem bx2 {w:World} {g:Nat} {t:TypeId} {v0 v1:Value} (h:Aside0 (w.heap[g]? = some (.cells #[v0,v1] t (0,0)))):w.cell? ⟨g,0,none⟩ = some v0 ∧ w.cell? ⟨g,1,none⟩ = some v1 ∧ w.frozen? ⟨g,0,none⟩ = false ∧ w.frozen? ⟨g,1,none⟩ = false:=⟨cel1 h 0 rfl,cel1 h 1 rfl,zel1 h 0,zel1 h 1⟩
theorem bx4 {w:World} {g:Nat} {t:TypeId} {v0 v1 v2 v3:Value} (h:Aside0 (w.heap[g]? = some (.cells #[v0,v1,v2,v3] t (0,0)))):w.cell? ⟨g,0,none⟩ = some v0 ∧ w.cell? ⟨g,1,none⟩ = some v1 ∧ w.cell? ⟨g,2,none⟩ = some v2 ∧ w.cell? ⟨g,3,none⟩ = some v3 ∧ w.frozen? ⟨g,0,none⟩ = false ∧ w.frozen? ⟨g,1,none⟩ = false ∧ w.frozen? ⟨g,2,none⟩ = false ∧ w.frozen? ⟨g,3,none⟩ = false:=⟨cel1 h 0 rfl,cel1 h 1 rfl,cel1 h 2 rfl,cel1 h 3 rfl,zel1 h 0,zel1 h 1,zel1 h 2,zel1 h 3⟩
theorem bx6 {w:World} {g:Nat} {t:TypeId} {v0 v1 v2 v3 v4 v5:Value} (h:Aside0 (w.heap[g]? = some (.cells #[v0,v1,v2,v3,v4,v5] t (0,0)))):w.cell? ⟨g,0,none⟩ = some v0 ∧ w.cell? ⟨g,1,none⟩ = some v1 ∧ w.cell? ⟨g,2,none⟩ = some v2 ∧ w.cell? ⟨g,3,none⟩ = some v3 ∧ w.cell? ⟨g,4,none⟩ = some v4 ∧ w.cell? ⟨g,5,none⟩ = some v5 ∧ w.frozen? ⟨g,0,none⟩ = false ∧ w.frozen? ⟨g,1,none⟩ = false ∧ w.frozen? ⟨g,2,none⟩ = false ∧ w.frozen? ⟨g,3,none⟩ = false ∧ w.frozen? ⟨g,4,none⟩ = false ∧ w.frozen? ⟨g,5,none⟩ = false:=⟨cel1 h 0 rfl,cel1 h 1 rfl,cel1 h 2 rfl,cel1 h 3 rfl,cel1 h 4 rfl,cel1 h 5 rfl,zel1 h 0,zel1 h 1,zel1 h 2,zel1 h 3,zel1 h 4,zel1 h 5⟩
open Go.Proofs.YtfbhdjflkaldgaaGreatDoor.Pr
structure Lg where
  v0:ByteArray
  v1:Bool
  v2:List (S68)
  v3:List (S73)
  v4:List (S188)
  v5:List (S191)
  v6:List (List Int)
  v7:Int
  v8:Int
  v9:List (S73)
  va:Int
  vb:List ByteArray
  vc:List ByteArray
  vd:Bool
  ve:ByteArray
  vf:Int
  vg:ByteArray
  vh:Bool
  vi:Int
  vj:Int
  vk:List (S194)
  vl:List (S194)
  vm:List ByteArray
  vn:List ByteArray
  vo:List ByteArray
  vp:Bool
  vq:List (S196)
  vr:List (S198)
  vs:List (S202)
  vt:ByteArray
structure La where
  A2:Option Addr
  c2:Nat
  A3:Option Addr
  c3:Nat
  A4:Option Addr
  c4:Nat
  A5:Option Addr
  c5:Nat
  A6:Option Addr
  c6:Nat
  A9:Option Addr
  c9:Nat
  Ab:Option Addr
  cb:Nat
  Ac:Option Addr
  cc:Nat
  Ak:Option Addr
  ck:Nat
  Al:Option Addr
  cl:Nat
  Am:Option Addr
  cm:Nat
  An:Option Addr
  cn:Nat
  Ao:Option Addr
  co:Nat
  Aq:Option Addr
  cq:Nat
  Ar:Option Addr
  cr:Nat
  As:Option Addr
  cs:Nat
@[reducible] def lcs (g:Lg) (p:La):Array Value:=#[.string g.v0,.bool g.v1,.slice p.A2 g.v2.length p.c2,.slice p.A3 g.v3.length p.c3,.slice p.A4 g.v4.length p.c4,.slice p.A5 g.v5.length p.c5,.slice p.A6 g.v6.length p.c6,.int .i64 g.v7,.int .i64 g.v8,.slice p.A9 g.v9.length p.c9,.int .i64 g.va,.slice p.Ab g.vb.length p.cb,.slice p.Ac g.vc.length p.cc,.bool g.vd,.string g.ve,.int .i64 g.vf,.string g.vg,.bool g.vh,.int .i64 g.vi,.int .i64 g.vj,.slice p.Ak g.vk.length p.ck,.slice p.Al g.vl.length p.cl,.slice p.Am g.vm.length p.cm,.slice p.An g.vn.length p.cn,.slice p.Ao g.vo.length p.co,.bool g.vp,.slice p.Aq g.vq.length p.cq,.slice p.Ar g.vr.length p.cr,.slice p.As g.vs.length p.cs,.string g.vt]
structure Z2o (g:Lg) (p:La) (w:World):Prop where
  r2:Kd.C k68 w p.A2 g.v2.length g.v2
  c2:g.v2.length ≤ p.c2
  r3:Kd.C k73 w p.A3 g.v3.length g.v3
  c3:g.v3.length ≤ p.c3
  r4:Kd.C k188 w p.A4 g.v4.length g.v4
  c4:g.v4.length ≤ p.c4
  r5:Kd.C k191 w p.A5 g.v5.length g.v5
  c5:g.v5.length ≤ p.c5
  r6:Kd.C (Kd.slice 66 (Kd.int .u32)) w p.A6 g.v6.length g.v6
  c6:g.v6.length ≤ p.c6
  r9:Kd.C k73 w p.A9 g.v9.length g.v9
  c9:g.v9.length ≤ p.c9
  rb:Kd.C Kd.string w p.Ab g.vb.length g.vb
  cb:g.vb.length ≤ p.cb
  rc:Kd.C Kd.string w p.Ac g.vc.length g.vc
  cc:g.vc.length ≤ p.cc
  rk:Kd.C k194 w p.Ak g.vk.length g.vk
  ck:g.vk.length ≤ p.ck
  rl:Kd.C k194 w p.Al g.vl.length g.vl
  cl:g.vl.length ≤ p.cl
  rm:Kd.C Kd.string w p.Am g.vm.length g.vm
  cm:g.vm.length ≤ p.cm
  rn:Kd.C Kd.string w p.An g.vn.length g.vn
  cn:g.vn.length ≤ p.cn
  ro:Kd.C Kd.string w p.Ao g.vo.length g.vo
  co:g.vo.length ≤ p.co
  rq:Kd.C k196 w p.Aq g.vq.length g.vq
  cq:g.vq.length ≤ p.cq
  rr:Kd.C k198 w p.Ar g.vr.length g.vr
  cr:g.vr.length ≤ p.cr
  rs:Kd.C k202 w p.As g.vs.length g.vs
  cs:g.vs.length ≤ p.cs
theorem Z2o.below {g:Lg} {p:La} {w W:World} (h:Z2o g p w) (hb:Below w.heap.size w W):Z2o g p W:=⟨Kd.C_below h.r2 hb,h.c2,Kd.C_below h.r3 hb,h.c3,Kd.C_below h.r4 hb,h.c4,Kd.C_below h.r5 hb,h.c5,Kd.C_below h.r6 hb,h.c6,Kd.C_below h.r9 hb,h.c9,Kd.C_below h.rb hb,h.cb,Kd.C_below h.rc hb,h.cc,Kd.C_below h.rk hb,h.ck,Kd.C_below h.rl hb,h.cl,Kd.C_below h.rm hb,h.cm,Kd.C_below h.rn hb,h.cn,Kd.C_below h.ro hb,h.co,Kd.C_below h.rq hb,h.cq,Kd.C_below h.rr hb,h.cr,Kd.C_below h.rs hb,h.cs⟩
theorem Z2o.alloc {g:Lg} {p:La} {w:World} (h:Z2o g p w) (o:Obj):Z2o g p (w.alloc o):=⟨Kd.C_alloc h.r2 o,h.c2,Kd.C_alloc h.r3 o,h.c3,Kd.C_alloc h.r4 o,h.c4,Kd.C_alloc h.r5 o,h.c5,Kd.C_alloc h.r6 o,h.c6,Kd.C_alloc h.r9 o,h.c9,Kd.C_alloc h.rb o,h.cb,Kd.C_alloc h.rc o,h.cc,Kd.C_alloc h.rk o,h.ck,Kd.C_alloc h.rl o,h.cl,Kd.C_alloc h.rm o,h.cm,Kd.C_alloc h.rn o,h.cn,Kd.C_alloc h.ro o,h.co,Kd.C_alloc h.rq o,h.cq,Kd.C_alloc h.rr o,h.cr,Kd.C_alloc h.rs o,h.cs⟩
theorem lB {g:Lg} {p:La} {w W:World} {R:Prop} (q:Aside0 (Z2o g p w)) (b:Aside0 R) (h:Z2o g p w → R → Z2o g p W:=by intro q_ b_;repeat (first | exact q_.below b_ | (with_reducible refine Z2o.alloc ?_ _) | (with_reducible refine Z2o.drewN ?_ _) | (with_reducible refine Z2o.drew ?_))):Z2o g p W:=h q.out b.out
theorem GpR {p:Prop} (h:p:=by simp only [Act.put,List.setIfInBounds_toArray,List.set_cons_zero,List.set_cons_succ,i64_w,i32_w];rfl):p:=h
theorem pK {P:Program} {ops:Array Oper} {Q:Exit → Act → World → Prop} {md:Region.Mode} {S:World → Prop} {ds:List Nat} {oi:Oper} {v:Value} {fuel:Nat} {l l':Array Bool} {a a':Act} {w:World} (i n:Nat) (h:wpAnyLast P md ops Q S ds fuel l' a' w) (hi:ops[i]? = some oi:=by rfl) (hN:oi.dst = some n:=by rfl) (hl:l.setIfInBounds i true = l':=by simp only [List.setIfInBounds_toArray,List.set_cons_zero,List.set_cons_succ];rfl) (hc:anyB md ops l l' i = true:=by kernel_rfl) (hQ:∀ c a w,Q (.panic c) (a.put oi.dst v) w → Q (.panic c) a w:=by exact (fun _ _ _ h => h)) (hy:Yields P ops oi v a:=by exact Or.inl ⟨by rfl,by intro w';go_simp;with_reducible rfl⟩) (ha:a.put (some n) v = a':=by exact GpR):wpAnyLast P md ops Q S ds (fuel + 1) l a w:=pure_ (N:=some n) l' hi hN hc hQ hy ha h
theorem pT {P:Program} {ops:Array Oper} {Q:Exit → Act → World → Prop} {md:Region.Mode} {S:World → Prop} {ds:List Nat} {oi:Oper} {v:Value} {fuel:Nat} {l l':Array Bool} {a a':Act} {w:World} (i n:Nat) (h:wpAnyLast P md ops Q S ds fuel l' a' w) (hi:ops[i]? = some oi:=by rfl) (hN:oi.dst = some n:=by rfl) (hl:l.setIfInBounds i true = l':=by simp only [List.setIfInBounds_toArray,List.set_cons_zero,List.set_cons_succ];rfl) (hc:anyB md ops l l' i = true:=by exact (any_of HT_.out (by kernel_rfl))) (hQ:∀ c a w,Q (.panic c) (a.put oi.dst v) w → Q (.panic c) a w:=by exact (fun _ _ _ h => h)) (hy:Yields P ops oi v a:=by exact Or.inl ⟨by rfl,by intro w';go_simp;with_reducible rfl⟩) (ha:a.put (some n) v = a':=by exact GpR):wpAnyLast P md ops Q S ds (fuel + 1) l a w:=pure_ (N:=some n) l' hi hN hc hQ hy ha h
theorem pKP {P:Program} {ops:Array Oper} {Q:Exit → Act → World → Prop} {md:Region.Mode} {S:World → Prop} {ds:List Nat} {oi:Oper} {v:Value} {fuel:Nat} {l l':Array Bool} {a a':Act} {w:World} (i n:Nat) (h:wpAnyLast P md ops Q S ds fuel l' a' w) (hi:ops[i]? = some oi:=by rfl) (hN:oi.dst = some n:=by rfl) (hl:l.setIfInBounds i true = l':=by simp only [List.setIfInBounds_toArray,List.set_cons_zero,List.set_cons_succ];rfl) (hc:anyB md ops l l' i = true:=by kernel_rfl) (hQ:∀ c a w,Q (.panic c) (a.put oi.dst v) w → Q (.panic c) a w:=by exact (fun c_ a_ w_ h_ => Z9w (by decide) (by decide) c_ a_ w_ h_)) (hy:Yields P ops oi v a:=by exact Or.inl ⟨by rfl,by intro w';go_simp;with_reducible rfl⟩) (ha:a.put (some n) v = a':=by exact GpR):wpAnyLast P md ops Q S ds (fuel + 1) l a w:=pure_ (N:=some n) l' hi hN hc hQ hy ha h
theorem uK {P:Program} {ops:Array Oper} {Q:Exit → Act → World → Prop} {md:Region.Mode} {S:World → Prop} {ds:List Nat} {oi:Oper} {fuel:Nat} {l l':Array Bool} {a a':Act} {w:World} (i n:Nat) (h:wpAnyLast P md ops Q S ds fuel l' a' w) (hi:ops[i]? = some oi:=by rfl) (hN:oi.dst = some n:=by rfl) (hl:l.setIfInBounds i true = l':=by simp only [List.setIfInBounds_toArray,List.set_cons_zero,List.set_cons_succ];rfl) (hc:anyB md ops l l' i = true:=by kernel_rfl) (hQ:∀ c a w,Q (.panic c) (a.put oi.dst undef) w → Q (.panic c) a w:=by exact (fun _ _ _ h => h)) (hy:Yields P ops oi undef a:=by exact Or.inr ⟨by rfl,rfl⟩) (ha:a.put (some n) undef = a':=by exact GpR):wpAnyLast P md ops Q S ds (fuel + 1) l a w:=pure_ (N:=some n) l' hi hN hc hQ hy ha h
theorem uT {P:Program} {ops:Array Oper} {Q:Exit → Act → World → Prop} {md:Region.Mode} {S:World → Prop} {ds:List Nat} {oi:Oper} {fuel:Nat} {l l':Array Bool} {a a':Act} {w:World} (i n:Nat) (h:wpAnyLast P md ops Q S ds fuel l' a' w) (hi:ops[i]? = some oi:=by rfl) (hN:oi.dst = some n:=by rfl) (hl:l.setIfInBounds i true = l':=by simp only [List.setIfInBounds_toArray,List.set_cons_zero,List.set_cons_succ];rfl) (hc:anyB md ops l l' i = true:=by exact (any_of HT_.out (by kernel_rfl))) (hQ:∀ c a w,Q (.panic c) (a.put oi.dst undef) w → Q (.panic c) a w:=by exact (fun _ _ _ h => h)) (hy:Yields P ops oi undef a:=by exact Or.inr ⟨by rfl,rfl⟩) (ha:a.put (some n) undef = a':=by exact GpR):wpAnyLast P md ops Q S ds (fuel + 1) l a w:=pure_ (N:=some n) l' hi hN hc hQ hy ha h
theorem tKt {P:Program} {ops:Array Oper} {Q:Exit → Act → World → Prop} {md:Region.Mode} {S:World → Prop} {ds:List Nat} {oi:Oper} {v:Value} {fuel:Nat} {l l':Array Bool} {a a':Act} {w:World} (i n:Nat) (hS:S w) (h:wpAnyLast P md ops Q S ds fuel l' a' w) (hi:ops[i]? = some oi:=by rfl) (hN:oi.dst = some n:=by rfl) (hl:l.setIfInBounds i true = l':=by simp only [List.setIfInBounds_toArray,List.set_cons_zero,List.set_cons_succ];rfl) (hc:takeB md ops ds l l' i = true:=by kernel_rfl) (hQ:∀ c a w,Q (.panic c) (a.put oi.dst v) w → Q (.panic c) a w:=by exact (fun _ _ _ h => h)) (hy:YieldsIf P ops S oi v a:=by exact Or.inl ⟨by rfl,by intro w' z_;(repeat (obtain ⟨z1_,z_⟩:=z_));go_simp;with_reducible rfl⟩) (ha:a.put (some n) v = a':=by exact GpR):wpAnyLast P md ops Q S ds (fuel + 1) l a w:=take_ (N:=some n) l' hi hN hc hQ hy hS ha h
theorem tTt {P:Program} {ops:Array Oper} {Q:Exit → Act → World → Prop} {md:Region.Mode} {S:World → Prop} {ds:List Nat} {oi:Oper} {v:Value} {fuel:Nat} {l l':Array Bool} {a a':Act} {w:World} (i n:Nat) (hS:S w) (h:wpAnyLast P md ops Q S ds fuel l' a' w) (hi:ops[i]? = some oi:=by rfl) (hN:oi.dst = some n:=by rfl) (hl:l.setIfInBounds i true = l':=by simp only [List.setIfInBounds_toArray,List.set_cons_zero,List.set_cons_succ];rfl) (hc:takeB md ops ds l l' i = true:=by exact (take_ofW HT_.out HW_.out (by kernel_rfl))) (hQ:∀ c a w,Q (.panic c) (a.put oi.dst v) w → Q (.panic c) a w:=by exact (fun _ _ _ h => h)) (hy:YieldsIf P ops S oi v a:=by exact Or.inl ⟨by rfl,by intro w' z_;(repeat (obtain ⟨z1_,z_⟩:=z_));go_simp;with_reducible rfl⟩) (ha:a.put (some n) v = a':=by exact GpR):wpAnyLast P md ops Q S ds (fuel + 1) l a w:=take_ (N:=some n) l' hi hN hc hQ hy hS ha h
theorem nR (n:Nat) {P:Program} {ops:Array Oper} {Q:Exit → Act → World → Prop} {md:Region.Mode} {S:World → Prop} {ds:List Nat} {fuel:Nat} {l:Array Bool} {a a0 a':Act} {v:Value} {w:World} (h:wpAnyLast P md ops Q S ds fuel l a' w) (hb:a = Act.put a0 (some n) v:=by rfl) (ha:Act.put a0 (some n) v = a':=by exact GpR):wpAnyLast P md ops Q S ds fuel l a w:=norm_ (hb.trans ha) h
theorem iFn {c:Prop} {d:Decidable c} {α:Type} {x:Option α} {r:α} (H:(@ite (Option α) c d x none) = some r):c ∧ x = some r:=by by_cases h:c;exact ⟨h,by rwa [if_pos h] at H⟩;rw [if_neg h] at H;cases H
theorem iF {c:Prop} {d:Decidable c} {α:Type} {x y r:α} (H:(@ite α c d x y) = r):(c ∧ x = r) ∨ (¬ c ∧ y = r):=by by_cases h:c;exact .inl ⟨h,by rwa [if_pos h] at H⟩;exact .inr ⟨h,by rwa [if_neg h] at H⟩
theorem iT {t:Bool} {α:Type} {x y r:α} (H:(if t = true then x else y) = r):(t = true ∧ x = r) ∨ (t = false ∧ y = r):=by cases t;exact .inr ⟨rfl,H⟩;exact .inl ⟨rfl,H⟩
theorem iE {β:Type} [BEq β] [LawfulBEq β] {s t:β} {d:Decidable (s = t)} {α:Type} {x y r:α} (H:(@ite α (s = t) d x y) = r):(s = t ∧ (s == t) = true ∧ (s != t) = false ∧ x = r) ∨ (s ≠ t ∧ (s == t) = false ∧ (s != t) = true ∧ y = r):=by by_cases h:s = t;exact .inl ⟨h,beq_iff_eq.2 h,bne_eq_false_iff_eq.2 h,by rwa [if_pos h] at H⟩;exact .inr ⟨h,beq_eq_false_iff_ne.2 h,bne_iff_ne.2 h,by rwa [if_neg h] at H⟩
theorem bI {α β:Type} {x:Option α} {f:α → Option β} {r:β} (H:x.bind f = some r):∃ t,Aside0 (x = some t) ∧ f t = some r:=by obtain ⟨t,h,e⟩:=Option.bind_eq_some_iff.1 H;exact ⟨t,⟨h⟩,e⟩
theorem Gc1 {p:Prop} (h:p:=by first | (with_reducible exact HT.out) | exact Z1s HT.out (tB HB) | (repeat (first | (with_reducible exact HT.out) | (with_reducible exact Z1s HT.out HB.out) | (with_reducible refine Zh9 ?_ _) | (with_reducible refine Zha ?_ _) | (with_reducible refine Zif ?_)))):p:=h
theorem Gc2 {p:Prop} (h:p:=by (try simp only [List.map_toArray,List.map_cons,List.map_nil]);first | done | rfl | (simp only [List.length_drop,List.length_take];rfl)):p:=h
theorem Gc3 {p:Prop} (h:p:=by repeat (first | exact HR0.out | (with_reducible refine Kd.C_alloc ?_ _) | (with_reducible refine Kd.C_drewN ?_ _) | (with_reducible refine Kd.C_drew ?_))):p:=h
theorem Gc4 {p:Prop} (h:p:=by (with_reducible repeat (first | apply Kd.R_alloc | apply Kd.R_drewN | apply Kd.R_drew));exact (Kd.R_mono (Kd.R_far (p:=⟨gb359,5,none⟩) (Kd.R_far (p:=⟨gb359,4,none⟩) (Kd.R_far (p:=⟨gb359,3,none⟩) (Kd.R_far (p:=⟨gb359,2,none⟩) (Kd.R_far (p:=⟨gb359,1,none⟩) (Kd.R_far (p:=⟨gb359,0,none⟩) (Kd.R_types HO_5.out BK359.out (by decide)) (fun _ hk => hk.2) (.int .i32 ((Z03 l1 x6_2).f0))) (fun _ hk => hk.2) (.string ((Z03 l1 x6_2).f1))) (fun _ hk => hk.2) (.slice A358_2 ((Z03 l1 x6_2).f2).length c358_2)) (fun _ hk => hk.2) (.slice A358_3 ((Z03 l1 x6_2).f3).length c358_3)) (fun _ hk => hk.2) (.bool ((Z03 l1 x6_2).f4))) (fun _ hk => hk.2) (.bool ((Z03 l1 x6_2).f5))) (fun _ h_ => h_.1))):p:=h
theorem Gc5 {p:Prop} (h:p:=by first | (go_simp;done) | (go_simp;rfl)):p:=h
theorem Gc6 {p:Prop} (h:p:=by (with_reducible repeat (first | apply Kd.R_alloc | apply Kd.R_drewN | apply Kd.R_drew));exact (Kd.R_mono (Kd.R_far (p:=⟨z23_,5,none⟩) (Kd.R_far (p:=⟨z23_,4,none⟩) (Kd.R_far (p:=⟨z23_,3,none⟩) (Kd.R_far (p:=⟨z23_,2,none⟩) (Kd.R_far (p:=⟨z23_,1,none⟩) (Kd.R_far (p:=⟨z23_,0,none⟩) (Kd.R_types HO_5.out z30_.out (by decide)) (fun _ hk => hk.2) (.int .i32 ((Z03 l1 x25_2).f0))) (fun _ hk => hk.2) (.string ((Z03 l1 x25_2).f1))) (fun _ hk => hk.2) (.slice z4_ ((Z03 l1 x25_2).f2).length z5_)) (fun _ hk => hk.2) (.slice z6_ ((Z03 l1 x25_2).f3).length z7_)) (fun _ hk => hk.2) (.bool ((Z03 l1 x25_2).f4))) (fun _ hk => hk.2) (.bool ((Z03 l1 x25_2).f5))) (fun _ h_ => h_.1))):p:=h
theorem Gc7 {p:Prop} (h:p:=by (with_reducible repeat (first | apply Kd.R_alloc | apply Kd.R_drewN | apply Kd.R_drew));exact (Kd.R_mono (Kd.R_far (p:=⟨z21_,1,none⟩) (Kd.R_far (p:=⟨z21_,0,none⟩) (Kd.R_types z18_.out z34_.out (by decide)) (fun _ hk => hk.2) (.string ((Z1w t273 x31_2).f0))) (fun _ hk => hk.2) (.slice z4_ ((Z1w t273 x31_2).f1).length z5_)) (fun _ h_ => h_.1))):p:=h
theorem Gc8 {p:Prop} (h:p:=by repeat (first | exact HR1.out | (with_reducible refine Kd.C_alloc ?_ _) | (with_reducible refine Kd.C_drewN ?_ _) | (with_reducible refine Kd.C_drew ?_))):p:=h
theorem Gc9 {p:Prop} (h:p:=by repeat (first | exact (Kd.C_below HR0.out (tB HB)) | (with_reducible refine Kd.C_alloc ?_ _) | (with_reducible refine Kd.C_drewN ?_ _) | (with_reducible refine Kd.C_drew ?_))):p:=h
theorem Gc10 {p:Prop} (h:p:=by repeat (first | (with_reducible exact z14_.out) | (with_reducible refine Kd.C_alloc ?_ _) | (with_reducible refine Kd.C_drewN ?_ _) | (with_reducible refine Kd.C_drew ?_) | exact z14_.out)):p:=h
theorem Gc11 {p:Prop} (h:p:=by first | (rw [add_block];exact (fun e_ => ((HL384_1.out.1 _ e_.symm).2) rfl)) | (show some (Addr.add _ _).block ≠ _;rw [add_block];exact (fun e_ => ((HL384_1.out.1 _ e_.symm).2) rfl)) | exact (fun e_ => ((HL384_1.out.1 _ e_.symm).2) rfl)):p:=h
theorem Gc12 {p:Prop} (h:p:=by repeat (first | (with_reducible exact z35_.out) | (with_reducible refine Kd.C_alloc ?_ _) | (with_reducible refine Kd.C_drewN ?_ _) | (with_reducible refine Kd.C_drew ?_) | exact z35_.out)):p:=h
theorem Gc13 {p:Prop} (h:p:=by repeat (first | exact (Kd.C_below HR1_2.out (tB HB)) | (with_reducible refine Kd.C_alloc ?_ _) | (with_reducible refine Kd.C_drewN ?_ _) | (with_reducible refine Kd.C_drew ?_))):p:=h
theorem Gc14 {p:Prop} (h:p:=by rw [List.length_append,List.length_singleton];omega):p:=h
theorem Gc15 {p:Prop} (h:p:=by repeat (first | (with_reducible exact HR504_1.out) | (with_reducible refine Kd.C_alloc ?_ _) | (with_reducible refine Kd.C_drewN ?_ _) | (with_reducible refine Kd.C_drew ?_) | exact HR504_1.out)):p:=h
theorem Gc16 {p:Prop} (h:p:=by repeat (first | exact (Kd.R_reads' HO488.out).2.2 | (with_reducible refine Kd.C_alloc ?_ _) | (with_reducible refine Kd.C_drewN ?_ _) | (with_reducible refine Kd.C_drew ?_))):p:=h
theorem Gc17 {p:Prop} (h:p:=by repeat (first | exact (Kd.R_reads' HO518.out).2.2 | (with_reducible refine Kd.C_alloc ?_ _) | (with_reducible refine Kd.C_drewN ?_ _) | (with_reducible refine Kd.C_drew ?_))):p:=h
theorem Gc18 {p:Prop} (h:p:=by repeat (first | exact (Kd.R_reads' HO_8.out).2.2 | (with_reducible refine Kd.C_alloc ?_ _) | (with_reducible refine Kd.C_drewN ?_ _) | (with_reducible refine Kd.C_drew ?_))):p:=h
theorem Gc19 {p:Prop} (h:p:=by repeat (first | exact z16_.out | (with_reducible refine Kd.C_alloc ?_ _) | (with_reducible refine Kd.C_drewN ?_ _) | (with_reducible refine Kd.C_drew ?_))):p:=h
theorem Gc20 {p:Prop} (h:p:=by have h_:(x3_1:Int) < ((x0_1.length:Int):Int):=oD;first | exact h_ | (have e_:=(Kd.R_reads' HO_0.out).1;omega) | simpa using h_):p:=h
theorem Gc21 {p:Prop} (h:p:=by have h_:((ji14):Int) < ((x5_1.length:Int):Int):=oD;first | exact h_ | (have e_:=(HN24.out);omega) | simpa using h_):p:=h
theorem Gc22 {p:Prop} (h:p:=by have:=hne9;dsimp only;omega):p:=h
theorem Gc23 {p:Prop} (h:p:=by have:=hdl'.out;have:=hG.out.2.1;simp only [maxLen];omega):p:=h
theorem Gc24 {p:Prop} (h:p:=by simp only [List.map_toArray,List.map_cons,List.map_nil];rfl):p:=h
theorem Gc25 {p:Prop} (h:p:=by exact (fun _ _ => trivial)):p:=h
theorem Gc26 {p:Prop} (h:p:=by unfold Z2l.f;rw [if_pos (by omega)]):p:=h
theorem Gc27 {p:Prop} (h:p:=by have:=h.hO2;have:=h.hit2;omega):p:=h
theorem Gc28 {p:Prop} (h:p:=by have:=hdl'.out;simp only [maxLen];omega):p:=h
theorem Gc29 {p:Prop} (h:p:=by have:=hdl'.out;have:=hG.out.2.1;omega):p:=h
theorem Gc30 {p:Prop} (h:p:=by have:=hcs'.out;have:=hszT.out;omega):p:=h
theorem Gc31 {p:Prop} (h:p:=by have:=HB.out.size;simp;omega):p:=h
theorem Gc32 {p:Prop} (h:p:=by have:=hD'.out.hO2;have:=hD'.out.hit2;omega):p:=h
theorem Gc33 {p:Prop} (h:p:=by show w.heap.size ≤ O + 1;have:=hO'.out;omega):p:=h
theorem Gc34 {p:Prop} (h:p:=by have:(0:Int) < (a1.size:Int):=oD;omega):p:=h
theorem Gc35 {p:Prop} (h:p:=by show w.heap.size ≤ O;have:=hO'.out;omega):p:=h
theorem Gc36 {p:Prop} (h:p:=by rw [List.length_take];omega):p:=h
end Go.Proofs.YtfbhdjflkaldgaaGreatDoor.Ct

namespace Go.Proofs.YtfbhdjflkaldgaaGreatDoor.Pr
open Go.Proofs.YtfbhdjflkaldgaaGreatDoor.Ct Go.RowKit Go.Maps Go.Proofs.YtfbhdjflkaldgaaGreatDoorW.PrintWords Go.Proofs.YtfbhdjflkaldgaaGreatDoorW.PrintLast Go.Proofs.YtfbhdjflkaldgaaGreatDoorW.PrintMore
set_option linter.unusedVariables false
set_option linter.unusedSimpArgs false
def rkey (r:Int):Lit:=.int .i32 r
def mapI (l:List S68):Nat → DataW Unit
  | 0 => .map []
  | k + 1 => if Maps.has (mapI l k) (rkey (Z0v l (k:Int)).f0) = true then mapI l k else (mapI l k).put (rkey (Z0v l (k:Int)).f0) (.lit (.int .i64 (k:Int)))
theorem Z5j {H:Type} {w w':World} {P:Program} {k:TypeId} {R:Value → Option (DataW H × List MemPlace)} {b n:Nat} {D:DataW H} (h:w.ownsMap P k R b n D) (hb:Below w.heap.size w w'):w'.ownsMap P k R b n D:=by
  have hl:=h.lt;obtain ⟨es,clock,h1,h2⟩:=h;exact ⟨es,clock,(hb.block b hl).trans h1,h2⟩
theorem keyR:Keyed Tryz.prog 21:=int_keyed Tryz.underlying21
theorem Z9d (w:World):(zeroValue 3).run Tryz.prog w = .ok (.int .i64 0) w:=by kernel_rfl
theorem Z5u {P:Program} {t k e:TypeId} (hu:P.underlying t = some (.map k e)) (q:IntKind) (n:Int) (w:World):(Instr.makeMap t (some (.int q n))).run P w = .ok (.map (some w.heap.size)) (w.alloc (.map #[] 0)):=by
  simp [Instr.makeMap,run_underlying hu,asInt,asIntOf,Result.andThen]
theorem Z1a {i n:Nat} (h:i < n) (hn:n ≤ 9223372036854775807):wrap64 ((i:Int) + 1) = ((i + 1:Nat):Int):=by
  unfold wrap64;omega
theorem Zic (l:List S68) (i:Nat) (h:i < l.length):Z0v l (i:Int) ∈ l:=by
  unfold Z0v;rw [Int.toNat_natCast,List.getD_eq_getElem?_getD,List.getElem?_eq_getElem h];exact List.getElem_mem h
set_option maxRecDepth 100000 in
set_option maxHeartbeats 1000000 in
theorem Z5k (A:Option Addr) (c:Nat) (l:List S68) (w:World) (hr0:Kd.C k68 w A l.length l) (hc0:l.length ≤ c) (hwf:∀ x ∈ l,(Lit.int .i32 x.f0).wf = true) :
    Calls Tryz.prog 53 #[.slice A l.length c] w fun e w' => e = .returned (.map (some w.heap.size)) ∧ w'.ownsMap Tryz.prog 21 (plainElem (H:=Unit) Tryz.prog 3) w.heap.size l.length (mapI l l.length) ∧ Below w.heap.size w w':=by
  have hmm:=@Z5u Tryz.prog 115 _ _ Tryz.underlying115;have hL:l.length ≤ 9223372036854775807:=hr0.2.1;have HR:=am hr0;have HC:=am hc0;have HW:=am hwf;have HL:=am hL;clear hr0 hc0 hwf hL;go_enter Tryz.func53,Tryz.ntmps53;go_wp2
  go_loopg [13] l.length (fun kq v13 w' => ∃ i:Nat,v13 = .int .i64 (i:Int) ∧ Aside0 (i + kq = l.length) ∧ Aside0 (w'.ownsMap Tryz.prog 21 (plainElem (H:=Unit) Tryz.prog 3) w.heap.size i (mapI l i)) ∧ Aside0 (Below w.heap.size w w'))
  case atStart => exact ⟨0,rfl,⟨by omega⟩,⟨World.ownsMap_made _ _ _ _⟩,⟨(Below.refl _ _).alloc (Nat.le_refl _) _⟩⟩
  case round =>
    obtain ⟨i,rfl,hik,HO,HB⟩:=hrel
    cases gk with
    | zero =>
      have h3:¬ ((i:Int) < (l.length:Int)):=by have:=hik.out;omega
      go_wp2;go_ret
      obtain rfl:i = l.length:=by have:=hik.out;omega
      exact ⟨rfl,HO.out,HB.out⟩
    | succ g1 =>
      have h3:(i:Int) < (l.length:Int):=by have:=hik.out;omega
      have h4:0 ≤ (i:Int):=by omega
      obtain ⟨ad,hA,hx0,hx1⟩:=Z3s HR.out (i:Int) h4 h3;subst hA;rw [Int.toNat_natCast] at hx0 hx1;replace hx0:=(HB.out.cell (World.block_lt_of_cell? _ _ hx0)).trans hx0;replace hx1:=(HB.out.cell (World.block_lt_of_cell? _ _ hx1)).trans hx1;have hwx:=HW.out _ (Zic l i (by have:=hik.out;omega));have hkey:keyOf Tryz.prog 21 (.int .i32 (Z0v l (i:Int)).f0) = some (rkey (Z0v l (i:Int)).f0):=keyOf_int_mk Tryz.underlying21 hwx
      have hlt:i < l.length:=by have:=hik.out;omega
      have hi64:(Lit.int .i64 (i:Int)).wf = true:=by
        have:=HL.out;exact WalkArith.wf_i64 (by omega)
      have hB1:Below w.heap.size w (wr.alloc (.cells #[.int .i32 (Z0v l (i:Int)).f0,.int .u32 (Z0v l (i:Int)).f1] 68)):=HB.out.alloc HB.out.size _
      have hmx:i < maxLen:=by have:=HL.out;simp only [maxLen];omega
      have hfin:wrap64 ((i:Int) + 1) = ((i + 1:Nat):Int):=Z1a hlt HL.out;have hfin':=am hfin;have hmx':=am hmx;have hi':=am hi64;have hB1':=am hB1;have hlt':=am hlt;clear hfin hmx hi64 hB1 hlt
      by_cases hh:Maps.has (mapI l i) (rkey (Z0v l (i:Int)).f0) = true
      · have hh':=am hh
        go_wp2_with (at_lookup;refine wpList_lookup_own_ok_int _ rfl _ _ 115 rfl 21 3 .i64 keyR Tryz.underlying115 Tryz.underlying3 (Z9d _) w.heap.size i (mapI l i) rfl (HO.out.alloc _) _ _ rfl hkey ?_;intro cc hat hwc)
        go_roundg g1
        case measure => omega
        case rel =>
          refine ⟨i + 1,by rw [hfin'.out],⟨by have:=hik.out;omega⟩,⟨?_⟩,hB1'⟩
          rw [show mapI l (i + 1) = mapI l i from by rw [mapI,if_pos hh'.out]];exact (HO.out.alloc _).mono (by omega)
      · have hh':=am hh
        go_wp2_with (first | (at_lookup;refine wpList_lookup_own_ok_int _ rfl _ _ 115 rfl 21 3 .i64 keyR Tryz.underlying115 Tryz.underlying3 (Z9d _) w.heap.size i (mapI l i) rfl (HO.out.alloc _) _ _ rfl hkey ?_;intro cc hat hwc) | (at_mapUpdate;refine wpList_mapUpdate_own _ rfl _ _ _ 115 rfl 21 3 keyR Tryz.underlying115 _ w.heap.size i (mapI l i) rfl (HO.out.alloc _) hmx'.out _ _ _ rfl rfl hkey _ [] (plainElem_int Tryz.underlying3 hi'.out) ?_;intro w1 hown1 hgrow1))
        go_roundg g1
        case measure => omega
        case rel =>
          refine ⟨i + 1,by rw [hfin'.out],⟨by have:=hik.out;omega⟩,⟨?_⟩,⟨hB1'.out.grown hgrow1 hB1'.out.size (fun j hj => by cases hj;exact Nat.le_refl _)⟩⟩
          rw [show mapI l (i + 1) = (mapI l i).put (rkey (Z0v l (i:Int)).f0) (.lit (.int .i64 (i:Int))) from by rw [mapI,if_neg hh'.out]];exact hown1
def look (l:List S68):Nat → Int → Option Nat
  | 0,_ => none
  | k + 1,r => match look l k r with
    | some j => some j
    | none => if (Z0v l (k:Int)).f0 = r then some k else none
theorem Z6g (l:List S68):∀ k,Maps.IsMap (mapI l k)
  | 0 => Maps.isMap_empty
  | k + 1 => by
    unfold mapI
    split
    · exact Z6g l k
    · exact (Z6g l k).put _ _
theorem Zfn (r:Int):WideAt.IsKeyLit (rkey r):=by unfold rkey;simp [WideAt.IsKeyLit]
theorem Ze4 {r s:Int} (h:r ≠ s):rkey r ≠ rkey s:=fun e => h (by unfold rkey at e;injection e)
theorem Z5l (l:List S68) (r:Int):∀ k,Maps.has (mapI l k) (rkey r) = (look l k r).isSome
  | 0 => rfl
  | k + 1 => by
    have ih:=Z5l l r k;unfold mapI look
    by_cases hh:Maps.has (mapI l k) (rkey (Z0v l (k:Int)).f0) = true
    · rw [if_pos hh,ih]
      cases e:look l k r with
      | some j => rfl
      | none =>
        by_cases hr:(Z0v l (k:Int)).f0 = r
        · rw [hr,ih,e] at hh;cases hh
        · simp [hr]
    · rw [if_neg hh]
      by_cases hr:(Z0v l (k:Int)).f0 = r
      · rw [hr,Maps.has_put_same (Z6g l k) (Zfn r)]
        cases e:look l k r <;> simp
      · rw [Maps.has_put_other (Ze4 (fun e => hr e.symm)),ih]
        cases e:look l k r with
        | some j => rfl
        | none => simp [hr]
theorem Ze5 (l:List S68) (r:Int) (z:DataW Unit):∀ k j,look l k r = some j → (mapI l k).atKey (rkey r) z = .lit (.int .i64 (j:Int))
  | 0,j,h => by cases h
  | k + 1,j,h => by
    have ih:=Ze5 l r z k;have hs:=Z5l l r k;unfold look at h;unfold mapI
    by_cases hh:Maps.has (mapI l k) (rkey (Z0v l (k:Int)).f0) = true
    · rw [if_pos hh]
      cases e:look l k r with
      | some i => rw [e] at h;cases h;exact ih _ e
      | none =>
        rw [e] at h
        by_cases hr:(Z0v l (k:Int)).f0 = r
        · rw [hr,hs,e] at hh;cases hh
        · simp [hr] at h
    · rw [if_neg hh]
      cases e:look l k r with
      | some i =>
        rw [e] at h;cases h
        by_cases hr:(Z0v l (k:Int)).f0 = r
        · rw [hr,hs,e] at hh;simp at hh
        · rw [Maps.atKey_put_other (Ze4 (fun e => hr e.symm))];exact ih _ e
      | none =>
        rw [e] at h
        by_cases hr:(Z0v l (k:Int)).f0 = r
        · simp [hr] at h;subst h;rw [hr,Maps.atKey_put_same (Z6g l k) (Zfn r)]
        · simp [hr] at h
def Z1z (l:List S68):Bool:=l.all fun x => (Lit.int .i32 x.f0).wf
theorem Z4h {l:List S68} (h:Z1z l = true):∀ x ∈ l,(Lit.int .i32 x.f0).wf = true:=fun x hx => List.all_eq_true.1 h x hx
def idxI (l:List S68) (r:Int):Int:=match look l l.length r with
  | some j => (j:Int)
  | none => -1
def Z1y.f (l0:List S68) (a1:Int):Option Int:=if Z1z l0 = true ∧ (Lit.int .i32 a1).wf = true then some (idxI l0 a1) else none
set_option maxRecDepth 100000 in
set_option maxHeartbeats 1000000 in
theorem Z1y.calls (A0:Option Addr) (c0:Nat) (l0:List S68) (a1:Int) (r:Int) (w:World) (hr0:Kd.C k68 w A0 l0.length l0) (hc0:l0.length ≤ c0) (h:Z1y.f l0 a1 = some r) :
    Calls Tryz.prog 31 #[.slice A0 l0.length c0,.int .i32 a1] w fun e w' => e = .returned (.int .i64 r) ∧ Below w.heap.size w w':=by
  unfold Z1y.f at h
  by_cases hg:Z1z l0 = true ∧ (Lit.int .i32 a1).wf = true
  · rw [if_pos hg] at h
    have hr:=Option.some.inj h;clear h;have hkey:keyOf Tryz.prog 21 (.int .i32 a1) = some (rkey a1):=keyOf_int_mk Tryz.underlying21 hg.2;have hin:=Z5k A0 c0 l0 w hr0 hc0 (Z4h hg.1);have hr':=am hr;have hz:=am (Z5l l0 a1 l0.length);clear hr0 hc0 hg hr
    cases e:look l0 l0.length a1 with
    | some j =>
      have hat:=am (Ze5 l0 a1 (.lit (.int .i64 0)) _ _ e)
      have hhas:Maps.has (mapI l0 l0.length) (rkey a1) = true:=by rw [hz.out,e];rfl
      have hj:r = (j:Int):=by rw [← hr'.out];unfold idxI;rw [e]
      subst hj;go_enter Tryz.func31,Tryz.ntmps31
      go_wp2_with (first | (go_at_call 53;refine hin.mono ?_;clear hin;rintro e w1 ⟨rfl,HO,HB⟩) | (at_lookup;refine wpList_lookup_own_ok_int _ rfl _ _ 115 rfl 21 3 .i64 keyR Tryz.underlying115 Tryz.underlying3 (Z9d _) w.heap.size l0.length (mapI l0 l0.length) rfl HO _ _ rfl hkey ?_;intro cc hcc hwc;obtain rfl:cc = (j:Int):=(by have:=hat.out.symm.trans hcc;injection this with this;injection this with _ this;exact this.symm)))
      go_ret;exact ⟨rfl,HB⟩
    | none =>
      have hhas:Maps.has (mapI l0 l0.length) (rkey a1) = false:=by rw [hz.out,e];rfl
      have hj:r = -1:=by rw [← hr'.out];unfold idxI;rw [e]
      subst hj;go_enter Tryz.func31,Tryz.ntmps31
      go_wp2_with (first | (go_at_call 53;refine hin.mono ?_;clear hin;rintro e w1 ⟨rfl,HO,HB⟩) | (at_lookup;refine wpList_lookup_own_ok_int _ rfl _ _ 115 rfl 21 3 .i64 keyR Tryz.underlying115 Tryz.underlying3 (Z9d _) w.heap.size l0.length (mapI l0 l0.length) rfl HO _ _ rfl hkey ?_;intro cc hcc hwc))
      go_ret;exact ⟨rfl,HB⟩
  · rw [if_neg hg] at h;cases h
end Go.Proofs.YtfbhdjflkaldgaaGreatDoor.Pr

namespace Go.Proofs.YtfbhdjflkaldgaaGreatDoor.Pr
open Go.Lib
set_option linter.unusedVariables false
def scalar (r:Int):Prop:=0 ≤ r ∧ (r < 55296 ∨ (57344 ≤ r ∧ r ≤ 1114111))
def Z8h:Nat → List UInt8 → List Int
  | 0,_ => []
  | n + 1,l => if l = [] then [] else ((decodeL l).1:Int) :: Z8h n (l.drop (decodeL l).2)
def Z32 (l:List UInt8):List Int:=Z8h l.length l
theorem Z4z (l:List UInt8) (h:l ≠ []):1 ≤ (decodeL l).2:=by
  rw [decodeL_N];unfold decodeN;repeat' split
  all_goals simp
theorem Z9e:∀ (n m:Nat) (l:List UInt8),l.length ≤ n → l.length ≤ m → Z8h n l = Z8h m l
  | 0,m,l,h,_ => by
    obtain rfl:l = []:=List.eq_nil_of_length_eq_zero (by omega)
    cases m <;> simp [Z8h]
  | n + 1,0,l,_,h => by
    obtain rfl:l = []:=List.eq_nil_of_length_eq_zero (by omega)
    simp [Z8h]
  | n + 1,m + 1,l,h1,h2 => by
    unfold Z8h
    split
    · rfl
    · next hne =>
      have hw:=Z4z l hne;have hl:0 < l.length:=List.length_pos_iff.2 hne;rw [Z9e n m (l.drop (decodeL l).2) (by rw [List.length_drop];omega) (by rw [List.length_drop];omega)]
theorem Z40:Z32 [] = []:=rfl
theorem Z3v (l:List UInt8) (h:l ≠ []):Z32 l = ((decodeL l).1:Int) :: Z32 (l.drop (decodeL l).2):=by
  have hl:0 < l.length:=List.length_pos_iff.2 h;have hw:=Z4z l h;unfold Z32;obtain ⟨n,hn⟩:∃ n,l.length = n + 1:=⟨l.length - 1,by omega⟩;rw [hn]
  conv => lhs;unfold Z8h
  rw [if_neg h,Z9e n (l.drop (decodeL l).2).length _ (by rw [List.length_drop];omega) (Nat.le_refl _)]
theorem Z7j (l:List UInt8):scalar ((decodeL l).1:Int):=by
  have k0:=(l.getD 0 0).toNat_lt;have k1:=(l.getD 1 0).toNat_lt;have k2:=(l.getD 2 0).toNat_lt;have k3:=(l.getD 3 0).toNat_lt;rw [decodeL_N];unfold scalar decodeN
  repeat' split
  all_goals simp only
  all_goals omega
theorem Zau:∀ (n:Nat) (l:List UInt8),l.length ≤ n → validD l = true → (Z32 l).flatMap encodeRune = l
  | 0,l,h,_ => by
    obtain rfl:l = []:=List.eq_nil_of_length_eq_zero (by omega);rfl
  | n + 1,l,h,hv => by
    by_cases hne:l = []
    · subst hne;rfl
    · have hw:=Z4z l hne
      have hl:0 < l.length:=List.length_pos_iff.2 hne;rw [validD_step l hne] at hv
      by_cases hb:(decodeL l).1 = 65533 ∧ (decodeL l).2 = 1
      · rw [if_pos hb] at hv;cases hv
      · rw [if_neg hb] at hv
        rw [Z3v l hne,List.flatMap_cons,encode_decode l hne hb,Zau n _ (by rw [List.length_drop];omega) hv,List.take_append_drop]
set_option maxRecDepth 100000 in
set_option maxHeartbeats 2000000 in
theorem Zav (r:Int) (h:scalar r) (t:List UInt8):decodeL (encodeRune r ++ t) = (r.toNat,(encodeRune r).length):=by
  obtain ⟨h0,h1⟩:=h;obtain ⟨n,rfl⟩:∃ n:Nat,r = (n:Int):=⟨r.toNat,by omega⟩
  have b8:∀ (z:Int) (m:Nat),z.toNat = m → m < 256 → (z.toNat.toUInt8).toNat = m:=by
    intro z m h1 h2;rw [h1];simp;omega
  rw [decodeL_N];unfold encodeRune;rw [Int.toNat_natCast]
  by_cases c1:(n:Int) ≤ 127
  · rw [encodeRuneZ_one h0 c1]
    simp only [List.map_cons,List.map_nil,List.cons_append,List.nil_append,List.getD_cons_zero,List.length_cons,List.length_nil];rw [b8 _ n (by omega) (by omega)];unfold decodeN;rw [if_pos (by omega)]
  · by_cases c2:(n:Int) ≤ 2047
    · rw [encodeRuneZ_two (by omega) c2]
      simp only [List.map_cons,List.map_nil,List.cons_append,List.nil_append,List.getD_cons_zero,List.getD_cons_succ,List.length_cons,List.length_nil];rw [b8 _ (192 + n / 64) (by omega) (by omega),b8 _ (128 + n % 64) (by omega) (by omega)];unfold decodeN;rw [if_neg (by omega),if_pos (by omega),if_pos (by omega)];exact Prod.ext (by simp only;omega) rfl
    · by_cases c3:(n:Int) ≤ 65535
      · rw [encodeRuneZ_three (by omega)]
        simp only [List.map_cons,List.map_nil,List.cons_append,List.nil_append,List.getD_cons_zero,List.getD_cons_succ,List.length_cons,List.length_nil];rw [b8 _ (224 + n / 4096) (by omega) (by omega),b8 _ (128 + n / 64 % 64) (by omega) (by omega),b8 _ (128 + n % 64) (by omega) (by omega)];unfold decodeN;rw [if_neg (by omega),if_neg (by omega),if_pos (by omega),if_pos (by omega)];exact Prod.ext (by simp only;omega) rfl
      · rw [encodeRuneZ_four (by omega) (by omega)]
        simp only [List.map_cons,List.map_nil,List.cons_append,List.nil_append,List.getD_cons_zero,List.getD_cons_succ,List.length_cons,List.length_nil];rw [b8 _ (240 + n / 262144) (by omega) (by omega),b8 _ (128 + n / 4096 % 64) (by omega) (by omega),b8 _ (128 + n / 64 % 64) (by omega) (by omega),b8 _ (128 + n % 64) (by omega) (by omega)];unfold decodeN;rw [if_neg (by omega),if_neg (by omega),if_neg (by omega),if_pos (by omega),if_pos (by omega)];exact Prod.ext (by simp only;omega) rfl
theorem Zfo (r:Int) (t:List UInt8):encodeRune r ++ t ≠ []:=by
  intro e;have h:=congrArg List.length e;have h2:=(encodeRuneZ_length r).1
  have h3:(encodeRune r).length = (encodeRuneZ r).length:=by simp [encodeRune]
  rw [List.length_append,List.length_nil] at h;omega
theorem Z62 (r:Int) (h:scalar r) (t:List UInt8):Z32 (encodeRune r ++ t) = r :: Z32 t:=by
  rw [Z3v _ (Zfo r t),Zav r h t];simp only [List.drop_left];rw [Int.toNat_of_nonneg h.1]
theorem Zid (r:Int) (h:scalar r) (t:List UInt8):validD (encodeRune r ++ t) = validD t:=by
  rw [validD_step _ (Zfo r t),Zav r h t];simp only [List.drop_left];rw [if_neg];rintro ⟨h1,h2⟩
  have e:r = 65533:=by have:=h.1;omega
  subst e;revert h2;decide
def encL (rs:List Int):List UInt8:=rs.flatMap encodeRune
theorem Z6h:∀ (rs:List Int),(∀ r ∈ rs,scalar r) → ∀ t,Z32 (encL rs ++ t) = rs ++ Z32 t
  | [],_,t => rfl
  | r :: rs,h,t => by
    unfold encL;rw [List.flatMap_cons,List.append_assoc,Z62 r (h r (by simp))];exact congrArg (r :: ·) (Z6h rs (fun x hx => h x (by simp [hx])) t)
theorem Z41:∀ (rs:List Int),(∀ r ∈ rs,scalar r) → validD (encL rs) = true
  | [],_ => rfl
  | r :: rs,h => by
    unfold encL;rw [List.flatMap_cons,Zid r (h r (by simp))];exact Z41 rs (fun x hx => h x (by simp [hx]))
theorem Z8i:∀ (n:Nat) (l:List UInt8),l.length ≤ n → ∀ r ∈ Z32 l,scalar r
  | 0,l,h,r,hr => by
    obtain rfl:l = []:=List.eq_nil_of_length_eq_zero (by omega)
    simp [Z40] at hr
  | n + 1,l,h,r,hr => by
    by_cases hne:l = []
    · subst hne;simp [Z40] at hr
    · have hw:=Z4z l hne
      have hl:0 < l.length:=List.length_pos_iff.2 hne;rw [Z3v l hne] at hr
      rcases List.mem_cons.1 hr with rfl | hr
      · exact Z7j l
      · exact Z8i n _ (by rw [List.length_drop];omega) r hr
theorem Z22 (l:List UInt8):∀ r ∈ Z32 l,scalar r:=Z8i _ l (Nat.le_refl _)
theorem Z36 (l:List UInt8):validD l = true ↔ encL (Z32 l) = l :=
  ⟨Zau _ l (Nat.le_refl _),fun h => by rw [← h];exact Z41 _ (Z22 l)⟩
end Go.Proofs.YtfbhdjflkaldgaaGreatDoor.Pr

namespace Go.Proofs.YtfbhdjflkaldgaaGreatDoor.Pr
open Go.RowKit Go.Lib
set_option linter.unusedVariables false
def Z3b (s:ByteArray) (pos:Nat):List Int:=Z32 (s.data.toList.drop pos)
def Z0d (s:ByteArray):List Int:=Z32 s.data.toList
theorem Z2t (s:ByteArray):Z3b s 0 = Z0d s:=by unfold Z3b Z0d;rw [List.drop_zero]
theorem sizeL (s:ByteArray):s.data.toList.length = s.size:=Array.length_toList
theorem Z2z {s:ByteArray} {pos:Nat} (h:¬ pos < s.size):Z3b s pos = []:=by
  unfold Z3b;rw [List.drop_eq_nil_of_le (by rw [sizeL];omega)];rfl
theorem Z34 {s:ByteArray} {pos:Nat} (h:pos < s.size):Z3b s pos = ((Utf8.decode s pos).1:Int) :: Z3b s (pos + (Utf8.decode s pos).2):=by
  unfold Z3b
  have hne:s.data.toList.drop pos ≠ []:=by
    intro e;have:=congrArg List.length e;rw [List.length_drop,sizeL] at this
    simp at this
    omega
  rw [Z3v _ hne,decodeL_drop,List.drop_drop]
theorem Z4k {s:ByteArray} {pos:Nat} (h:pos < s.size):1 ≤ (Utf8.decode s pos).2:=by
  rw [← decodeL_drop]
  refine Z4z _ fun e => ?_
  have:=congrArg List.length e;rw [List.length_drop,sizeL] at this
  simp at this
  omega
theorem Z50 (s:ByteArray) (pos:Nat):scalar ((Utf8.decode s pos).1:Int):=by
  rw [← decodeL_drop];exact Z7j _
theorem Z7k {r:Int} (h:scalar r):(Lit.int .i32 r).wf = true:=by
  obtain ⟨h1,h2⟩:=h
  have e1:IntKind.i32.min = -2147483648:=by decide
  have e2:IntKind.i32.max = 2147483647:=by decide
  simp [Lit.wf,e1,e2]
  omega
theorem Z5m:∀ (n:Nat) (l:List UInt8),l.length ≤ n → (Z32 l).length ≤ l.length
  | 0,l,h => by
    obtain rfl:l = []:=List.eq_nil_of_length_eq_zero (by omega)
    simp [Z40]
  | n + 1,l,h => by
    by_cases hne:l = []
    · subst hne;simp [Z40]
    · have hw:=Z4z l hne
      have hl:0 < l.length:=List.length_pos_iff.2 hne;rw [Z3v l hne,List.length_cons];have:=Z5m n (l.drop (decodeL l).2) (by rw [List.length_drop];omega);rw [List.length_drop] at this;omega
theorem Z23 (s:ByteArray):(Z0d s).length ≤ s.size:=by
  have:=Z5m _ s.data.toList (Nat.le_refl _)
  rwa [sizeL] at this
theorem Z9f (r:Int) (h:scalar r):(Utf8.encode r).data.toList = encodeRune r:=by
  obtain ⟨h0,h1⟩:=h;obtain ⟨n,rfl⟩:∃ n:Nat,r = (n:Int):=⟨r.toNat,by omega⟩
  have v:Utf8.valid (n:Int) = true:=by first | (simp [Utf8.valid];done) | (simp [Utf8.valid];omega)
  have b8:∀ (z:Int) (m:Nat),z.toNat = m → z.toNat.toUInt8 = UInt8.ofNat m:=by intro z m h;rw [h]
  unfold encodeRune
  by_cases c1:n < 128
  · rw [encodeRuneZ_one (by omega) (by omega)]
    simp only [List.map_cons,List.map_nil];rw [b8 _ n (by omega)]
    simp [Utf8.encode,v,c1]
  · by_cases c2:n < 2048
    · rw [encodeRuneZ_two (by omega) (by omega)]
      simp only [List.map_cons,List.map_nil];rw [b8 _ (192 + n / 64) (by omega),b8 _ (128 + n % 64) (by omega)]
      simp [Utf8.encode,v,c1,c2]
    · by_cases c3:n < 65536
      · rw [encodeRuneZ_three (by omega)]
        simp only [List.map_cons,List.map_nil];rw [b8 _ (224 + n / 4096) (by omega),b8 _ (128 + n / 64 % 64) (by omega),b8 _ (128 + n % 64) (by omega)]
        simp [Utf8.encode,v,c1,c2,c3]
      · rw [encodeRuneZ_four (by omega) (by omega)]
        simp only [List.map_cons,List.map_nil];rw [b8 _ (240 + n / 262144) (by omega),b8 _ (128 + n / 4096 % 64) (by omega),b8 _ (128 + n / 64 % 64) (by omega),b8 _ (128 + n % 64) (by omega)]
        simp [Utf8.encode,v,c1,c2,c3]
theorem Zbj (b:ByteArray) (rs:List Int) (r:Int) (hb:b.data.toList = encL rs) (h:scalar r):(b ++ Utf8.encode r).data.toList = encL (rs ++ [r]):=by
  rw [ByteArray.data_append,Array.toList_append,hb,Z9f r h];unfold encL;rw [List.flatMap_append]
  simp
theorem Z4l {a b:ByteArray} (h:a.data.toList = b.data.toList):a = b:=by
  cases a;cases b;simp at h;simp [h]
end Go.Proofs.YtfbhdjflkaldgaaGreatDoor.Pr

namespace Go.Proofs
open Go.Shelf
def Tryz.lays169_ren:Go.Shelf.Ren:=⟨fun | 169 => 38 | n => n,fun | 70 => 92 | 9 => 9 | 0 => 0 | 72 => 95 | 37 => 93 | 127 => 118 | 3 => 3 | 5 => 5 | n => n,fun | n => n⟩
theorem Tryz.lays169:Go.Proofs.Lays.n169 Tryz.prog Tryz.lays169_ren:={
  mixed:=by kernel_rfl
  f169:=Tryz.func38.trans (congrArg some (by kernel_rfl))
  t0:=Tryz.underlying0
  a0:=Tryz.isAgg0
  z0:=Tryz.sizeOf0
  v0:=Tryz.zeroValue0
  t3:=Tryz.underlying3
  a3:=Tryz.isAgg3
  z3:=Tryz.sizeOf3
  v3:=Tryz.zeroValue3
  t9:=Tryz.underlying9
  a9:=Tryz.isAgg9
  z9:=Tryz.sizeOf9
  v9:=Tryz.zeroValue9
  t37:=Tryz.underlying93
  a37:=Tryz.isAgg93
  z37:=Tryz.sizeOf93
  v37:=Tryz.zeroValue93
  t70:=Tryz.underlying92
  a70:=Tryz.isAgg92
  z70:=Tryz.sizeOf92
  v70:=Tryz.zeroValue92
  t72:=Tryz.underlying95
  a72:=Tryz.isAgg95
  z72:=Tryz.sizeOf95
  v72:=Tryz.zeroValue95
  t127:=Tryz.underlying118
  a127:=Tryz.isAgg118
  z127:=Tryz.sizeOf118
  v127:=Tryz.zeroValue118 }
theorem Tryz.Builder_Extra_169:Builder.Extra Tryz.prog Tryz.lays169_ren:={
  sizeBuilder:=by kernel_rfl
  liesBuilder:=by kernel_rfl
  t5:=Tryz.underlying5
  a5:=Tryz.isAgg5
  z5:=Tryz.sizeOf5
  v5:=Tryz.zeroValue5
  infoByte:=by kernel_rfl
  cellsByte:=by kernel_rfl
  sizeByte:=by kernel_rfl
  neB5:=by decide }
def Tryz.lays156_ren:Go.Shelf.Ren:=⟨fun | 156 => 20 | 165 => 36 | 166 => 37 | 169 => 38 | 240 => 56 | 241 => 57 | 276 => 75 | 277 => 76 | n => n,fun | 31 => 31 | 9 => 9 | 3 => 3 | 4 => 4 | 0 => 0 | 20 => 20 | 72 => 95 | 76 => 99 | 70 => 92 | 37 => 93 | 75 => 98 | 127 => 118 | 164 => 134 | 5 => 5 | 80 => 101 | n => n,fun | n => n⟩
theorem Tryz.lays156:Go.Proofs.Lays.n156 Tryz.prog Tryz.lays156_ren:={
  mixed:=by kernel_rfl
  f156:=Tryz.func20.trans (congrArg some (by kernel_rfl))
  f165:=Tryz.func36.trans (congrArg some (by kernel_rfl))
  f166:=Tryz.func37.trans (congrArg some (by kernel_rfl))
  f169:=Tryz.func38.trans (congrArg some (by kernel_rfl))
  f240:=Tryz.func56.trans (congrArg some (by kernel_rfl))
  f241:=Tryz.func57.trans (congrArg some (by kernel_rfl))
  f276:=Tryz.func75.trans (congrArg some (by kernel_rfl))
  f277:=Tryz.func76.trans (congrArg some (by kernel_rfl))
  t0:=Tryz.underlying0
  a0:=Tryz.isAgg0
  z0:=Tryz.sizeOf0
  v0:=Tryz.zeroValue0
  t3:=Tryz.underlying3
  a3:=Tryz.isAgg3
  z3:=Tryz.sizeOf3
  v3:=Tryz.zeroValue3
  t4:=Tryz.underlying4
  a4:=Tryz.isAgg4
  z4:=Tryz.sizeOf4
  v4:=Tryz.zeroValue4
  t9:=Tryz.underlying9
  a9:=Tryz.isAgg9
  z9:=Tryz.sizeOf9
  v9:=Tryz.zeroValue9
  t20:=Tryz.underlying20
  a20:=Tryz.isAgg20
  z20:=Tryz.sizeOf20
  v20:=Tryz.zeroValue20
  t31:=Tryz.underlying31
  a31:=Tryz.isAgg31
  z31:=Tryz.sizeOf31
  v31:=Tryz.zeroValue31
  t37:=Tryz.underlying93
  a37:=Tryz.isAgg93
  z37:=Tryz.sizeOf93
  v37:=Tryz.zeroValue93
  t70:=Tryz.underlying92
  a70:=Tryz.isAgg92
  z70:=Tryz.sizeOf92
  v70:=Tryz.zeroValue92
  t72:=Tryz.underlying95
  a72:=Tryz.isAgg95
  z72:=Tryz.sizeOf95
  v72:=Tryz.zeroValue95
  t75:=Tryz.underlying98
  a75:=Tryz.isAgg98
  z75:=Tryz.sizeOf98
  v75:=Tryz.zeroValue98
  t76:=Tryz.underlying99
  a76:=Tryz.isAgg99
  z76:=Tryz.sizeOf99
  v76:=Tryz.zeroValue99
  t127:=Tryz.underlying118
  a127:=Tryz.isAgg118
  z127:=Tryz.sizeOf118
  v127:=Tryz.zeroValue118
  t164:=Tryz.underlying134
  a164:=Tryz.isAgg134
  z164:=Tryz.sizeOf134
  v164:=Tryz.zeroValue134 }
theorem Tryz.Builder_Extra_156:Builder.Extra Tryz.prog Tryz.lays156_ren:={
  sizeBuilder:=by kernel_rfl
  liesBuilder:=by kernel_rfl
  t5:=Tryz.underlying5
  a5:=Tryz.isAgg5
  z5:=Tryz.sizeOf5
  v5:=Tryz.zeroValue5
  infoByte:=by kernel_rfl
  cellsByte:=by kernel_rfl
  sizeByte:=by kernel_rfl
  neB5:=by decide }
open Go.RowKit in
theorem Tryz.strings_Join_none (a:Option Addr) (c:Nat) (sep:ByteArray) (w:World) :
    Calls Tryz.prog 20 #[.slice a 0 c,.string sep] w fun e w' => e = .returned (.string ⟨#[]⟩) ∧ w' = w:=Any.strings_Join_none Tryz.lays156 Tryz.Builder_Extra_156 a c sep w
open Go.RowKit in
theorem Tryz.strings_Join (bk o c:Nat) (xs:List ByteArray) (sep:ByteArray) (w:World) (hcells:∀ (j:Nat) x,xs[j]? = some x → w.cell? ⟨bk,o + j,none⟩ = some (.string x)) (hbk:bk < w.heap.size) (hN:xs.length ≤ 140737488355328) (hcap:xs.length ≤ c) (hlen:(Lib.join (xs.map (·.data.toList)) sep.data.toList).length ≤ 140737488355328) :
    Calls Tryz.prog 20 #[.slice (some ⟨bk,o,none⟩) xs.length c,.string sep] w fun e w' => e = .returned (.string ⟨(Lib.join (xs.map (·.data.toList)) sep.data.toList).toArray⟩) ∧ Below w.heap.size w w':=Any.strings_Join Tryz.lays156 Tryz.Builder_Extra_156 bk o c xs sep w hcells hbk hN hcap hlen
def Tryz.lays119_ren:Go.Shelf.Ren:=⟨fun | 119 => 66 | n => n,fun | 21 => 21 | 4 => 4 | n => n,fun | n => n⟩
theorem Tryz.lays119:Go.Proofs.Lays.n119 Tryz.prog Tryz.lays119_ren:={
  mixed:=by kernel_rfl
  f119:=Tryz.func66.trans (congrArg some (by kernel_rfl))
  t4:=Tryz.underlying4
  a4:=Tryz.isAgg4
  z4:=Tryz.sizeOf4
  v4:=Tryz.zeroValue4
  t21:=Tryz.underlying21
  a21:=Tryz.isAgg21
  z21:=Tryz.sizeOf21
  v21:=Tryz.zeroValue21 }
theorem Tryz.utf8_ValidRune (r:Int) (w:World) :
    Calls Tryz.prog 66 #[.int .i32 r] w fun e w' => e = .returned (.bool (Lib.validRune r)) ∧ w' = w:=Any.utf8_ValidRune Tryz.lays119 r w
def Tryz.lays137_ren:Go.Shelf.Ren:=⟨fun | 137 => 51 | 217 => 67 | 266 => 85 | n => n,fun | 9 => 9 | 5 => 5 | 3 => 3 | n => n,fun | n => n⟩
theorem Tryz.lays137:Go.Proofs.Lays.n137 Tryz.prog Tryz.lays137_ren:={
  mixed:=by kernel_rfl
  f137:=Tryz.func51.trans (congrArg some (by kernel_rfl))
  f217:=Tryz.func67.trans (congrArg some (by kernel_rfl))
  f266:=Tryz.func85.trans (congrArg some (by kernel_rfl))
  t3:=Tryz.underlying3
  a3:=Tryz.isAgg3
  z3:=Tryz.sizeOf3
  v3:=Tryz.zeroValue3
  t5:=Tryz.underlying5
  a5:=Tryz.isAgg5
  z5:=Tryz.sizeOf5
  v5:=Tryz.zeroValue5
  t9:=Tryz.underlying9
  a9:=Tryz.isAgg9
  z9:=Tryz.sizeOf9
  v9:=Tryz.zeroValue9 }
open Go.RowKit in
theorem Tryz.strings_IndexByte (s:ByteArray) (c:Int) (w:World) :
    Calls Tryz.prog 51 #[.string s,.int .u8 c] w fun e w' => e = .returned (.int .i64 (Lib.indexByte s.data.toList c.toNat.toUInt8)) ∧ w' = w:=Any.strings_IndexByte Tryz.lays137 s c w
open Go.RowKit in
theorem Tryz.Builder_String_any_f (B b:Nat) (l:List UInt8) (w:World) (h:Lib.IsBuilderF 95 5 B b (Lib.byteCells l) w) (hBw:B ≤ w.heap.size) :
    Calls Tryz.prog 38 #[.pointer (some ⟨b,0,none⟩)] w fun e w' => e = .returned (.string ⟨l.toArray⟩) ∧ (Lib.IsBuilderF 95 5 B b (Lib.byteCells l) w' ∧ Below B w w'):=Any.Builder_String_any_f Tryz.lays169 Tryz.Builder_Extra_169 B b l w h hBw
def Tryz.lays242_ren:Go.Shelf.Ren:=⟨fun | 242 => 89 | 278 => 94 | n => n,fun | 37 => 93 | 21 => 21 | 51 => 66 | 4 => 4 | 5 => 5 | 46 => 125 | n => n,fun | n => n⟩
theorem Tryz.lays242:Go.Proofs.Lays.n242 Tryz.prog Tryz.lays242_ren:={
  mixed:=by kernel_rfl
  f242:=Tryz.func89.trans (congrArg some (by kernel_rfl))
  f278:=Tryz.func94.trans (congrArg some (by kernel_rfl))
  t4:=Tryz.underlying4
  a4:=Tryz.isAgg4
  z4:=Tryz.sizeOf4
  v4:=Tryz.zeroValue4
  t5:=Tryz.underlying5
  a5:=Tryz.isAgg5
  z5:=Tryz.sizeOf5
  v5:=Tryz.zeroValue5
  t21:=Tryz.underlying21
  a21:=Tryz.isAgg21
  z21:=Tryz.sizeOf21
  v21:=Tryz.zeroValue21
  t37:=Tryz.underlying93
  a37:=Tryz.isAgg93
  z37:=Tryz.sizeOf93
  v37:=Tryz.zeroValue93
  t46:=Tryz.underlying125
  a46:=Tryz.isAgg125
  z46:=Tryz.sizeOf125
  v46:=Tryz.zeroValue125
  t51:=Tryz.underlying66
  a51:=Tryz.isAgg66
  z51:=Tryz.sizeOf66
  v51:=Tryz.zeroValue66 }
open Go.RowKit in
theorem Tryz.utf8_AppendRune_row (B:Nat) (v:Value) (n:Nat) (xs:List Value) (r:Int) (hr0 : -2147483648 ≤ r) (hr1:r ≤ 2147483647) (w:World) (hown:w.ownsRowF B 5 1 v n xs) (hlen:n + 4 ≤ 140737488355328) (hBw:B ≤ w.heap.size) :
    Calls Tryz.prog 89 #[v,.int .i32 r] w fun e w' => ∃ v',e = .returned v' ∧ w'.ownsRowF B 5 1 v' (n + (Lib.runeCells r).length) (xs ++ Lib.runeCells r) ∧ ∃ o,(w.alloc o).grownBy w' v.ownBlock:=Any.utf8_AppendRune_row Tryz.lays242 (by kernel_rfl) B v n xs r hr0 hr1 w hown hlen hBw
def Tryz.lays195_ren:Go.Shelf.Ren:=⟨fun | 195 => 72 | n => n,fun | 9 => 9 | 3 => 3 | 0 => 0 | 4 => 4 | n => n,fun | n => n⟩
theorem Tryz.lays195:Go.Proofs.Lays.n195 Tryz.prog Tryz.lays195_ren:={
  mixed:=by kernel_rfl
  f195:=Tryz.func72.trans (congrArg some (by kernel_rfl))
  t0:=Tryz.underlying0
  a0:=Tryz.isAgg0
  z0:=Tryz.sizeOf0
  v0:=Tryz.zeroValue0
  t3:=Tryz.underlying3
  a3:=Tryz.isAgg3
  z3:=Tryz.sizeOf3
  v3:=Tryz.zeroValue3
  t4:=Tryz.underlying4
  a4:=Tryz.isAgg4
  z4:=Tryz.sizeOf4
  v4:=Tryz.zeroValue4
  t9:=Tryz.underlying9
  a9:=Tryz.isAgg9
  z9:=Tryz.sizeOf9
  v9:=Tryz.zeroValue9 }
open Go.RowKit in
theorem Tryz.utf8_RuneCountInString (s:ByteArray) (w:World) (hs:s.size < 9223372036854775807) :
    Calls Tryz.prog 72 #[.string s] w fun e w' => e = .returned (.int .i64 (Lib.runeCount s)) ∧ ∃ pos,w' = w.iter s pos:=Any.utf8_RuneCountInString Tryz.lays195 s w hs
def Tryz.lays197_ren:Go.Shelf.Ren:=⟨fun | 197 => 29 | 260 => 49 | n => n,fun | 9 => 9 | 21 => 21 | 3 => 3 | 4 => 4 | 5 => 5 | 105 => 82 | 119 => 121 | 0 => 0 | 46 => 125 | 139 => 124 | 138 => 123 | n => n,fun | 3 => 0 | 4 => 1 | n => n⟩
theorem Tryz.lays197:Go.Proofs.Lays.n197 Tryz.prog Tryz.lays197_ren:={
  mixed:=by kernel_rfl
  f197:=Tryz.func29.trans (congrArg some (by kernel_rfl))
  f260:=Tryz.func49.trans (congrArg some (by kernel_rfl))
  t0:=Tryz.underlying0
  a0:=Tryz.isAgg0
  z0:=Tryz.sizeOf0
  v0:=Tryz.zeroValue0
  t3:=Tryz.underlying3
  a3:=Tryz.isAgg3
  z3:=Tryz.sizeOf3
  v3:=Tryz.zeroValue3
  t4:=Tryz.underlying4
  a4:=Tryz.isAgg4
  z4:=Tryz.sizeOf4
  v4:=Tryz.zeroValue4
  t5:=Tryz.underlying5
  a5:=Tryz.isAgg5
  z5:=Tryz.sizeOf5
  v5:=Tryz.zeroValue5
  t9:=Tryz.underlying9
  a9:=Tryz.isAgg9
  z9:=Tryz.sizeOf9
  v9:=Tryz.zeroValue9
  t21:=Tryz.underlying21
  a21:=Tryz.isAgg21
  z21:=Tryz.sizeOf21
  v21:=Tryz.zeroValue21
  t46:=Tryz.underlying125
  a46:=Tryz.isAgg125
  z46:=Tryz.sizeOf125
  v46:=Tryz.zeroValue125
  t105:=Tryz.underlying82
  a105:=Tryz.isAgg82
  z105:=Tryz.sizeOf82
  v105:=Tryz.zeroValue82
  t119:=Tryz.underlying121
  a119:=Tryz.isAgg121
  z119:=Tryz.sizeOf121
  t138:=Tryz.underlying123
  a138:=Tryz.isAgg123
  z138:=Tryz.sizeOf123
  v138:=Tryz.zeroValue123
  t139:=Tryz.underlying124
  a139:=Tryz.isAgg124
  z139:=Tryz.sizeOf124
  v139:=Tryz.zeroValue124
  g3:=by kernel_rfl
  g4:=by kernel_rfl }
open Go.RowKit Go.Lib in
theorem Tryz.utf8_DecodeRuneInString (s:ByteArray) (w:World) (hT:Lib.Utf8Tabs 0 1 w) :
    Calls Tryz.prog 29 #[.string s] w fun e w' => e = .returned (.tuple #[.int .i32 (Lib.decodeGo s).1,.int .i64 (Lib.decodeGo s).2]) ∧ Below w.heap.size w w':=Any.utf8_DecodeRuneInString Tryz.lays197 s w hT
def Tryz.lays196v_ren:Go.Shelf.Ren:=⟨fun | 196 => 46 | 259 => 64 | n => n,fun | 9 => 9 | 4 => 4 | 3 => 3 | 5 => 5 | 12 => 12 | 119 => 121 | 0 => 0 | 46 => 125 | 139 => 124 | 138 => 123 | 53 => 143 | n => n,fun | 3 => 0 | 4 => 1 | n => n⟩
theorem Tryz.lays196v:Go.Proofs.Lays.n196 Tryz.prog Tryz.lays196v_ren:={
  mixed:=by kernel_rfl
  f196:=Tryz.func46.trans (congrArg some (by kernel_rfl))
  f259:=Tryz.func64.trans (congrArg some (by kernel_rfl))
  t0:=Tryz.underlying0
  a0:=Tryz.isAgg0
  z0:=Tryz.sizeOf0
  v0:=Tryz.zeroValue0
  t3:=Tryz.underlying3
  a3:=Tryz.isAgg3
  z3:=Tryz.sizeOf3
  v3:=Tryz.zeroValue3
  t4:=Tryz.underlying4
  a4:=Tryz.isAgg4
  z4:=Tryz.sizeOf4
  v4:=Tryz.zeroValue4
  t5:=Tryz.underlying5
  a5:=Tryz.isAgg5
  z5:=Tryz.sizeOf5
  v5:=Tryz.zeroValue5
  t9:=Tryz.underlying9
  a9:=Tryz.isAgg9
  z9:=Tryz.sizeOf9
  v9:=Tryz.zeroValue9
  t12:=Tryz.underlying12
  a12:=Tryz.isAgg12
  z12:=Tryz.sizeOf12
  v12:=Tryz.zeroValue12
  t46:=Tryz.underlying125
  a46:=Tryz.isAgg125
  z46:=Tryz.sizeOf125
  v46:=Tryz.zeroValue125
  t53:=Tryz.underlying143
  a53:=Tryz.isAgg143
  z53:=Tryz.sizeOf143
  v53:=Tryz.zeroValue143
  t119:=Tryz.underlying121
  a119:=Tryz.isAgg121
  z119:=Tryz.sizeOf121
  t138:=Tryz.underlying123
  a138:=Tryz.isAgg123
  z138:=Tryz.sizeOf123
  v138:=Tryz.zeroValue123
  t139:=Tryz.underlying124
  a139:=Tryz.isAgg124
  z139:=Tryz.sizeOf124
  v139:=Tryz.zeroValue124
  g3:=by kernel_rfl
  g4:=by kernel_rfl }
open Go.RowKit Go.Lib in
theorem Tryz.utf8_ValidString (s:ByteArray) (w:World) (hs:s.size ≤ 9223372036854775807) (hT:Lib.Utf8Tabs 0 1 w) :
    Calls Tryz.prog 46 #[.string s] w fun e w' => e = .returned (.bool (Lib.validD s.data.toList)) ∧ Below w.heap.size w w':=Any.utf8_ValidString Tryz.lays196v s w hs hT
end Go.Proofs
