/- Short names for rows that the printed walks repeat: each theorem bears its proof's steps as a default. -/
import Derived.Test.YtfbhdjflkaldgaaGreatDoorMg1
namespace Go.Proofs.YtfbhdjflkaldgaaGreatDoor.Ct
open Go.RowKit Go.Proofs.YtfbhdjflkaldgaaGreatDoorW.PrintWords Go.Proofs.YtfbhdjflkaldgaaGreatDoorW.PrintLast Go.Proofs.YtfbhdjflkaldgaaGreatDoorW.PrintMore
set_option linter.unusedVariables false
theorem am {P:Prop} (h:P):Aside0 P:=⟨h⟩
theorem Z4o:(Value.slice none 0 0).ownBlock = none:=rfl
theorem tB {P Q:Prop} (q:Aside0 Q) (h:Q → P:=by intro h_;repeat (first | (with_reducible first | exact h_ | apply below_alloc | apply pw_below_drewN | apply below_drew1 | refine below_set ?_ (Aside0.out (by assumption))) | exact h_)):P:=h q.out
theorem tS {w w0 W:World} (q:Aside0 (Below w.heap.size w w0)) (h:Below w.heap.size w w0 → Below w.heap.size w W:=by intro h_;repeat (first | (with_reducible first | exact h_ | apply below_alloc | apply pw_below_drewN | apply below_drew1 | refine below_set ?_ (Aside0.out (by assumption))) | exact h_)):w.heap.size ≤ W.heap.size:=below_size (h q.out)
theorem Zfm {w:World} {g:Nat} {o:Obj} {p:Addr} {u:Value} (hp:Aside0 (g ≠ p.block)) (h:w.heap[g]? = some o):(w.setCell p u).heap[g]? = some o:=(Below.heap_setCell w p u g hp.out).trans h
theorem tK {w0 w1:World} {g:Nat} {o:Obj} (q:Aside0 (w0.heap[g]? = some o)) (h:w0.heap[g]? = some o → w1.heap[g]? = some o:=by intro h_;(repeat (with_reducible first | refine blk_drewN ?_ _ | refine blk_drew ?_ | refine blk_alloc ?_ _ | (refine Zfm ?_ ?_;focus assumption) | apply blk_put));(exact h_);all_goals rfl):w1.heap[g]? = some o:=h q.out
theorem tKp {w0 w1:World} {g:Nat} {o o':Obj} (q:Aside0 (w0.heap[g]? = some o)) (h:w0.heap[g]? = some o → w1.heap[g]? = some o':=by intro h_;(repeat (with_reducible first | refine blk_drewN ?_ _ | refine blk_drew ?_ | refine blk_alloc ?_ _ | (refine Zfm ?_ ?_;focus assumption) | apply blk_put));(exact h_);all_goals rfl):w1.heap[g]? = some o':=h q.out
theorem Zl6 {α:Type} {d:Kd α} {e base:Nat} {ok ok':Nat → Prop} {w w':World} {v:Value} {xs:List α} (h:Kd.R d e w base ok v xs) (hs:Kd.R d e w base ok v xs → Kd.R d e w' base ok v xs) (hok:∀ k,ok k → ok' k):Kd.R d e w' base ok' v xs:=Kd.R_mono (hs h) hok
theorem dR {P Q:Prop} (q:Aside0 Q) (h:Q → P:=by
  intro h_
  first
  | ((repeat (with_reducible first | apply Kd.R_alloc | apply Kd.R_drewN | apply Kd.R_drew));(with_reducible exact h_))
  | (refine Zl6 h_ ?_ (by with_reducible exact (fun _ h_ => h_));intro h_;(repeat (first | (with_reducible first | apply Kd.R_alloc | apply Kd.R_drewN | apply Kd.R_drew) | ((with_reducible refine Zl5 ?_ ?_);(intro k_ hk_;(try dsimp only at hk_);(try simp only [and_assoc] at hk_);repeat (first | exact hk_ | exact hk_.1 | replace hk_:=hk_.2)))));(with_reducible exact h_))
  | (refine Zl6 h_ ?_ ?_;(focus (intro h_;(repeat (first | (with_reducible first | apply Kd.R_alloc | apply Kd.R_drewN | apply Kd.R_drew) | ((with_reducible refine Zl5 ?_ ?_);(intro k_ hk_;(try dsimp only at hk_);(try simp only [and_assoc] at hk_);repeat (first | exact hk_ | exact hk_.1 | replace hk_:=hk_.2)))));(with_reducible exact h_)));(focus (intro k_ hk_;first | exact trivial | ((try dsimp only at hk_ ⊢);simp only [hk_,ne_eq,not_false_eq_true,and_self,Z4o,reduceCtorEq]))))):P:=h q.out
theorem Zlb {α:Type} {d:Kd α} {e base:Nat} {ok:Nat → Prop} {w:World} {v:Value} {xs:List α} {p:Addr} {u:Value} (hok:∀ k,ok k → k ≠ p.block) (h:Kd.S d e w base ok v xs):Kd.S d e (w.setCell p u) base ok v xs:=Kd.S_far h hok u
theorem Zlc {α:Type} {d:Kd α} {e base:Nat} {ok ok':Nat → Prop} {w w':World} {v:Value} {xs:List α} (h:Kd.S d e w base ok v xs) (hs:Kd.S d e w base ok v xs → Kd.S d e w' base ok v xs) (hok:∀ k,ok k → ok' k):Kd.S d e w' base ok' v xs:=Kd.S_mono (hs h) hok
theorem dS {P Q:Prop} (q:Aside0 Q) (h:Q → P:=by
  intro h_
  first
  | ((repeat (with_reducible first | apply Kd.S_alloc | apply Kd.S_drewN | apply Kd.S_drew));(with_reducible exact h_))
  | (refine Zlc h_ ?_ (by with_reducible exact (fun _ h_ => h_));intro h_;(repeat (first | (with_reducible first | apply Kd.S_alloc | apply Kd.S_drewN | apply Kd.S_drew) | ((with_reducible refine Zlb ?_ ?_);(intro k_ hk_;(try dsimp only at hk_);(try simp only [and_assoc] at hk_);repeat (first | exact hk_ | exact hk_.1 | replace hk_:=hk_.2)))));(with_reducible exact h_))
  | (refine Zlc h_ ?_ ?_;(focus (intro h_;(repeat (first | (with_reducible first | apply Kd.S_alloc | apply Kd.S_drewN | apply Kd.S_drew) | ((with_reducible refine Zlb ?_ ?_);(intro k_ hk_;(try dsimp only at hk_);(try simp only [and_assoc] at hk_);repeat (first | exact hk_ | exact hk_.1 | replace hk_:=hk_.2)))));(with_reducible exact h_)));(focus (intro k_ hk_;first | exact trivial | ((try dsimp only at hk_ ⊢);simp only [hk_,ne_eq,not_false_eq_true,and_self,Z4o,reduceCtorEq]))))):P:=h q.out
theorem tC {P Q R:Prop} (q:Aside0 Q) (b:Aside0 R) (h:Q → R → P:=by intro q_ b_;repeat (first | exact (Kd.C_below q_ b_) | (with_reducible refine Kd.C_alloc ?_ _) | (with_reducible refine Kd.C_drewN ?_ _) | (with_reducible refine Kd.C_drew ?_))):P:=h q.out b.out
theorem tL {g g':Nat} {W:World} {o:Obj} (hg:g' = W.heap.size) (h:W.heap[g]? = some o):Aside0 (g ≠ g'):=⟨by rw [hg];exact Nat.ne_of_lt (blk_lt h)⟩
theorem tG {g g':Nat} {W:World} {o:Obj} (hg:g' = W.heap.size) (h:W.heap[g]? = some o):Aside0 (g' ≠ g):=⟨by rw [hg];exact Nat.ne_of_gt (blk_lt h)⟩
theorem tZ {a g:Nat} {W:World} (hg:g = W.heap.size) (h:a ≤ W.heap.size):Aside0 (a ≤ g):=⟨by rw [hg];exact h⟩
theorem tV1 {P:Prop} (h:P:=by first | rfl | (simp;done) | (simp [*];done)):P:=h
theorem tU {P:Prop} (h:P:=by first | omega | exact Nat.le_refl _):P:=h
theorem eP2 {a b:Nat} (h:(a:Int) = (b:Int)):((a:Int) == (b:Int)) = true ∧ ((a:Int) != (b:Int)) = false ∧ (a == b) = true:=⟨beq_iff_eq.mpr h,bne_eq_false_iff_eq.mpr h,beq_iff_eq.mpr (Int.ofNat.inj h)⟩
theorem eN2 {a b:Nat} (h:¬ (a:Int) = (b:Int)):((a:Int) == (b:Int)) = false ∧ ((a:Int) != (b:Int)) = true ∧ (a == b) = false:=⟨beq_eq_false_iff_ne.mpr h,bne_iff_ne.mpr h,beq_eq_false_iff_ne.mpr (fun e => h (congrArg _ e))⟩
theorem cel1 {w:World} {g:Nat} {t:TypeId} {cs:Array Value} (h:Aside0 (w.heap[g]? = some (.cells cs t (0,0)))) (i:Nat) {v:Value} (e:cs[i]? = some v):w.cell? ⟨g,i,none⟩ = some v:=(blk_cell h.out i).trans e
theorem cel2 {w:World} {g:Nat} {t:TypeId} {cs:List Value} (h:Aside0 (w.heap[g]? = some (.cells ⟨cs⟩ t (0,0)))) (i:Nat) {v:Value} (e:cs[i]? = some v):w.cell? ⟨g,i,none⟩ = some v:=(blk_cell h.out i).trans (by simpa using e)
theorem celB {w w1:World} {a:Addr} {v:Value} (h:Aside0 (Below w.heap.size w w1)) (hc:w.cell? a = some v):w1.cell? a = some v:=(h.out.cell (World.block_lt_of_cell? w _ hc)).trans hc
theorem Z0z {P:Program} {ops:Array Oper} {rest:List Oper} {o:Oper} {a:Act} {W:World} {Q:Exit → Act → World → Prop} {t:TypeId} {p:Tmp} (_ho:o.op = .load t (.tmp p)) (h:wpList P ops Q (o :: rest) a W):wpList P ops Q (o :: rest) a W:=h
theorem Z5b {P:Program} {o:Oper} {a:Act} {w:World} (ty:TypeId) (x:Operand) (ho:o.op = .load ty x) (g:Nat) (hx:a.eval x = .pointer (some ⟨g,0,none⟩)) (t:TypeId) (cs:Array Value) (d:TypeDesc) (hg:w.heap[g]? = some (.cells cs t (0,0)))
    (hu:P.underlying ty = some d) (hd:(match d with | .struct _ | .array _ _ => true | _ => false) = true) (hi:(P.info? ty).map (·.size) = some cs.size):(execOp a.eval o).run P w = .ok (.value (.agg cs)) w:=by
  unfold execOp;simp only [ho,hx,Instr.loadAt,Instr.sureAddr,Sem.run_bind,Sem.run_pure,Result.andThen_ok,run_loadVar_row w g t ty cs (0,0) d hg hu hd hi]
theorem oD {p:Prop} [Decidable p] (h:decide p = true:=by first | (with_reducible assumption) | assumption):p:=of_decide_eq_true h
theorem tE {P:Prop} (h:P:=by first | rfl | (simp [Z3e,Z3f] <;> rfl) | (simp [*,Z3e,Z3f] <;> rfl)):P:=h
theorem zel1 {w:World} {g:Nat} {t:TypeId} {cs:Array Value} (h:Aside0 (w.heap[g]? = some (.cells cs t (0,0)))) (i:Nat):w.frozen? ⟨g,i,none⟩ = false:=blk_frozen h.out i
theorem bx2 {w:World} {g:Nat} {t:TypeId} {v0 v1:Value} (h:Aside0 (w.heap[g]? = some (.cells #[v0,v1] t (0,0)))):w.cell? ⟨g,0,none⟩ = some v0 ∧ w.cell? ⟨g,1,none⟩ = some v1 ∧ w.frozen? ⟨g,0,none⟩ = false ∧ w.frozen? ⟨g,1,none⟩ = false:=⟨cel1 h 0 rfl,cel1 h 1 rfl,zel1 h 0,zel1 h 1⟩
theorem bx4 {w:World} {g:Nat} {t:TypeId} {v0 v1 v2 v3:Value} (h:Aside0 (w.heap[g]? = some (.cells #[v0,v1,v2,v3] t (0,0)))):w.cell? ⟨g,0,none⟩ = some v0 ∧ w.cell? ⟨g,1,none⟩ = some v1 ∧ w.cell? ⟨g,2,none⟩ = some v2 ∧ w.cell? ⟨g,3,none⟩ = some v3 ∧ w.frozen? ⟨g,0,none⟩ = false ∧ w.frozen? ⟨g,1,none⟩ = false ∧ w.frozen? ⟨g,2,none⟩ = false ∧ w.frozen? ⟨g,3,none⟩ = false:=⟨cel1 h 0 rfl,cel1 h 1 rfl,cel1 h 2 rfl,cel1 h 3 rfl,zel1 h 0,zel1 h 1,zel1 h 2,zel1 h 3⟩
theorem bx6 {w:World} {g:Nat} {t:TypeId} {v0 v1 v2 v3 v4 v5:Value} (h:Aside0 (w.heap[g]? = some (.cells #[v0,v1,v2,v3,v4,v5] t (0,0)))):w.cell? ⟨g,0,none⟩ = some v0 ∧ w.cell? ⟨g,1,none⟩ = some v1 ∧ w.cell? ⟨g,2,none⟩ = some v2 ∧ w.cell? ⟨g,3,none⟩ = some v3 ∧ w.cell? ⟨g,4,none⟩ = some v4 ∧ w.cell? ⟨g,5,none⟩ = some v5 ∧ w.frozen? ⟨g,0,none⟩ = false ∧ w.frozen? ⟨g,1,none⟩ = false ∧ w.frozen? ⟨g,2,none⟩ = false ∧ w.frozen? ⟨g,3,none⟩ = false ∧ w.frozen? ⟨g,4,none⟩ = false ∧ w.frozen? ⟨g,5,none⟩ = false:=⟨cel1 h 0 rfl,cel1 h 1 rfl,cel1 h 2 rfl,cel1 h 3 rfl,cel1 h 4 rfl,cel1 h 5 rfl,zel1 h 0,zel1 h 1,zel1 h 2,zel1 h 3,zel1 h 4,zel1 h 5⟩
open Go.Proofs.YtfbhdjflkaldgaaGreatDoor.Pr
structure Lg where
  v0:ByteArray
  v1:Bool
  v2:List (S68)
  v3:List (S73)
  v4:List (S188)
  v5:List (S191)
  v6:List (List Int)
  v7:Int
  v8:Int
  v9:List (S73)
  va:Int
  vb:List ByteArray
  vc:List ByteArray
  vd:Bool
  ve:ByteArray
  vf:Int
  vg:ByteArray
  vh:Bool
  vi:Int
  vj:Int
  vk:List (S194)
  vl:List (S194)
  vm:List ByteArray
  vn:List ByteArray
  vo:List ByteArray
  vp:Bool
  vq:List (S196)
  vr:List (S198)
  vs:List (S202)
  vt:ByteArray
structure La where
  A2:Option Addr
  c2:Nat
  A3:Option Addr
  c3:Nat
  A4:Option Addr
  c4:Nat
  A5:Option Addr
  c5:Nat
  A6:Option Addr
  c6:Nat
  A9:Option Addr
  c9:Nat
  Ab:Option Addr
  cb:Nat
  Ac:Option Addr
  cc:Nat
  Ak:Option Addr
  ck:Nat
  Al:Option Addr
  cl:Nat
  Am:Option Addr
  cm:Nat
  An:Option Addr
  cn:Nat
  Ao:Option Addr
  co:Nat
  Aq:Option Addr
  cq:Nat
  Ar:Option Addr
  cr:Nat
  As:Option Addr
  cs:Nat
@[reducible] def lcs (g:Lg) (p:La):Array Value:=#[.string g.v0,.bool g.v1,.slice p.A2 g.v2.length p.c2,.slice p.A3 g.v3.length p.c3,.slice p.A4 g.v4.length p.c4,.slice p.A5 g.v5.length p.c5,.slice p.A6 g.v6.length p.c6,.int .i64 g.v7,.int .i64 g.v8,.slice p.A9 g.v9.length p.c9,.int .i64 g.va,.slice p.Ab g.vb.length p.cb,.slice p.Ac g.vc.length p.cc,.bool g.vd,.string g.ve,.int .i64 g.vf,.string g.vg,.bool g.vh,.int .i64 g.vi,.int .i64 g.vj,.slice p.Ak g.vk.length p.ck,.slice p.Al g.vl.length p.cl,.slice p.Am g.vm.length p.cm,.slice p.An g.vn.length p.cn,.slice p.Ao g.vo.length p.co,.bool g.vp,.slice p.Aq g.vq.length p.cq,.slice p.Ar g.vr.length p.cr,.slice p.As g.vs.length p.cs,.string g.vt]
structure Z2o (g:Lg) (p:La) (w:World):Prop where
  r2:Kd.C k68 w p.A2 g.v2.length g.v2
  c2:g.v2.length ≤ p.c2
  r3:Kd.C k73 w p.A3 g.v3.length g.v3
  c3:g.v3.length ≤ p.c3
  r4:Kd.C k188 w p.A4 g.v4.length g.v4
  c4:g.v4.length ≤ p.c4
  r5:Kd.C k191 w p.A5 g.v5.length g.v5
  c5:g.v5.length ≤ p.c5
  r6:Kd.C (Kd.slice 66 (Kd.int .u32)) w p.A6 g.v6.length g.v6
  c6:g.v6.length ≤ p.c6
  r9:Kd.C k73 w p.A9 g.v9.length g.v9
  c9:g.v9.length ≤ p.c9
  rb:Kd.C Kd.string w p.Ab g.vb.length g.vb
  cb:g.vb.length ≤ p.cb
  rc:Kd.C Kd.string w p.Ac g.vc.length g.vc
  cc:g.vc.length ≤ p.cc
  rk:Kd.C k194 w p.Ak g.vk.length g.vk
  ck:g.vk.length ≤ p.ck
  rl:Kd.C k194 w p.Al g.vl.length g.vl
  cl:g.vl.length ≤ p.cl
  rm:Kd.C Kd.string w p.Am g.vm.length g.vm
  cm:g.vm.length ≤ p.cm
  rn:Kd.C Kd.string w p.An g.vn.length g.vn
  cn:g.vn.length ≤ p.cn
  ro:Kd.C Kd.string w p.Ao g.vo.length g.vo
  co:g.vo.length ≤ p.co
  rq:Kd.C k196 w p.Aq g.vq.length g.vq
  cq:g.vq.length ≤ p.cq
  rr:Kd.C k198 w p.Ar g.vr.length g.vr
  cr:g.vr.length ≤ p.cr
  rs:Kd.C k202 w p.As g.vs.length g.vs
  cs:g.vs.length ≤ p.cs
theorem Z2o.below {g:Lg} {p:La} {w W:World} (h:Z2o g p w) (hb:Below w.heap.size w W):Z2o g p W:=⟨Kd.C_below h.r2 hb,h.c2,Kd.C_below h.r3 hb,h.c3,Kd.C_below h.r4 hb,h.c4,Kd.C_below h.r5 hb,h.c5,Kd.C_below h.r6 hb,h.c6,Kd.C_below h.r9 hb,h.c9,Kd.C_below h.rb hb,h.cb,Kd.C_below h.rc hb,h.cc,Kd.C_below h.rk hb,h.ck,Kd.C_below h.rl hb,h.cl,Kd.C_below h.rm hb,h.cm,Kd.C_below h.rn hb,h.cn,Kd.C_below h.ro hb,h.co,Kd.C_below h.rq hb,h.cq,Kd.C_below h.rr hb,h.cr,Kd.C_below h.rs hb,h.cs⟩
theorem Z2o.alloc {g:Lg} {p:La} {w:World} (h:Z2o g p w) (o:Obj):Z2o g p (w.alloc o):=⟨Kd.C_alloc h.r2 o,h.c2,Kd.C_alloc h.r3 o,h.c3,Kd.C_alloc h.r4 o,h.c4,Kd.C_alloc h.r5 o,h.c5,Kd.C_alloc h.r6 o,h.c6,Kd.C_alloc h.r9 o,h.c9,Kd.C_alloc h.rb o,h.cb,Kd.C_alloc h.rc o,h.cc,Kd.C_alloc h.rk o,h.ck,Kd.C_alloc h.rl o,h.cl,Kd.C_alloc h.rm o,h.cm,Kd.C_alloc h.rn o,h.cn,Kd.C_alloc h.ro o,h.co,Kd.C_alloc h.rq o,h.cq,Kd.C_alloc h.rr o,h.cr,Kd.C_alloc h.rs o,h.cs⟩
theorem lB {g:Lg} {p:La} {w W:World} {R:Prop} (q:Aside0 (Z2o g p w)) (b:Aside0 R) (h:Z2o g p w → R → Z2o g p W:=by intro q_ b_;repeat (first | exact q_.below b_ | (with_reducible refine Z2o.alloc ?_ _) | (with_reducible refine Z2o.drewN ?_ _) | (with_reducible refine Z2o.drew ?_))):Z2o g p W:=h q.out b.out
theorem GpR {p:Prop} (h:p:=by simp only [Act.put,List.setIfInBounds_toArray,List.set_cons_zero,List.set_cons_succ,i64_w,i32_w];rfl):p:=h
theorem pK {P:Program} {ops:Array Oper} {Q:Exit → Act → World → Prop} {md:Region.Mode} {S:World → Prop} {ds:List Nat} {oi:Oper} {v:Value} {fuel:Nat} {l l':Array Bool} {a a':Act} {w:World} (i n:Nat) (h:wpAnyLast P md ops Q S ds fuel l' a' w) (hi:ops[i]? = some oi:=by rfl) (hN:oi.dst = some n:=by rfl) (hl:l.setIfInBounds i true = l':=by simp only [List.setIfInBounds_toArray,List.set_cons_zero,List.set_cons_succ];rfl) (hc:anyB md ops l l' i = true:=by kernel_rfl) (hQ:∀ c a w,Q (.panic c) (a.put oi.dst v) w → Q (.panic c) a w:=by exact (fun _ _ _ h => h)) (hy:Yields P ops oi v a:=by exact Or.inl ⟨by rfl,by intro w';go_simp;with_reducible rfl⟩) (ha:a.put (some n) v = a':=by exact GpR):wpAnyLast P md ops Q S ds (fuel + 1) l a w:=pure_ (N:=some n) l' hi hN hc hQ hy ha h
theorem pT {P:Program} {ops:Array Oper} {Q:Exit → Act → World → Prop} {md:Region.Mode} {S:World → Prop} {ds:List Nat} {oi:Oper} {v:Value} {fuel:Nat} {l l':Array Bool} {a a':Act} {w:World} (i n:Nat) (h:wpAnyLast P md ops Q S ds fuel l' a' w) (hi:ops[i]? = some oi:=by rfl) (hN:oi.dst = some n:=by rfl) (hl:l.setIfInBounds i true = l':=by simp only [List.setIfInBounds_toArray,List.set_cons_zero,List.set_cons_succ];rfl) (hc:anyB md ops l l' i = true:=by exact (any_of HT_.out (by kernel_rfl))) (hQ:∀ c a w,Q (.panic c) (a.put oi.dst v) w → Q (.panic c) a w:=by exact (fun _ _ _ h => h)) (hy:Yields P ops oi v a:=by exact Or.inl ⟨by rfl,by intro w';go_simp;with_reducible rfl⟩) (ha:a.put (some n) v = a':=by exact GpR):wpAnyLast P md ops Q S ds (fuel + 1) l a w:=pure_ (N:=some n) l' hi hN hc hQ hy ha h
theorem pKP {P:Program} {ops:Array Oper} {Q:Exit → Act → World → Prop} {md:Region.Mode} {S:World → Prop} {ds:List Nat} {oi:Oper} {v:Value} {fuel:Nat} {l l':Array Bool} {a a':Act} {w:World} (i n:Nat) (h:wpAnyLast P md ops Q S ds fuel l' a' w) (hi:ops[i]? = some oi:=by rfl) (hN:oi.dst = some n:=by rfl) (hl:l.setIfInBounds i true = l':=by simp only [List.setIfInBounds_toArray,List.set_cons_zero,List.set_cons_succ];rfl) (hc:anyB md ops l l' i = true:=by kernel_rfl) (hQ:∀ c a w,Q (.panic c) (a.put oi.dst v) w → Q (.panic c) a w:=by exact (fun c_ a_ w_ h_ => Z9w (by decide) (by decide) c_ a_ w_ h_)) (hy:Yields P ops oi v a:=by exact Or.inl ⟨by rfl,by intro w';go_simp;with_reducible rfl⟩) (ha:a.put (some n) v = a':=by exact GpR):wpAnyLast P md ops Q S ds (fuel + 1) l a w:=pure_ (N:=some n) l' hi hN hc hQ hy ha h
theorem uK {P:Program} {ops:Array Oper} {Q:Exit → Act → World → Prop} {md:Region.Mode} {S:World → Prop} {ds:List Nat} {oi:Oper} {fuel:Nat} {l l':Array Bool} {a a':Act} {w:World} (i n:Nat) (h:wpAnyLast P md ops Q S ds fuel l' a' w) (hi:ops[i]? = some oi:=by rfl) (hN:oi.dst = some n:=by rfl) (hl:l.setIfInBounds i true = l':=by simp only [List.setIfInBounds_toArray,List.set_cons_zero,List.set_cons_succ];rfl) (hc:anyB md ops l l' i = true:=by kernel_rfl) (hQ:∀ c a w,Q (.panic c) (a.put oi.dst undef) w → Q (.panic c) a w:=by exact (fun _ _ _ h => h)) (hy:Yields P ops oi undef a:=by exact Or.inr ⟨by rfl,rfl⟩) (ha:a.put (some n) undef = a':=by exact GpR):wpAnyLast P md ops Q S ds (fuel + 1) l a w:=pure_ (N:=some n) l' hi hN hc hQ hy ha h
theorem uT {P:Program} {ops:Array Oper} {Q:Exit → Act → World → Prop} {md:Region.Mode} {S:World → Prop} {ds:List Nat} {oi:Oper} {fuel:Nat} {l l':Array Bool} {a a':Act} {w:World} (i n:Nat) (h:wpAnyLast P md ops Q S ds fuel l' a' w) (hi:ops[i]? = some oi:=by rfl) (hN:oi.dst = some n:=by rfl) (hl:l.setIfInBounds i true = l':=by simp only [List.setIfInBounds_toArray,List.set_cons_zero,List.set_cons_succ];rfl) (hc:anyB md ops l l' i = true:=by exact (any_of HT_.out (by kernel_rfl))) (hQ:∀ c a w,Q (.panic c) (a.put oi.dst undef) w → Q (.panic c) a w:=by exact (fun _ _ _ h => h)) (hy:Yields P ops oi undef a:=by exact Or.inr ⟨by rfl,rfl⟩) (ha:a.put (some n) undef = a':=by exact GpR):wpAnyLast P md ops Q S ds (fuel + 1) l a w:=pure_ (N:=some n) l' hi hN hc hQ hy ha h
theorem tKt {P:Program} {ops:Array Oper} {Q:Exit → Act → World → Prop} {md:Region.Mode} {S:World → Prop} {ds:List Nat} {oi:Oper} {v:Value} {fuel:Nat} {l l':Array Bool} {a a':Act} {w:World} (i n:Nat) (hS:S w) (h:wpAnyLast P md ops Q S ds fuel l' a' w) (hi:ops[i]? = some oi:=by rfl) (hN:oi.dst = some n:=by rfl) (hl:l.setIfInBounds i true = l':=by simp only [List.setIfInBounds_toArray,List.set_cons_zero,List.set_cons_succ];rfl) (hc:takeB md ops ds l l' i = true:=by kernel_rfl) (hQ:∀ c a w,Q (.panic c) (a.put oi.dst v) w → Q (.panic c) a w:=by exact (fun _ _ _ h => h)) (hy:YieldsIf P ops S oi v a:=by exact Or.inl ⟨by rfl,by intro w' z_;(repeat (obtain ⟨z1_,z_⟩:=z_));go_simp;with_reducible rfl⟩) (ha:a.put (some n) v = a':=by exact GpR):wpAnyLast P md ops Q S ds (fuel + 1) l a w:=take_ (N:=some n) l' hi hN hc hQ hy hS ha h
theorem tTt {P:Program} {ops:Array Oper} {Q:Exit → Act → World → Prop} {md:Region.Mode} {S:World → Prop} {ds:List Nat} {oi:Oper} {v:Value} {fuel:Nat} {l l':Array Bool} {a a':Act} {w:World} (i n:Nat) (hS:S w) (h:wpAnyLast P md ops Q S ds fuel l' a' w) (hi:ops[i]? = some oi:=by rfl) (hN:oi.dst = some n:=by rfl) (hl:l.setIfInBounds i true = l':=by simp only [List.setIfInBounds_toArray,List.set_cons_zero,List.set_cons_succ];rfl) (hc:takeB md ops ds l l' i = true:=by exact (take_ofW HT_.out HW_.out (by kernel_rfl))) (hQ:∀ c a w,Q (.panic c) (a.put oi.dst v) w → Q (.panic c) a w:=by exact (fun _ _ _ h => h)) (hy:YieldsIf P ops S oi v a:=by exact Or.inl ⟨by rfl,by intro w' z_;(repeat (obtain ⟨z1_,z_⟩:=z_));go_simp;with_reducible rfl⟩) (ha:a.put (some n) v = a':=by exact GpR):wpAnyLast P md ops Q S ds (fuel + 1) l a w:=take_ (N:=some n) l' hi hN hc hQ hy hS ha h
theorem nR (n:Nat) {P:Program} {ops:Array Oper} {Q:Exit → Act → World → Prop} {md:Region.Mode} {S:World → Prop} {ds:List Nat} {fuel:Nat} {l:Array Bool} {a a0 a':Act} {v:Value} {w:World} (h:wpAnyLast P md ops Q S ds fuel l a' w) (hb:a = Act.put a0 (some n) v:=by rfl) (ha:Act.put a0 (some n) v = a':=by exact GpR):wpAnyLast P md ops Q S ds fuel l a w:=norm_ (hb.trans ha) h
theorem iFn {c:Prop} {d:Decidable c} {α:Type} {x:Option α} {r:α} (H:(@ite (Option α) c d x none) = some r):c ∧ x = some r:=by by_cases h:c;exact ⟨h,by rwa [if_pos h] at H⟩;rw [if_neg h] at H;cases H
theorem iF {c:Prop} {d:Decidable c} {α:Type} {x y r:α} (H:(@ite α c d x y) = r):(c ∧ x = r) ∨ (¬ c ∧ y = r):=by by_cases h:c;exact .inl ⟨h,by rwa [if_pos h] at H⟩;exact .inr ⟨h,by rwa [if_neg h] at H⟩
theorem iT {t:Bool} {α:Type} {x y r:α} (H:(if t = true then x else y) = r):(t = true ∧ x = r) ∨ (t = false ∧ y = r):=by cases t;exact .inr ⟨rfl,H⟩;exact .inl ⟨rfl,H⟩
theorem iE {β:Type} [BEq β] [LawfulBEq β] {s t:β} {d:Decidable (s = t)} {α:Type} {x y r:α} (H:(@ite α (s = t) d x y) = r):(s = t ∧ (s == t) = true ∧ (s != t) = false ∧ x = r) ∨ (s ≠ t ∧ (s == t) = false ∧ (s != t) = true ∧ y = r):=by by_cases h:s = t;exact .inl ⟨h,beq_iff_eq.2 h,bne_eq_false_iff_eq.2 h,by rwa [if_pos h] at H⟩;exact .inr ⟨h,beq_eq_false_iff_ne.2 h,bne_iff_ne.2 h,by rwa [if_neg h] at H⟩
theorem bI {α β:Type} {x:Option α} {f:α → Option β} {r:β} (H:x.bind f = some r):∃ t,Aside0 (x = some t) ∧ f t = some r:=by obtain ⟨t,h,e⟩:=Option.bind_eq_some_iff.1 H;exact ⟨t,⟨h⟩,e⟩
theorem Gc1 {p:Prop} (h:p:=by first | (with_reducible exact HT.out) | exact Z1s HT.out (tB HB) | (repeat (first | (with_reducible exact HT.out) | (with_reducible exact Z1s HT.out HB.out) | (with_reducible refine Zh9 ?_ _) | (with_reducible refine Zha ?_ _) | (with_reducible refine Zif ?_)))):p:=h
theorem Gc2 {p:Prop} (h:p:=by (try simp only [List.map_toArray,List.map_cons,List.map_nil]);first | done | rfl | (simp only [List.length_drop,List.length_take];rfl)):p:=h
theorem Gc3 {p:Prop} (h:p:=by repeat (first | exact HR0.out | (with_reducible refine Kd.C_alloc ?_ _) | (with_reducible refine Kd.C_drewN ?_ _) | (with_reducible refine Kd.C_drew ?_))):p:=h
theorem Gc4 {p:Prop} (h:p:=by (with_reducible repeat (first | apply Kd.R_alloc | apply Kd.R_drewN | apply Kd.R_drew));exact (Kd.R_mono (Kd.R_far (p:=⟨gb359,5,none⟩) (Kd.R_far (p:=⟨gb359,4,none⟩) (Kd.R_far (p:=⟨gb359,3,none⟩) (Kd.R_far (p:=⟨gb359,2,none⟩) (Kd.R_far (p:=⟨gb359,1,none⟩) (Kd.R_far (p:=⟨gb359,0,none⟩) (Kd.R_types HO_5.out BK359.out (by decide)) (fun _ hk => hk.2) (.int .i32 ((Z03 l1 x6_2).f0))) (fun _ hk => hk.2) (.string ((Z03 l1 x6_2).f1))) (fun _ hk => hk.2) (.slice A358_2 ((Z03 l1 x6_2).f2).length c358_2)) (fun _ hk => hk.2) (.slice A358_3 ((Z03 l1 x6_2).f3).length c358_3)) (fun _ hk => hk.2) (.bool ((Z03 l1 x6_2).f4))) (fun _ hk => hk.2) (.bool ((Z03 l1 x6_2).f5))) (fun _ h_ => h_.1))):p:=h
theorem Gc5 {p:Prop} (h:p:=by first | (go_simp;done) | (go_simp;rfl)):p:=h
theorem Gc6 {p:Prop} (h:p:=by (with_reducible repeat (first | apply Kd.R_alloc | apply Kd.R_drewN | apply Kd.R_drew));exact (Kd.R_mono (Kd.R_far (p:=⟨z23_,5,none⟩) (Kd.R_far (p:=⟨z23_,4,none⟩) (Kd.R_far (p:=⟨z23_,3,none⟩) (Kd.R_far (p:=⟨z23_,2,none⟩) (Kd.R_far (p:=⟨z23_,1,none⟩) (Kd.R_far (p:=⟨z23_,0,none⟩) (Kd.R_types HO_5.out z30_.out (by decide)) (fun _ hk => hk.2) (.int .i32 ((Z03 l1 x25_2).f0))) (fun _ hk => hk.2) (.string ((Z03 l1 x25_2).f1))) (fun _ hk => hk.2) (.slice z4_ ((Z03 l1 x25_2).f2).length z5_)) (fun _ hk => hk.2) (.slice z6_ ((Z03 l1 x25_2).f3).length z7_)) (fun _ hk => hk.2) (.bool ((Z03 l1 x25_2).f4))) (fun _ hk => hk.2) (.bool ((Z03 l1 x25_2).f5))) (fun _ h_ => h_.1))):p:=h
theorem Gc7 {p:Prop} (h:p:=by (with_reducible repeat (first | apply Kd.R_alloc | apply Kd.R_drewN | apply Kd.R_drew));exact (Kd.R_mono (Kd.R_far (p:=⟨z21_,1,none⟩) (Kd.R_far (p:=⟨z21_,0,none⟩) (Kd.R_types z18_.out z34_.out (by decide)) (fun _ hk => hk.2) (.string ((Z1w t273 x31_2).f0))) (fun _ hk => hk.2) (.slice z4_ ((Z1w t273 x31_2).f1).length z5_)) (fun _ h_ => h_.1))):p:=h
theorem Gc8 {p:Prop} (h:p:=by repeat (first | exact HR1.out | (with_reducible refine Kd.C_alloc ?_ _) | (with_reducible refine Kd.C_drewN ?_ _) | (with_reducible refine Kd.C_drew ?_))):p:=h
theorem Gc9 {p:Prop} (h:p:=by repeat (first | exact (Kd.C_below HR0.out (tB HB)) | (with_reducible refine Kd.C_alloc ?_ _) | (with_reducible refine Kd.C_drewN ?_ _) | (with_reducible refine Kd.C_drew ?_))):p:=h
theorem Gc10 {p:Prop} (h:p:=by repeat (first | (with_reducible exact z14_.out) | (with_reducible refine Kd.C_alloc ?_ _) | (with_reducible refine Kd.C_drewN ?_ _) | (with_reducible refine Kd.C_drew ?_) | exact z14_.out)):p:=h
theorem Gc11 {p:Prop} (h:p:=by first | (rw [add_block];exact (fun e_ => ((HL384_1.out.1 _ e_.symm).2) rfl)) | (show some (Addr.add _ _).block ≠ _;rw [add_block];exact (fun e_ => ((HL384_1.out.1 _ e_.symm).2) rfl)) | exact (fun e_ => ((HL384_1.out.1 _ e_.symm).2) rfl)):p:=h
theorem Gc12 {p:Prop} (h:p:=by repeat (first | (with_reducible exact z35_.out) | (with_reducible refine Kd.C_alloc ?_ _) | (with_reducible refine Kd.C_drewN ?_ _) | (with_reducible refine Kd.C_drew ?_) | exact z35_.out)):p:=h
theorem Gc13 {p:Prop} (h:p:=by repeat (first | exact (Kd.C_below HR1_2.out (tB HB)) | (with_reducible refine Kd.C_alloc ?_ _) | (with_reducible refine Kd.C_drewN ?_ _) | (with_reducible refine Kd.C_drew ?_))):p:=h
theorem Gc14 {p:Prop} (h:p:=by rw [List.length_append,List.length_singleton];omega):p:=h
theorem Gc15 {p:Prop} (h:p:=by repeat (first | (with_reducible exact HR504_1.out) | (with_reducible refine Kd.C_alloc ?_ _) | (with_reducible refine Kd.C_drewN ?_ _) | (with_reducible refine Kd.C_drew ?_) | exact HR504_1.out)):p:=h
theorem Gc16 {p:Prop} (h:p:=by repeat (first | exact (Kd.R_reads' HO488.out).2.2 | (with_reducible refine Kd.C_alloc ?_ _) | (with_reducible refine Kd.C_drewN ?_ _) | (with_reducible refine Kd.C_drew ?_))):p:=h
theorem Gc17 {p:Prop} (h:p:=by repeat (first | exact (Kd.R_reads' HO518.out).2.2 | (with_reducible refine Kd.C_alloc ?_ _) | (with_reducible refine Kd.C_drewN ?_ _) | (with_reducible refine Kd.C_drew ?_))):p:=h
theorem Gc18 {p:Prop} (h:p:=by repeat (first | exact (Kd.R_reads' HO_8.out).2.2 | (with_reducible refine Kd.C_alloc ?_ _) | (with_reducible refine Kd.C_drewN ?_ _) | (with_reducible refine Kd.C_drew ?_))):p:=h
theorem Gc19 {p:Prop} (h:p:=by repeat (first | exact z16_.out | (with_reducible refine Kd.C_alloc ?_ _) | (with_reducible refine Kd.C_drewN ?_ _) | (with_reducible refine Kd.C_drew ?_))):p:=h
theorem Gc20 {p:Prop} (h:p:=by have h_:(x3_1:Int) < ((x0_1.length:Int):Int):=oD;first | exact h_ | (have e_:=(Kd.R_reads' HO_0.out).1;omega) | simpa using h_):p:=h
theorem Gc21 {p:Prop} (h:p:=by have h_:((ji14):Int) < ((x5_1.length:Int):Int):=oD;first | exact h_ | (have e_:=(HN24.out);omega) | simpa using h_):p:=h
theorem Gc22 {p:Prop} (h:p:=by have:=hne9;dsimp only;omega):p:=h
theorem Gc23 {p:Prop} (h:p:=by have:=hdl'.out;have:=hG.out.2.1;simp only [maxLen];omega):p:=h
theorem Gc24 {p:Prop} (h:p:=by simp only [List.map_toArray,List.map_cons,List.map_nil];rfl):p:=h
theorem Gc25 {p:Prop} (h:p:=by exact (fun _ _ => trivial)):p:=h
theorem Gc26 {p:Prop} (h:p:=by unfold Z2l.f;rw [if_pos (by omega)]):p:=h
theorem Gc27 {p:Prop} (h:p:=by have:=h.hO2;have:=h.hit2;omega):p:=h
theorem Gc28 {p:Prop} (h:p:=by have:=hdl'.out;simp only [maxLen];omega):p:=h
theorem Gc29 {p:Prop} (h:p:=by have:=hdl'.out;have:=hG.out.2.1;omega):p:=h
theorem Gc30 {p:Prop} (h:p:=by have:=hcs'.out;have:=hszT.out;omega):p:=h
theorem Gc31 {p:Prop} (h:p:=by have:=HB.out.size;simp;omega):p:=h
theorem Gc32 {p:Prop} (h:p:=by have:=hD'.out.hO2;have:=hD'.out.hit2;omega):p:=h
theorem Gc33 {p:Prop} (h:p:=by show w.heap.size ≤ O + 1;have:=hO'.out;omega):p:=h
theorem Gc34 {p:Prop} (h:p:=by have:(0:Int) < (a1.size:Int):=oD;omega):p:=h
theorem Gc35 {p:Prop} (h:p:=by show w.heap.size ≤ O;have:=hO'.out;omega):p:=h
theorem Gc36 {p:Prop} (h:p:=by rw [List.length_take];omega):p:=h
end Go.Proofs.YtfbhdjflkaldgaaGreatDoor.Ct
