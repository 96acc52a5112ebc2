-- Written by a program of this session (xprint.py), out of the translation and of contracts proved by hand.
import Derived.Test.YtcfpbmdndapeaaaProg
import Derived.Below
import Derived.Deep.Draws
import Derived.Deep.AppendLies
import Derived.Maps.AppendAt
import Derived.OwnWalk
import Derived.Laws.BytesArg
import Derived.Laws.MakeOwn
import Derived.Laws.OwnMore
import Derived.Deep.OwnRows
import Derived.Tactics
import Derived.Lib.ConvBytes
import Derived.Laws.Slices
import Derived.WalkKit
import Derived.KernelRfl
import Derived.RowKit3
import Derived.Deep.LoopGhost
import Derived.Deep.QuietTactic
import Derived.BigQuiet
import Derived.WideLaws
import Derived.Deep.DeepCutAuto
import Derived.Deep.CutBlock
import Derived.Deep.RegionHeld3
import Derived.Laws.Rows
import Derived.Lib.AppendStr
import Derived.ArgAppend
import Derived.Laws.IdiomCopy
import Derived.OrdersHeld
import Derived.Laws.BitsLemmas
import Derived.RowKit
import Derived.Deep.WholeRow
import Derived.Lib.SliceRun
import Derived.LoopNIn
import Derived.Shelf.Abstract
import Derived.TacticsInMore
import Derived.Test.YtcfpbmdndapeaaaIt
import Derived.Test.YtcfpbmdndapeaaaTl
import Derived.WalkKit
import Derived.Test.YtcfpbmdndapeaaaV
namespace Go.Proofs.Ytcfpbmdndapeaaa.F
open Go.RowKit Go.Proofs.YtcfpbmdndapeaaaV.PrintWords Go.Proofs.YtcfpbmdndapeaaaV.PrintLast Go.Proofs.YtcfpbmdndapeaaaV.PrintMore
theorem cb_ {w W:World} (H:Aside0 (Below w.heap.size w W)) {a:Addr} {v:Value} (h:w.cell? a=some v):W.cell? a=some v:=(H.out.cell (World.block_lt_of_cell? w _ h)).trans h
abbrev zA:=@World.block_lt_of_cell?
abbrev zB:=@Aside0.mk
abbrev zC:=@blk_frozen
abbrev zD:=@blk_cell
abbrev zE:=@List.setIfInBounds_toArray
abbrev zF:=@pw_below_drewN
abbrev zG:=@below_drew1
abbrev zH:=@List.set_cons_zero
abbrev zI:=@List.set_cons_succ
abbrev zJ:=@of_decide_eq_true
abbrev zK:=@below_set
theorem zL {α β:Type} {o:Option α} {f:α→Option β} {b:β} (h:o.bind f=some b): ∃a,o=some a∧f a=some b:=Option.bind_eq_some_iff.mp h
abbrev zM:=@List.map_toArray
abbrev zN:=@below_size
abbrev zO:=@decide_eq_true
abbrev zP:=@List.length_take
abbrev zQ:=@below_step
abbrev zR:=@List.length_drop
abbrev zS:=@List.map_cons
abbrev zT:=@blk_alloc
abbrev zU:=@blk_drewN
abbrev zV:=@List.map_nil
abbrev zW:=@Option.some.inj
abbrev zX:=@blk_drew
abbrev zY:=@decide_eq_false
abbrev zZ:=@blk_put
abbrev za:=@Nat.le_refl
theorem zb {b:Bool} (h: ¬b=true):b=false:=Bool.eq_false_iff.mpr h
abbrev zc:=@Option.some.injEq
abbrev zd:=@Kd.R_reads'
abbrev ze:=@LeO.bind
abbrev zf:=@LeO.none
abbrev zg:=@LeO.ite
theorem be_ {P:Program} {ops:Array Oper} {rest:List Oper} {o:Oper} {a:Act} {Q:Exit→Act→World→Prop} {W:World} {N:Tmp} {cs:Array Value} {t:TypeId} (h: ∀g,g=W.heap.size→ ∀w1,w1.heap[g]?=some (.cells cs t (0,0))→Below W.heap.size W w1→wpList P ops Q rest (a.put o.dst (.pointer (some ⟨g,0,none⟩))) w1)
 (hgd:o.guard=none:=by rfl) (hd:o.dst=some N:=by rfl) (hrun:(execOp a.eval o).run P W=.ok (.value (.pointer (some ⟨W.heap.size,0,none⟩))) (W.alloc (.cells cs t (0,0))):=by first|(go_simp;done)|(go_simp;rfl)):wpList P ops Q (o::rest) a W:=box_event hgd hd hrun h
theorem gl_ {P:Program} {ops:Array Oper} {Q:Exit→Act→World→Prop} {rest:List Oper} {oi:Oper} {a:Act} {w:World} (N:Option Tmp) {f:FuncId} {fn:Func} {oz:Array Operand} {ts:Array TypeId} (hf:P.funcs[f]?=some fn) (args:Array Value) (hop:oi.op=.call {callee:=.value (.func f),args:=oz,argTypes:=ts}) (h:Calls P f args w fun e w'=> ∃v,e=.returned v∧wpList P ops Q rest (a.put N v) w')
 (hd:oi.dst=N:=by rfl) (hg:oi.guard=none:=by rfl) (hname:(fn.name== "runtime.NumGoroutine")=false:=by kernel_rfl) (hb:fn.body.isSome=true:=by rfl) (hargs:oz.map a.eval=args:=by(try simp only[List.map_toArray,List.map_cons,List.map_nil]);first|done|rfl|(simp only[List.length_drop,List.length_take];rfl)):wpList P ops Q (oi::rest) a w:=goesL_ N hd hg hf hname hb args hop hargs h
theorem gw_ {w W:World} {g:Nat} (hg:g=W.heap.size) (H:Aside0 (Below w.heap.size w W)):Aside0 (w.heap.size≤g):=⟨by rw[hg];exact below_size H.out⟩
attribute [local go_sem] max2_int min2_int max_two min_two max_three min_three max_four min_four
set_option linter.unusedVariables false
set_option linter.unusedSimpArgs false
def errW:Option Int→Value
  |none=> .nilIface
  |some c=> .iface 0 (.int .i64 c)
theorem errW_none:errW none=.nilIface:=rfl
theorem errW_some (c:Int):errW (some c)=.iface 0 (.int .i64 c):=rfl
theorem rf2 {α:Type} {d:Kd α} {e:Nat} {w:World} {base:Nat} {ok:Nat→Prop} {v:Value} {xs:List α} (h:d.R e w base ok v xs) {g:Nat} (hok: ∀k,ok k→k≠g) (u0 u1:Value):d.R e ((w.setCell ⟨g,0,none⟩ u0).setCell ⟨g,1,none⟩ u1) base ok v xs:=(Kd.R_far (p:=⟨g,1,none⟩) (Kd.R_far (p:=⟨g,0,none⟩) h hok u0) hok u1)
theorem rf3 {α:Type} {d:Kd α} {e:Nat} {w:World} {base:Nat} {ok:Nat→Prop} {v:Value} {xs:List α} (h:d.R e w base ok v xs) {g:Nat} (hok: ∀k,ok k→k≠g) (u0 u1 u2:Value):d.R e (((w.setCell ⟨g,0,none⟩ u0).setCell ⟨g,1,none⟩ u1).setCell ⟨g,2,none⟩ u2) base ok v xs:=(Kd.R_far (p:=⟨g,2,none⟩) (Kd.R_far (p:=⟨g,1,none⟩) (Kd.R_far (p:=⟨g,0,none⟩) h hok u0) hok u1) hok u2)
theorem rf4 {α:Type} {d:Kd α} {e:Nat} {w:World} {base:Nat} {ok:Nat→Prop} {v:Value} {xs:List α} (h:d.R e w base ok v xs) {g:Nat} (hok: ∀k,ok k→k≠g) (u0 u1 u2 u3:Value):d.R e ((((w.setCell ⟨g,0,none⟩ u0).setCell ⟨g,1,none⟩ u1).setCell ⟨g,2,none⟩ u2).setCell ⟨g,3,none⟩ u3) base ok v xs:=(Kd.R_far (p:=⟨g,3,none⟩) (Kd.R_far (p:=⟨g,2,none⟩) (Kd.R_far (p:=⟨g,1,none⟩) (Kd.R_far (p:=⟨g,0,none⟩) h hok u0) hok u1) hok u2) hok u3)
theorem rf5 {α:Type} {d:Kd α} {e:Nat} {w:World} {base:Nat} {ok:Nat→Prop} {v:Value} {xs:List α} (h:d.R e w base ok v xs) {g:Nat} (hok: ∀k,ok k→k≠g) (u0 u1 u2 u3 u4:Value):d.R e (((((w.setCell ⟨g,0,none⟩ u0).setCell ⟨g,1,none⟩ u1).setCell ⟨g,2,none⟩ u2).setCell ⟨g,3,none⟩ u3).setCell ⟨g,4,none⟩ u4) base ok v xs:=(Kd.R_far (p:=⟨g,4,none⟩) (Kd.R_far (p:=⟨g,3,none⟩) (Kd.R_far (p:=⟨g,2,none⟩) (Kd.R_far (p:=⟨g,1,none⟩) (Kd.R_far (p:=⟨g,0,none⟩) h hok u0) hok u1) hok u2) hok u3) hok u4)
theorem rf6 {α:Type} {d:Kd α} {e:Nat} {w:World} {base:Nat} {ok:Nat→Prop} {v:Value} {xs:List α} (h:d.R e w base ok v xs) {g:Nat} (hok: ∀k,ok k→k≠g) (u0 u1 u2 u3 u4 u5:Value):d.R e ((((((w.setCell ⟨g,0,none⟩ u0).setCell ⟨g,1,none⟩ u1).setCell ⟨g,2,none⟩ u2).setCell ⟨g,3,none⟩ u3).setCell ⟨g,4,none⟩ u4).setCell ⟨g,5,none⟩ u5) base ok v xs:=(Kd.R_far (p:=⟨g,5,none⟩) (Kd.R_far (p:=⟨g,4,none⟩) (Kd.R_far (p:=⟨g,3,none⟩) (Kd.R_far (p:=⟨g,2,none⟩) (Kd.R_far (p:=⟨g,1,none⟩) (Kd.R_far (p:=⟨g,0,none⟩) h hok u0) hok u1) hok u2) hok u3) hok u4) hok u5)
theorem bl_ {w w1:World} {g:Nat} {o:Obj} (h:Aside0 (w.heap[g]?=some o)) (hb:Below w.heap.size w w1):Aside0 (w1.heap[g]?=some o):=⟨blk_below h.out hb⟩
theorem rb_ {α:Type} {d:Kd α} {e:Nat} {w w1:World} {base:Nat} {ok:Nat→Prop} {v:Value} {xs:List α} (h:Aside0 (d.R e w base ok v xs)) (hb:Below w.heap.size w w1):Aside0 (d.R e w1 base ok v xs):=⟨Kd.R_below h.out hb⟩
theorem goesV_ {P:Program} {Q:Exit→Act→World→Prop} {ops:Array Oper} {oi:Oper} {N:Option Tmp} {a:Act} {w:World} {K:Act→World→Prop} {f:FuncId} {fn:Func} {t:Tmp} {as_:Array Operand} {ts_:Array TypeId} (hf:P.funcs[f]?=some fn) (hname:(fn.name== "runtime.NumGoroutine")=false) (hb:fn.body.isSome=true) (args:Array Value)
    (hw:Region.wanted oi (yielded ops a.tmps)=true) (hN:oi.dst=N) (hop:oi.op=.call {callee:=.value (.tmp t),args:=as_,argTypes:=ts_}) (hargs:as_.map a.eval=args) (hv:a.eval (.tmp t)=.func (.func f) #[] #[])
    (h:Calls P f args w fun e w'=> ∃v,e=.returned v∧K (a.put N v) w'):if Region.wanted oi (yielded ops a.tmps)=true then Oper.wp P oi a w K Q else K (a.put N undef) w:=by
  refine call_ f args hw hN ?_ h
  have he:=enters_ hf hname hb args w
  unfold execOp
  simp[hop,resolve,Deferred.ofValue,invoke,hv,hargs,he]
def dn_ (a n:Nat):Array Bool:=(List.replicate a true++List.replicate (n-a) false).toArray
def bt_ (b n:Nat):Array Bool:=((List.range n).map b.testBit).toArray
structure Qp (i N:Nat) (l:Array Bool):Prop where mk::
def Qs (n:Nat):List (Nat×Nat×Nat×Nat)→Prop
  |[]=>True
  |(_,i,N,a)::r=>Qp i N (bt_ a n)∧Qs n r
theorem Qs.mk {n:Nat}: ∀l,Qs n l
  |[]=>trivial
  |(_,_,_,_)::r=>⟨⟨⟩,Qs.mk r⟩
theorem Qs.p {n i N a:Nat} {r:List (Nat×Nat×Nat×Nat)} (h:Qs n ((0,i,N,a)::r)):Qp i N (bt_ a n)∧Qs n r:=h
theorem Qs.u {n i N a:Nat} {r:List (Nat×Nat×Nat×Nat)} (h:Qs n ((1,i,N,a)::r)):Qp i N (bt_ a n)∧Qs n r:=h
theorem Qs.t {n i N a:Nat} {r:List (Nat×Nat×Nat×Nat)} (h:Qs n ((2,i,N,a)::r)):Qp i N (bt_ a n)∧Qs n r:=h
theorem pureQ_ {P:Program} {ops:Array Oper} {Q:Exit→Act→World→Prop} {md:Region.Mode} {S:World→Prop} {ds:List Nat} {i N:Nat} {l':Array Bool} (_q:Qp i N l') {oi:Oper} {v:Value} {fuel:Nat} {l:Array Bool} {a:Act} {w:World} (hi:ops[i]?=some oi) (hN:oi.dst=some N) (hc:anyB md ops l l' i=true)
    (hQ: ∀c a w,Q (.panic c) (a.put oi.dst v) w→Q (.panic c) a w) (hy:Yields P ops oi v a) {a':Act} (ha:a.put (some N) v=a')
    (h:wpAnyLast P md ops Q S ds fuel l' a' w):wpAnyLast P md ops Q S ds (fuel+1) l a w:=pure_ l' hi hN hc hQ hy ha h
theorem takeQ_ {P:Program} {ops:Array Oper} {Q:Exit→Act→World→Prop} {md:Region.Mode} {S:World→Prop} {ds:List Nat} {i N:Nat} {l':Array Bool} (_q:Qp i N l') {oi:Oper} {v:Value} {fuel:Nat} {l:Array Bool} {a:Act} {w:World} (hi:ops[i]?=some oi) (hN:oi.dst=some N) (hc:takeB md ops ds l l' i=true)
    (hQ: ∀c a w,Q (.panic c) (a.put oi.dst v) w→Q (.panic c) a w) (hy:YieldsIf P ops S oi v a) (hS:S w) {a':Act} (ha:a.put (some N) v=a')
    (h:wpAnyLast P md ops Q S ds fuel l' a' w):wpAnyLast P md ops Q S ds (fuel+1) l a w:=take_ l' hi hN hc hQ hy hS ha h
theorem hb_ {P Q:Prop} (h:Aside0 P) (k:P→Q:=by intro h_;repeat(first|(with_reducible first|exact h_|apply below_alloc|apply zF|apply zG|refine zK ?_ (Aside0.out (by assumption)))|exact h_)):Q:=k h.out
theorem kk_ {P Q:Prop} (h:Aside0 P) (k:P→Q:=by intro h_;repeat(first|(with_reducible first|exact h_|apply Kept.alloc|apply Kept.drewN|apply Kept.drew|refine Kept.setCell ?_ (Aside0.out (by assumption)) _|refine Kept.setCell ?_ (.inr (Aside0.out (by assumption))) _)|exact h_)):Q:=k h.out
theorem bk_ {P Q:Prop} (h:Aside0 P) (k:P→Q:=by intro h_;(with_reducible repeat(first|refine zU ?_ _|refine zX ?_|refine zT ?_ _|refine blk_far ?_ (Aside0.out (by assumption)) _));exact h_):Q:=k h.out
theorem kr_ {P Q:Prop} (h:Aside0 P) (k:P→Q:=by intro h_;(with_reducible repeat(first|apply Kd.R_alloc|apply Kd.R_drewN|apply Kd.R_drew));exact h_):Q:=k h.out
theorem kv_ {P Q:Prop} (h:Aside0 P) (k:P→Q:=by intro h_;(with_reducible repeat(first|apply Kd.V_alloc|apply Kd.V_drewN|apply Kd.V_drew));exact h_):Q:=k h.out
theorem rs_ {α:Type} {a b:α} (h:a=b:=by first|rfl|(simp;done)|(simp[*];done)):a=b:=h
theorem ew_ {α:Type} {a b:α} (h:a=b:=by first|rfl|(simp[errW_none,errW_some]<;>rfl)|(simp[*,errW_none,errW_some]<;>rfl)):a=b:=h
theorem as_ {P:Prop} (h:P:=by first|(with_reducible assumption)|assumption):P:=h
theorem dr_ {P:Prop} (h:P:=by repeat(first|exact Drawn0.refl _|apply Drawn0.step)):P:=h
theorem za_ {P Q:Prop} (h:Aside0 P) (k:P→Q:=by intro h_;first|omega|exact za _):Q:=k h.out
theorem nb_ {W:World} {g g1:Nat} {o:Obj} (h:Aside0 (W.heap[g1]?=some o)) (hg:g=W.heap.size):Aside0 (g1≠g):=⟨by rw[hg];exact Nat.ne_of_lt (blk_lt h.out)⟩
theorem nc_ {W:World} {g g1:Nat} {o:Obj} (h:Aside0 (W.heap[g1]?=some o)) (hg:g=W.heap.size):Aside0 (g≠g1):=⟨by rw[hg];exact Nat.ne_of_gt (blk_lt h.out)⟩
theorem gx_ {w W:World} {g:Nat} (hg:g=W.heap.size) (H:Below w.heap.size w W):Aside0 (w.heap.size≤g):=⟨by rw[hg];exact below_size H⟩
abbrev c_ (w:World) (g i:Nat) (v:Value):Prop:=w.cell? ⟨g,i,none⟩=some v
theorem bc_ {w:World} {g:Nat} {t:TypeId} {cs:Array Value} (h:Aside0 (w.heap[g]?=some (.cells cs t (0,0)))) (i:Nat):w.cell? ⟨g,i,none⟩=cs[i]?:=blk_cell h.out i
theorem gd_ {p:Prop} [Decidable p] {α:Type} {x:Option α} {r:α} (h:(if p then x else none)=some r):p∧x=some r:=by
  by_cases c:p
  · rw[if_pos c] at h;exact⟨c,h⟩
  · rw[if_neg c] at h;cases h
theorem qt_ {n:Nat} {x:Nat×Nat×Nat×Nat} {r:List (Nat×Nat×Nat×Nat)} (h:Qs n (x::r)):Qs n r:=by
  obtain⟨_,_,_,_⟩:=x
  exact h.2
theorem pq_ {P:Program} {ops:Array Oper} {Q:Exit→Act→World→Prop} {md:Region.Mode} {S:World→Prop} {ds:List Nat} {n i N b:Nat} {r:List (Nat×Nat×Nat×Nat)} (_q:Qs n ((0,i,N,b)::r)) {oi:Oper} {v:Value} {fuel:Nat} {l:Array Bool} {a:Act} {w:World} {a':Act} (h:wpAnyLast P md ops Q S ds fuel (bt_ b n) a' w)
 (hi:ops[i]?=some oi:=by rfl) (hN:oi.dst=some N:=by rfl) (hc:anyB md ops l (bt_ b n) i=true:=by exact any_of HT_.out (by kernel_rfl)) (hQ: ∀c a w,Q (.panic c) (a.put oi.dst v) w→Q (.panic c) a w:=by exact fun _ _ _ h=>h) (hw:Region.wanted oi (yielded ops a.tmps)=true:=by rfl) (hy: ∀w',(execOp a.eval oi).run P w'=.ok (.value v) w':=by intro w';go_simp;with_reducible rfl) (ha:a.put (some N) v=a':=by(simp only[Act.put,zE,zH,zI,i64_w,i32_w];rfl)):wpAnyLast P md ops Q S ds (fuel+1) l a w:=pure_ _ hi hN hc hQ (Or.inl ⟨hw,hy⟩) ha h
theorem uq_ {P:Program} {ops:Array Oper} {Q:Exit→Act→World→Prop} {md:Region.Mode} {S:World→Prop} {ds:List Nat} {n i N b:Nat} {r:List (Nat×Nat×Nat×Nat)} (_q:Qs n ((1,i,N,b)::r)) {oi:Oper} {fuel:Nat} {l:Array Bool} {a:Act} {w:World} {a':Act} (h:wpAnyLast P md ops Q S ds fuel (bt_ b n) a' w)
 (hi:ops[i]?=some oi:=by rfl) (hN:oi.dst=some N:=by rfl) (hc:anyB md ops l (bt_ b n) i=true:=by exact any_of HT_.out (by kernel_rfl)) (hQ: ∀c a w,Q (.panic c) (a.put oi.dst undef) w→Q (.panic c) a w:=by exact fun _ _ _ h=>h) (hw:Region.wanted oi (yielded ops a.tmps)=false:=by rfl) (ha:a.put (some N) undef=a':=by(simp only[Act.put,zE,zH,zI,i64_w,i32_w];rfl)):wpAnyLast P md ops Q S ds (fuel+1) l a w:=pure_ _ hi hN hc hQ (Or.inr ⟨hw,rfl⟩) ha h
theorem tq_ {P:Program} {ops:Array Oper} {Q:Exit→Act→World→Prop} {md:Region.Mode} {S:World→Prop} {ds:List Nat} {n i N b:Nat} {r:List (Nat×Nat×Nat×Nat)} (_q:Qs n ((2,i,N,b)::r)) {oi:Oper} {v:Value} {fuel:Nat} {l:Array Bool} {a:Act} {w:World} (hS:S w) {a':Act} (h:wpAnyLast P md ops Q S ds fuel (bt_ b n) a' w)
 (hi:ops[i]?=some oi:=by rfl) (hN:oi.dst=some N:=by rfl) (hc:takeB md ops ds l (bt_ b n) i=true:=by exact take_ofW HT_.out HW_.out (by kernel_rfl)) (hQ: ∀c a w,Q (.panic c) (a.put oi.dst v) w→Q (.panic c) a w:=by exact fun _ _ _ h=>h) (hw:Region.wanted oi (yielded ops a.tmps)=true:=by rfl) (hy: ∀w',S w'→(execOp a.eval oi).run P w'=.ok (.value v) w':=by intro w' hs_;(try(repeat(obtain⟨_,hs_⟩:=hs_)));go_simp;with_reducible rfl) (ha:a.put (some N) v=a':=by(simp only[Act.put,zE,zH,zI,i64_w,i32_w];rfl)):wpAnyLast P md ops Q S ds (fuel+1) l a w:=take_ _ hi hN hc hQ (Or.inl ⟨hw,hy⟩) hS ha h
theorem gs_ {P:Program} {ops:Array Oper} {Q:Exit→Act→World→Prop} {oi:Oper} {N:Option Tmp} {a:Act} {w:World} {K:Act→World→Prop} {f:FuncId} {fn:Func} {oz:Array Operand} {ts:Array TypeId} (hf:P.funcs[f]?=some fn) (args:Array Value) (hop:oi.op=.call {callee:=.value (.func f),args:=oz,argTypes:=ts}) (h:Calls P f args w fun e w'=> ∃v,e=.returned v∧K (a.put N v) w')
 (hname:(fn.name== "runtime.NumGoroutine")=false:=by kernel_rfl) (hb:fn.body.isSome=true:=by rfl) (hw:Region.wanted oi (yielded ops a.tmps)=true:=by rfl) (hN:oi.dst=N:=by rfl) (hargs:oz.map a.eval=args:=by(try simp only[zM,zS,zV]);first|done|rfl|(simp only[zR,zP];rfl)):if Region.wanted oi (yielded ops a.tmps)=true then Oper.wp P oi a w K Q else K (a.put N undef) w:=goes_ hf hname hb args hw hN hop hargs h
theorem info3:(Try.prog.info? 3).map (fun i=>(i.zero,i.size,i.bytes))=some (some (.int .i64 0),1,8):=by kernel_rfl
theorem info24:(Try.prog.info? 24).map (fun i=>(i.zero,i.size,i.bytes))=some (some (.agg #[(.int .i64 0),(.int .i64 0),(.slice none 0 0)]),3,40):=by kernel_rfl
theorem info26:(Try.prog.info? 26).map (fun i=>(i.zero,i.size,i.bytes))=some (some (.agg #[(.int .i64 0),(.int .i64 0)]),2,16):=by kernel_rfl
theorem info28:(Try.prog.info? 28).map (fun i=>(i.zero,i.size,i.bytes))=some (some (.agg #[(.int .i64 0),(.int .i64 0),(.int .i64 0),(.int .i64 0),(.int .i64 0),(.int .i64 0)]),6,48):=by kernel_rfl
theorem info65:(Try.prog.info? 65).map (fun i=>(i.zero,i.size,i.bytes))=some (some (.agg #[(.int .i64 0),(.int .i64 0),(.int .i64 0),(.int .i64 0)]),4,32):=by kernel_rfl
theorem info70:(Try.prog.info? 70).map (fun i=>(i.zero,i.size,i.bytes))=some (some (.slice none 0 0),1,24):=by kernel_rfl
structure S26 where
  f0:Int
  f1:Int
def z26:S26:=⟨(0:Int),(0:Int)⟩
def k26:Kd S26:=Kd.iso (Kd.pair (Kd.int .i64) (Kd.int .i64)) (fun x:S26=>(x.f0,x.f1))
theorem k26_heap:Kd.Heap k26:=Kd.heap_iso _ (Kd.heap_pair (Kd.heap_int .i64) (Kd.heap_int .i64))
theorem k26_open {w:World} {x:S26} {cs:List Value} (h:k26.K w x cs):cs=[.int .i64 x.f0,.int .i64 x.f1]:=by
  obtain⟨_,_,rfl,rfl,rfl⟩:=h
  exact rfl
theorem k26_openM {w:World} {base:Nat} {ok:Nat→Prop} {x:S26} {cs:List Value} (h:k26.M w base ok x cs):cs=[.int .i64 x.f0,.int .i64 x.f1]:=by
  obtain⟨_,_,rfl,rfl,rfl⟩:=h
  exact rfl
theorem k26_mk (w:World) (x:S26):k26.K w x [.int .i64 x.f0,.int .i64 x.f1]:=⟨[.int .i64 x.f0],[.int .i64 x.f1],rfl,rfl,rfl⟩
theorem k26_mkM (w:World) (base:Nat) (ok:Nat→Prop) (x:S26):k26.M w base ok x [.int .i64 x.f0,.int .i64 x.f1]:=⟨[.int .i64 x.f0],[.int .i64 x.f1],rfl,rfl,rfl⟩
theorem k26_mkF (W:World) (ok:Nat→Prop) (x:S26):Kd.FK k26 W ok x [.int .i64 x.f0,.int .i64 x.f1]:=fun W2 _=>k26_mk W2 x
def rd_T26 (xs:List S26) (i:Int):S26:=xs.getD i.toNat z26
theorem at_T26 {w:World} {A:Option Addr} {n:Nat} {xs:List S26} (h:Kd.C k26 w A n xs) (i:Int) (h0:0≤i) (h1:i<n): ∃ad,A=some ad∧w.cell? (ad.add (i.toNat*2))=some (.int .i64 (rd_T26 xs i).f0)∧w.cell? ⟨(ad.add (i.toNat*2)).block,(ad.add (i.toNat*2)).off+1,none⟩=some (.int .i64 (rd_T26 xs i).f1):=by
  obtain⟨ad,c,e,_,hK,hc0⟩:=Kd.C_get h z26 i h0 h1
  have hc: ∀j u,c[j]?=some u→w.cell? (ad.add (i.toNat*2+j))=some u:=hc0
  obtain rfl:=k26_open hK
  exact⟨ad,e,hc 0 _ rfl,by rw[←add_field _ _ 1 (by omega)];exact hc 1 _ rfl⟩
structure S28 where
  f0:S26
  f1:Int
  f2:Int
  f3:Int
  f4:Int
def z28:S28:=⟨z26,(0:Int),(0:Int),(0:Int),(0:Int)⟩
def k28:Kd S28:=Kd.iso (Kd.pair k26 (Kd.pair (Kd.int .i64) (Kd.pair (Kd.int .i64) (Kd.pair (Kd.int .i64) (Kd.int .i64))))) (fun x:S28=>(x.f0,x.f1,x.f2,x.f3,x.f4))
theorem k28_heap:Kd.Heap k28:=Kd.heap_iso _ (Kd.heap_pair k26_heap (Kd.heap_pair (Kd.heap_int .i64) (Kd.heap_pair (Kd.heap_int .i64) (Kd.heap_pair (Kd.heap_int .i64) (Kd.heap_int .i64)))))
theorem k28_open {w:World} {x:S28} {cs:List Value} (h:k28.K w x cs):cs=[.int .i64 x.f0.f0,.int .i64 x.f0.f1,.int .i64 x.f1,.int .i64 x.f2,.int .i64 x.f3,.int .i64 x.f4]:=by
  obtain⟨_,_,rfl,s0,⟨_,_,rfl,rfl,⟨_,_,rfl,rfl,⟨_,_,rfl,rfl,rfl⟩⟩⟩⟩:=h
  obtain rfl:=k26_open s0
  exact rfl
theorem k28_openM {w:World} {base:Nat} {ok:Nat→Prop} {x:S28} {cs:List Value} (h:k28.M w base ok x cs):cs=[.int .i64 x.f0.f0,.int .i64 x.f0.f1,.int .i64 x.f1,.int .i64 x.f2,.int .i64 x.f3,.int .i64 x.f4]:=by
  obtain⟨_,_,rfl,s0,⟨_,_,rfl,rfl,⟨_,_,rfl,rfl,⟨_,_,rfl,rfl,rfl⟩⟩⟩⟩:=h
  obtain rfl:=k26_openM s0
  exact rfl
theorem k28_mk (w:World) (x:S28):k28.K w x [.int .i64 x.f0.f0,.int .i64 x.f0.f1,.int .i64 x.f1,.int .i64 x.f2,.int .i64 x.f3,.int .i64 x.f4]:=⟨[.int .i64 x.f0.f0,.int .i64 x.f0.f1],[.int .i64 x.f1,.int .i64 x.f2,.int .i64 x.f3,.int .i64 x.f4],rfl,(k26_mk w x.f0),⟨[.int .i64 x.f1],[.int .i64 x.f2,.int .i64 x.f3,.int .i64 x.f4],rfl,rfl,⟨[.int .i64 x.f2],[.int .i64 x.f3,.int .i64 x.f4],rfl,rfl,⟨[.int .i64 x.f3],[.int .i64 x.f4],rfl,rfl,rfl⟩⟩⟩⟩
theorem k28_mkM (w:World) (base:Nat) (ok:Nat→Prop) (x:S28):k28.M w base ok x [.int .i64 x.f0.f0,.int .i64 x.f0.f1,.int .i64 x.f1,.int .i64 x.f2,.int .i64 x.f3,.int .i64 x.f4]:=⟨[.int .i64 x.f0.f0,.int .i64 x.f0.f1],[.int .i64 x.f1,.int .i64 x.f2,.int .i64 x.f3,.int .i64 x.f4],rfl,(k26_mkM w base ok x.f0),⟨[.int .i64 x.f1],[.int .i64 x.f2,.int .i64 x.f3,.int .i64 x.f4],rfl,rfl,⟨[.int .i64 x.f2],[.int .i64 x.f3,.int .i64 x.f4],rfl,rfl,⟨[.int .i64 x.f3],[.int .i64 x.f4],rfl,rfl,rfl⟩⟩⟩⟩
theorem k28_mkF (W:World) (ok:Nat→Prop) (x:S28):Kd.FK k28 W ok x [.int .i64 x.f0.f0,.int .i64 x.f0.f1,.int .i64 x.f1,.int .i64 x.f2,.int .i64 x.f3,.int .i64 x.f4]:=fun W2 _=>k28_mk W2 x
def rd_T28 (xs:List S28) (i:Int):S28:=xs.getD i.toNat z28
theorem at_T28 {w:World} {A:Option Addr} {n:Nat} {xs:List S28} (h:Kd.C k28 w A n xs) (i:Int) (h0:0≤i) (h1:i<n): ∃ad,A=some ad∧w.cell? (ad.add (i.toNat*6))=some (.int .i64 (rd_T28 xs i).f0.f0)∧w.cell? ⟨(ad.add (i.toNat*6)).block,(ad.add (i.toNat*6)).off+1,none⟩=some (.int .i64 (rd_T28 xs i).f0.f1)∧w.cell? ⟨(ad.add (i.toNat*6)).block,(ad.add (i.toNat*6)).off+2,none⟩=some (.int .i64 (rd_T28 xs i).f1)∧w.cell? ⟨(ad.add (i.toNat*6)).block,(ad.add (i.toNat*6)).off+3,none⟩=some (.int .i64 (rd_T28 xs i).f2)∧w.cell? ⟨(ad.add (i.toNat*6)).block,(ad.add (i.toNat*6)).off+4,none⟩=some (.int .i64 (rd_T28 xs i).f3)∧w.cell? ⟨(ad.add (i.toNat*6)).block,(ad.add (i.toNat*6)).off+5,none⟩=some (.int .i64 (rd_T28 xs i).f4):=by
  obtain⟨ad,c,e,_,hK,hc0⟩:=Kd.C_get h z28 i h0 h1
  have hc: ∀j u,c[j]?=some u→w.cell? (ad.add (i.toNat*6+j))=some u:=hc0
  obtain rfl:=k28_open hK
  exact⟨ad,e,hc 0 _ rfl,by rw[←add_field _ _ 1 (by omega)];exact hc 1 _ rfl,by rw[←add_field _ _ 2 (by omega)];exact hc 2 _ rfl,by rw[←add_field _ _ 3 (by omega)];exact hc 3 _ rfl,by rw[←add_field _ _ 4 (by omega)];exact hc 4 _ rfl,by rw[←add_field _ _ 5 (by omega)];exact hc 5 _ rfl⟩
structure S65 where
  f0:Int
  f1:S26
  f2:Int
def z65:S65:=⟨(0:Int),z26,(0:Int)⟩
def k65:Kd S65:=Kd.iso (Kd.pair (Kd.int .i64) (Kd.pair k26 (Kd.int .i64))) (fun x:S65=>(x.f0,x.f1,x.f2))
theorem k65_heap:Kd.Heap k65:=Kd.heap_iso _ (Kd.heap_pair (Kd.heap_int .i64) (Kd.heap_pair k26_heap (Kd.heap_int .i64)))
theorem k65_open {w:World} {x:S65} {cs:List Value} (h:k65.K w x cs):cs=[.int .i64 x.f0,.int .i64 x.f1.f0,.int .i64 x.f1.f1,.int .i64 x.f2]:=by
  obtain⟨_,_,rfl,rfl,⟨_,_,rfl,s1,rfl⟩⟩:=h
  obtain rfl:=k26_open s1
  exact rfl
theorem k65_openM {w:World} {base:Nat} {ok:Nat→Prop} {x:S65} {cs:List Value} (h:k65.M w base ok x cs):cs=[.int .i64 x.f0,.int .i64 x.f1.f0,.int .i64 x.f1.f1,.int .i64 x.f2]:=by
  obtain⟨_,_,rfl,rfl,⟨_,_,rfl,s1,rfl⟩⟩:=h
  obtain rfl:=k26_openM s1
  exact rfl
theorem k65_mk (w:World) (x:S65):k65.K w x [.int .i64 x.f0,.int .i64 x.f1.f0,.int .i64 x.f1.f1,.int .i64 x.f2]:=⟨[.int .i64 x.f0],[.int .i64 x.f1.f0,.int .i64 x.f1.f1,.int .i64 x.f2],rfl,rfl,⟨[.int .i64 x.f1.f0,.int .i64 x.f1.f1],[.int .i64 x.f2],rfl,(k26_mk w x.f1),rfl⟩⟩
theorem k65_mkM (w:World) (base:Nat) (ok:Nat→Prop) (x:S65):k65.M w base ok x [.int .i64 x.f0,.int .i64 x.f1.f0,.int .i64 x.f1.f1,.int .i64 x.f2]:=⟨[.int .i64 x.f0],[.int .i64 x.f1.f0,.int .i64 x.f1.f1,.int .i64 x.f2],rfl,rfl,⟨[.int .i64 x.f1.f0,.int .i64 x.f1.f1],[.int .i64 x.f2],rfl,(k26_mkM w base ok x.f1),rfl⟩⟩
theorem k65_mkF (W:World) (ok:Nat→Prop) (x:S65):Kd.FK k65 W ok x [.int .i64 x.f0,.int .i64 x.f1.f0,.int .i64 x.f1.f1,.int .i64 x.f2]:=fun W2 _=>k65_mk W2 x
def rd_T65 (xs:List S65) (i:Int):S65:=xs.getD i.toNat z65
theorem at_T65 {w:World} {A:Option Addr} {n:Nat} {xs:List S65} (h:Kd.C k65 w A n xs) (i:Int) (h0:0≤i) (h1:i<n): ∃ad,A=some ad∧w.cell? (ad.add (i.toNat*4))=some (.int .i64 (rd_T65 xs i).f0)∧w.cell? ⟨(ad.add (i.toNat*4)).block,(ad.add (i.toNat*4)).off+1,none⟩=some (.int .i64 (rd_T65 xs i).f1.f0)∧w.cell? ⟨(ad.add (i.toNat*4)).block,(ad.add (i.toNat*4)).off+2,none⟩=some (.int .i64 (rd_T65 xs i).f1.f1)∧w.cell? ⟨(ad.add (i.toNat*4)).block,(ad.add (i.toNat*4)).off+3,none⟩=some (.int .i64 (rd_T65 xs i).f2):=by
  obtain⟨ad,c,e,_,hK,hc0⟩:=Kd.C_get h z65 i h0 h1
  have hc: ∀j u,c[j]?=some u→w.cell? (ad.add (i.toNat*4+j))=some u:=hc0
  obtain rfl:=k65_open hK
  exact⟨ad,e,hc 0 _ rfl,by rw[←add_field _ _ 1 (by omega)];exact hc 1 _ rfl,by rw[←add_field _ _ 2 (by omega)];exact hc 2 _ rfl,by rw[←add_field _ _ 3 (by omega)];exact hc 3 _ rfl⟩
def rd_L5 (xs:List (List S65)) (i:Int):(List S65):=xs.getD i.toNat ([]:List S65)
theorem at_L5 {w:World} {A:Option Addr} {n:Nat} {xs:List (List S65)} (h:Kd.C (Kd.slice 65 k65) w A n xs) (i:Int) (h0:0≤i) (h1:i<n): ∃ad A0 c0,A=some ad∧w.cell? (ad.add i.toNat)=some (.slice A0 (rd_L5 xs i).length c0)∧(rd_L5 xs i).length≤c0∧k65.C w A0 (rd_L5 xs i).length (rd_L5 xs i):=by
  obtain⟨ad,c,e,_,hK,hc0⟩:=Kd.C_get h ([]:List S65) i h0 h1
  have hc: ∀j u,c[j]?=some u→w.cell? (ad.add (i.toNat*1+j))=some u:=hc0
  obtain⟨A0,c0,rfl,l0,g0⟩:=hK
  exact⟨ad,A0,c0,e,by have hq:=hc 0 _ rfl;rwa [Nat.mul_one,Nat.add_zero] at hq,l0,g0⟩
def rd_L6 (xs:List (List S28)) (i:Int):(List S28):=xs.getD i.toNat ([]:List S28)
theorem at_L6 {w:World} {A:Option Addr} {n:Nat} {xs:List (List S28)} (h:Kd.C (Kd.slice 28 k28) w A n xs) (i:Int) (h0:0≤i) (h1:i<n): ∃ad A0 c0,A=some ad∧w.cell? (ad.add i.toNat)=some (.slice A0 (rd_L6 xs i).length c0)∧(rd_L6 xs i).length≤c0∧k28.C w A0 (rd_L6 xs i).length (rd_L6 xs i):=by
  obtain⟨ad,c,e,_,hK,hc0⟩:=Kd.C_get h ([]:List S28) i h0 h1
  have hc: ∀j u,c[j]?=some u→w.cell? (ad.add (i.toNat*1+j))=some u:=hc0
  obtain⟨A0,c0,rfl,l0,g0⟩:=hK
  exact⟨ad,A0,c0,e,by have hq:=hc 0 _ rfl;rwa [Nat.mul_one,Nat.add_zero] at hq,l0,g0⟩
structure S24 where
  f0:Int
  f1:Int
  f2:(List S28)
def z24:S24:=⟨(0:Int),(0:Int),([]:List S28)⟩
def k24:Kd S24:=Kd.iso (Kd.pair (Kd.int .i64) (Kd.pair (Kd.int .i64) (Kd.slice 28 k28))) (fun x:S24=>(x.f0,x.f1,x.f2))
theorem k24_heap:Kd.Heap k24:=Kd.heap_iso _ (Kd.heap_pair (Kd.heap_int .i64) (Kd.heap_pair (Kd.heap_int .i64) (Kd.heap_slice 28 k28_heap)))
theorem k24_open {w:World} {x:S24} {cs:List Value} (h:k24.K w x cs): ∃A2 c2,cs=[.int .i64 x.f0,.int .i64 x.f1,.slice A2 x.f2.length c2]∧x.f2.length≤c2∧k28.C w A2 x.f2.length x.f2:=by
  obtain⟨_,_,rfl,rfl,⟨_,_,rfl,rfl,⟨A2,c2,rfl,l2,g2⟩⟩⟩:=h
  exact⟨A2,c2,rfl,l2,g2⟩
theorem k24_openM {w:World} {base:Nat} {ok:Nat→Prop} {x:S24} {cs:List Value} (h:k24.M w base ok x cs): ∃v2,cs=[.int .i64 x.f0,.int .i64 x.f1,v2]∧k28.R 28 w base ok v2 x.f2:=by
  obtain⟨_,_,rfl,rfl,⟨_,_,rfl,rfl,⟨v2,rfl,g2⟩⟩⟩:=h
  exact⟨v2,rfl,g2⟩
theorem k24_mk (w:World) (x:S24) {A2:Option Addr} {c2:Nat} (l2:x.f2.length≤c2) (g2:k28.C w A2 x.f2.length x.f2):k24.K w x [.int .i64 x.f0,.int .i64 x.f1,.slice A2 x.f2.length c2]:=⟨[.int .i64 x.f0],[.int .i64 x.f1,.slice A2 x.f2.length c2],rfl,rfl,⟨[.int .i64 x.f1],[.slice A2 x.f2.length c2],rfl,rfl,⟨A2,c2,rfl,l2,g2⟩⟩⟩
theorem k24_mkM (w:World) (base:Nat) (ok:Nat→Prop) (x:S24) {v2:Value} (g2:k28.R 28 w base ok v2 x.f2):k24.M w base ok x [.int .i64 x.f0,.int .i64 x.f1,v2]:=⟨[.int .i64 x.f0],[.int .i64 x.f1,v2],rfl,rfl,⟨[.int .i64 x.f1],[v2],rfl,rfl,⟨v2,rfl,g2⟩⟩⟩
theorem k24_openF {W:World} {ok:Nat→Prop} {x:S24} {cs:List Value} (h:Kd.FK k24 W ok x cs): ∃A2 c2,cs=[.int .i64 x.f0,.int .i64 x.f1,.slice A2 x.f2.length c2]∧x.f2.length≤c2∧Kd.F k28 W ok A2 x.f2.length x.f2:=by
  obtain⟨A2,c2,rfl,l2,_⟩:=k24_open (Kd.FK_now h)
  exact⟨A2,c2,rfl,l2,(fun W' hW=>by obtain⟨A2_,c2_,he,l2_,g2_⟩:=k24_open (h W' hW);injection (zW (show some (Value.slice A2 x.f2.length c2)=some (Value.slice A2_ x.f2.length c2_) from congrArg (fun l=>l[2]?) he)) with ha_ _ _;rw[ha_];exact g2_)⟩
theorem k24_mkF (W:World) (ok:Nat→Prop) (x:S24) {A2:Option Addr} {c2:Nat} (l2:x.f2.length≤c2) (g2:Kd.F k28 W ok A2 x.f2.length x.f2):Kd.FK k24 W ok x [.int .i64 x.f0,.int .i64 x.f1,.slice A2 x.f2.length c2]:=fun W2 hW=>k24_mk W2 x l2 (g2 W2 hW)
def rd_T24 (xs:List S24) (i:Int):S24:=xs.getD i.toNat z24
theorem at_T24 {w:World} {A:Option Addr} {n:Nat} {xs:List S24} (h:Kd.C k24 w A n xs) (i:Int) (h0:0≤i) (h1:i<n): ∃ad A2 c2,A=some ad∧w.cell? (ad.add (i.toNat*3))=some (.int .i64 (rd_T24 xs i).f0)∧w.cell? ⟨(ad.add (i.toNat*3)).block,(ad.add (i.toNat*3)).off+1,none⟩=some (.int .i64 (rd_T24 xs i).f1)∧w.cell? ⟨(ad.add (i.toNat*3)).block,(ad.add (i.toNat*3)).off+2,none⟩=some (.slice A2 (rd_T24 xs i).f2.length c2)∧(rd_T24 xs i).f2.length≤c2∧k28.C w A2 (rd_T24 xs i).f2.length (rd_T24 xs i).f2:=by
  obtain⟨ad,c,e,_,hK,hc0⟩:=Kd.C_get h z24 i h0 h1
  have hc: ∀j u,c[j]?=some u→w.cell? (ad.add (i.toNat*3+j))=some u:=hc0
  obtain⟨A2,c2,rfl,l2,g2⟩:=k24_open hK
  exact⟨ad,A2,c2,e,hc 0 _ rfl,by rw[←add_field _ _ 1 (by omega)];exact hc 1 _ rfl,by rw[←add_field _ _ 2 (by omega)];exact hc 2 _ rfl,l2,g2⟩
end Go.Proofs.Ytcfpbmdndapeaaa.F
