-- Written by a program of this session (xprint.py), out of the translation and of contracts proved by hand.
import Derived.Test.YtcfpbmdndapeaaaF0
import Derived.Test.YtcfpbmdndapeaaaF6
import Derived.Test.YtcfpbmdndapeaaaF7
import Derived.Test.YtcfpbmdndapeaaaF8
import Derived.Test.YtcfpbmdndapeaaaF13
import Derived.Test.YtcfpbmdndapeaaaF14
namespace Go.Proofs.Ytcfpbmdndapeaaa.F
open Go.RowKit Go.Proofs.YtcfpbmdndapeaaaV.PrintWords Go.Proofs.YtcfpbmdndapeaaaV.PrintLast Go.Proofs.YtcfpbmdndapeaaaV.PrintMore
attribute [local go_sem] max2_int min2_int max_two min_two max_three min_three max_four min_four
set_option linter.unusedVariables false
set_option linter.unusedSimpArgs false
def due_Turns.passO (k:Nat) (x:S28) (t:Int):Option S28:=(alarm_Pass.f k x.f0.f0 x.f0.f1 x.f1 x.f2 x.f3 x.f4 t).map fun p=>(⟨⟨p.1,p.2.1⟩,p.2.2.1,p.2.2.2.1,p.2.2.2.2.1,p.2.2.2.2.2⟩:S28)
def due_Turns.turnO (k:Nat) (x:S28) (at_ ph:Int):Option (List S65×S28):=if x.f4>at_ then some ([],x) else(due_Turns.passO k x x.f4).map fun y=>([(⟨x.f4,⟨x.f0.f0,x.f0.f1⟩,ph⟩:S65)],y)
def due_Turns.stepT (k:Nat) (at_:Int) (x:S28):Option (List S65):=if x.f1=4 then((due_Turns.turnO k x at_ 1).bind fun p=>if p.2.f1=1 then(due_Turns.turnO k p.2 at_ 2).map (fun q=>p.1++q.1) else some p.1) else if x.f1=1 then(due_Turns.turnO k x at_ 2).map (·.1) else some []
def due_Turns.told (k:Nat) (at_:Int) (l:List S28):List S65:=l.flatMap (fun x=>(due_Turns.stepT k at_ x).getD [])
def due_Turns.f (k:Nat) (a0_0 a0_1:Int) (l0_2:List S28) (a1:Int):Option (List S65×Int):=(board_Is.f k a0_0 a0_1 l0_2).bind fun t=>if t=true then(if a1<0 then some ([],1) else if a1>1000000000 then some ([],1) else if a1<a0_1 then some ([],62) else if l0_2.length<400000∧(∀x∈l0_2,(due_Turns.stepT k a1 x).isSome=true) then(due_Order.f k (due_Turns.told k a1 (l0_2.filter wtP))).bind fun r=>some (r,0) else none) else some ([],1)
set_option maxHeartbeats 8000000 in
theorem due_Turns.e1 (k:Nat) (a0_0 a0_1:Int) (A0_2:Option Addr) (c0_2:Nat) (l0_2:List S28) (a1:Int) (w:World) (hr0_2:Kd.C k28 w A0_2 l0_2.length l0_2) (hc0_2:l0_2.length≤c0_2) (E0:board_Is.f k a0_0 a0_1 l0_2=some false):
    Calls Try.prog 37 #[.agg #[.int .i64 a0_0,.int .i64 a0_1,.slice A0_2 l0_2.length c0_2],.int .i64 a1] w fun e w'=> ∃v0_:Value,e=.returned (.tuple #[v0_,.int .i64 1])∧Kd.R k65 65 w' w.heap.size (fun _=>True) v0_ ([]:List S65)∧Below w.heap.size w w':=by
  have hu0:=Try.underlying24
  have hu1:=Try.underlying28
  have hu2:=Try.underlying65
  have HR0:=zB hr0_2
  have HC0:=zB hc0_2
  clear hr0_2 hc0_2
  replace E0:=zB E0
  have HT:=zB (T.Tell.init w)
  go_enter Try.func37,Try.ntmps37
  go_wp2_with (first|((with_reducible refine gate_dst (N:=2) rfl ?_);refine be_ (N:=2) (cs:=#[.int .i64 a0_0,.int .i64 a0_1,.slice A0_2 l0_2.length c0_2]) (t:=24) ?_;intro g_b hg w_2 hbox hb;replace HT:=zB (HT.out.pushBe hbox hg hb);clear hb hbox hg)|((with_reducible refine gate_dst (N:=3) rfl ?_);refine be_ (N:=3) (cs:=#[.int .i64 a1]) (t:=3) ?_;intro g_t hg w_3 hbox hb;replace HT:=zB (HT.out.pushBe hbox hg hb);clear hb hbox hg;have hx0_b:=(HT.out.bx 1 rfl 0).trans rfl;have hx1_b:=(HT.out.bx 1 rfl 1).trans rfl;have hx2_b:=(HT.out.bx 1 rfl 2).trans rfl;have hz_b:=(HT.out.far 1 rfl (k:=g_b) rfl).1;have hx0_t:=(HT.out.bx 0 rfl 0).trans rfl)|((with_reducible refine gate_dst (N:=10) rfl ?_);(try(refine gate_guard (by rfl) ?_;dsimp only));refine gl_ (some 10) Try.func32 #[.agg #[.int .i64 a0_0,.int .i64 a0_1,.slice A0_2 l0_2.length c0_2]] rfl ?_;(with_reducible refine(board_Is.calls k a0_0 a0_1 _ _ l0_2 false _ ?s1 ?s2 E0.out).mono ?_);(case s1=>exact Kd.C_below HR0.out HT.out.below);(case s2=>exact HC0.out);rintro e_ w_10 ⟨rfl,hb⟩;refine⟨_,rfl,?_⟩;replace HT:=zB (HT.out.step hb);clear hb;have hx0_b:=(HT.out.bx 1 rfl 0).trans rfl;have hx1_b:=(HT.out.bx 1 rfl 1).trans rfl;have hx2_b:=(HT.out.bx 1 rfl 2).trans rfl;have hz_b:=(HT.out.far 1 rfl (k:=g_b) rfl).1;have hx0_t:=(HT.out.bx 0 rfl 0).trans rfl;have hz_t:=(HT.out.far 0 rfl (k:=g_t) rfl).1))
  go_ret2
  exact⟨_,rfl,Kd.R_nil _ _ _ _ _,HT.out.below⟩
set_option maxHeartbeats 8000000 in
theorem due_Turns.e2 (k:Nat) (a0_0 a0_1:Int) (A0_2:Option Addr) (c0_2:Nat) (l0_2:List S28) (a1:Int) (w:World) (hr0_2:Kd.C k28 w A0_2 l0_2.length l0_2) (hc0_2:l0_2.length≤c0_2) (E0:board_Is.f k a0_0 a0_1 l0_2=some true) (h1:decide (a1<0)=true):
    Calls Try.prog 37 #[.agg #[.int .i64 a0_0,.int .i64 a0_1,.slice A0_2 l0_2.length c0_2],.int .i64 a1] w fun e w'=> ∃v0_:Value,e=.returned (.tuple #[v0_,.int .i64 1])∧Kd.R k65 65 w' w.heap.size (fun _=>True) v0_ ([]:List S65)∧Below w.heap.size w w':=by
  have hu0:=Try.underlying24
  have hu1:=Try.underlying28
  have hu2:=Try.underlying65
  have HR0:=zB hr0_2
  have HC0:=zB hc0_2
  clear hr0_2 hc0_2
  replace E0:=zB E0
  have HT:=zB (T.Tell.init w)
  go_enter Try.func37,Try.ntmps37
  go_wp2_with (first|((with_reducible refine gate_dst (N:=2) rfl ?_);refine be_ (N:=2) (cs:=#[.int .i64 a0_0,.int .i64 a0_1,.slice A0_2 l0_2.length c0_2]) (t:=24) ?_;intro g_b hg w_2 hbox hb;replace HT:=zB (HT.out.pushBe hbox hg hb);clear hb hbox hg)|((with_reducible refine gate_dst (N:=3) rfl ?_);refine be_ (N:=3) (cs:=#[.int .i64 a1]) (t:=3) ?_;intro g_t hg w_3 hbox hb;replace HT:=zB (HT.out.pushBe hbox hg hb);clear hb hbox hg;have hx0_b:=(HT.out.bx 1 rfl 0).trans rfl;have hx1_b:=(HT.out.bx 1 rfl 1).trans rfl;have hx2_b:=(HT.out.bx 1 rfl 2).trans rfl;have hz_b:=(HT.out.far 1 rfl (k:=g_b) rfl).1;have hx0_t:=(HT.out.bx 0 rfl 0).trans rfl)|((with_reducible refine gate_dst (N:=10) rfl ?_);(try(refine gate_guard (by rfl) ?_;dsimp only));refine gl_ (some 10) Try.func32 #[.agg #[.int .i64 a0_0,.int .i64 a0_1,.slice A0_2 l0_2.length c0_2]] rfl ?_;(with_reducible refine(board_Is.calls k a0_0 a0_1 _ _ l0_2 true _ ?s1 ?s2 E0.out).mono ?_);(case s1=>exact Kd.C_below HR0.out HT.out.below);(case s2=>exact HC0.out);rintro e_ w_10 ⟨rfl,hb⟩;refine⟨_,rfl,?_⟩;replace HT:=zB (HT.out.step hb);clear hb;have hx0_b:=(HT.out.bx 1 rfl 0).trans rfl;have hx1_b:=(HT.out.bx 1 rfl 1).trans rfl;have hx2_b:=(HT.out.bx 1 rfl 2).trans rfl;have hz_b:=(HT.out.far 1 rfl (k:=g_b) rfl).1;have hx0_t:=(HT.out.bx 0 rfl 0).trans rfl;have hz_t:=(HT.out.far 0 rfl (k:=g_t) rfl).1))
  go_ret2
  exact⟨_,rfl,Kd.R_nil _ _ _ _ _,HT.out.below⟩
set_option maxHeartbeats 8000000 in
theorem due_Turns.e3 (k:Nat) (a0_0 a0_1:Int) (A0_2:Option Addr) (c0_2:Nat) (l0_2:List S28) (a1:Int) (w:World) (hr0_2:Kd.C k28 w A0_2 l0_2.length l0_2) (hc0_2:l0_2.length≤c0_2) (E0:board_Is.f k a0_0 a0_1 l0_2=some true) (h1:decide (a1<0)=false) (h2:decide (a1>1000000000)=true):
    Calls Try.prog 37 #[.agg #[.int .i64 a0_0,.int .i64 a0_1,.slice A0_2 l0_2.length c0_2],.int .i64 a1] w fun e w'=> ∃v0_:Value,e=.returned (.tuple #[v0_,.int .i64 1])∧Kd.R k65 65 w' w.heap.size (fun _=>True) v0_ ([]:List S65)∧Below w.heap.size w w':=by
  have hu0:=Try.underlying24
  have hu1:=Try.underlying28
  have hu2:=Try.underlying65
  have HR0:=zB hr0_2
  have HC0:=zB hc0_2
  clear hr0_2 hc0_2
  replace E0:=zB E0
  have HT:=zB (T.Tell.init w)
  go_enter Try.func37,Try.ntmps37
  go_wp2_with (first|((with_reducible refine gate_dst (N:=2) rfl ?_);refine be_ (N:=2) (cs:=#[.int .i64 a0_0,.int .i64 a0_1,.slice A0_2 l0_2.length c0_2]) (t:=24) ?_;intro g_b hg w_2 hbox hb;replace HT:=zB (HT.out.pushBe hbox hg hb);clear hb hbox hg)|((with_reducible refine gate_dst (N:=3) rfl ?_);refine be_ (N:=3) (cs:=#[.int .i64 a1]) (t:=3) ?_;intro g_t hg w_3 hbox hb;replace HT:=zB (HT.out.pushBe hbox hg hb);clear hb hbox hg;have hx0_b:=(HT.out.bx 1 rfl 0).trans rfl;have hx1_b:=(HT.out.bx 1 rfl 1).trans rfl;have hx2_b:=(HT.out.bx 1 rfl 2).trans rfl;have hz_b:=(HT.out.far 1 rfl (k:=g_b) rfl).1;have hx0_t:=(HT.out.bx 0 rfl 0).trans rfl)|((with_reducible refine gate_dst (N:=10) rfl ?_);(try(refine gate_guard (by rfl) ?_;dsimp only));refine gl_ (some 10) Try.func32 #[.agg #[.int .i64 a0_0,.int .i64 a0_1,.slice A0_2 l0_2.length c0_2]] rfl ?_;(with_reducible refine(board_Is.calls k a0_0 a0_1 _ _ l0_2 true _ ?s1 ?s2 E0.out).mono ?_);(case s1=>exact Kd.C_below HR0.out HT.out.below);(case s2=>exact HC0.out);rintro e_ w_10 ⟨rfl,hb⟩;refine⟨_,rfl,?_⟩;replace HT:=zB (HT.out.step hb);clear hb;have hx0_b:=(HT.out.bx 1 rfl 0).trans rfl;have hx1_b:=(HT.out.bx 1 rfl 1).trans rfl;have hx2_b:=(HT.out.bx 1 rfl 2).trans rfl;have hz_b:=(HT.out.far 1 rfl (k:=g_b) rfl).1;have hx0_t:=(HT.out.bx 0 rfl 0).trans rfl;have hz_t:=(HT.out.far 0 rfl (k:=g_t) rfl).1))
  go_ret2
  exact⟨_,rfl,Kd.R_nil _ _ _ _ _,HT.out.below⟩
set_option maxHeartbeats 8000000 in
theorem due_Turns.e4 (k:Nat) (a0_0 a0_1:Int) (A0_2:Option Addr) (c0_2:Nat) (l0_2:List S28) (a1:Int) (w:World) (hr0_2:Kd.C k28 w A0_2 l0_2.length l0_2) (hc0_2:l0_2.length≤c0_2) (E0:board_Is.f k a0_0 a0_1 l0_2=some true) (h1:decide (a1<0)=false) (h2:decide (a1>1000000000)=false) (h3:decide (a1<a0_1)=true):
    Calls Try.prog 37 #[.agg #[.int .i64 a0_0,.int .i64 a0_1,.slice A0_2 l0_2.length c0_2],.int .i64 a1] w fun e w'=> ∃v0_:Value,e=.returned (.tuple #[v0_,.int .i64 62])∧Kd.R k65 65 w' w.heap.size (fun _=>True) v0_ ([]:List S65)∧Below w.heap.size w w':=by
  have hu0:=Try.underlying24
  have hu1:=Try.underlying28
  have hu2:=Try.underlying65
  have HR0:=zB hr0_2
  have HC0:=zB hc0_2
  clear hr0_2 hc0_2
  replace E0:=zB E0
  have HT:=zB (T.Tell.init w)
  go_enter Try.func37,Try.ntmps37
  go_wp2_with (first|((with_reducible refine gate_dst (N:=2) rfl ?_);refine be_ (N:=2) (cs:=#[.int .i64 a0_0,.int .i64 a0_1,.slice A0_2 l0_2.length c0_2]) (t:=24) ?_;intro g_b hg w_2 hbox hb;replace HT:=zB (HT.out.pushBe hbox hg hb);clear hb hbox hg)|((with_reducible refine gate_dst (N:=3) rfl ?_);refine be_ (N:=3) (cs:=#[.int .i64 a1]) (t:=3) ?_;intro g_t hg w_3 hbox hb;replace HT:=zB (HT.out.pushBe hbox hg hb);clear hb hbox hg;have hx0_b:=(HT.out.bx 1 rfl 0).trans rfl;have hx1_b:=(HT.out.bx 1 rfl 1).trans rfl;have hx2_b:=(HT.out.bx 1 rfl 2).trans rfl;have hz_b:=(HT.out.far 1 rfl (k:=g_b) rfl).1;have hx0_t:=(HT.out.bx 0 rfl 0).trans rfl)|((with_reducible refine gate_dst (N:=10) rfl ?_);(try(refine gate_guard (by rfl) ?_;dsimp only));refine gl_ (some 10) Try.func32 #[.agg #[.int .i64 a0_0,.int .i64 a0_1,.slice A0_2 l0_2.length c0_2]] rfl ?_;(with_reducible refine(board_Is.calls k a0_0 a0_1 _ _ l0_2 true _ ?s1 ?s2 E0.out).mono ?_);(case s1=>exact Kd.C_below HR0.out HT.out.below);(case s2=>exact HC0.out);rintro e_ w_10 ⟨rfl,hb⟩;refine⟨_,rfl,?_⟩;replace HT:=zB (HT.out.step hb);clear hb;have hx0_b:=(HT.out.bx 1 rfl 0).trans rfl;have hx1_b:=(HT.out.bx 1 rfl 1).trans rfl;have hx2_b:=(HT.out.bx 1 rfl 2).trans rfl;have hz_b:=(HT.out.far 1 rfl (k:=g_b) rfl).1;have hx0_t:=(HT.out.bx 0 rfl 0).trans rfl;have hz_t:=(HT.out.far 0 rfl (k:=g_t) rfl).1))
  go_ret2
  exact⟨_,rfl,Kd.R_nil _ _ _ _ _,HT.out.below⟩
structure due_Turns.TI (w w1:World) (gl gt Bq:Nat) (at_:Int) (xs:List S65) (W W':World):Prop where
  kf:KeepsFrom w1.heap.size W W'
  kp:KpV w.heap.size Bq W W'
  row: ∃v,Boxed W' gl 53 v∧Kd.R k65 65 W' w.heap.size (fun j=>w1.heap.size≤j) v xs
  tb:W'.heap[gt]?=some (.cells #[.int .i64 at_] 3 (0,0))
  sz:w1.heap.size≤W'.heap.size
  bel:Below w.heap.size w W'
theorem due_Turns.TI.put {w w1:World} {gl gt Bq:Nat} {at_:Int} {xs:List S65} {W W':World} (h:due_Turns.TI w w1 gl gt Bq at_ xs W W') {P:Nat} {cs:Array Value} (hb:W'.heap[P]?=some (.cells cs 28 (0,0))) (hw:w.heap.size≤w1.heap.size) (hP:w1.heap.size≤P) (hl:gl<w1.heap.size) (ht:gt<w1.heap.size) (hq:Bq<w1.heap.size) (j:Nat) (u:Value):
    due_Turns.TI w w1 gl gt Bq at_ xs W (W'.setCell ⟨P,j,none⟩ u):=by
  obtain⟨v,hv,hR⟩:=h.row
  have far: ∀b,b≠P→(W'.setCell ⟨P,j,none⟩ u).heap[b]?=W'.heap[b]?:=fun b h=>Below.heap_setCell W' ⟨P,j,none⟩ u b h
  refine⟨h.kf.trans ((KeepsOthers.setCell _ _ _).from _),⟨h.kp.bel.setCell (p:=⟨P,j,none⟩) (Nat.le_trans hw hP) u,fun o ho=>(far _ (by omega)).trans (h.kp.one o ho)⟩,⟨v,(far _ (by omega)).trans hv,Kd.R_mono (Kd.R_far (Kd.R_types hR hb (by decide)) (p:=⟨P,j,none⟩) (fun k hk=>hk.2) u) (fun _ hk=>hk.1)⟩,(far _ (by omega)).trans h.tb,?_,h.bel.setCell (p:=⟨P,j,none⟩) (Nat.le_trans hw hP) u⟩
  exact Nat.le_trans h.sz (KeepsWalks.setCell _ _ _).size
theorem due_Turns.TI.turned {k:Nat} {w w1:World} {gl gt Bq:Nat} {at_:Int} {xs:List S65} {W W':World} (h:due_Turns.TI w w1 gl gt Bq at_ xs W W') {P:Nat} {cs:Array Value} (hb:W'.heap[P]?=some (.cells cs 28 (0,0))) (hw:w.heap.size≤gl) (hP:w1.heap.size≤P) (hl:gl<w1.heap.size) (ht:gt<w1.heap.size) (hq:Bq<w1.heap.size) (htl:gt≠gl) (hql:Bq≠gl) (hlen:xs.length<1000000)
    {x0 x1 x2 x3 x4 x5 y0 y1 y2 y3 y4 y5 ph:Int} {ts:List S65} (hx:due_Turns.turnO k (⟨⟨x0,x1⟩,x2,x3,x4,x5⟩:S28) at_ ph=some (ts,(⟨⟨y0,y1⟩,y2,y3,y4,y5⟩:S28))):
    Calls Try.prog 70 #[.pointer (some ⟨gl,0,none⟩),.agg #[.int .i64 x0,.int .i64 x1,.int .i64 x2,.int .i64 x3,.int .i64 x4,.int .i64 x5],.int .i64 at_,.int .i64 ph] W' fun e W2=>e=.returned (.agg #[.int .i64 y0,.int .i64 y1,.int .i64 y2,.int .i64 y3,.int .i64 y4,.int .i64 y5])∧due_Turns.TI w w1 gl gt Bq at_ (xs++ts) W W2∧W2.heap[P]?=some (.cells cs 28 (0,0)):=by
  by_cases hc:x5>at_
  · unfold due_Turns.turnO at hx
    rw[if_pos hc] at hx
    obtain⟨rfl,hy⟩:[]=ts∧(⟨⟨x0,x1⟩,x2,x3,x4,x5⟩:S28)=(⟨⟨y0,y1⟩,y2,y3,y4,y5⟩:S28):=by simpa only[zc,Prod.mk.injEq] using hx
    injection hy with e1 e2 e3 e4 e5
    injection e1 with e6 e7
    subst e2 e3 e4 e5 e6 e7
    refine(due_turned.no gl x0 x1 x2 x3 x4 x5 at_ ph W' (zO hc)).mono ?_
    rintro e W2 ⟨rfl,hb2⟩
    obtain⟨v,hv,hR⟩:=h.row
    refine⟨rfl,⟨h.kf.trans (keepsFrom_below hb2),⟨h.kp.bel.trans (hb2.mono (by have:=h.sz;omega)),fun o ho=>blk_below (h.kp.one o ho) hb2⟩,⟨v,blk_below hv hb2,by rw[List.append_nil];exact Kd.R_below hR hb2⟩,blk_below h.tb hb2,Nat.le_trans h.sz hb2.size,h.bel.trans (hb2.mono (by have:=h.sz;omega))⟩,blk_below hb hb2⟩
  · unfold due_Turns.turnO due_Turns.passO at hx
    rw[if_neg hc] at hx
    obtain⟨y,hy,hx⟩:=Option.map_eq_some_iff.1 hx
    obtain⟨⟨p0,p1,p2,p3,p4,p5⟩,hp,hy⟩:=Option.map_eq_some_iff.1 hy
    subst hy
    obtain⟨rfl,hy⟩:[(⟨x5,⟨x0,x1⟩,ph⟩:S65)]=ts∧(⟨⟨p0,p1⟩,p2,p3,p4,p5⟩:S28)=(⟨⟨y0,y1⟩,y2,y3,y4,y5⟩:S28):=by simpa only[Prod.mk.injEq] using hx
    injection hy with e1 e2 e3 e4 e5
    injection e1 with e6 e7
    subst e2 e3 e4 e5 e6 e7
    obtain⟨v,hv,hR⟩:=h.row
    refine(due_turned.yes k w.heap.size w1.heap.size gl v xs x0 x1 x2 x3 x4 x5 at_ ph p0 p1 p2 p3 p4 p5 W' (zY hc) hv hR hl hw h.sz hlen hp).mono ?_
    rintro e W2 ⟨rfl,v2,hv2,hR2,hk,hb2⟩
    have hno: ∀j,j<w1.heap.size→some j≠v.ownBlock:=fun j hj he=>by have:=hR.1 _ he.symm;omega
    have hnP:some P≠v.ownBlock:=fun he=>((Kd.R_types hR hb (by decide)).1 _ he.symm).2 rfl
    have hkf:KeepsFrom w1.heap.size W' W2:=⟨hb2.size,fun j o hj ho hn=>hk j o (by omega) (fun he=>by
      obtain⟨_,_,_,q,_,cells,hcells⟩:=(Kd.R_bound hR).1 j he.symm
      rw[hcells] at ho;cases ho;exact absurd (show true=false from hn) (by decide)) ho⟩
    exact⟨rfl,⟨h.kf.trans hkf,⟨h.kp.bel.trans hb2,fun o ho=>hk _ _ hql (hno _ hq) (h.kp.one o ho)⟩,⟨v2,hv2,hR2⟩,hk _ _ htl (hno _ ht) h.tb,Nat.le_trans h.sz hb2.size,h.bel.trans hb2⟩,hk _ _ (by omega) hnP hb⟩
theorem due_Turns.turnO_len {k:Nat} {x y:S28} {at_ ph:Int} {ts:List S65} (h:due_Turns.turnO k x at_ ph=some (ts,y)):ts.length≤1:=by
  unfold due_Turns.turnO at h
  split at h
  · obtain⟨rfl,_⟩:[]=ts∧x=y:=by simpa only[zc,Prod.mk.injEq] using h
    exact Nat.zero_le _
  · obtain⟨z,_,hz⟩:=Option.map_eq_some_iff.1 h
    obtain⟨rfl,_⟩:=Prod.mk.injEq _ _ _ _▸hz
    exact za _
theorem due_Turns.stepT_len {k:Nat} {x:S28} {at_:Int} {ts:List S65} (h:due_Turns.stepT k at_ x=some ts):ts.length≤2:=by
  unfold due_Turns.stepT at h
  split at h
  · obtain⟨⟨t1,y⟩,h1,h⟩:=zL h
    have:=due_Turns.turnO_len h1
    split at h
    · obtain⟨⟨t2,z⟩,h2,h⟩:=Option.map_eq_some_iff.1 h
      have:=due_Turns.turnO_len h2
      subst h
      rw[List.length_append]
      show t1.length+t2.length≤2
      omega
    · cases h
      show t1.length≤2
      omega
  · split at h
    · obtain⟨⟨t2,z⟩,h2,h⟩:=Option.map_eq_some_iff.1 h
      have:=due_Turns.turnO_len h2
      subst h
      show t2.length≤2
      omega
    · cases h
      exact Nat.zero_le _
theorem due_Turns.told_snoc (k:Nat) (at_:Int) (l:List S28) (x:S28) (ts:List S65) (h:due_Turns.stepT k at_ x=some ts):due_Turns.told k at_ (l++[x])=due_Turns.told k at_ l++ts:=by
  unfold due_Turns.told
  rw[List.flatMap_append,List.flatMap_singleton,h]
  rfl
theorem due_Turns.told_len (k:Nat) (at_:Int) (l:List S28):(due_Turns.told k at_ l).length≤2*l.length:=by
  induction l with
  |nil=>exact za _
  | cons x l ih=>
    unfold due_Turns.told at*
    rw[List.flatMap_cons,List.length_append,List.length_cons]
    have:((due_Turns.stepT k at_ x).getD []).length≤2:=by
      cases h:due_Turns.stepT k at_ x with
      |none=>exact Nat.zero_le _
      |some ts=>exact due_Turns.stepT_len h
    omega
section
attribute [local go_sem] Oper.semAt_some
set_option maxHeartbeats 8000000 in
set_option maxRecDepth 100000 in
theorem due_Turns.main (k:Nat) (a0_0 a0_1:Int) (A0_2:Option Addr) (c0_2:Nat) (l0_2:List S28) (a1:Int) (r:List S65) (w:World) (hr0_2:Kd.C k28 w A0_2 l0_2.length l0_2) (hc0_2:l0_2.length≤c0_2) (E0:board_Is.f k a0_0 a0_1 l0_2=some true) (h1:decide (a1<0)=false) (h2:decide (a1>1000000000)=false) (h3:decide (a1<a0_1)=false) (hlen0:l0_2.length<400000) (hstep: ∀x∈l0_2,(due_Turns.stepT k a1 x).isSome=true) (ho:due_Order.f k (due_Turns.told k a1 (l0_2.filter wtP))=some r):
    Calls Try.prog 37 #[.agg #[.int .i64 a0_0,.int .i64 a0_1,.slice A0_2 l0_2.length c0_2],.int .i64 a1] w fun e w'=> ∃v0_:Value,e=.returned (.tuple #[v0_,.int .i64 0])∧Kd.R k65 65 w' w.heap.size (fun _=>True) v0_ r∧Below w.heap.size w w':=by
  have hu0:=Try.underlying24
  have hu1:=Try.underlying28
  have hu2:=Try.underlying65
  have HR0:=zB hr0_2
  have HC0:=zB hc0_2
  clear hr0_2 hc0_2
  replace E0:=zB E0
  have LM:=zB hlen0
  have LS:=zB hstep
  have EO:=zB ho
  clear hlen0 hstep ho
  have HT:=zB (T.Tell.init w)
  have hfa: ∀f,Fence.wide.fn f:=fun _=>trivial
  refine(callsIn_wide (n:=3)).1 ?_
  refine callsIn_of_wp_marks Try.func37 rfl trivial ?_ rfl
  simp only[Try.ntmps37,List.size_toArray,List.length_cons,List.length_nil,Nat.reduceAdd,Nat.reduceSub,Array.replicate_succ,Array.replicate_zero,List.push_toArray,List.append_toArray,List.nil_append,List.cons_append]
  refine wpIn_wide.2 ?_
  go_wp2_with (first|((with_reducible refine gate_dst (N:=2) rfl ?_);refine be_ (N:=2) (cs:=#[.int .i64 a0_0,.int .i64 a0_1,.slice A0_2 l0_2.length c0_2]) (t:=24) ?_;intro g_b hg w_2 hbox hb;replace HT:=zB (HT.out.pushBe hbox hg hb);clear hb hbox hg)|((with_reducible refine gate_dst (N:=3) rfl ?_);refine be_ (N:=3) (cs:=#[.int .i64 a1]) (t:=3) ?_;intro g_t hg w_3 hbox hb;replace HT:=zB (HT.out.pushBe hbox hg hb);clear hb hbox hg;have hx0_b:=(HT.out.bx 1 rfl 0).trans rfl;have hx1_b:=(HT.out.bx 1 rfl 1).trans rfl;have hx2_b:=(HT.out.bx 1 rfl 2).trans rfl;have hz_b:=(HT.out.far 1 rfl (k:=g_b) rfl).1;have hx0_t:=(HT.out.bx 0 rfl 0).trans rfl)|((with_reducible refine gate_dst (N:=10) rfl ?_);(try(refine gate_guard (by rfl) ?_;dsimp only));refine gl_ (some 10) Try.func32 #[.agg #[.int .i64 a0_0,.int .i64 a0_1,.slice A0_2 l0_2.length c0_2]] rfl ?_;(with_reducible refine(board_Is.calls k a0_0 a0_1 _ _ l0_2 true _ ?s1 ?s2 E0.out).mono ?_);(case s1=>exact Kd.C_below HR0.out HT.out.below);(case s2=>exact HC0.out);rintro e_ w_10 ⟨rfl,hb⟩;refine⟨_,rfl,?_⟩;replace HT:=zB (HT.out.step hb);clear hb;have hx0_b:=(HT.out.bx 1 rfl 0).trans rfl;have hx1_b:=(HT.out.bx 1 rfl 1).trans rfl;have hx2_b:=(HT.out.bx 1 rfl 2).trans rfl;have hz_b:=(HT.out.far 1 rfl (k:=g_b) rfl).1;have hx0_t:=(HT.out.bx 0 rfl 0).trans rfl;have hz_t:=(HT.out.far 0 rfl (k:=g_t) rfl).1)|((with_reducible refine gate_dst (N:=27) rfl ?_);replace HT:=zB (HT.out.pushB #[.slice none 0 0] 53);refine gl_ (some 27) Try.func69 #[.slice A0_2 l0_2.length c0_2] rfl ?_;(with_reducible refine(due_waiting.calls A0_2 l0_2.length c0_2 _).mono ?_);rintro e_ w_27 ⟨rfl,rfl⟩;refine⟨_,rfl,?_⟩;replace HT:=zB (HT.out.pushB #[.slice A0_2 l0_2.length c0_2] 22)))
  simp only[Act.put,zE,zH,zI]
  generalize hw1:(w_10.alloc (.cells #[.slice none 0 0] 53)).alloc (.cells #[.slice A0_2 l0_2.length c0_2] 22)=w1 at HT⊢
  generalize(w_10.alloc (.cells #[.slice none 0 0] 53)).heap.size=gq at HT⊢
  generalize w_10.heap.size=gl at HT⊢
  clear hw1
  have CQ:=zB (HT.out.get 0 rfl);have CL:=zB (HT.out.get 1 rfl);have CT:=zB (HT.out.get 2 rfl);have L1:=zB HT.out.below
  have FQ:=zB (HT.out.far 0 rfl (k:=gq) rfl);have FL:=zB (HT.out.far 1 rfl (k:=gl) rfl);have FT:=zB (HT.out.far 2 rfl (k:=g_t) rfl)
  have NTL:=zB (show g_t≠gl from blk_ne CT.out CL.out (by decide));have NQL:=zB (show gq≠gl from blk_ne CQ.out CL.out (by decide))
  clear HT
  refine(wpIn_wide (n:=3)).1 ?_
  refine wpIn_rangeFunc_ownH (α:=Fin l0_2.length) (F:=Fence.wide) (n:=3) rfl (by decide) (gf:=91) rfl trivial (enters_of Try.func91 (by kernel_rfl) rfl)
    (waiting1.stops 2 (by decide) A0_2 c0_2 l0_2 w w1 gq HR0.out L1.out CQ.out)
    (fun h k=>h.t k) (fun W l_ o o' hl_ h h1 h2=>KpV.b (w:=w1) (m:=w.heap.size) (B:=gq) L1.out.size FQ.out.1 W l_ o o' hl_ h h1 h2) (Below.refl _ _) (fun _=>rfl)
    (fun pre W=>(∃v,Boxed W gl 53 v∧Kd.R k65 65 W w.heap.size (fun j=>w1.heap.size≤j) v (due_Turns.told k a1 (pre.map (fun i=>l0_2[i]))))∧W.heap[g_t]?=some (.cells #[.int .i64 a1] 3 (0,0))∧w1.heap.size≤W.heap.size∧Below w.heap.size w W)
    (fun _ _ _=>False)
    ?own (fun _ _ _ _ _ hs _ _=>hs) ?start
    (fun x a' W=> ∃P:Nat,w1.heap.size≤P∧a'={tmps:=#[.agg #[.int .i64 a0_0,.int .i64 a0_1,.slice A0_2 l0_2.length c0_2],.int .i64 a1,.pointer (some ⟨g_b,0,none⟩),.pointer (some ⟨g_t,0,none⟩),.slice none 0 0,.int .i64 0,.pointer (some ⟨gl,0,none⟩),.pointer (some ⟨P,0,none⟩),.bool false,.agg #[.int .i64 a0_0,.int .i64 a0_1,.slice A0_2 l0_2.length c0_2],.bool true,.bool false,.bool false,.int .i64 a1,.bool false,.bool false,.bool false,.int .i64 a1,.bool false,.bool false,.bool false,.int .i64 a1,.pointer (some ⟨g_b,1,none⟩),.int .i64 a0_1,.bool false,.pointer (some ⟨g_b,2,none⟩),.slice A0_2 l0_2.length c0_2,.func (.func 91) #[] #[.pointer (some ⟨gq,0,none⟩)],.agg #[.int .i64 (rd_T28 l0_2 (x.1:Int)).f0.f0,.int .i64 (rd_T28 l0_2 (x.1:Int)).f0.f1,.int .i64 (rd_T28 l0_2 (x.1:Int)).f1,.int .i64 (rd_T28 l0_2 (x.1:Int)).f2,.int .i64 (rd_T28 l0_2 (x.1:Int)).f3,.int .i64 (rd_T28 l0_2 (x.1:Int)).f4],undef,undef,undef,undef,undef,undef,undef,undef,undef,undef,undef,undef,undef,undef],defers:=[]}∧W.heap[P]?=some (.cells #[.int .i64 (rd_T28 l0_2 (x.1:Int)).f0.f0,.int .i64 (rd_T28 l0_2 (x.1:Int)).f0.f1,.int .i64 (rd_T28 l0_2 (x.1:Int)).f1,.int .i64 (rd_T28 l0_2 (x.1:Int)).f2,.int .i64 (rd_T28 l0_2 (x.1:Int)).f3,.int .i64 (rd_T28 l0_2 (x.1:Int)).f4] 28 (0,0)))
    ?ownA ?assign ?body ?done ?stop
  case own=>exact OwnFrom.and (Own.from (Go.Proofs.Ytcfpbmdndapeaaa.X.boxR_own k65 65 w.heap.size gl 53 _ (fun pre:List (Fin l0_2.length)=>due_Turns.told k a1 (pre.map (fun i=>l0_2[i])))) _) (OwnFrom.and (Own.from (Go.Proofs.Ytcfpbmdndapeaaa.X.blk_own (β:=List (Fin l0_2.length)) (fun _=>#[.int .i64 a1])) _) (OwnFrom.and (fun _ _ _ _ hs hg _=>Nat.le_trans hs hg.size) (ownFrom_below (za _) L1.out.size)))
  case start=>exact⟨⟨_,CL.out,Kd.R_nil _ _ _ _ _⟩,CT.out,za _,L1.out⟩
  case ownA=>
    rintro x a' _ X Y row ⟨P,h0,e,hP⟩ hg hrow
    exact⟨P,h0,e,Go.Proofs.Ytcfpbmdndapeaaa.X.blk_own (β:=Unit) (fun _=>_) () X Y row hP hg (fun r e=>(hrow r e).2)⟩
  case assign=>
    rintro l_ pre x W K ⟨⟨v,hv,hR⟩,ht,hsz,hbel⟩ hK
    gi_wp2
    refine hK _ _ ?_ ?_ ?_ ⟨W.heap.size,hsz,rfl,blk_new W _⟩
    · exact KeepsFrom.of_grownBy (World.grownBy_alloc W _ none) (fun _ e=>by cases e)
    · exact⟨(below_alloc (Below.refl W.heap.size W) _).mono (by have:=L1.out.size;omega),fun o ho=>blk_below ho (below_alloc (Below.refl _ _) _)⟩
    · exact⟨⟨v,hv.alloc _,Kd.R_alloc hR _⟩,zT ht _,by simp;omega,below_alloc hbel _⟩
  case stop=>
    rintro D c_ pre W hD _ h
    exact h.elim
  case done=>
    rintro D ys W hD rfl ⟨⟨v,hv,hR⟩,ht,hsz,hbel⟩ hK
    rw[wplaces_all] at hR
    have hc:=hv.cell
    obtain⟨A1,c1,e1⟩:=Kd.R_slice hR
    subst e1
    have hrd:=zd hR
    have HC:=zB hrd.2.2
    have HP:=zB hrd.2.1
    have BO:=zB hbel
    have KO:=zB hK
    have DO:=zB (show w.heap.size≤D from Nat.le_trans L1.out.size hD)
    clear hrd hR hbel hK hD hsz hv ht
    go_wp2_with ((with_reducible refine gate_dst (N:=42) rfl ?_);refine gl_ (some 42) Try.func47 #[.slice A1 (due_Turns.told k a1 (l0_2.filter wtP)).length c1] rfl ?_;(with_reducible refine(due_Order.calls k A1 c1 _ r _ HC.out HP.out EO.out).mono ?_);rintro e_ w_42 ⟨v_,rfl,ho,hb⟩;refine⟨_,rfl,?_⟩;have RO:=zB ho;have BB:=zB hb;clear ho hb)
    have KO2:=blk_below KO.out BB.out
    refine⟨by simp,.inl ⟨_,_,rfl,run_takeDeferred KO2,?_⟩⟩
    have RO2:=Kd.R_mono (Kd.R_lower RO.out BO.out.size) (fun _ h=>h)
    exact⟨_,results_tmp2 rfl _ _ _,_,rfl,Go.Proofs.Ytcfpbmdndapeaaa.X.R_nocells RO2 (grownBy_putObj' _ _ _) (fun q e=>by cases e;exact⟨_,KO2,rfl⟩),(zQ BO.out BB.out).grown (grownBy_putObj' _ _ _) (zQ BO.out BB.out).size (fun k e=>by cases e;exact DO.out)⟩
  case body=>
    rintro y pre x a' W hy _ ⟨⟨v,hv,hR⟩,ht,hsz,hbel⟩ ⟨P,hP0,rfl,hP⟩ hlen
    have hrd:(rd_T28 l0_2 (x.1:Int))=l0_2[x]:=by simp[rd_T28,List.getD_eq_getElem?_getD]
    have hin:(rd_T28 l0_2 (x.1:Int))∈l0_2:=by rw[hrd];exact List.getElem_mem _
    obtain⟨ts,hts⟩:=Option.isSome_iff_exists.1 (LS.out _ hin)
    have hfin:due_Turns.told k a1 ((pre++[x]).map (fun i=>l0_2[i]))=due_Turns.told k a1 (pre.map (fun i=>l0_2[i]))++ts:=by
      rw[List.map_append]
      exact due_Turns.told_snoc k a1 _ _ ts (by show due_Turns.stepT k a1 l0_2[x]=some ts;rw[←hrd];exact hts)
    have htl:=due_Turns.told_len k a1 (pre.map (fun i=>l0_2[i]))
    rw[List.length_map] at htl
    clear hrd hin
    generalize(rd_T28 l0_2 (x.1:Int))=y_ at hP hts⊢
    generalize due_Turns.told k a1 (pre.map (fun i=>l0_2[i]))=xs at hR hfin htl
    obtain⟨⟨x0,x1⟩,x2,x3,x4,x5⟩:=y_
    have XL:=zB (show xs.length<900000 by have:=LM.out;omega)
    have HI:=zB (⟨KeepsFrom.refl _ _,⟨Below.refl _ _,fun o ho=>ho⟩,⟨v,hv,hR⟩,ht,hsz,hbel⟩:due_Turns.TI w w1 gl g_t gq a1 xs W W)
    have BP:=zB (show W.heap[P]?=some (.cells #[.int .i64 x0,.int .i64 x1,.int .i64 x2,.int .i64 x3,.int .i64 x4,.int .i64 x5] 28 (0,0)) from hP)
    have XM:=zB (show xs.length<1000000 by have:=LM.out;omega)
    have HP0:=zB hP0
    have HF:=zB hfin
    clear hv hR ht hsz hbel hP hlen htl hP0 hfin
    have hv0_x:=(zD BP.out 0).trans rfl;have hw0_x:=zC BP.out 0;have hv1_x:=(zD BP.out 1).trans rfl;have hw1_x:=zC BP.out 1;have hv2_x:=(zD BP.out 2).trans rfl;have hw2_x:=zC BP.out 2;have hv3_x:=(zD BP.out 3).trans rfl;have hw3_x:=zC BP.out 3;have hv4_x:=(zD BP.out 4).trans rfl;have hw4_x:=zC BP.out 4;have hv5_x:=(zD BP.out 5).trans rfl;have hw5_x:=zC BP.out 5
    have hx0_t:=(zD HI.out.tb 0).trans rfl
    have hfr: ∀f,(Fence.wide.inRound y).fn f:=fun _=>trivial
    have hdep:1≤3-1-1:=by decide
    by_cases c4:x2=4
    · subst c4
      simp only[due_Turns.stepT] at hts
      rw[if_pos trivial] at hts
      obtain⟨⟨t1,⟨⟨y0,y1⟩,y2,y3,y4,y5⟩⟩,h1,hts⟩:=zL hts
      have H1:=zB h1
      have HL2:=zB (show(xs++t1).length<1000000 by have:=XL.out;have:=due_Turns.turnO_len h1;rw[List.length_append];omega)
      clear h1
      dsimp only at hts
      by_cases c1:y2=1
      · subst c1
        rw[if_pos rfl] at hts
        obtain⟨⟨t2,⟨⟨z0,z1⟩,z2,z3,z4,z5⟩⟩,h2,h3⟩:=Option.map_eq_some_iff.1 hts
        have H2:=zB h2
        replace HF:Aside0 (due_Turns.told k a1 ((pre++[x]).map (fun i=>l0_2[i]))=xs++t1++t2):=⟨HF.out.trans (by rw[←h3];exact(List.append_assoc _ _ _).symm)⟩
        clear h2 h3 hts
        gi_wp2_with (first|(gi_at_call 70;with_reducible refine(CallsIn.inRound _ (callsIn_wide.2 (HI.out.turned BP.out FL.out.2 HP0.out FL.out.1 FT.out.1 FQ.out.1 NTL.out NQL.out XM.out H1.out))).mono ?_;rintro e_ w_a ⟨rfl,hT,hP_⟩;have HI4:Aside0 (due_Turns.TI w w1 gl g_t gq a1 (xs++t1) W ((((((w_a.setCell ⟨P,0,none⟩ (.int .i64 y0)).setCell ⟨P,1,none⟩ (.int .i64 y1)).setCell ⟨P,2,none⟩ (.int .i64 1)).setCell ⟨P,3,none⟩ (.int .i64 y3)).setCell ⟨P,4,none⟩ (.int .i64 y4)).setCell ⟨P,5,none⟩ (.int .i64 y5))):=zB ((((((hT.put hP_ L1.out.size HP0.out FL.out.1 FT.out.1 FQ.out.1 0 (.int .i64 y0)).put (zZ hP_ 0 (.int .i64 y0) rfl) L1.out.size HP0.out FL.out.1 FT.out.1 FQ.out.1 1 (.int .i64 y1)).put (zZ (zZ hP_ 0 (.int .i64 y0) rfl) 1 (.int .i64 y1) rfl) L1.out.size HP0.out FL.out.1 FT.out.1 FQ.out.1 2 (.int .i64 1)).put (zZ (zZ (zZ hP_ 0 (.int .i64 y0) rfl) 1 (.int .i64 y1) rfl) 2 (.int .i64 1) rfl) L1.out.size HP0.out FL.out.1 FT.out.1 FQ.out.1 3 (.int .i64 y3)).put (zZ (zZ (zZ (zZ hP_ 0 (.int .i64 y0) rfl) 1 (.int .i64 y1) rfl) 2 (.int .i64 1) rfl) 3 (.int .i64 y3) rfl) L1.out.size HP0.out FL.out.1 FT.out.1 FQ.out.1 4 (.int .i64 y4)).put (zZ (zZ (zZ (zZ (zZ hP_ 0 (.int .i64 y0) rfl) 1 (.int .i64 y1) rfl) 2 (.int .i64 1) rfl) 3 (.int .i64 y3) rfl) 4 (.int .i64 y4) rfl) L1.out.size HP0.out FL.out.1 FT.out.1 FQ.out.1 5 (.int .i64 y5));have BP4:Aside0 (((((((w_a.setCell ⟨P,0,none⟩ (.int .i64 y0)).setCell ⟨P,1,none⟩ (.int .i64 y1)).setCell ⟨P,2,none⟩ (.int .i64 1)).setCell ⟨P,3,none⟩ (.int .i64 y3)).setCell ⟨P,4,none⟩ (.int .i64 y4)).setCell ⟨P,5,none⟩ (.int .i64 y5)).heap[P]?=some (.cells #[.int .i64 y0,.int .i64 y1,.int .i64 1,.int .i64 y3,.int .i64 y4,.int .i64 y5] 28 (0,0))):=zB (zZ (zZ (zZ (zZ (zZ (zZ hP_ 0 (.int .i64 y0) rfl) 1 (.int .i64 y1) rfl) 2 (.int .i64 1) rfl) 3 (.int .i64 y3) rfl) 4 (.int .i64 y4) rfl) 5 (.int .i64 y5) rfl);have hv0_a:=(zD hP_ 0).trans rfl;have hw0_a:=zC hP_ 0;have hv1_a:=(zD hP_ 1).trans rfl;have hw1_a:=zC hP_ 1;have hv2_a:=(zD hP_ 2).trans rfl;have hw2_a:=zC hP_ 2;have hv3_a:=(zD hP_ 3).trans rfl;have hw3_a:=zC hP_ 3;have hv4_a:=(zD hP_ 4).trans rfl;have hw4_a:=zC hP_ 4;have hv5_a:=(zD hP_ 5).trans rfl;have hw5_a:=zC hP_ 5;clear hT hP_;have hv0_b:=(zD BP4.out 0).trans rfl;have hw0_b:=zC BP4.out 0;have hv1_b:=(zD BP4.out 1).trans rfl;have hw1_b:=zC BP4.out 1;have hv2_b:=(zD BP4.out 2).trans rfl;have hw2_b:=zC BP4.out 2;have hv3_b:=(zD BP4.out 3).trans rfl;have hw3_b:=zC BP4.out 3;have hv4_b:=(zD BP4.out 4).trans rfl;have hw4_b:=zC BP4.out 4;have hv5_b:=(zD BP4.out 5).trans rfl;have hw5_b:=zC BP4.out 5;have hx1_t:=(zD HI4.out.tb 0).trans rfl)|(gi_at_call 70;with_reducible refine(CallsIn.inRound _ (callsIn_wide.2 (HI4.out.turned BP4.out FL.out.2 HP0.out FL.out.1 FT.out.1 FQ.out.1 NTL.out NQL.out HL2.out H2.out))).mono ?_;rintro e_ w_b ⟨rfl,hT,hP_⟩;have HI5:=zB hT;clear hT hP_))
        first|exact⟨HI5.out.kf,HI5.out.kp,by rw[HF.out];exact HI5.out.row,HI5.out.tb,HI5.out.sz,HI5.out.bel⟩|exact⟨HI4.out.kf,HI4.out.kp,by rw[HF.out];exact HI4.out.row,HI4.out.tb,HI4.out.sz,HI4.out.bel⟩|exact⟨HI.out.kf,HI.out.kp,by rw[HF.out];exact HI.out.row,HI.out.tb,HI.out.sz,HI.out.bel⟩
      · rw[if_neg c1] at hts
        have HC1:=zB c1
        have c1b:(y2==1)=false:=beq_eq_false_iff_ne.2 c1
        have c1d:decide (y2=1)=false:=zY c1
        replace HF:Aside0 (due_Turns.told k a1 ((pre++[x]).map (fun i=>l0_2[i]))=xs++t1):=⟨HF.out.trans (by rw[←zW hts])⟩
        clear hts
        gi_wp2_with ((gi_at_call 70;with_reducible refine(CallsIn.inRound _ (callsIn_wide.2 (HI.out.turned BP.out FL.out.2 HP0.out FL.out.1 FT.out.1 FQ.out.1 NTL.out NQL.out XM.out H1.out))).mono ?_;rintro e_ w_a ⟨rfl,hT,hP_⟩;have HI4:Aside0 (due_Turns.TI w w1 gl g_t gq a1 (xs++t1) W ((((((w_a.setCell ⟨P,0,none⟩ (.int .i64 y0)).setCell ⟨P,1,none⟩ (.int .i64 y1)).setCell ⟨P,2,none⟩ (.int .i64 y2)).setCell ⟨P,3,none⟩ (.int .i64 y3)).setCell ⟨P,4,none⟩ (.int .i64 y4)).setCell ⟨P,5,none⟩ (.int .i64 y5))):=zB ((((((hT.put hP_ L1.out.size HP0.out FL.out.1 FT.out.1 FQ.out.1 0 (.int .i64 y0)).put (zZ hP_ 0 (.int .i64 y0) rfl) L1.out.size HP0.out FL.out.1 FT.out.1 FQ.out.1 1 (.int .i64 y1)).put (zZ (zZ hP_ 0 (.int .i64 y0) rfl) 1 (.int .i64 y1) rfl) L1.out.size HP0.out FL.out.1 FT.out.1 FQ.out.1 2 (.int .i64 y2)).put (zZ (zZ (zZ hP_ 0 (.int .i64 y0) rfl) 1 (.int .i64 y1) rfl) 2 (.int .i64 y2) rfl) L1.out.size HP0.out FL.out.1 FT.out.1 FQ.out.1 3 (.int .i64 y3)).put (zZ (zZ (zZ (zZ hP_ 0 (.int .i64 y0) rfl) 1 (.int .i64 y1) rfl) 2 (.int .i64 y2) rfl) 3 (.int .i64 y3) rfl) L1.out.size HP0.out FL.out.1 FT.out.1 FQ.out.1 4 (.int .i64 y4)).put (zZ (zZ (zZ (zZ (zZ hP_ 0 (.int .i64 y0) rfl) 1 (.int .i64 y1) rfl) 2 (.int .i64 y2) rfl) 3 (.int .i64 y3) rfl) 4 (.int .i64 y4) rfl) L1.out.size HP0.out FL.out.1 FT.out.1 FQ.out.1 5 (.int .i64 y5));have BP4:Aside0 (((((((w_a.setCell ⟨P,0,none⟩ (.int .i64 y0)).setCell ⟨P,1,none⟩ (.int .i64 y1)).setCell ⟨P,2,none⟩ (.int .i64 y2)).setCell ⟨P,3,none⟩ (.int .i64 y3)).setCell ⟨P,4,none⟩ (.int .i64 y4)).setCell ⟨P,5,none⟩ (.int .i64 y5)).heap[P]?=some (.cells #[.int .i64 y0,.int .i64 y1,.int .i64 y2,.int .i64 y3,.int .i64 y4,.int .i64 y5] 28 (0,0))):=zB (zZ (zZ (zZ (zZ (zZ (zZ hP_ 0 (.int .i64 y0) rfl) 1 (.int .i64 y1) rfl) 2 (.int .i64 y2) rfl) 3 (.int .i64 y3) rfl) 4 (.int .i64 y4) rfl) 5 (.int .i64 y5) rfl);have hv0_a:=(zD hP_ 0).trans rfl;have hw0_a:=zC hP_ 0;have hv1_a:=(zD hP_ 1).trans rfl;have hw1_a:=zC hP_ 1;have hv2_a:=(zD hP_ 2).trans rfl;have hw2_a:=zC hP_ 2;have hv3_a:=(zD hP_ 3).trans rfl;have hw3_a:=zC hP_ 3;have hv4_a:=(zD hP_ 4).trans rfl;have hw4_a:=zC hP_ 4;have hv5_a:=(zD hP_ 5).trans rfl;have hw5_a:=zC hP_ 5;clear hT hP_;have hv0_b:=(zD BP4.out 0).trans rfl;have hw0_b:=zC BP4.out 0;have hv1_b:=(zD BP4.out 1).trans rfl;have hw1_b:=zC BP4.out 1;have hv2_b:=(zD BP4.out 2).trans rfl;have hw2_b:=zC BP4.out 2;have hv3_b:=(zD BP4.out 3).trans rfl;have hw3_b:=zC BP4.out 3;have hv4_b:=(zD BP4.out 4).trans rfl;have hw4_b:=zC BP4.out 4;have hv5_b:=(zD BP4.out 5).trans rfl;have hw5_b:=zC BP4.out 5;have hx1_t:=(zD HI4.out.tb 0).trans rfl))
        first|exact⟨HI5.out.kf,HI5.out.kp,by rw[HF.out];exact HI5.out.row,HI5.out.tb,HI5.out.sz,HI5.out.bel⟩|exact⟨HI4.out.kf,HI4.out.kp,by rw[HF.out];exact HI4.out.row,HI4.out.tb,HI4.out.sz,HI4.out.bel⟩|exact⟨HI.out.kf,HI.out.kp,by rw[HF.out];exact HI.out.row,HI.out.tb,HI.out.sz,HI.out.bel⟩
    · have c4b:(x2==4)=false:=beq_eq_false_iff_ne.2 c4
      have c4d:decide (x2=4)=false:=zY c4
      simp only[due_Turns.stepT] at hts
      rw[if_neg c4] at hts
      by_cases c1:x2=1
      · subst c1
        rw[if_pos rfl] at hts
        obtain⟨⟨t2,⟨⟨z0,z1⟩,z2,z3,z4,z5⟩⟩,h2,h3⟩:=Option.map_eq_some_iff.1 hts
        have H2:=zB h2
        replace HF:Aside0 (due_Turns.told k a1 ((pre++[x]).map (fun i=>l0_2[i]))=xs++t2):=⟨HF.out.trans (by rw[←h3])⟩
        clear h2 h3 hts
        gi_wp2_with ((gi_at_call 70;with_reducible refine(CallsIn.inRound _ (callsIn_wide.2 (HI.out.turned BP.out FL.out.2 HP0.out FL.out.1 FT.out.1 FQ.out.1 NTL.out NQL.out XM.out H2.out))).mono ?_;rintro e_ w_b ⟨rfl,hT,hP_⟩;have HI5:=zB hT;clear hT hP_))
        first|exact⟨HI5.out.kf,HI5.out.kp,by rw[HF.out];exact HI5.out.row,HI5.out.tb,HI5.out.sz,HI5.out.bel⟩|exact⟨HI4.out.kf,HI4.out.kp,by rw[HF.out];exact HI4.out.row,HI4.out.tb,HI4.out.sz,HI4.out.bel⟩|exact⟨HI.out.kf,HI.out.kp,by rw[HF.out];exact HI.out.row,HI.out.tb,HI.out.sz,HI.out.bel⟩
      · rw[if_neg c1] at hts
        have c1b:(x2==1)=false:=beq_eq_false_iff_ne.2 c1
        have c1d:decide (x2=1)=false:=zY c1
        replace HF:Aside0 (due_Turns.told k a1 ((pre++[x]).map (fun i=>l0_2[i]))=xs):=⟨HF.out.trans (by rw[←zW hts,List.append_nil])⟩
        clear hts
        gi_wp2
        first|exact⟨HI5.out.kf,HI5.out.kp,by rw[HF.out];exact HI5.out.row,HI5.out.tb,HI5.out.sz,HI5.out.bel⟩|exact⟨HI4.out.kf,HI4.out.kp,by rw[HF.out];exact HI4.out.row,HI4.out.tb,HI4.out.sz,HI4.out.bel⟩|exact⟨HI.out.kf,HI.out.kp,by rw[HF.out];exact HI.out.row,HI.out.tb,HI.out.sz,HI.out.bel⟩
end
theorem due_Turns.passO_mono (k:Nat) (x:S28) (t:Int):LeO (due_Turns.passO k x t) (due_Turns.passO (k+1) x t):=by
  intro r h
  obtain⟨p,hp,he⟩:=Option.map_eq_some_iff.1 h
  exact Option.map_eq_some_iff.2 ⟨p,alarm_Pass.mono _ _ _ _ _ _ _ k p hp,he⟩
theorem due_Turns.turnO_mono (k:Nat) (x:S28) (t ph:Int):LeO (due_Turns.turnO k x t ph) (due_Turns.turnO (k+1) x t ph):=by
  unfold due_Turns.turnO
  refine zg (LeO.refl _) ?_
  intro r h
  obtain⟨p,hp,he⟩:=Option.map_eq_some_iff.1 h
  exact Option.map_eq_some_iff.2 ⟨p,due_Turns.passO_mono k x x.f4 p hp,he⟩
theorem due_Turns.stepT_mono (k:Nat) (t:Int) (x:S28):LeO (due_Turns.stepT k t x) (due_Turns.stepT (k+1) t x):=by
  unfold due_Turns.stepT
  refine zg (ze (due_Turns.turnO_mono k x t 1) (fun p=>zg ?_ (LeO.refl _))) (zg ?_ (LeO.refl _))
  · intro r h
    obtain⟨q,hp,he⟩:=Option.map_eq_some_iff.1 h
    exact Option.map_eq_some_iff.2 ⟨q,due_Turns.turnO_mono k p.2 t 2 q hp,he⟩
  · intro r h
    obtain⟨q,hp,he⟩:=Option.map_eq_some_iff.1 h
    exact Option.map_eq_some_iff.2 ⟨q,due_Turns.turnO_mono k x t 2 q hp,he⟩
theorem due_Turns.mono: ∀a0 a1 a2 a3 k,LeO (due_Turns.f k a0 a1 a2 a3) (due_Turns.f (k+1) a0 a1 a2 a3):=by
  intro a0 a1 a2 a3 k
  unfold due_Turns.f
  refine ze (board_Is.mono _ _ _ _) (fun t=>zg (zg (LeO.refl _) (zg (LeO.refl _) (zg (LeO.refl _) ?_))) (LeO.refl _))
  intro r h
  by_cases c:a2.length<400000∧(∀x∈a2,(due_Turns.stepT k a3 x).isSome=true)
  · rw[if_pos c] at h
    have hst: ∀x∈a2,due_Turns.stepT (k+1) a3 x=due_Turns.stepT k a3 x:=fun x hx=>by
      obtain⟨q,hq⟩:=Option.isSome_iff_exists.1 (c.2 x hx)
      rw[hq,due_Turns.stepT_mono k a3 x q hq]
    rw[if_pos ⟨c.1,fun x hx=>by rw[hst x hx];exact c.2 x hx⟩]
    have e:due_Turns.told (k+1) a3 (a2.filter wtP)=due_Turns.told k a3 (a2.filter wtP):=by
      unfold due_Turns.told
      rw[List.flatMap_def,List.flatMap_def]
      congr 1
      exact List.map_congr_left (fun x hx=>by rw[hst x (List.mem_filter.1 hx).1])
    rw[e]
    exact ze (due_Order.mono _ k) (fun _=>LeO.refl _) r h
  · rw[if_neg c] at h
    cases h
theorem due_Turns.calls (k:Nat) (a0_0 a0_1:Int) (A0_2:Option Addr) (c0_2:Nat) (l0_2:List S28) (a1:Int) (r1:List S65) (r2:Int) (w:World) (hr0_2:Kd.C k28 w A0_2 l0_2.length l0_2) (hc0_2:l0_2.length≤c0_2) (h:due_Turns.f k a0_0 a0_1 l0_2 a1=some (r1,r2)):
    Calls Try.prog 37 #[.agg #[.int .i64 a0_0,.int .i64 a0_1,.slice A0_2 l0_2.length c0_2],.int .i64 a1] w fun e w'=> ∃v0_:Value,e=.returned (.tuple #[v0_,.int .i64 r2])∧Kd.R k65 65 w' w.heap.size (fun _=>True) v0_ r1∧Below w.heap.size w w':=by
  obtain⟨t,h0,h⟩:=zL h
  cases t with
  | false=>
    rw[if_neg Bool.false_ne_true] at h
    obtain⟨rfl,rfl⟩:[]=r1∧1=r2:=by simpa only[zc,Prod.mk.injEq] using h
    exact due_Turns.e1 k a0_0 a0_1 A0_2 c0_2 l0_2 a1 w hr0_2 hc0_2 h0
  | true=>
    rw[if_pos rfl] at h
    by_cases c1:a1<0
    · rw[if_pos c1] at h
      obtain⟨rfl,rfl⟩:[]=r1∧1=r2:=by simpa only[zc,Prod.mk.injEq] using h
      exact due_Turns.e2 k a0_0 a0_1 A0_2 c0_2 l0_2 a1 w hr0_2 hc0_2 h0 (zO c1)
    rw[if_neg c1] at h
    by_cases c2:a1>1000000000
    · rw[if_pos c2] at h
      obtain⟨rfl,rfl⟩:[]=r1∧1=r2:=by simpa only[zc,Prod.mk.injEq] using h
      exact due_Turns.e3 k a0_0 a0_1 A0_2 c0_2 l0_2 a1 w hr0_2 hc0_2 h0 (zY c1) (zO c2)
    rw[if_neg c2] at h
    by_cases c3:a1<a0_1
    · rw[if_pos c3] at h
      obtain⟨rfl,rfl⟩:[]=r1∧62=r2:=by simpa only[zc,Prod.mk.injEq] using h
      exact due_Turns.e4 k a0_0 a0_1 A0_2 c0_2 l0_2 a1 w hr0_2 hc0_2 h0 (zY c1) (zY c2) (zO c3)
    rw[if_neg c3] at h
    by_cases c4:l0_2.length<400000∧(∀x∈l0_2,(due_Turns.stepT k a1 x).isSome=true)
    · rw[if_pos c4] at h
      obtain⟨r,hr,h⟩:=zL h
      obtain⟨rfl,rfl⟩:r=r1∧0=r2:=by simpa only[zc,Prod.mk.injEq] using h
      exact due_Turns.main k a0_0 a0_1 A0_2 c0_2 l0_2 a1 r w hr0_2 hc0_2 h0 (zY c1) (zY c2) (zY c3) c4.1 c4.2 hr
    · rw[if_neg c4] at h
      cases h
def watchmanref04_Is.f (a0_0:Int) (a0_1:Int):Option (Bool):=if a0_0≥1 then(if a0_0≤99 then(if a0_1≥0 then(some (decide (a0_1≤7))) else(some false)) else(some false)) else(some false)
set_option maxHeartbeats 8000000 in
set_option maxRecDepth 100000 in
theorem watchmanref04_Is.calls (a0_0:Int) (a0_1:Int) (r:Bool) (w:World) (h:watchmanref04_Is.f a0_0 a0_1=some r):
  Calls Try.prog 86 #[.agg #[.int .i64 a0_0,.int .i64 a0_1]] w fun e w'=>e=.returned (.bool r)∧Below w.heap.size w w':=by
 have hu26:=Try.underlying26
 have HB:=zB (Below.refl w.heap.size w)
 have H:(if a0_0≥1 then(if a0_0≤99 then(if a0_1≥0 then(some (decide (a0_1≤7))) else(some false)) else(some false)) else(some false))=some r:=h
 clear h
 by_cases c2:a0_0≥1
 ·rw[if_pos c2] at H
  have c2b0:=zO c2
  clear c2
  by_cases c3:a0_0≤99
  ·rw[if_pos c3] at H
   have c3b0:=zO c3
   clear c3
   by_cases c4:a0_1≥0
   ·rw[if_pos c4] at H
    have c4b0:=zO c4
    clear c4
    obtain rfl:=zW H
    go_enter Try.func86,Try.ntmps86
    go_wp2_with (first|((with_reducible refine gate_dst (N:=1) rfl ?_);refine be_ (N:=1) (cs:=#[.int .i64 a0_0,.int .i64 a0_1]) (t:=26) ?_;intro gb233 hg w5 hbox hb;have BK233:=zB hbox;have GW233:=gw_ hg HB;have GE233:=GW233;replace HB:=zB (zQ HB.out hb);clear hb hbox hg;have hcz6:=zD BK233.out;have hfz6:=zC BK233.out))
    go_ret
    exact⟨ew_,hb_ HB⟩
   ·rw[if_neg c4] at H
    have c4b0:=zY c4
    clear c4
    obtain rfl:=zW H
    go_enter Try.func86,Try.ntmps86
    go_wp2_with (first|((with_reducible refine gate_dst (N:=1) rfl ?_);refine be_ (N:=1) (cs:=#[.int .i64 a0_0,.int .i64 a0_1]) (t:=26) ?_;intro gb233 hg w7 hbox hb;have BK233:=zB hbox;have GW233:=gw_ hg HB;have GE233:=GW233;replace HB:=zB (zQ HB.out hb);clear hb hbox hg;have hcz8:=zD BK233.out;have hfz8:=zC BK233.out))
    go_ret
    exact⟨ew_,hb_ HB⟩
  ·rw[if_neg c3] at H
   have c3b0:=zY c3
   clear c3
   obtain rfl:=zW H
   go_enter Try.func86,Try.ntmps86
   go_wp2_with (first|((with_reducible refine gate_dst (N:=1) rfl ?_);refine be_ (N:=1) (cs:=#[.int .i64 a0_0,.int .i64 a0_1]) (t:=26) ?_;intro gb233 hg w9 hbox hb;have BK233:=zB hbox;have GW233:=gw_ hg HB;have GE233:=GW233;replace HB:=zB (zQ HB.out hb);clear hb hbox hg;have hcz10:=zD BK233.out;have hfz10:=zC BK233.out))
   go_ret
   exact⟨ew_,hb_ HB⟩
 ·rw[if_neg c2] at H
  have c2b0:=zY c2
  clear c2
  obtain rfl:=zW H
  go_enter Try.func86,Try.ntmps86
  go_wp2_with (first|((with_reducible refine gate_dst (N:=1) rfl ?_);refine be_ (N:=1) (cs:=#[.int .i64 a0_0,.int .i64 a0_1]) (t:=26) ?_;intro gb233 hg w11 hbox hb;have BK233:=zB hbox;have GW233:=gw_ hg HB;have GE233:=GW233;replace HB:=zB (zQ HB.out hb);clear hb hbox hg;have hcz12:=zD BK233.out;have hfz12:=zC BK233.out))
  go_ret
  exact⟨ew_,hb_ HB⟩
def watchmanref06_time.f (a0:Int):Option (Bool):=if a0≥0 then(some (decide (a0≤1000000000))) else(some false)
set_option maxHeartbeats 8000000 in
set_option maxRecDepth 100000 in
theorem watchmanref06_time.calls (a0:Int) (r:Bool) (w:World) (h:watchmanref06_time.f a0=some r):
  Calls Try.prog 87 #[.int .i64 a0] w fun e w'=>e=.returned (.bool r)∧Drawn0 w w':=by
 have H:(if a0≥0 then(some (decide (a0≤1000000000))) else(some false))=some r:=h
 clear h
 by_cases c2:a0≥0
 ·rw[if_pos c2] at H
  have c2b0:=zO c2
  clear c2
  obtain rfl:=zW H
  go_enter Try.func87,Try.ntmps87
  go_wp2
  go_ret
  exact⟨rs_,dr_⟩
 ·rw[if_neg c2] at H
  have c2b0:=zY c2
  clear c2
  obtain rfl:=zW H
  go_enter Try.func87,Try.ntmps87
  go_wp2
  go_ret
  exact⟨rs_,dr_⟩
end Go.Proofs.Ytcfpbmdndapeaaa.F
