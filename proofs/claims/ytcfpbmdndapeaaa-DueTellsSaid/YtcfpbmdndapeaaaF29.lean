-- Written by a program of this session (xprint.py), out of the translation and of contracts proved by hand.
import Derived.Test.YtcfpbmdndapeaaaF0
import Derived.Test.YtcfpbmdndapeaaaF2
import Derived.Test.YtcfpbmdndapeaaaF4
import Derived.Test.YtcfpbmdndapeaaaF13
import Derived.Test.YtcfpbmdndapeaaaF14
import Derived.Test.YtcfpbmdndapeaaaF15
import Derived.Test.YtcfpbmdndapeaaaF19
import Derived.Test.YtcfpbmdndapeaaaF21
import Derived.Test.YtcfpbmdndapeaaaF22
import Derived.Test.YtcfpbmdndapeaaaF23
import Derived.Test.YtcfpbmdndapeaaaF25
import Derived.Test.YtcfpbmdndapeaaaF26
import Derived.Test.YtcfpbmdndapeaaaF28
namespace Go.Proofs.Ytcfpbmdndapeaaa.F
open Go.RowKit Go.Proofs.YtcfpbmdndapeaaaV.PrintWords Go.Proofs.YtcfpbmdndapeaaaV.PrintLast Go.Proofs.YtcfpbmdndapeaaaV.PrintMore
attribute [local go_sem] max2_int min2_int max_two min_two max_three min_three max_four min_four
set_option linter.unusedVariables false
set_option linter.unusedSimpArgs false
attribute [local go_sem high] eqA28
theorem T.lit_one {P:Program} {ops:Array Oper} {oi:Oper} {N:Option Tmp} {a:Act} {w:World} {K:Act→World→Prop} {Q:Exit→Act→World→Prop} {n:Nat} {cs:Array Value} {t:TypeId} (hw:Region.wanted oi (yielded ops a.tmps)=true) (hN:oi.dst=N)
    (hrun:(execOp a.eval oi).run P w=.ok (.value (.slice (some ⟨w.heap.size,0,none⟩) n n)) (w.alloc (.cells cs t (0,0))))
    (h: ∀g,g=w.heap.size→ ∀w1,w1.heap[g]?=some (.cells cs t (0,0))→Below w.heap.size w w1→K (a.put N (.slice (some ⟨g,0,none⟩) n n)) w1):if Region.wanted oi (yielded ops a.tmps)=true then Oper.wp P oi a w K Q else K (a.put N undef) w:=
  value_ hw hN hrun (h _ rfl _ (blk_new w _) (below_alloc (Below.refl _ _) _))
theorem T.C_turn3 {W:World} {g:Nat} {p0 p1 p2 p3 q0 q1 q2 q3 r0 r1 r2 r3:Int} (h:W.heap[g]?=some (.cells #[.int .i64 p0,.int .i64 p1,.int .i64 p2,.int .i64 p3,.int .i64 q0,.int .i64 q1,.int .i64 q2,.int .i64 q3,.int .i64 r0,.int .i64 r1,.int .i64 r2,.int .i64 r3] 65 (0,0))):
    Kd.C k65 W (some ⟨g,0,none⟩) ([(⟨p0,⟨p1,p2⟩,p3⟩:S65),⟨q0,⟨q1,q2⟩,q3⟩,⟨r0,⟨r1,r2⟩,r3⟩]:List S65).length [(⟨p0,⟨p1,p2⟩,p3⟩:S65),⟨q0,⟨q1,q2⟩,q3⟩,⟨r0,⟨r1,r2⟩,r3⟩]:=
  T.C_block h [[.int .i64 p0,.int .i64 p1,.int .i64 p2,.int .i64 p3],[.int .i64 q0,.int .i64 q1,.int .i64 q2,.int .i64 q3],[.int .i64 r0,.int .i64 r1,.int .i64 r2,.int .i64 r3]] rfl rfl (by simp) (fun j x c hx hc=>by
    match j with
    |0=>obtain rfl:=zW hx;obtain rfl:=zW hc;exact k65.K_of_M (k65_mkM W 0 (fun _=>True) _)
    |1=>obtain rfl:=zW hx;obtain rfl:=zW hc;exact k65.K_of_M (k65_mkM W 0 (fun _=>True) _)
    |2=>obtain rfl:=zW hx;obtain rfl:=zW hc;exact k65.K_of_M (k65_mkM W 0 (fun _=>True) _)
    |j+3=>simp at hx)
theorem watchmanlaw09_coming.e_new:board_New.f 5=some (5,0,([]:List S28),0):=by kernel_rfl
theorem watchmanlaw09_coming.e_ox:alarm_Open.f 1 0 2 0=some (1,0,1,2,0,30,0):=by kernel_rfl
theorem watchmanlaw09_coming.e_oy:alarm_Open.f 2 0 1 0=some (2,0,1,1,0,10,0):=by kernel_rfl
theorem watchmanlaw09_coming.e_do:alarm_Do.f 2 0 1 1 0 10 4 0 5=some (2,0,4,1,0,5,0):=by kernel_rfl
theorem watchmanlaw09_coming.e_p1:board_Put.f 100 5 0 ([]:List S28) 1 0 1 2 0 30=some (5,0,[(⟨(⟨1,0⟩:S26),1,2,0,30⟩:S28)],0):=by kernel_rfl
theorem watchmanlaw09_coming.e_p2:board_Put.f 100 5 0 [(⟨(⟨1,0⟩:S26),1,2,0,30⟩:S28)] 2 0 4 1 0 5=some (5,0,[(⟨(⟨1,0⟩:S26),1,2,0,30⟩:S28),(⟨(⟨2,0⟩:S26),4,1,0,5⟩:S28)],0):=by kernel_rfl
theorem watchmanlaw09_coming.e_next:due_Next.f 100 5 0 [(⟨(⟨1,0⟩:S26),1,2,0,30⟩:S28),(⟨(⟨2,0⟩:S26),4,1,0,5⟩:S28)]=some (5,true):=by kernel_rfl
theorem watchmanlaw09_coming.e_turns:due_Turns.f 100 5 0 [(⟨(⟨1,0⟩:S26),1,2,0,30⟩:S28),(⟨(⟨2,0⟩:S26),4,1,0,5⟩:S28)] 30=some ([(⟨5,(⟨2,0⟩:S26),1⟩:S65),(⟨15,(⟨2,0⟩:S26),2⟩:S65),(⟨30,(⟨1,0⟩:S26),2⟩:S65)],0):=by kernel_rfl
theorem watchmanlaw09_coming.e_at:due_At.f 100 5 0 [(⟨(⟨1,0⟩:S26),1,2,0,30⟩:S28),(⟨(⟨2,0⟩:S26),4,1,0,5⟩:S28)] 2 0 14=some (1,true):=by kernel_rfl
theorem watchmanlaw09_coming.e_same:watchmanref09_Same.f 100 [(⟨5,(⟨2,0⟩:S26),1⟩:S65),(⟨15,(⟨2,0⟩:S26),2⟩:S65),(⟨30,(⟨1,0⟩:S26),2⟩:S65)] [(⟨5,(⟨2,0⟩:S26),1⟩:S65),(⟨15,(⟨2,0⟩:S26),2⟩:S65),(⟨30,(⟨1,0⟩:S26),2⟩:S65)]=some true:=by kernel_rfl
theorem watchmanlaw09_coming.e_order:due_Order.f 100 [(⟨30,(⟨1,0⟩:S26),2⟩:S65),(⟨5,(⟨2,0⟩:S26),1⟩:S65),(⟨15,(⟨2,0⟩:S26),2⟩:S65)]=some [(⟨5,(⟨2,0⟩:S26),1⟩:S65),(⟨15,(⟨2,0⟩:S26),2⟩:S65),(⟨30,(⟨1,0⟩:S26),2⟩:S65)]:=by kernel_rfl
def watchmanlaw09_coming.T11:Bool×List (List Nat×List Nat):=(true,[([],[]),([0],[0]),([1],[1]),([2],[2]),([2],[2]),([3,4,2],[2,3,4]),([2,5],[2,5]),([6,2],[6]),([7],[7]),([7],[7]),([8,9,7],[7,8,9]),([7,10],[7,10]),([11,7],[11]),([12],[12]),([12],[12]),([13,14,12],[12,13,14]),([12,15],[12,15]),([16,12],[16]),([17],[17]),([17],[17]),([18,19,17],[17,18,19]),([17,20],[17,20]),([21,17],[21]),([22],[22]),([22],[22]),([23,24,22],[22,23,24]),([22,25],[22,25]),([26,22],[26]),([27],[27]),([27,28],[27,28]),([29,27],[29]),([30],[30]),([31,30],[30,31]),([30,32],[30,32]),([33,30],[33]),([34],[34]),([34],[34]),([35,36,34],[34,35,36]),([34,37],[34,37]),([38,34],[38]),([39],[39]),([39],[39]),([40,41,39,39],[39,40,41]),([39,42],[39,42]),([43,42],[43]),([44],[44]),([44,45],[44,45]),([46,44],[46]),([47],[47]),([48,47],[47,48]),([47,49],[47,49]),([50,47],[50]),([51],[51]),([52,51],[51,52]),([53,51],[51,53]),([51],[51]),([55,51],[51,55]),([56,51],[51,56]),([51],[51]),([58,51],[51,58]),([59,51],[51,59]),([54,57,60,51],[51,54,57,60]),([61,51,51],[51,61]),([51],[51]),([62,63,62,51],[51,62,63]),([51,64],[51,64]),([65,64,0,1,2,3,4,5,6,7,8,9,10,11,12,13,14,15,16,17,18,19,20,21,22,23,24,25,26,27,28,29,30,31,32,33,34,35,36,37,38,39,40,41,42,43,44,45,46,47,48,49,50,51,52,53,54,55,56,57,58,59,60,61,62,63,64,65],[65])])
def watchmanlaw09_coming.B11:List Nat:=[0,1,3,7,7,31,63,127,255,255,1023,2047,4095,8191,8191,32767,65535,131071,262143,262143,1048575,2097151,4194303,8388607,8388607,33554431,67108863,134217727,268435455,536870911,1073741823,2147483647,4294967295,8589934591,17179869183,34359738367,34359738367,137438953471,274877906943,549755813887,1099511627775,1099511627775,4398046511103,8796093022207,17592186044415,35184372088831,70368744177663,140737488355327,281474976710655,562949953421311,1125899906842623,2251799813685247,4503599627370495,9007199254740991,18014398509481983,4503599627370495,40532396646334463,112589990684262399,4503599627370495,292733975779082239,869194728082505727,2305843009213693951,4611686018427387903,4503599627370495,18446744073709551615,36893488147419103231,73786976294838206463]
theorem watchmanlaw09_coming.tab11:rtab .any (opsOf Try.f46 11)=watchmanlaw09_coming.T11:=by kernel_rfl
theorem watchmanlaw09_coming.bits11:waitsOk watchmanlaw09_coming.T11.2 watchmanlaw09_coming.B11=true:=by kernel_rfl
def watchmanlaw09_coming.f:Option Bool:=some true
set_option maxHeartbeats 8000000 in
set_option maxRecDepth 100000 in
theorem watchmanlaw09_coming.calls (r:Bool) (w:World) (h:watchmanlaw09_coming.f=some r):
    Calls Try.prog 46 #[] w fun e w'=>e=.returned (.bool r)∧Below w.heap.size w w':=by
  obtain rfl:=zW h
  clear h
  have hu:=Try.underlying24
  have hu2:=Try.underlying28
  have hu3:=Try.underlying26
  have hu4:=Try.underlying65
  have HT:=zB (T.Tell.init w)
  go_enter Try.func46,Try.ntmps46
  go_wp2_with (first|((with_reducible refine gate_dst (N:=18) rfl ?_);(try(refine gate_guard (by rfl) ?_;dsimp only));refine gl_ (some 18) Try.func23 #[.int .i64 5] rfl ?_;(with_reducible refine(board_New.calls 5 5 0 ([]:List S28) 0 _ watchmanlaw09_coming.e_new).mono ?_);rintro e_ w_18 ⟨v_,rfl,ho,hb⟩;refine⟨_,rfl,?_⟩;obtain⟨A_b,c_b,rfl⟩:=Kd.R_slice ho;replace HT:=zB (HT.out.pushR ho hb);clear ho hb)|((with_reducible refine gate_dst (N:=23) rfl ?_);(try(refine gate_guard (by rfl) ?_;dsimp only));replace HT:=zB (HT.out.pushB #[.int .i64 5,.int .i64 0,.slice A_b ([]:List S28).length c_b] 24);refine gl_ (some 23) Try.func64 #[.agg #[.int .i64 1,.int .i64 0],.int .i64 2,.int .i64 0] rfl ?_;(with_reducible refine(alarm_Open.calls 1 0 2 0 1 0 1 2 0 30 0 _ watchmanlaw09_coming.e_ox).mono ?_);rintro e_ w_23 ⟨rfl,hb⟩;refine⟨_,rfl,?_⟩;replace HT:=zB (HT.out.step hb);clear hb)|((with_reducible refine gate_dst (N:=28) rfl ?_);(try(refine gate_guard (by rfl) ?_;dsimp only));replace HT:=zB (HT.out.pushB #[.int .i64 1,.int .i64 0,.int .i64 1,.int .i64 2,.int .i64 0,.int .i64 30] 28);refine gl_ (some 28) Try.func64 #[.agg #[.int .i64 2,.int .i64 0],.int .i64 1,.int .i64 0] rfl ?_;(with_reducible refine(alarm_Open.calls 2 0 1 0 2 0 1 1 0 10 0 _ watchmanlaw09_coming.e_oy).mono ?_);rintro e_ w_28 ⟨rfl,hb⟩;refine⟨_,rfl,?_⟩;replace HT:=zB (HT.out.step hb);clear hb)|((with_reducible refine gate_dst (N:=33) rfl ?_);(try(refine gate_guard (by rfl) ?_;dsimp only));replace HT:=zB (HT.out.pushB #[.int .i64 2,.int .i64 0,.int .i64 1,.int .i64 1,.int .i64 0,.int .i64 10] 28);refine gl_ (some 33) Try.func76 #[.agg #[.int .i64 2,.int .i64 0,.int .i64 1,.int .i64 1,.int .i64 0,.int .i64 10],.int .i64 4,.int .i64 0,.int .i64 5] rfl ?_;(with_reducible refine(alarm_Do.calls 2 0 1 1 0 10 4 0 5 2 0 4 1 0 5 0 _ watchmanlaw09_coming.e_do).mono ?_);rintro e_ w_33 ⟨rfl,hb⟩;refine⟨_,rfl,?_⟩;replace HT:=zB (HT.out.step hb);clear hb;have hx0_y:=(HT.out.bx 0 rfl 0).trans rfl;have hx1_y:=(HT.out.bx 0 rfl 1).trans rfl;have hx2_y:=(HT.out.bx 0 rfl 2).trans rfl;have hx3_y:=(HT.out.bx 0 rfl 3).trans rfl;have hx4_y:=(HT.out.bx 0 rfl 4).trans rfl;have hx5_y:=(HT.out.bx 0 rfl 5).trans rfl;have hz_y:=(HT.out.far 0 rfl (k:=w_28.heap.size) rfl).1;have hf0_y:=HT.out.fz 0 rfl 0;have hf1_y:=HT.out.fz 0 rfl 1;have hf2_y:=HT.out.fz 0 rfl 2;have hf3_y:=HT.out.fz 0 rfl 3;have hf4_y:=HT.out.fz 0 rfl 4;have hf5_y:=HT.out.fz 0 rfl 5;have mk37_:True:=trivial)|((with_reducible refine gate_dst (N:=37) rfl ?_);clear mk37_;have HT2:=zB ((((((HT.out.put 0 rfl 0 (.int .i64 2)).put 0 rfl 1 (.int .i64 0)).put 0 rfl 2 (.int .i64 4)).put 0 rfl 3 (.int .i64 1)).put 0 rfl 4 (.int .i64 0)).put 0 rfl 5 (.int .i64 5));clear HT;generalize((((((w_33.setCell ⟨w_28.heap.size,0,none⟩ (.int .i64 2)).setCell ⟨w_28.heap.size,1,none⟩ (.int .i64 0)).setCell ⟨w_28.heap.size,2,none⟩ (.int .i64 4)).setCell ⟨w_28.heap.size,3,none⟩ (.int .i64 1)).setCell ⟨w_28.heap.size,4,none⟩ (.int .i64 0)).setCell ⟨w_28.heap.size,5,none⟩ (.int .i64 5))=w_s37 at HT2⊢;have HT:=zB HT2.out;clear HT2;have hx0_B:=(HT.out.bx 2 rfl 0).trans rfl;have hx1_B:=(HT.out.bx 2 rfl 1).trans rfl;have hx2_B:=(HT.out.bx 2 rfl 2).trans rfl;have hz_B:=(HT.out.far 2 rfl (k:=w_18.heap.size) rfl).1;have hx0_x:=(HT.out.bx 1 rfl 0).trans rfl;have hx1_x:=(HT.out.bx 1 rfl 1).trans rfl;have hx2_x:=(HT.out.bx 1 rfl 2).trans rfl;have hx3_x:=(HT.out.bx 1 rfl 3).trans rfl;have hx4_x:=(HT.out.bx 1 rfl 4).trans rfl;have hx5_x:=(HT.out.bx 1 rfl 5).trans rfl;have hz_x:=(HT.out.far 1 rfl (k:=w_23.heap.size) rfl).1)|((with_reducible refine gate_dst (N:=39) rfl ?_);(try(refine gate_guard (by rfl) ?_;dsimp only));refine gl_ (some 39) Try.func15 #[.agg #[.int .i64 5,.int .i64 0,.slice A_b ([]:List S28).length c_b],.agg #[.int .i64 1,.int .i64 0,.int .i64 1,.int .i64 2,.int .i64 0,.int .i64 30]] rfl ?_;(with_reducible refine(board_Put.calls 100 5 0 _ _ ([]:List S28) 1 0 1 2 0 30 5 0 [(⟨(⟨1,0⟩:S26),1,2,0,30⟩:S28)] 0 _ ?s1 ?s2 watchmanlaw09_coming.e_p1).mono ?_);(case s1=>exact HT.out.rc 3 rfl);(case s2=>exact HT.out.rl 3 rfl);rintro e_ w_39 ⟨v_,rfl,ho,hb⟩;refine⟨_,rfl,?_⟩;obtain⟨A_c,c_c,rfl⟩:=Kd.R_slice ho;replace HT:=zB (HT.out.pushR ho hb);clear ho hb;have hx0_B:=(HT.out.bx 3 rfl 0).trans rfl;have hx1_B:=(HT.out.bx 3 rfl 1).trans rfl;have hx2_B:=(HT.out.bx 3 rfl 2).trans rfl;have hz_B:=(HT.out.far 3 rfl (k:=w_18.heap.size) rfl).1;have hf0_B:=HT.out.fz 3 rfl 0;have hf1_B:=HT.out.fz 3 rfl 1;have hf2_B:=HT.out.fz 3 rfl 2;have mk43_:True:=trivial)|((with_reducible refine gate_dst (N:=43) rfl ?_);clear mk43_;have HT2:=zB (((HT.out.put 3 rfl 0 (.int .i64 5)).put 3 rfl 1 (.int .i64 0)).put 3 rfl 2 (.slice A_c [(⟨(⟨1,0⟩:S26),1,2,0,30⟩:S28)].length c_c));clear HT;generalize(((w_39.setCell ⟨w_18.heap.size,0,none⟩ (.int .i64 5)).setCell ⟨w_18.heap.size,1,none⟩ (.int .i64 0)).setCell ⟨w_18.heap.size,2,none⟩ (.slice A_c [(⟨(⟨1,0⟩:S26),1,2,0,30⟩:S28)].length c_c))=w_s43 at HT2⊢;have HT:=zB HT2.out;clear HT2;have hx0_B:=(HT.out.bx 3 rfl 0).trans rfl;have hx1_B:=(HT.out.bx 3 rfl 1).trans rfl;have hx2_B:=(HT.out.bx 3 rfl 2).trans rfl;have hz_B:=(HT.out.far 3 rfl (k:=w_18.heap.size) rfl).1;have hx0_y:=(HT.out.bx 1 rfl 0).trans rfl;have hx1_y:=(HT.out.bx 1 rfl 1).trans rfl;have hx2_y:=(HT.out.bx 1 rfl 2).trans rfl;have hx3_y:=(HT.out.bx 1 rfl 3).trans rfl;have hx4_y:=(HT.out.bx 1 rfl 4).trans rfl;have hx5_y:=(HT.out.bx 1 rfl 5).trans rfl;have hz_y:=(HT.out.far 1 rfl (k:=w_28.heap.size) rfl).1)|((with_reducible refine gate_dst (N:=45) rfl ?_);(try(refine gate_guard (by rfl) ?_;dsimp only));refine gl_ (some 45) Try.func15 #[.agg #[.int .i64 5,.int .i64 0,.slice A_c [(⟨(⟨1,0⟩:S26),1,2,0,30⟩:S28)].length c_c],.agg #[.int .i64 2,.int .i64 0,.int .i64 4,.int .i64 1,.int .i64 0,.int .i64 5]] rfl ?_;(with_reducible refine(board_Put.calls 100 5 0 _ _ [(⟨(⟨1,0⟩:S26),1,2,0,30⟩:S28)] 2 0 4 1 0 5 5 0 [(⟨(⟨1,0⟩:S26),1,2,0,30⟩:S28),(⟨(⟨2,0⟩:S26),4,1,0,5⟩:S28)] 0 _ ?s1 ?s2 watchmanlaw09_coming.e_p2).mono ?_);(case s1=>exact HT.out.rc 0 rfl);(case s2=>exact HT.out.rl 0 rfl);rintro e_ w_45 ⟨v_,rfl,ho,hb⟩;refine⟨_,rfl,?_⟩;obtain⟨A_d,c_d,rfl⟩:=Kd.R_slice ho;replace HT:=zB (HT.out.pushR ho hb);clear ho hb;have hx0_B:=(HT.out.bx 4 rfl 0).trans rfl;have hx1_B:=(HT.out.bx 4 rfl 1).trans rfl;have hx2_B:=(HT.out.bx 4 rfl 2).trans rfl;have hz_B:=(HT.out.far 4 rfl (k:=w_18.heap.size) rfl).1;have hf0_B:=HT.out.fz 4 rfl 0;have hf1_B:=HT.out.fz 4 rfl 1;have hf2_B:=HT.out.fz 4 rfl 2;have mk49_:True:=trivial)|((with_reducible refine gate_dst (N:=49) rfl ?_);clear mk49_;have HT2:=zB (((HT.out.put 4 rfl 0 (.int .i64 5)).put 4 rfl 1 (.int .i64 0)).put 4 rfl 2 (.slice A_d [(⟨(⟨1,0⟩:S26),1,2,0,30⟩:S28),(⟨(⟨2,0⟩:S26),4,1,0,5⟩:S28)].length c_d));clear HT;generalize(((w_45.setCell ⟨w_18.heap.size,0,none⟩ (.int .i64 5)).setCell ⟨w_18.heap.size,1,none⟩ (.int .i64 0)).setCell ⟨w_18.heap.size,2,none⟩ (.slice A_d [(⟨(⟨1,0⟩:S26),1,2,0,30⟩:S28),(⟨(⟨2,0⟩:S26),4,1,0,5⟩:S28)].length c_d))=w_s49 at HT2⊢;have HT:=zB HT2.out;clear HT2;have hx0_B:=(HT.out.bx 4 rfl 0).trans rfl;have hx1_B:=(HT.out.bx 4 rfl 1).trans rfl;have hx2_B:=(HT.out.bx 4 rfl 2).trans rfl;have hz_B:=(HT.out.far 4 rfl (k:=w_18.heap.size) rfl).1)|((with_reducible refine gate_dst (N:=50) rfl ?_);(try(refine gate_guard (by rfl) ?_;dsimp only));refine gl_ (some 50) Try.func39 #[.agg #[.int .i64 5,.int .i64 0,.slice A_d [(⟨(⟨1,0⟩:S26),1,2,0,30⟩:S28),(⟨(⟨2,0⟩:S26),4,1,0,5⟩:S28)].length c_d]] rfl ?_;(with_reducible refine(due_Next.calls 100 5 0 _ _ [(⟨(⟨1,0⟩:S26),1,2,0,30⟩:S28),(⟨(⟨2,0⟩:S26),4,1,0,5⟩:S28)] 5 true _ ?s1 ?s2 watchmanlaw09_coming.e_next).mono ?_);(case s1=>exact HT.out.rc 0 rfl);(case s2=>exact HT.out.rl 0 rfl);rintro e_ w_50 ⟨rfl,hb⟩;refine⟨_,rfl,?_⟩;replace HT:=zB (HT.out.step hb);clear hb;have hx0_B:=(HT.out.bx 4 rfl 0).trans rfl;have hx1_B:=(HT.out.bx 4 rfl 1).trans rfl;have hx2_B:=(HT.out.bx 4 rfl 2).trans rfl;have hz_B:=(HT.out.far 4 rfl (k:=w_18.heap.size) rfl).1)|((with_reducible refine gate_dst (N:=55) rfl ?_);(try(refine gate_guard (by rfl) ?_;dsimp only));refine gl_ (some 55) Try.func37 #[.agg #[.int .i64 5,.int .i64 0,.slice A_d [(⟨(⟨1,0⟩:S26),1,2,0,30⟩:S28),(⟨(⟨2,0⟩:S26),4,1,0,5⟩:S28)].length c_d],.int .i64 30] rfl ?_;(with_reducible refine(due_Turns.calls 100 5 0 _ _ [(⟨(⟨1,0⟩:S26),1,2,0,30⟩:S28),(⟨(⟨2,0⟩:S26),4,1,0,5⟩:S28)] 30 [(⟨5,(⟨2,0⟩:S26),1⟩:S65),(⟨15,(⟨2,0⟩:S26),2⟩:S65),(⟨30,(⟨1,0⟩:S26),2⟩:S65)] 0 _ ?s1 ?s2 watchmanlaw09_coming.e_turns).mono ?_);(case s1=>exact HT.out.rc 0 rfl);(case s2=>exact HT.out.rl 0 rfl);rintro e_ w_55 ⟨v_,rfl,ho,hb⟩;refine⟨_,rfl,?_⟩;obtain⟨A_l,c_l,rfl⟩:=Kd.R_slice ho;replace HT:=zB (HT.out.pushR ho hb);clear ho hb;have hx0_B:=(HT.out.bx 5 rfl 0).trans rfl;have hx1_B:=(HT.out.bx 5 rfl 1).trans rfl;have hx2_B:=(HT.out.bx 5 rfl 2).trans rfl;have hz_B:=(HT.out.far 5 rfl (k:=w_18.heap.size) rfl).1;have hx0_y:=(HT.out.bx 3 rfl 0).trans rfl;have hx1_y:=(HT.out.bx 3 rfl 1).trans rfl;have hx2_y:=(HT.out.bx 3 rfl 2).trans rfl;have hx3_y:=(HT.out.bx 3 rfl 3).trans rfl;have hx4_y:=(HT.out.bx 3 rfl 4).trans rfl;have hx5_y:=(HT.out.bx 3 rfl 5).trans rfl;have hz_y:=(HT.out.far 3 rfl (k:=w_28.heap.size) rfl).1)|((with_reducible refine gate_dst (N:=62) rfl ?_);(try(refine gate_guard (by rfl) ?_;dsimp only));refine gl_ (some 62) Try.func41 #[.agg #[.int .i64 5,.int .i64 0,.slice A_d [(⟨(⟨1,0⟩:S26),1,2,0,30⟩:S28),(⟨(⟨2,0⟩:S26),4,1,0,5⟩:S28)].length c_d],.agg #[.int .i64 2,.int .i64 0],.int .i64 14] rfl ?_;(with_reducible refine(due_At.calls 100 5 0 _ _ [(⟨(⟨1,0⟩:S26),1,2,0,30⟩:S28),(⟨(⟨2,0⟩:S26),4,1,0,5⟩:S28)] 2 0 14 1 true _ ?s1 ?s2 watchmanlaw09_coming.e_at).mono ?_);(case s1=>exact HT.out.rc 1 rfl);(case s2=>exact HT.out.rl 1 rfl);rintro e_ w_62 ⟨rfl,hb⟩;refine⟨_,rfl,?_⟩;replace HT:=zB (HT.out.step hb);clear hb;have hx0_x:=(HT.out.bx 4 rfl 0).trans rfl;have hx1_x:=(HT.out.bx 4 rfl 1).trans rfl;have hx2_x:=(HT.out.bx 4 rfl 2).trans rfl;have hx3_x:=(HT.out.bx 4 rfl 3).trans rfl;have hx4_x:=(HT.out.bx 4 rfl 4).trans rfl;have hx5_x:=(HT.out.bx 4 rfl 5).trans rfl;have hz_x:=(HT.out.far 4 rfl (k:=w_23.heap.size) rfl).1;have hx0_y:=(HT.out.bx 3 rfl 0).trans rfl;have hx1_y:=(HT.out.bx 3 rfl 1).trans rfl;have hx2_y:=(HT.out.bx 3 rfl 2).trans rfl;have hx3_y:=(HT.out.bx 3 rfl 3).trans rfl;have hx4_y:=(HT.out.bx 3 rfl 4).trans rfl;have hx5_y:=(HT.out.bx 3 rfl 5).trans rfl;have hz_y:=(HT.out.far 3 rfl (k:=w_28.heap.size) rfl).1)|((with_reducible refine gate_dst (N:=74) rfl ?_);(try(refine gate_guard (by rfl) ?_;dsimp only));refine T.lit_event ?hg (N:=74) ?hd (n:=3) (cs:=#[.int .i64 5,.int .i64 2,.int .i64 0,.int .i64 1,.int .i64 15,.int .i64 2,.int .i64 0,.int .i64 2,.int .i64 30,.int .i64 1,.int .i64 0,.int .i64 2]) (t:=65) ?hr ?_;(case hd=>rfl);(case hg=>rfl);(case hr=>first|(go_simp;done)|(go_simp;rfl));intro g_want hg w_74 hbox hb;replace HT:=zB (HT.out.pushBe hbox hg hb);clear hb hbox hg))
  replace HT:=zB (HT.out.step (T.below_drew_ _))
  refine start_ (n:=67) (S:=fun w'=>w'.cell? ⟨g_want,0,none⟩=some (.int .i64 5)∧w'.cell? ⟨g_want,1,none⟩=some (.int .i64 2)∧w'.cell? ⟨g_want,2,none⟩=some (.int .i64 0)∧w'.cell? ⟨g_want,3,none⟩=some (.int .i64 1)∧w'.cell? ⟨g_want,4,none⟩=some (.int .i64 15)∧w'.cell? ⟨g_want,5,none⟩=some (.int .i64 2)∧w'.cell? ⟨g_want,6,none⟩=some (.int .i64 0)∧w'.cell? ⟨g_want,7,none⟩=some (.int .i64 2)∧w'.cell? ⟨g_want,8,none⟩=some (.int .i64 30)∧w'.cell? ⟨g_want,9,none⟩=some (.int .i64 1)∧w'.cell? ⟨g_want,10,none⟩=some (.int .i64 0)∧w'.cell? ⟨g_want,11,none⟩=some (.int .i64 2)) (ds:=[]) (bt_ 0 67) (by kernel_rfl) rfl rfl ⟨(HT.out.bx 0 rfl 0).trans rfl,(HT.out.bx 0 rfl 1).trans rfl,(HT.out.bx 0 rfl 2).trans rfl,(HT.out.bx 0 rfl 3).trans rfl,(HT.out.bx 0 rfl 4).trans rfl,(HT.out.bx 0 rfl 5).trans rfl,(HT.out.bx 0 rfl 6).trans rfl,(HT.out.bx 0 rfl 7).trans rfl,(HT.out.bx 0 rfl 8).trans rfl,(HT.out.bx 0 rfl 9).trans rfl,(HT.out.bx 0 rfl 10).trans rfl,(HT.out.bx 0 rfl 11).trans rfl⟩ (fun hHeld=>?_);refine with_tabW watchmanlaw09_coming.tab11 watchmanlaw09_coming.bits11 (fun HT_ HW_=>?_)
  generalize w_74.drew=w_r11 at HT hHeld⊢
  have Q_:=Qs.mk (n:=67) [(0,0,75,1),(0,1,76,3),(0,2,77,7),(0,3,78,15),(0,4,79,31),(0,5,80,63),(0,6,81,127),(0,7,82,255),(0,8,83,511),(0,9,84,1023),(0,10,85,2047),(0,11,86,4095),(0,12,87,8191),(0,13,88,16383),(0,14,89,32767),(0,15,90,65535),(0,16,91,131071),(0,17,92,262143),(0,18,93,524287),(0,19,94,1048575),(0,20,95,2097151),(0,21,96,4194303),(0,22,97,8388607),(0,23,98,16777215),(0,24,99,33554431),(0,25,100,67108863),(0,26,101,134217727),(0,27,102,268435455),(0,28,103,536870911),(0,29,104,1073741823),(0,30,105,2147483647),(0,31,106,4294967295),(0,32,107,8589934591),(0,33,108,17179869183),(0,34,109,34359738367),(0,35,110,68719476735),(0,36,111,137438953471),(0,37,112,274877906943),(0,38,113,549755813887),(0,39,114,1099511627775),(0,40,115,2199023255551),(0,41,116,4398046511103)]
  iterate 42 (refine pq_ Q_ ?_;replace Q_:=qt_ Q_)
  clear Q_
  refine one_ (i:=42) (N:=some 117) (bt_ 8796093022207 67) rfl rfl (one_of HT_.out (by kernel_rfl)) (by decide) (fun K hK=>?_)
  refine goes_ Try.func45 (by kernel_rfl) rfl #[.slice A_l [(⟨5,(⟨2,0⟩:S26),1⟩:S65),(⟨15,(⟨2,0⟩:S26),2⟩:S65),(⟨30,(⟨1,0⟩:S26),2⟩:S65)].length c_l,.slice (some ⟨g_want,0,none⟩) ([(⟨5,(⟨2,0⟩:S26),1⟩:S65),(⟨15,(⟨2,0⟩:S26),2⟩:S65),(⟨30,(⟨1,0⟩:S26),2⟩:S65)]:List S65).length 3] (by rfl) rfl rfl (by(try simp only[zM,zS,zV]);first|done|rfl) ?_
  (with_reducible refine(watchmanref09_Same.calls 100 _ _ [(⟨5,(⟨2,0⟩:S26),1⟩:S65),(⟨15,(⟨2,0⟩:S26),2⟩:S65),(⟨30,(⟨1,0⟩:S26),2⟩:S65)] _ _ [(⟨5,(⟨2,0⟩:S26),1⟩:S65),(⟨15,(⟨2,0⟩:S26),2⟩:S65),(⟨30,(⟨1,0⟩:S26),2⟩:S65)] true _ ?s1 ?s2 ?s3 ?s4 watchmanlaw09_coming.e_same).mono ?_);(case s1=>exact HT.out.rc 1 rfl);(case s2=>exact HT.out.rl 1 rfl);(case s3=>exact T.C_turn3 (HT.out.get 0 rfl));(case s4=>exact za _)
  rintro e_ w_117 ⟨rfl,hd⟩;refine⟨_,rfl,?_⟩;replace HT:=zB (HT.out.step hd.below);clear hd
  refine hK.out _ _ ⟨(HT.out.bx 0 rfl 0).trans rfl,(HT.out.bx 0 rfl 1).trans rfl,(HT.out.bx 0 rfl 2).trans rfl,(HT.out.bx 0 rfl 3).trans rfl,(HT.out.bx 0 rfl 4).trans rfl,(HT.out.bx 0 rfl 5).trans rfl,(HT.out.bx 0 rfl 6).trans rfl,(HT.out.bx 0 rfl 7).trans rfl,(HT.out.bx 0 rfl 8).trans rfl,(HT.out.bx 0 rfl 9).trans rfl,(HT.out.bx 0 rfl 10).trans rfl,(HT.out.bx 0 rfl 11).trans rfl⟩ (fun hHeld=>?_);clear hK K;refine norm_ (a':=?_) ?_ ?_
  rotate_left
  · show Act.put _ (some 117) _=_
    simp only[Act.put,zE,zH,zI,i64_w,i32_w]
    rfl
  have Q_:=Qs.mk (n:=67) [(0,43,118,17592186044415),(0,44,119,35184372088831),(0,45,120,70368744177663),(0,46,121,140737488355327),(0,47,122,281474976710655),(0,48,123,562949953421311),(0,49,124,1125899906842623),(0,50,125,2251799813685247),(0,51,126,4503599627370495),(0,52,127,9007199254740991),(0,53,128,18014398509481983),(0,55,130,54043195528445951),(0,56,131,126100789566373887),(0,58,133,414331165718085631),(0,59,134,990791918021509119),(0,63,138,10214163954876284927),(2,54,129,10232178353385766911),(2,57,132,10376293541461622783),(2,60,135,11529215046068469759)]
  iterate 19 (first|(refine pq_ Q_ ?_;replace Q_:=qt_ Q_)|(refine tq_ Q_ hHeld ?_;replace Q_:=qt_ Q_))
  clear Q_
  refine one_ (i:=61) (N:=some 136) (bt_ 13835058055282163711 67) rfl rfl (one_of HT_.out (by kernel_rfl)) (by decide) (fun K hK=>?_)
  refine T.lit_one (n:=3) (cs:=#[.int .i64 30,.int .i64 1,.int .i64 0,.int .i64 2,.int .i64 5,.int .i64 2,.int .i64 0,.int .i64 1,.int .i64 15,.int .i64 2,.int .i64 0,.int .i64 2]) (t:=65) (by rfl) rfl ?_ ?_
  · first|(go_simp;done)|(go_simp;rfl)
  intro g_mix hg w_136 hbox hb;replace HT:=zB (HT.out.pushBe hbox hg hb);clear hb hbox hg
  refine hK.out _ _ ⟨(HT.out.bx 1 rfl 0).trans rfl,(HT.out.bx 1 rfl 1).trans rfl,(HT.out.bx 1 rfl 2).trans rfl,(HT.out.bx 1 rfl 3).trans rfl,(HT.out.bx 1 rfl 4).trans rfl,(HT.out.bx 1 rfl 5).trans rfl,(HT.out.bx 1 rfl 6).trans rfl,(HT.out.bx 1 rfl 7).trans rfl,(HT.out.bx 1 rfl 8).trans rfl,(HT.out.bx 1 rfl 9).trans rfl,(HT.out.bx 1 rfl 10).trans rfl,(HT.out.bx 1 rfl 11).trans rfl⟩ (fun hHeld=>?_);clear hK K
  refine norm_ (a':=?_) ?_ ?_
  rotate_left
  · show Act.put _ (some 136) _=_
    simp only[Act.put,zE,zH,zI,i64_w,i32_w]
    rfl
  refine one_ (i:=62) (N:=some 137) (bt_ 18446744073709551615 67) rfl rfl (one_of HT_.out (by kernel_rfl)) (by decide) (fun K hK=>?_)
  refine goes_ Try.func47 (by kernel_rfl) rfl #[.slice (some ⟨g_mix,0,none⟩) ([(⟨30,(⟨1,0⟩:S26),2⟩:S65),(⟨5,(⟨2,0⟩:S26),1⟩:S65),(⟨15,(⟨2,0⟩:S26),2⟩:S65)]:List S65).length 3] (by rfl) rfl rfl (by(try simp only[zM,zS,zV]);first|done|rfl) ?_
  (with_reducible refine(due_Order.calls 100 _ _ [(⟨30,(⟨1,0⟩:S26),2⟩:S65),(⟨5,(⟨2,0⟩:S26),1⟩:S65),(⟨15,(⟨2,0⟩:S26),2⟩:S65)] [(⟨5,(⟨2,0⟩:S26),1⟩:S65),(⟨15,(⟨2,0⟩:S26),2⟩:S65),(⟨30,(⟨1,0⟩:S26),2⟩:S65)] _ ?s1 ?s2 watchmanlaw09_coming.e_order).mono ?_);(case s1=>exact T.C_turn3 (HT.out.get 0 rfl));(case s2=>exact za _)
  rintro e_ w_137 ⟨v_,rfl,ho,hb⟩;refine⟨_,rfl,?_⟩;obtain⟨A_o,c_o,rfl⟩:=Kd.R_slice ho;replace HT:=zB (HT.out.pushR ho hb);clear ho hb
  refine hK.out _ _ ⟨(HT.out.bx 2 rfl 0).trans rfl,(HT.out.bx 2 rfl 1).trans rfl,(HT.out.bx 2 rfl 2).trans rfl,(HT.out.bx 2 rfl 3).trans rfl,(HT.out.bx 2 rfl 4).trans rfl,(HT.out.bx 2 rfl 5).trans rfl,(HT.out.bx 2 rfl 6).trans rfl,(HT.out.bx 2 rfl 7).trans rfl,(HT.out.bx 2 rfl 8).trans rfl,(HT.out.bx 2 rfl 9).trans rfl,(HT.out.bx 2 rfl 10).trans rfl,(HT.out.bx 2 rfl 11).trans rfl⟩ (fun hHeld=>?_);clear hK K;refine norm_ (a':=?_) ?_ ?_
  rotate_left
  · show Act.put _ (some 137) _=_
    simp only[Act.put,zE,zH,zI,i64_w,i32_w]
    rfl
  refine one_ (i:=64) (N:=some 139) (bt_ 36893488147419103231 67) rfl rfl (one_of HT_.out (by kernel_rfl)) (by decide) (fun K hK=>?_)
  refine goes_ Try.func45 (by kernel_rfl) rfl #[.slice A_o [(⟨5,(⟨2,0⟩:S26),1⟩:S65),(⟨15,(⟨2,0⟩:S26),2⟩:S65),(⟨30,(⟨1,0⟩:S26),2⟩:S65)].length c_o,.slice (some ⟨g_want,0,none⟩) ([(⟨5,(⟨2,0⟩:S26),1⟩:S65),(⟨15,(⟨2,0⟩:S26),2⟩:S65),(⟨30,(⟨1,0⟩:S26),2⟩:S65)]:List S65).length 3] (by rfl) rfl rfl (by(try simp only[zM,zS,zV]);first|done|rfl) ?_
  (with_reducible refine(watchmanref09_Same.calls 100 _ _ [(⟨5,(⟨2,0⟩:S26),1⟩:S65),(⟨15,(⟨2,0⟩:S26),2⟩:S65),(⟨30,(⟨1,0⟩:S26),2⟩:S65)] _ _ [(⟨5,(⟨2,0⟩:S26),1⟩:S65),(⟨15,(⟨2,0⟩:S26),2⟩:S65),(⟨30,(⟨1,0⟩:S26),2⟩:S65)] true _ ?s1 ?s2 ?s3 ?s4 watchmanlaw09_coming.e_same).mono ?_);(case s1=>exact HT.out.rc 0 rfl);(case s2=>exact HT.out.rl 0 rfl);(case s3=>exact T.C_turn3 (HT.out.get 2 rfl));(case s4=>exact za _)
  rintro e_ w_139 ⟨rfl,hd⟩;refine⟨_,rfl,?_⟩;replace HT:=zB (HT.out.step hd.below);clear hd
  refine hK.out _ _ ⟨(HT.out.bx 2 rfl 0).trans rfl,(HT.out.bx 2 rfl 1).trans rfl,(HT.out.bx 2 rfl 2).trans rfl,(HT.out.bx 2 rfl 3).trans rfl,(HT.out.bx 2 rfl 4).trans rfl,(HT.out.bx 2 rfl 5).trans rfl,(HT.out.bx 2 rfl 6).trans rfl,(HT.out.bx 2 rfl 7).trans rfl,(HT.out.bx 2 rfl 8).trans rfl,(HT.out.bx 2 rfl 9).trans rfl,(HT.out.bx 2 rfl 10).trans rfl,(HT.out.bx 2 rfl 11).trans rfl⟩ (fun hHeld=>?_);clear hK K;refine norm_ (a':=?_) ?_ ?_
  rotate_left
  · show Act.put _ (some 139) _=_
    simp only[Act.put,zE,zH,zI,i64_w,i32_w]
    rfl
  have Q_:=Qs.mk (n:=67) [(0,65,140,73786976294838206463),(0,66,0,147573952589676412927)]
  iterate 2 (refine pq_ Q_ ?_;replace Q_:=qt_ Q_)
  clear Q_
  refine done_ (done_of HT_.out (by kernel_rfl)) ?_;clear hHeld
  go_wp2
  go_ret
  exact⟨rfl,HT.out.below⟩
def watchmanref07_Same.l0:Nat→List (S28)→List (S28)→Int→Option (Bool)
 |0,_,_,_=>none
 |k+1,x0,x1,x5=>if x5<(x0.length:Int) then(if 0≤x5 then(if x5<(x1.length:Int) then(if((!(((rd_T28 x0 x5).f0.f0)==((rd_T28 x1 x5).f0.f0))||(!(((rd_T28 x0 x5).f0.f1)==((rd_T28 x1 x5).f0.f1))))||(!(((rd_T28 x0 x5).f1)==((rd_T28 x1 x5).f1))||(!(((rd_T28 x0 x5).f2)==((rd_T28 x1 x5).f2))||(!(((rd_T28 x0 x5).f3)==((rd_T28 x1 x5).f3))||(!(((rd_T28 x0 x5).f4)==((rd_T28 x1 x5).f4)))))))=true then(some false) else(watchmanref07_Same.l0 k x0 x1 (wrap64 (x5+1)))) else(none)) else(none)) else(some true)
def watchmanref07_Same.f (k:Nat) (l0:List (S28)) (l1:List (S28)):Option (Bool):=if(l0.length:Int)=(l1.length:Int) then(watchmanref07_Same.l0 k l0 l1 0) else(some false)
theorem watchmanref07_Same.mono_l: ∀k,(∀y0 y1 y2,LeO (watchmanref07_Same.l0 k y0 y1 y2) (watchmanref07_Same.l0 (k+1) y0 y1 y2))
 |0=>fun _ _ _ r h=>by simp[watchmanref07_Same.l0] at h
 |k+1=>by
  have ih0:=watchmanref07_Same.mono_l k
  ·intro y0 y1 y2
   unfold watchmanref07_Same.l0
   repeat' first
   |(with_reducible exact ih0 _ _ _)
   |(with_reducible exact LeO.refl _)
   |(with_reducible exact zf _)
   |(with_reducible refine zg ?_ ?_)
   |(with_reducible refine ze ?_ (fun _=>?_))
theorem watchmanref07_Same.mono: ∀a0 a1 k,LeO (watchmanref07_Same.f k a0 a1) (watchmanref07_Same.f (k+1) a0 a1):=by
 intro a0 a1 k
 have ih0:=watchmanref07_Same.mono_l k
 unfold watchmanref07_Same.f
 repeat' first
   |(with_reducible exact ih0 _ _ _)
   |(with_reducible exact LeO.refl _)
   |(with_reducible exact zf _)
   |(with_reducible refine zg ?_ ?_)
   |(with_reducible refine ze ?_ (fun _=>?_))
set_option maxHeartbeats 8000000 in
set_option maxRecDepth 100000 in
theorem watchmanref07_Same.calls (k:Nat) (A0:Option Addr) (c0:Nat) (l0:List (S28)) (A1:Option Addr) (c1:Nat) (l1:List (S28)) (r:Bool) (w:World) (hr0:Kd.C k28 w A0 l0.length l0) (hc0:l0.length≤c0) (hr1:Kd.C k28 w A1 l1.length l1) (hc1:l1.length≤c1) (h:watchmanref07_Same.f k l0 l1=some r):
  Calls Try.prog 27 #[.slice A0 l0.length c0,.slice A1 l1.length c1] w fun e w'=>e=.returned (.bool r)∧Drawn0 w w':=by
 have hu28:=Try.underlying28
 have HR0:=zB hr0
 have HC0:=zB hc0
 clear hr0 hc0
 have HR1:=zB hr1
 have HC1:=zB hc1
 clear hr1 hc1
 have H:(if(l0.length:Int)=(l1.length:Int) then(watchmanref07_Same.l0 k l0 l1 0) else(some false))=some r:=h
 clear h
 by_cases c3:(l0.length:Int)=(l1.length:Int)
 ·rw[if_pos c3] at H
  have c3b0:=beq_iff_eq.mpr c3
  have c3b1:=bne_eq_false_iff_eq.mpr c3
  have c3b2:(l0.length==l1.length)=true:=by first|simpa using c3|(simp at c3⊢;omega)
  clear c3
  have H':=zB H
  clear H
  go_enter Try.func27,Try.ntmps27
  go_wp2
  repeat(go_quiet (fail);try go_wp2)
  go_loopg [5] k (fun kq v5 w'=> ∃(x5_1:Int),v5=.int .i64 x5_1∧Aside0 (watchmanref07_Same.l0 kq l0 l1 x5_1=some r)∧Aside0 (kq≤k)∧Drawn0 w w')
  case atStart=>exact⟨(0),rs_,H',⟨za _⟩,dr_⟩
  case round=>
   clear H'
   try clear c1;try clear c2;try clear p2;try clear c3;try clear c3b0;try clear c3b1;try clear c3b2
   obtain⟨x5_1,rfl,HA,HK1,⟨m1,rfl⟩⟩:=hrel
   cases gk with
   |zero=>exact absurd HA.out (by simp[watchmanref07_Same.l0])
   |succ k1=>
    have H:=HA.out
    clear HA
    simp only[watchmanref07_Same.l0] at H
    by_cases c4:x5_1<(l0.length:Int)
    ·rw[if_pos c4] at H
     have c4b0:=zO c4
     clear c4
     obtain⟨c5,H⟩:=gd_ H
     have c5b0:=zO c5
     clear c5
     obtain⟨c6,H⟩:=gd_ H
     have c6b0:=zO c6
     clear c6
     by_cases c7:((!(((rd_T28 l0 x5_1).f0.f0)==((rd_T28 l1 x5_1).f0.f0))||(!(((rd_T28 l0 x5_1).f0.f1)==((rd_T28 l1 x5_1).f0.f1))))||(!(((rd_T28 l0 x5_1).f1)==((rd_T28 l1 x5_1).f1))||(!(((rd_T28 l0 x5_1).f2)==((rd_T28 l1 x5_1).f2))||(!(((rd_T28 l0 x5_1).f3)==((rd_T28 l1 x5_1).f3))||(!(((rd_T28 l0 x5_1).f4)==((rd_T28 l1 x5_1).f4)))))))=true
     ·rw[if_pos c7] at H
      have c7b0:((!(((rd_T28 l0 x5_1).f0.f0)==((rd_T28 l1 x5_1).f0.f0))||(!(((rd_T28 l0 x5_1).f0.f1)==((rd_T28 l1 x5_1).f0.f1))))||(!(((rd_T28 l0 x5_1).f1)==((rd_T28 l1 x5_1).f1))||(!(((rd_T28 l0 x5_1).f2)==((rd_T28 l1 x5_1).f2))||(!(((rd_T28 l0 x5_1).f3)==((rd_T28 l1 x5_1).f3))||(!(((rd_T28 l0 x5_1).f4)==((rd_T28 l1 x5_1).f4)))))))=true:=c7
      clear c7
      obtain rfl:=zW H
      have p396:0≤(x5_1:Int):=zJ as_
      have q396:x5_1<(l0.length:Int):=zJ as_
      obtain⟨ad396,e396,hx396_0,hx396_1,hx396_2,hx396_3,hx396_4,hx396_5⟩:=at_T28 HR0.out x5_1 p396 q396
      cases e396
      replace p396:=eq_true p396
      replace q396:=eq_true q396
      have p397:0≤(x5_1:Int):=zJ as_
      have q397:x5_1<(l1.length:Int):=zJ as_
      obtain⟨ad397,e397,hx397_0,hx397_1,hx397_2,hx397_3,hx397_4,hx397_5⟩:=at_T28 HR1.out x5_1 p397 q397
      cases e397
      replace p397:=eq_true p397
      replace q397:=eq_true q397
      go_wp2
      repeat(go_quiet (fail);try go_wp2)
      go_ret
      exact⟨rs_,dr_⟩
     ·rw[if_neg c7] at H
      have c7b0:((!(((rd_T28 l0 x5_1).f0.f0)==((rd_T28 l1 x5_1).f0.f0))||(!(((rd_T28 l0 x5_1).f0.f1)==((rd_T28 l1 x5_1).f0.f1))))||(!(((rd_T28 l0 x5_1).f1)==((rd_T28 l1 x5_1).f1))||(!(((rd_T28 l0 x5_1).f2)==((rd_T28 l1 x5_1).f2))||(!(((rd_T28 l0 x5_1).f3)==((rd_T28 l1 x5_1).f3))||(!(((rd_T28 l0 x5_1).f4)==((rd_T28 l1 x5_1).f4)))))))=false:=by simpa using c7
      clear c7
      have H':=zB H
      clear H
      have p396:0≤(x5_1:Int):=zJ as_
      have q396:x5_1<(l0.length:Int):=zJ as_
      obtain⟨ad396,e396,hx396_0,hx396_1,hx396_2,hx396_3,hx396_4,hx396_5⟩:=at_T28 HR0.out x5_1 p396 q396
      cases e396
      replace p396:=eq_true p396
      replace q396:=eq_true q396
      have p397:0≤(x5_1:Int):=zJ as_
      have q397:x5_1<(l1.length:Int):=zJ as_
      obtain⟨ad397,e397,hx397_0,hx397_1,hx397_2,hx397_3,hx397_4,hx397_5⟩:=at_T28 HR1.out x5_1 p397 q397
      cases e397
      replace p397:=eq_true p397
      replace q397:=eq_true q397
      go_wp2
      repeat(go_quiet (fail);try go_wp2)
      go_roundg k1
      case measure=>have:=HK1.out;omega
      case rel=>exact⟨(wrap64 (x5_1+1)),rs_,H',⟨za_ HK1⟩,dr_⟩
    ·rw[if_neg c4] at H
     have c4b0:=zY c4
     clear c4
     obtain rfl:=zW H
     go_wp2
     repeat(go_quiet (fail);try go_wp2)
     go_ret
     exact⟨rs_,dr_⟩
 ·rw[if_neg c3] at H
  have c3b0:=beq_eq_false_iff_ne.mpr c3
  have c3b1:=bne_iff_ne.mpr c3
  have c3b2:(l0.length==l1.length)=false:=by first|simpa using c3|(simp at c3⊢;omega)
  obtain rfl:=zW H
  go_enter Try.func27,Try.ntmps27
  go_wp2
  repeat(go_quiet (fail);try go_wp2)
  go_ret
  exact⟨rs_,dr_⟩
def watchmanref08_Same.f (k:Nat) (a0_0:Int) (a0_1:Int) (l0_2:List (S28)) (a1_0:Int) (a1_1:Int) (l1_2:List (S28)):Option (Bool):=if a0_0=a1_0 then(if a0_1=a1_1 then((watchmanref07_Same.f k l0_2 l1_2).bind fun t400=>(some t400)) else(some false)) else(some false)
theorem watchmanref08_Same.mono: ∀a0 a1 a2 a3 a4 a5 k,LeO (watchmanref08_Same.f k a0 a1 a2 a3 a4 a5) (watchmanref08_Same.f (k+1) a0 a1 a2 a3 a4 a5):=by
 intro a0 a1 a2 a3 a4 a5 k
 unfold watchmanref08_Same.f
 repeat' first
   |(with_reducible exact watchmanref07_Same.mono _ _ _)
   |(with_reducible exact LeO.refl _)
   |(with_reducible exact zf _)
   |(with_reducible refine zg ?_ ?_)
   |(with_reducible refine ze ?_ (fun _=>?_))
set_option maxHeartbeats 8000000 in
set_option maxRecDepth 100000 in
theorem watchmanref08_Same.calls (k:Nat) (a0_0:Int) (a0_1:Int) (A0_2:Option Addr) (c0_2:Nat) (l0_2:List (S28)) (a1_0:Int) (a1_1:Int) (A1_2:Option Addr) (c1_2:Nat) (l1_2:List (S28)) (r:Bool) (w:World) (hr0_2:Kd.C k28 w A0_2 l0_2.length l0_2) (hc0_2:l0_2.length≤c0_2) (hr1_2:Kd.C k28 w A1_2 l1_2.length l1_2) (hc1_2:l1_2.length≤c1_2) (h:watchmanref08_Same.f k a0_0 a0_1 l0_2 a1_0 a1_1 l1_2=some r):
  Calls Try.prog 25 #[.agg #[.int .i64 a0_0,.int .i64 a0_1,.slice A0_2 l0_2.length c0_2],.agg #[.int .i64 a1_0,.int .i64 a1_1,.slice A1_2 l1_2.length c1_2]] w fun e w'=>e=.returned (.bool r)∧Below w.heap.size w w':=by
 have hu24:=Try.underlying24
 have HR0_2:=zB hr0_2
 have HC0_2:=zB hc0_2
 clear hr0_2 hc0_2
 have HR1_2:=zB hr1_2
 have HC1_2:=zB hc1_2
 clear hr1_2 hc1_2
 have HB:=zB (Below.refl w.heap.size w)
 have H:(if a0_0=a1_0 then(if a0_1=a1_1 then((watchmanref07_Same.f k l0_2 l1_2).bind fun t400=>(some t400)) else(some false)) else(some false))=some r:=h
 clear h
 by_cases c3:a0_0=a1_0
 ·rw[if_pos c3] at H
  have c3b0:=beq_iff_eq.mpr c3
  have c3b1:=bne_eq_false_iff_eq.mpr c3
  clear c3
  by_cases c4:a0_1=a1_1
  ·rw[if_pos c4] at H
   have c4b0:=beq_iff_eq.mpr c4
   have c4b1:=bne_eq_false_iff_eq.mpr c4
   clear c4
   replace H:=zL H
   obtain⟨t400,A50,H⟩:=H
   try dsimp only at H
   have A5:=zB A50
   clear A50
   obtain rfl:=zW H
   go_enter Try.func25,Try.ntmps25
   go_wp2_with (first|((with_reducible refine gate_dst (N:=2) rfl ?_);refine be_ (N:=2) (cs:=#[.int .i64 a0_0,.int .i64 a0_1,.slice A0_2 l0_2.length c0_2]) (t:=24) ?_;intro gb398 hg w6 hbox hb;have BK398:=zB hbox;have GW398:=gw_ hg HB;have GE398:=GW398;replace HB:=zB (zQ HB.out hb);clear hb hbox hg)|((with_reducible refine gate_dst (N:=3) rfl ?_);refine be_ (N:=3) (cs:=#[.int .i64 a1_0,.int .i64 a1_1,.slice A1_2 l1_2.length c1_2]) (t:=24) ?_;intro gb399 hg w7 hbox hb;have BK399:=zB hbox;have GE399:=gx_ hg (show Below w.heap.size w _ from hb_ HB);have GW399:=GE399;replace HB:=zB (zQ (hb_ HB) hb);have NB398_399:=nb_ BK398 hg;have NB399_398:=nc_ BK398 hg;replace BK398:=bl_ BK398 hb;clear hb hbox hg;have hnb8:=NB398_399.out;have hnc8:=NB399_398.out;have hcz9:=zD BK398.out;have hfz9:=zC BK398.out;have hcz10:=zD BK399.out)|(go_at_call 27;(with_reducible refine(watchmanref07_Same.calls k _ _ l0_2 _ _ l1_2 t400 _ ?side1 ?side2 ?side3 ?side4 A5.out).mono ?_);(case side1=>exact(Kd.C_below HR0_2.out HB.out));(case side2=>exact HC0_2.out);(case side3=>exact(Kd.C_below HR1_2.out HB.out));(case side4=>exact HC1_2.out);rintro e w' ⟨rfl,⟨nd,rfl⟩⟩))
   go_ret
   exact⟨ew_,hb_ HB⟩
  ·rw[if_neg c4] at H
   have c4b0:=beq_eq_false_iff_ne.mpr c4
   have c4b1:=bne_iff_ne.mpr c4
   obtain rfl:=zW H
   go_enter Try.func25,Try.ntmps25
   go_wp2_with (first|((with_reducible refine gate_dst (N:=2) rfl ?_);refine be_ (N:=2) (cs:=#[.int .i64 a0_0,.int .i64 a0_1,.slice A0_2 l0_2.length c0_2]) (t:=24) ?_;intro gb398 hg w11 hbox hb;have BK398:=zB hbox;have GW398:=gw_ hg HB;have GE398:=GW398;replace HB:=zB (zQ HB.out hb);clear hb hbox hg)|((with_reducible refine gate_dst (N:=3) rfl ?_);refine be_ (N:=3) (cs:=#[.int .i64 a1_0,.int .i64 a1_1,.slice A1_2 l1_2.length c1_2]) (t:=24) ?_;intro gb399 hg w12 hbox hb;have BK399:=zB hbox;have GE399:=gx_ hg (show Below w.heap.size w _ from hb_ HB);have GW399:=GE399;replace HB:=zB (zQ (hb_ HB) hb);have NB398_399:=nb_ BK398 hg;have NB399_398:=nc_ BK398 hg;replace BK398:=bl_ BK398 hb;clear hb hbox hg;have hnb13:=NB398_399.out;have hnc13:=NB399_398.out;have hcz14:=zD BK398.out;have hfz14:=zC BK398.out;have hcz15:=zD BK399.out))
   go_ret
   exact⟨ew_,hb_ HB⟩
 ·rw[if_neg c3] at H
  have c3b0:=beq_eq_false_iff_ne.mpr c3
  have c3b1:=bne_iff_ne.mpr c3
  obtain rfl:=zW H
  go_enter Try.func25,Try.ntmps25
  go_wp2_with (first|((with_reducible refine gate_dst (N:=2) rfl ?_);refine be_ (N:=2) (cs:=#[.int .i64 a0_0,.int .i64 a0_1,.slice A0_2 l0_2.length c0_2]) (t:=24) ?_;intro gb398 hg w16 hbox hb;have BK398:=zB hbox;have GW398:=gw_ hg HB;have GE398:=GW398;replace HB:=zB (zQ HB.out hb);clear hb hbox hg)|((with_reducible refine gate_dst (N:=3) rfl ?_);refine be_ (N:=3) (cs:=#[.int .i64 a1_0,.int .i64 a1_1,.slice A1_2 l1_2.length c1_2]) (t:=24) ?_;intro gb399 hg w17 hbox hb;have BK399:=zB hbox;have GE399:=gx_ hg (show Below w.heap.size w _ from hb_ HB);have GW399:=GE399;replace HB:=zB (zQ (hb_ HB) hb);have NB398_399:=nb_ BK398 hg;have NB399_398:=nc_ BK398 hg;replace BK398:=bl_ BK398 hb;clear hb hbox hg;have hnb18:=NB398_399.out;have hnc18:=NB399_398.out;have hcz19:=zD BK398.out;have hfz19:=zC BK398.out;have hcz20:=zD BK399.out))
  go_ret
  exact⟨ew_,hb_ HB⟩
def watchmanlaw09_DueTells.Goes (k:Nat) (a0_0 a0_1:Int) (l0_2:List S28) (a1_0 a1_1 a2:Int) (l3:List S65):Prop:= ∃own:List S28,watchmanref08_Own.f a0_0 a0_1 l0_2=some (a0_0,a0_1,own)∧ ∃tu:List S65,watchmanref09_Own.f l3=some tu∧ ∃a:List S65,∃e:Int,due_Turns.f k a0_0 a0_1 l0_2 a2=some (a,e)∧watchmanref09_Turns.f k a0_0 a0_1 own a2=some (a,e)∧ ∃n:Int,∃ok:Bool,due_Next.f k a0_0 a0_1 l0_2=some (n,ok)∧watchmanref09_Next.f a0_0 a0_1 own=some (n,ok)∧ ∃p:Int,∃is:Bool,due_At.f k a0_0 a0_1 l0_2 a1_0 a1_1 a2=some (p,is)∧watchmanref09_At.f k a0_0 a0_1 own a1_0 a1_1 a2=some (p,is)∧ ∃o1:Int,∃o2:Int,∃o3:Int,∃o4:Int,∃o5:Int,∃o6:Int,∃sm:Bool,due_First.f k l0_2=some (o1,o2,o3,o4,o5,o6,sm)∧watchmanref09_First.f own=some (o1,o2,o3,o4,o5,o6,sm)∧watchmanref09_Same.f k a a=some true∧ ∃od:List S65,due_Order.f k l3=some od∧watchmanref09_Order.f k tu=some od∧watchmanref09_Same.f k od od=some true∧watchmanref08_Same.f k a0_0 a0_1 l0_2 a0_0 a0_1 own=some true∧watchmanref09_Same.f k l3 tu=some true
attribute [local go_sem high] eqA28
set_option maxHeartbeats 8000000 in
set_option maxRecDepth 100000 in
theorem watchmanlaw09_DueTells.main (k:Nat) (a0_0 a0_1:Int) (A0_2:Option Addr) (c0_2:Nat) (l0_2:List S28) (a1_0 a1_1 a2:Int) (A3:Option Addr) (c3:Nat) (l3:List S65) (w:World) (hr0_2:Kd.C k28 w A0_2 l0_2.length l0_2) (hc0_2:l0_2.length≤c0_2) (hr3:Kd.C k65 w A3 l3.length l3) (hc3:l3.length≤c3) (F0:watchmanlaw09_far.f a0_0 a0_1 l0_2=some false) (hl:decide ((l3.length:Int)>60)=false) (h:watchmanlaw09_DueTells.Goes k a0_0 a0_1 l0_2 a1_0 a1_1 a2 l3):
    Calls Try.prog 8 #[.agg #[.int .i64 a0_0,.int .i64 a0_1,.slice A0_2 l0_2.length c0_2],.agg #[.int .i64 a1_0,.int .i64 a1_1],.int .i64 a2,.slice A3 l3.length c3] w fun e w'=>e=.returned (.bool true)∧Below w.heap.size w w':=by
  have hu0:=Try.underlying24
  have hu1:=Try.underlying28
  have hu2:=Try.underlying26
  have HR0:=zB hr0_2
  have HC0:=zB hc0_2
  have HR3:=zB hr3
  have HC3:=zB hc3
  clear hr0_2 hc0_2 hr3 hc3
  have HT:=zB (T.Tell.init w)
  replace F0:=zB F0
  obtain⟨own,E0,tu,E1,a,e,E2,E3,n,ok,E4,E5,p,is,E6,E7,o1,o2,o3,o4,o5,o6,sm,E8,E9,E10,od,E11,E12,E13,E14,E15⟩:=h
  replace E0:=zB E0
  replace E1:=zB E1
  replace E2:=zB E2
  replace E3:=zB E3
  replace E4:=zB E4
  replace E5:=zB E5
  replace E6:=zB E6
  replace E7:=zB E7
  replace E8:=zB E8
  replace E9:=zB E9
  replace E10:=zB E10
  replace E11:=zB E11
  replace E12:=zB E12
  replace E13:=zB E13
  replace E14:=zB E14
  replace E15:=zB E15
  go_enter Try.func8,Try.ntmps8
  go_wp2_with (first|((with_reducible refine gate_dst (N:=4) rfl ?_);refine be_ (N:=4) (cs:=#[.int .i64 a0_0,.int .i64 a0_1,.slice A0_2 l0_2.length c0_2]) (t:=24) ?_;intro g_b hg w_4 hbox hb;replace HT:=zB (HT.out.pushBe hbox hg hb);clear hb hbox hg)|((with_reducible refine gate_dst (N:=5) rfl ?_);refine be_ (N:=5) (cs:=#[.int .i64 a1_0,.int .i64 a1_1]) (t:=26) ?_;intro g_s hg w_5 hbox hb;replace HT:=zB (HT.out.pushBe hbox hg hb);clear hb hbox hg;have hx0_b:=(HT.out.bx 1 rfl 0).trans rfl;have hx1_b:=(HT.out.bx 1 rfl 1).trans rfl;have hx2_b:=(HT.out.bx 1 rfl 2).trans rfl;have hz_b:=(HT.out.far 1 rfl (k:=g_b) rfl).1)|((with_reducible refine gate_dst (N:=29) rfl ?_);(try(refine gate_guard (by rfl) ?_;dsimp only));refine gl_ (some 29) Try.func35 #[.agg #[.int .i64 a0_0,.int .i64 a0_1,.slice A0_2 l0_2.length c0_2]] rfl ?_;(with_reducible refine(watchmanlaw09_far.calls a0_0 a0_1 _ _ l0_2 _ _ ?s1 ?s2 F0.out).mono ?_);(case s1=>exact Kd.C_below HR0.out HT.out.below);(case s2=>exact HC0.out);rintro e_ w_29 ⟨rfl,hb⟩;refine⟨_,rfl,?_⟩;replace HT:=zB (HT.out.step hb);clear hb;have hx0_b:=(HT.out.bx 1 rfl 0).trans rfl;have hx1_b:=(HT.out.bx 1 rfl 1).trans rfl;have hx2_b:=(HT.out.bx 1 rfl 2).trans rfl;have hz_b:=(HT.out.far 1 rfl (k:=g_b) rfl).1)|((with_reducible refine gate_dst (N:=36) rfl ?_);(try(refine gate_guard (by rfl) ?_;dsimp only));refine gl_ (some 36) Try.func14 #[.agg #[.int .i64 a0_0,.int .i64 a0_1,.slice A0_2 l0_2.length c0_2]] rfl ?_;(with_reducible refine(watchmanref08_Own.calls a0_0 a0_1 _ _ l0_2 a0_0 a0_1 own _ ?s1 ?s2 E0.out).mono ?_);(case s1=>exact Kd.C_below HR0.out HT.out.below);(case s2=>exact HC0.out);rintro e_ w_36 ⟨v_,rfl,ho,hb⟩;refine⟨_,rfl,?_⟩;obtain⟨A_own,c_own,rfl⟩:=Kd.R_slice ho;replace HT:=zB (HT.out.pushR ho hb);clear ho hb)|((with_reducible refine gate_dst (N:=38) rfl ?_);(try(refine gate_guard (by rfl) ?_;dsimp only));replace HT:=zB (HT.out.pushB #[.int .i64 a0_0,.int .i64 a0_1,.slice A_own own.length c_own] 24);refine gl_ (some 38) Try.func36 #[.slice A3 l3.length c3] rfl ?_;(with_reducible refine(watchmanref09_Own.calls _ _ l3 tu _ ?s1 ?s2 E1.out).mono ?_);(case s1=>exact Kd.C_below HR3.out HT.out.below);(case s2=>exact HC3.out);rintro e_ w_38 ⟨v_,rfl,ho,hb⟩;refine⟨_,rfl,?_⟩;obtain⟨A_tu,c_tu,rfl⟩:=Kd.R_slice ho;replace HT:=zB (HT.out.pushR ho hb);clear ho hb;have hx0_b:=(HT.out.bx 4 rfl 0).trans rfl;have hx1_b:=(HT.out.bx 4 rfl 1).trans rfl;have hx2_b:=(HT.out.bx 4 rfl 2).trans rfl;have hz_b:=(HT.out.far 4 rfl (k:=g_b) rfl).1)|((with_reducible refine gate_dst (N:=42) rfl ?_);(try(refine gate_guard (by rfl) ?_;dsimp only));refine gl_ (some 42) Try.func37 #[.agg #[.int .i64 a0_0,.int .i64 a0_1,.slice A0_2 l0_2.length c0_2],.int .i64 a2] rfl ?_;(with_reducible refine(due_Turns.calls k a0_0 a0_1 _ _ l0_2 a2 a e _ ?s1 ?s2 E2.out).mono ?_);(case s1=>exact Kd.C_below HR0.out HT.out.below);(case s2=>exact HC0.out);rintro e_ w_42 ⟨v_,rfl,ho,hb⟩;refine⟨_,rfl,?_⟩;obtain⟨A_a,c_a,rfl⟩:=Kd.R_slice ho;replace HT:=zB (HT.out.pushR ho hb);clear ho hb;have hx0_B_own:=(HT.out.bx 2 rfl 0).trans rfl;have hx1_B_own:=(HT.out.bx 2 rfl 1).trans rfl;have hx2_B_own:=(HT.out.bx 2 rfl 2).trans rfl;have hz_B_own:=(HT.out.far 2 rfl (k:=w_36.heap.size) rfl).1)|((with_reducible refine gate_dst (N:=48) rfl ?_);(try(refine gate_guard (by rfl) ?_;dsimp only));refine gl_ (some 48) Try.func38 #[.agg #[.int .i64 a0_0,.int .i64 a0_1,.slice A_own own.length c_own],.int .i64 a2] rfl ?_;(with_reducible refine(watchmanref09_Turns.calls k a0_0 a0_1 _ _ own a2 a e _ ?s1 ?s2 E3.out).mono ?_);(case s1=>exact HT.out.rc 3 rfl);(case s2=>exact HT.out.rl 3 rfl);rintro e_ w_48 ⟨v_,rfl,ho,hb⟩;refine⟨_,rfl,?_⟩;obtain⟨A_c,c_c,rfl⟩:=Kd.R_slice ho;replace HT:=zB (HT.out.pushR ho hb);clear ho hb;have hx0_b:=(HT.out.bx 6 rfl 0).trans rfl;have hx1_b:=(HT.out.bx 6 rfl 1).trans rfl;have hx2_b:=(HT.out.bx 6 rfl 2).trans rfl;have hz_b:=(HT.out.far 6 rfl (k:=g_b) rfl).1)|((with_reducible refine gate_dst (N:=53) rfl ?_);(try(refine gate_guard (by rfl) ?_;dsimp only));refine gl_ (some 53) Try.func39 #[.agg #[.int .i64 a0_0,.int .i64 a0_1,.slice A0_2 l0_2.length c0_2]] rfl ?_;(with_reducible refine(due_Next.calls k a0_0 a0_1 _ _ l0_2 n ok _ ?s1 ?s2 E4.out).mono ?_);(case s1=>exact Kd.C_below HR0.out HT.out.below);(case s2=>exact HC0.out);rintro e_ w_53 ⟨rfl,hb⟩;refine⟨_,rfl,?_⟩;replace HT:=zB (HT.out.step hb);clear hb;have hx0_B_own:=(HT.out.bx 3 rfl 0).trans rfl;have hx1_B_own:=(HT.out.bx 3 rfl 1).trans rfl;have hx2_B_own:=(HT.out.bx 3 rfl 2).trans rfl;have hz_B_own:=(HT.out.far 3 rfl (k:=w_36.heap.size) rfl).1)|((with_reducible refine gate_dst (N:=58) rfl ?_);(try(refine gate_guard (by rfl) ?_;dsimp only));refine gl_ (some 58) Try.func40 #[.agg #[.int .i64 a0_0,.int .i64 a0_1,.slice A_own own.length c_own]] rfl ?_;(with_reducible refine(watchmanref09_Next.calls a0_0 a0_1 _ _ own n ok _ ?s1 ?s2 E5.out).mono ?_);(case s1=>exact HT.out.rc 4 rfl);(case s2=>exact HT.out.rl 4 rfl);rintro e_ w_58 ⟨rfl,hb⟩;refine⟨_,rfl,?_⟩;replace HT:=zB (HT.out.step hb);clear hb;have hx0_b:=(HT.out.bx 6 rfl 0).trans rfl;have hx1_b:=(HT.out.bx 6 rfl 1).trans rfl;have hx2_b:=(HT.out.bx 6 rfl 2).trans rfl;have hz_b:=(HT.out.far 6 rfl (k:=g_b) rfl).1;have hx0_s:=(HT.out.bx 5 rfl 0).trans rfl;have hx1_s:=(HT.out.bx 5 rfl 1).trans rfl;have hz_s:=(HT.out.far 5 rfl (k:=g_s) rfl).1)|((with_reducible refine gate_dst (N:=65) rfl ?_);(try(refine gate_guard (by rfl) ?_;dsimp only));refine gl_ (some 65) Try.func41 #[.agg #[.int .i64 a0_0,.int .i64 a0_1,.slice A0_2 l0_2.length c0_2],.agg #[.int .i64 a1_0,.int .i64 a1_1],.int .i64 a2] rfl ?_;(with_reducible refine(due_At.calls k a0_0 a0_1 _ _ l0_2 a1_0 a1_1 a2 p is _ ?s1 ?s2 E6.out).mono ?_);(case s1=>exact Kd.C_below HR0.out HT.out.below);(case s2=>exact HC0.out);rintro e_ w_65 ⟨rfl,hb⟩;refine⟨_,rfl,?_⟩;replace HT:=zB (HT.out.step hb);clear hb;have hx0_B_own:=(HT.out.bx 3 rfl 0).trans rfl;have hx1_B_own:=(HT.out.bx 3 rfl 1).trans rfl;have hx2_B_own:=(HT.out.bx 3 rfl 2).trans rfl;have hz_B_own:=(HT.out.far 3 rfl (k:=w_36.heap.size) rfl).1;have hx0_s:=(HT.out.bx 5 rfl 0).trans rfl;have hx1_s:=(HT.out.bx 5 rfl 1).trans rfl;have hz_s:=(HT.out.far 5 rfl (k:=g_s) rfl).1)|((with_reducible refine gate_dst (N:=72) rfl ?_);(try(refine gate_guard (by rfl) ?_;dsimp only));refine gl_ (some 72) Try.func42 #[.agg #[.int .i64 a0_0,.int .i64 a0_1,.slice A_own own.length c_own],.agg #[.int .i64 a1_0,.int .i64 a1_1],.int .i64 a2] rfl ?_;(with_reducible refine(watchmanref09_At.calls k a0_0 a0_1 _ _ own a1_0 a1_1 a2 p is _ ?s1 ?s2 E7.out).mono ?_);(case s1=>exact HT.out.rc 4 rfl);(case s2=>exact HT.out.rl 4 rfl);rintro e_ w_72 ⟨rfl,hb⟩;refine⟨_,rfl,?_⟩;replace HT:=zB (HT.out.step hb);clear hb;have hx0_b:=(HT.out.bx 6 rfl 0).trans rfl;have hx1_b:=(HT.out.bx 6 rfl 1).trans rfl;have hx2_b:=(HT.out.bx 6 rfl 2).trans rfl;have hz_b:=(HT.out.far 6 rfl (k:=g_b) rfl).1)|((with_reducible refine gate_dst (N:=78) rfl ?_);(try(refine gate_guard (by rfl) ?_;dsimp only));refine gl_ (some 78) Try.func43 #[.slice A0_2 l0_2.length c0_2] rfl ?_;(with_reducible refine(due_First.calls k _ _ l0_2 o1 o2 o3 o4 o5 o6 sm _ ?s1 ?s2 E8.out).mono ?_);(case s1=>exact Kd.C_below HR0.out HT.out.below);(case s2=>exact HC0.out);rintro e_ w_78 ⟨rfl,hb⟩;refine⟨_,rfl,?_⟩;replace HT:=zB (HT.out.step hb);clear hb;have hx0_B_own:=(HT.out.bx 3 rfl 0).trans rfl;have hx1_B_own:=(HT.out.bx 3 rfl 1).trans rfl;have hx2_B_own:=(HT.out.bx 3 rfl 2).trans rfl;have hz_B_own:=(HT.out.far 3 rfl (k:=w_36.heap.size) rfl).1)|((with_reducible refine gate_dst (N:=84) rfl ?_);(try(refine gate_guard (by rfl) ?_;dsimp only));replace HT:=zB (HT.out.pushB #[.int .i64 o1,.int .i64 o2,.int .i64 o3,.int .i64 o4,.int .i64 o5,.int .i64 o6] 28);refine gl_ (some 84) Try.func44 #[.slice A_own own.length c_own] rfl ?_;(with_reducible refine(watchmanref09_First.calls _ _ own o1 o2 o3 o4 o5 o6 sm _ ?s1 ?s2 E9.out).mono ?_);(case s1=>exact HT.out.rc 5 rfl);(case s2=>exact HT.out.rl 5 rfl);rintro e_ w_84 ⟨rfl,hb⟩;refine⟨_,rfl,?_⟩;replace HT:=zB (HT.out.step hb);clear hb)|((with_reducible refine gate_dst (N:=89) rfl ?_);(try(refine gate_guard (by rfl) ?_;dsimp only));replace HT:=zB (HT.out.pushB #[.int .i64 o1,.int .i64 o2,.int .i64 o3,.int .i64 o4,.int .i64 o5,.int .i64 o6] 28);refine gl_ (some 89) Try.func45 #[.slice A_a a.length c_a,.slice A_c a.length c_c] rfl ?_;(with_reducible refine(watchmanref09_Same.calls k _ _ a _ _ a _ _ ?s1 ?s2 ?s3 ?s4 E10.out).mono ?_);(case s1=>exact HT.out.rc 3 rfl);(case s2=>exact HT.out.rl 3 rfl);(case s3=>exact HT.out.rc 2 rfl);(case s4=>exact HT.out.rl 2 rfl);rintro e_ w_89 ⟨rfl,hd⟩;refine⟨_,rfl,?_⟩;replace HT:=zB (HT.out.step hd.below);clear hd;have hx0_B_x:=(HT.out.bx 1 rfl 0).trans rfl;have hx1_B_x:=(HT.out.bx 1 rfl 1).trans rfl;have hx2_B_x:=(HT.out.bx 1 rfl 2).trans rfl;have hx3_B_x:=(HT.out.bx 1 rfl 3).trans rfl;have hx4_B_x:=(HT.out.bx 1 rfl 4).trans rfl;have hx5_B_x:=(HT.out.bx 1 rfl 5).trans rfl;have hz_B_x:=(HT.out.far 1 rfl (k:=w_78.heap.size) rfl).1;have hx0_B_y:=(HT.out.bx 0 rfl 0).trans rfl;have hx1_B_y:=(HT.out.bx 0 rfl 1).trans rfl;have hx2_B_y:=(HT.out.bx 0 rfl 2).trans rfl;have hx3_B_y:=(HT.out.bx 0 rfl 3).trans rfl;have hx4_B_y:=(HT.out.bx 0 rfl 4).trans rfl;have hx5_B_y:=(HT.out.bx 0 rfl 5).trans rfl;have hz_B_y:=(HT.out.far 0 rfl (k:=w_84.heap.size) rfl).1)|((with_reducible refine gate_dst (N:=125) rfl ?_);(try(refine gate_guard (by rfl) ?_;dsimp only));refine gl_ (some 125) Try.func46 #[] rfl ?_;(with_reducible refine(watchmanlaw09_coming.calls true _ rfl).mono ?_);rintro e_ w_125 ⟨rfl,hb⟩;refine⟨_,rfl,?_⟩;replace HT:=zB (HT.out.step hb);clear hb)|((with_reducible refine gate_dst (N:=131) rfl ?_);(try(refine gate_guard (by rfl) ?_;dsimp only));refine gl_ (some 131) Try.func47 #[.slice A3 l3.length c3] rfl ?_;(with_reducible refine(due_Order.calls k _ _ l3 od _ ?s1 ?s2 E11.out).mono ?_);(case s1=>exact Kd.C_below HR3.out HT.out.below);(case s2=>exact HC3.out);rintro e_ w_131 ⟨v_,rfl,ho,hb⟩;refine⟨_,rfl,?_⟩;obtain⟨A_od,c_od,rfl⟩:=Kd.R_slice ho;replace HT:=zB (HT.out.pushR ho hb);clear ho hb)|((with_reducible refine gate_dst (N:=133) rfl ?_);(try(refine gate_guard (by rfl) ?_;dsimp only));refine gl_ (some 133) Try.func48 #[.slice A_tu tu.length c_tu] rfl ?_;(with_reducible refine(watchmanref09_Order.calls k _ _ tu od _ ?s1 ?s2 E12.out).mono ?_);(case s1=>exact HT.out.rc 5 rfl);(case s2=>exact HT.out.rl 5 rfl);rintro e_ w_133 ⟨v_,rfl,ho,hb⟩;refine⟨_,rfl,?_⟩;obtain⟨A_oe,c_oe,rfl⟩:=Kd.R_slice ho;replace HT:=zB (HT.out.pushR ho hb);clear ho hb)|((with_reducible refine gate_dst (N:=134) rfl ?_);(try(refine gate_guard (by rfl) ?_;dsimp only));refine gl_ (some 134) Try.func45 #[.slice A_od od.length c_od,.slice A_oe od.length c_oe] rfl ?_;(with_reducible refine(watchmanref09_Same.calls k _ _ od _ _ od _ _ ?s1 ?s2 ?s3 ?s4 E13.out).mono ?_);(case s1=>exact HT.out.rc 1 rfl);(case s2=>exact HT.out.rl 1 rfl);(case s3=>exact HT.out.rc 0 rfl);(case s4=>exact HT.out.rl 0 rfl);rintro e_ w_134 ⟨rfl,hd⟩;refine⟨_,rfl,?_⟩;replace HT:=zB (HT.out.step hd.below);clear hd;have hx0_b:=(HT.out.bx 10 rfl 0).trans rfl;have hx1_b:=(HT.out.bx 10 rfl 1).trans rfl;have hx2_b:=(HT.out.bx 10 rfl 2).trans rfl;have hz_b:=(HT.out.far 10 rfl (k:=g_b) rfl).1;have hx0_B_own:=(HT.out.bx 7 rfl 0).trans rfl;have hx1_B_own:=(HT.out.bx 7 rfl 1).trans rfl;have hx2_B_own:=(HT.out.bx 7 rfl 2).trans rfl;have hz_B_own:=(HT.out.far 7 rfl (k:=w_36.heap.size) rfl).1)|((with_reducible refine gate_dst (N:=139) rfl ?_);(try(refine gate_guard (by rfl) ?_;dsimp only));refine gl_ (some 139) Try.func25 #[.agg #[.int .i64 a0_0,.int .i64 a0_1,.slice A0_2 l0_2.length c0_2],.agg #[.int .i64 a0_0,.int .i64 a0_1,.slice A_own own.length c_own]] rfl ?_;(with_reducible refine(watchmanref08_Same.calls k a0_0 a0_1 _ _ l0_2 a0_0 a0_1 _ _ own _ _ ?s1 ?s2 ?s3 ?s4 E14.out).mono ?_);(case s1=>exact Kd.C_below HR0.out HT.out.below);(case s2=>exact HC0.out);(case s3=>exact HT.out.rc 8 rfl);(case s4=>exact HT.out.rl 8 rfl);rintro e_ w_139 ⟨rfl,hb⟩;refine⟨_,rfl,?_⟩;replace HT:=zB (HT.out.step hb);clear hb)|((with_reducible refine gate_dst (N:=144) rfl ?_);(try(refine gate_guard (by rfl) ?_;dsimp only));refine gl_ (some 144) Try.func45 #[.slice A3 l3.length c3,.slice A_tu tu.length c_tu] rfl ?_;(with_reducible refine(watchmanref09_Same.calls k _ _ l3 _ _ tu _ _ ?s1 ?s2 ?s3 ?s4 E15.out).mono ?_);(case s1=>exact Kd.C_below HR3.out HT.out.below);(case s2=>exact HC3.out);(case s3=>exact HT.out.rc 6 rfl);(case s4=>exact HT.out.rl 6 rfl);rintro e_ w_144 ⟨rfl,hd⟩;refine⟨_,rfl,?_⟩;replace HT:=zB (HT.out.step hd.below);clear hd))
  go_ret
  exact⟨rfl,HT.out.below⟩
set_option maxHeartbeats 8000000 in
set_option maxRecDepth 100000 in
theorem watchmanlaw09_DueTells.early0 (k:Nat) (a0_0 a0_1:Int) (A0_2:Option Addr) (c0_2:Nat) (l0_2:List S28) (a1_0 a1_1 a2:Int) (A3:Option Addr) (c3:Nat) (l3:List S65) (w:World) (hr0_2:Kd.C k28 w A0_2 l0_2.length l0_2) (hc0_2:l0_2.length≤c0_2) (hr3:Kd.C k65 w A3 l3.length l3) (hc3:l3.length≤c3) (F0:watchmanlaw09_far.f a0_0 a0_1 l0_2=some true):
    Calls Try.prog 8 #[.agg #[.int .i64 a0_0,.int .i64 a0_1,.slice A0_2 l0_2.length c0_2],.agg #[.int .i64 a1_0,.int .i64 a1_1],.int .i64 a2,.slice A3 l3.length c3] w fun e w'=>e=.returned (.bool true)∧Below w.heap.size w w':=by
  have hu0:=Try.underlying24
  have hu1:=Try.underlying28
  have hu2:=Try.underlying26
  have HR0:=zB hr0_2
  have HC0:=zB hc0_2
  have HR3:=zB hr3
  have HC3:=zB hc3
  clear hr0_2 hc0_2 hr3 hc3
  have HT:=zB (T.Tell.init w)
  replace F0:=zB F0
  go_enter Try.func8,Try.ntmps8
  go_wp2_with (first|((with_reducible refine gate_dst (N:=4) rfl ?_);refine be_ (N:=4) (cs:=#[.int .i64 a0_0,.int .i64 a0_1,.slice A0_2 l0_2.length c0_2]) (t:=24) ?_;intro g_b hg w_4 hbox hb;replace HT:=zB (HT.out.pushBe hbox hg hb);clear hb hbox hg)|((with_reducible refine gate_dst (N:=5) rfl ?_);refine be_ (N:=5) (cs:=#[.int .i64 a1_0,.int .i64 a1_1]) (t:=26) ?_;intro g_s hg w_5 hbox hb;replace HT:=zB (HT.out.pushBe hbox hg hb);clear hb hbox hg;have hx0_b:=(HT.out.bx 1 rfl 0).trans rfl;have hx1_b:=(HT.out.bx 1 rfl 1).trans rfl;have hx2_b:=(HT.out.bx 1 rfl 2).trans rfl;have hz_b:=(HT.out.far 1 rfl (k:=g_b) rfl).1)|((with_reducible refine gate_dst (N:=29) rfl ?_);(try(refine gate_guard (by rfl) ?_;dsimp only));refine gl_ (some 29) Try.func35 #[.agg #[.int .i64 a0_0,.int .i64 a0_1,.slice A0_2 l0_2.length c0_2]] rfl ?_;(with_reducible refine(watchmanlaw09_far.calls a0_0 a0_1 _ _ l0_2 _ _ ?s1 ?s2 F0.out).mono ?_);(case s1=>exact Kd.C_below HR0.out HT.out.below);(case s2=>exact HC0.out);rintro e_ w_29 ⟨rfl,hb⟩;refine⟨_,rfl,?_⟩;replace HT:=zB (HT.out.step hb);clear hb;have hx0_b:=(HT.out.bx 1 rfl 0).trans rfl;have hx1_b:=(HT.out.bx 1 rfl 1).trans rfl;have hx2_b:=(HT.out.bx 1 rfl 2).trans rfl;have hz_b:=(HT.out.far 1 rfl (k:=g_b) rfl).1))
  go_ret
  exact⟨rfl,HT.out.below⟩
set_option maxHeartbeats 8000000 in
set_option maxRecDepth 100000 in
theorem watchmanlaw09_DueTells.early1 (k:Nat) (a0_0 a0_1:Int) (A0_2:Option Addr) (c0_2:Nat) (l0_2:List S28) (a1_0 a1_1 a2:Int) (A3:Option Addr) (c3:Nat) (l3:List S65) (w:World) (hr0_2:Kd.C k28 w A0_2 l0_2.length l0_2) (hc0_2:l0_2.length≤c0_2) (hr3:Kd.C k65 w A3 l3.length l3) (hc3:l3.length≤c3) (F0:watchmanlaw09_far.f a0_0 a0_1 l0_2=some false) (hl:decide ((l3.length:Int)>60)=true):
    Calls Try.prog 8 #[.agg #[.int .i64 a0_0,.int .i64 a0_1,.slice A0_2 l0_2.length c0_2],.agg #[.int .i64 a1_0,.int .i64 a1_1],.int .i64 a2,.slice A3 l3.length c3] w fun e w'=>e=.returned (.bool true)∧Below w.heap.size w w':=by
  have hu0:=Try.underlying24
  have hu1:=Try.underlying28
  have hu2:=Try.underlying26
  have HR0:=zB hr0_2
  have HC0:=zB hc0_2
  have HR3:=zB hr3
  have HC3:=zB hc3
  clear hr0_2 hc0_2 hr3 hc3
  have HT:=zB (T.Tell.init w)
  replace F0:=zB F0
  go_enter Try.func8,Try.ntmps8
  go_wp2_with (first|((with_reducible refine gate_dst (N:=4) rfl ?_);refine be_ (N:=4) (cs:=#[.int .i64 a0_0,.int .i64 a0_1,.slice A0_2 l0_2.length c0_2]) (t:=24) ?_;intro g_b hg w_4 hbox hb;replace HT:=zB (HT.out.pushBe hbox hg hb);clear hb hbox hg)|((with_reducible refine gate_dst (N:=5) rfl ?_);refine be_ (N:=5) (cs:=#[.int .i64 a1_0,.int .i64 a1_1]) (t:=26) ?_;intro g_s hg w_5 hbox hb;replace HT:=zB (HT.out.pushBe hbox hg hb);clear hb hbox hg;have hx0_b:=(HT.out.bx 1 rfl 0).trans rfl;have hx1_b:=(HT.out.bx 1 rfl 1).trans rfl;have hx2_b:=(HT.out.bx 1 rfl 2).trans rfl;have hz_b:=(HT.out.far 1 rfl (k:=g_b) rfl).1)|((with_reducible refine gate_dst (N:=29) rfl ?_);(try(refine gate_guard (by rfl) ?_;dsimp only));refine gl_ (some 29) Try.func35 #[.agg #[.int .i64 a0_0,.int .i64 a0_1,.slice A0_2 l0_2.length c0_2]] rfl ?_;(with_reducible refine(watchmanlaw09_far.calls a0_0 a0_1 _ _ l0_2 _ _ ?s1 ?s2 F0.out).mono ?_);(case s1=>exact Kd.C_below HR0.out HT.out.below);(case s2=>exact HC0.out);rintro e_ w_29 ⟨rfl,hb⟩;refine⟨_,rfl,?_⟩;replace HT:=zB (HT.out.step hb);clear hb;have hx0_b:=(HT.out.bx 1 rfl 0).trans rfl;have hx1_b:=(HT.out.bx 1 rfl 1).trans rfl;have hx2_b:=(HT.out.bx 1 rfl 2).trans rfl;have hz_b:=(HT.out.far 1 rfl (k:=g_b) rfl).1))
  go_ret
  exact⟨rfl,HT.out.below⟩
def watchmanlaw09_DueTells.Holds (k:Nat) (a0_0 a0_1:Int) (l0_2:List S28) (a1_0 a1_1 a2:Int) (l3:List S65):Prop:=watchmanlaw09_far.f a0_0 a0_1 l0_2=some true∨(watchmanlaw09_far.f a0_0 a0_1 l0_2=some false∧decide ((l3.length:Int)>60)=true)∨(watchmanlaw09_far.f a0_0 a0_1 l0_2=some false∧decide ((l3.length:Int)>60)=false∧watchmanlaw09_DueTells.Goes k a0_0 a0_1 l0_2 a1_0 a1_1 a2 l3)
noncomputable def watchmanlaw09_DueTells.f (k:Nat) (a0_0 a0_1:Int) (l0_2:List S28) (a1_0 a1_1 a2:Int) (l3:List S65):Option Bool:=@ite _ (watchmanlaw09_DueTells.Holds k a0_0 a0_1 l0_2 a1_0 a1_1 a2 l3) (Classical.propDecidable _) (some true) none
theorem watchmanlaw09_DueTells.calls (k:Nat) (a0_0 a0_1:Int) (A0_2:Option Addr) (c0_2:Nat) (l0_2:List S28) (a1_0 a1_1 a2:Int) (A3:Option Addr) (c3:Nat) (l3:List S65) (r:Bool) (w:World) (hr0_2:Kd.C k28 w A0_2 l0_2.length l0_2) (hc0_2:l0_2.length≤c0_2) (hr3:Kd.C k65 w A3 l3.length l3) (hc3:l3.length≤c3) (h:watchmanlaw09_DueTells.f k a0_0 a0_1 l0_2 a1_0 a1_1 a2 l3=some r):
    Calls Try.prog 8 #[.agg #[.int .i64 a0_0,.int .i64 a0_1,.slice A0_2 l0_2.length c0_2],.agg #[.int .i64 a1_0,.int .i64 a1_1],.int .i64 a2,.slice A3 l3.length c3] w fun e w'=>e=.returned (.bool r)∧Below w.heap.size w w':=by
  unfold watchmanlaw09_DueTells.f at h
  by_cases hh:watchmanlaw09_DueTells.Holds k a0_0 a0_1 l0_2 a1_0 a1_1 a2 l3
  · rw[if_pos hh] at h
    obtain rfl:=zW h
    rcases hh with hh|⟨h1,h2⟩|⟨h1,h2,h3⟩
    · exact watchmanlaw09_DueTells.early0 k a0_0 a0_1 A0_2 c0_2 l0_2 a1_0 a1_1 a2 A3 c3 l3 w hr0_2 hc0_2 hr3 hc3 hh
    · exact watchmanlaw09_DueTells.early1 k a0_0 a0_1 A0_2 c0_2 l0_2 a1_0 a1_1 a2 A3 c3 l3 w hr0_2 hc0_2 hr3 hc3 h1 h2
    · exact watchmanlaw09_DueTells.main k a0_0 a0_1 A0_2 c0_2 l0_2 a1_0 a1_1 a2 A3 c3 l3 w hr0_2 hc0_2 hr3 hc3 h1 h2 h3
  · rw[if_neg hh] at h
    cases h
end Go.Proofs.Ytcfpbmdndapeaaa.F
