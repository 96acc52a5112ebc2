-- Written by a program of this session (xprint.py), out of the translation and of contracts proved by hand.
import Derived.Test.YtcfpbmdndapeaaaF0
import Derived.Test.YtcfpbmdndapeaaaF1
import Derived.Test.YtcfpbmdndapeaaaF7
import Derived.Test.YtcfpbmdndapeaaaF22
namespace Go.Proofs.Ytcfpbmdndapeaaa.F
open Go.RowKit Go.Proofs.YtcfpbmdndapeaaaV.PrintWords Go.Proofs.YtcfpbmdndapeaaaV.PrintLast Go.Proofs.YtcfpbmdndapeaaaV.PrintMore
attribute [local go_sem] max2_int min2_int max_two min_two max_three min_three max_four min_four
set_option linter.unusedVariables false
set_option linter.unusedSimpArgs false
attribute [local go_sem high] eqA26
theorem due_At.fld (x0 x1 x2 x3 x4 x5:Int) (W:World):(Instr.field 28 (.agg #[.int .i64 x0,.int .i64 x1,.int .i64 x2,.int .i64 x3,.int .i64 x4,.int .i64 x5]) 1).run Try.prog W=.ok (.int .i64 x2) W:=by kernel_rfl
def due_At.f (k:Nat) (a0_0 a0_1:Int) (l0_2:List S28) (a1_0 a1_1 a2:Int):Option (Int×Bool):=(board_Get.f a0_0 a0_1 l0_2 a1_0 a1_1).bind fun g=>if g.2.2.2.2.2.2=true then((alarm_Pass.f k g.1 g.2.1 g.2.2.1 g.2.2.2.1 g.2.2.2.2.1 g.2.2.2.2.2.1 a2).bind fun p=>some (p.2.2.1,true)) else some (0,false)
theorem due_At.e1 (k:Nat) (a0_0 a0_1:Int) (A0_2:Option Addr) (c0_2:Nat) (l0_2:List S28) (a1_0 a1_1 a2:Int) (t1 t2 t3 t4 t5 t6:Int) (w:World) (hr0_2:Kd.C k28 w A0_2 l0_2.length l0_2) (hc0_2:l0_2.length≤c0_2) (E0:board_Get.f a0_0 a0_1 l0_2 a1_0 a1_1=some (t1,t2,t3,t4,t5,t6,false)):
    Calls Try.prog 41 #[.agg #[.int .i64 a0_0,.int .i64 a0_1,.slice A0_2 l0_2.length c0_2],.agg #[.int .i64 a1_0,.int .i64 a1_1],.int .i64 a2] w fun e w'=>e=.returned (.tuple #[.int .i64 0,.bool false])∧Below w.heap.size w w':=by
  have hu0:=Try.underlying24
  have hu1:=Try.underlying28
  have hu2:=Try.underlying26
  have HR0:=zB hr0_2
  have HC0:=zB hc0_2
  clear hr0_2 hc0_2
  replace E0:=zB E0
  have HT:=zB (T.Tell.init w)
  go_enter Try.func41,Try.ntmps41
  go_wp2_with (first|((with_reducible refine gate_dst (N:=3) rfl ?_);refine be_ (N:=3) (cs:=#[.int .i64 a0_0,.int .i64 a0_1,.slice A0_2 l0_2.length c0_2]) (t:=24) ?_;intro g_b hg w_3 hbox hb;replace HT:=zB (HT.out.pushBe hbox hg hb);clear hb hbox hg)|((with_reducible refine gate_dst (N:=4) rfl ?_);refine be_ (N:=4) (cs:=#[.int .i64 a1_0,.int .i64 a1_1]) (t:=26) ?_;intro g_s hg w_4 hbox hb;replace HT:=zB (HT.out.pushBe hbox hg hb);clear hb hbox hg;have hx0_b:=(HT.out.bx 1 rfl 0).trans rfl;have hx1_b:=(HT.out.bx 1 rfl 1).trans rfl;have hx2_b:=(HT.out.bx 1 rfl 2).trans rfl;have hz_b:=(HT.out.far 1 rfl (k:=g_b) rfl).1;have hx0_s:=(HT.out.bx 0 rfl 0).trans rfl;have hx1_s:=(HT.out.bx 0 rfl 1).trans rfl)|((with_reducible refine gate_dst (N:=13) rfl ?_);(try(refine gate_guard (by rfl) ?_;dsimp only));refine gl_ (some 13) Try.func21 #[.agg #[.int .i64 a0_0,.int .i64 a0_1,.slice A0_2 l0_2.length c0_2],.agg #[.int .i64 a1_0,.int .i64 a1_1]] rfl ?_;(with_reducible refine(board_Get.calls a0_0 a0_1 _ _ l0_2 a1_0 a1_1 t1 t2 t3 t4 t5 t6 false _ ?s1 ?s2 E0.out).mono ?_);(case s1=>exact Kd.C_below HR0.out HT.out.below);(case s2=>exact HC0.out);rintro e_ w_13 ⟨rfl,hb⟩;refine⟨_,rfl,?_⟩;replace HT:=zB (HT.out.step hb);clear hb))
  replace HT:=zB (HT.out.pushB #[.int .i64 t1,.int .i64 t2,.int .i64 t3,.int .i64 t4,.int .i64 t5,.int .i64 t6] 28)
  go_ret2
  exact⟨rfl,HT.out.below⟩
theorem due_At.main (k:Nat) (a0_0 a0_1:Int) (A0_2:Option Addr) (c0_2:Nat) (l0_2:List S28) (a1_0 a1_1 a2:Int) (t1 t2 t3 t4 t5 t6 p1 p2 p3 p4 p5 p6:Int) (w:World) (hr0_2:Kd.C k28 w A0_2 l0_2.length l0_2) (hc0_2:l0_2.length≤c0_2) (E0:board_Get.f a0_0 a0_1 l0_2 a1_0 a1_1=some (t1,t2,t3,t4,t5,t6,true)) (E1:alarm_Pass.f k t1 t2 t3 t4 t5 t6 a2=some (p1,p2,p3,p4,p5,p6)):
    Calls Try.prog 41 #[.agg #[.int .i64 a0_0,.int .i64 a0_1,.slice A0_2 l0_2.length c0_2],.agg #[.int .i64 a1_0,.int .i64 a1_1],.int .i64 a2] w fun e w'=>e=.returned (.tuple #[.int .i64 p3,.bool true])∧Below w.heap.size w w':=by
  have hu0:=Try.underlying24
  have hu1:=Try.underlying28
  have hu2:=Try.underlying26
  have HR0:=zB hr0_2
  have HC0:=zB hc0_2
  clear hr0_2 hc0_2
  replace E0:=zB E0
  replace E1:=zB E1
  have hfl:=due_At.fld p1 p2 p3 p4 p5 p6
  have HT:=zB (T.Tell.init w)
  go_enter Try.func41,Try.ntmps41
  go_wp2_with (first|((with_reducible refine gate_dst (N:=3) rfl ?_);refine be_ (N:=3) (cs:=#[.int .i64 a0_0,.int .i64 a0_1,.slice A0_2 l0_2.length c0_2]) (t:=24) ?_;intro g_b hg w_3 hbox hb;replace HT:=zB (HT.out.pushBe hbox hg hb);clear hb hbox hg)|((with_reducible refine gate_dst (N:=4) rfl ?_);refine be_ (N:=4) (cs:=#[.int .i64 a1_0,.int .i64 a1_1]) (t:=26) ?_;intro g_s hg w_4 hbox hb;replace HT:=zB (HT.out.pushBe hbox hg hb);clear hb hbox hg;have hx0_b:=(HT.out.bx 1 rfl 0).trans rfl;have hx1_b:=(HT.out.bx 1 rfl 1).trans rfl;have hx2_b:=(HT.out.bx 1 rfl 2).trans rfl;have hz_b:=(HT.out.far 1 rfl (k:=g_b) rfl).1;have hx0_s:=(HT.out.bx 0 rfl 0).trans rfl;have hx1_s:=(HT.out.bx 0 rfl 1).trans rfl)|((with_reducible refine gate_dst (N:=13) rfl ?_);(try(refine gate_guard (by rfl) ?_;dsimp only));refine gl_ (some 13) Try.func21 #[.agg #[.int .i64 a0_0,.int .i64 a0_1,.slice A0_2 l0_2.length c0_2],.agg #[.int .i64 a1_0,.int .i64 a1_1]] rfl ?_;(with_reducible refine(board_Get.calls a0_0 a0_1 _ _ l0_2 a1_0 a1_1 t1 t2 t3 t4 t5 t6 true _ ?s1 ?s2 E0.out).mono ?_);(case s1=>exact Kd.C_below HR0.out HT.out.below);(case s2=>exact HC0.out);rintro e_ w_13 ⟨rfl,hb⟩;refine⟨_,rfl,?_⟩;replace HT:=zB (HT.out.step hb);clear hb)|((with_reducible refine gate_dst (N:=20) rfl ?_);(try(refine gate_guard (by rfl) ?_;dsimp only));replace HT:=zB (HT.out.pushB #[.int .i64 t1,.int .i64 t2,.int .i64 t3,.int .i64 t4,.int .i64 t5,.int .i64 t6] 28);refine gl_ (some 20) Try.func34 #[.agg #[.int .i64 t1,.int .i64 t2,.int .i64 t3,.int .i64 t4,.int .i64 t5,.int .i64 t6],.int .i64 a2] rfl ?_;(with_reducible refine(alarm_Pass.calls k t1 t2 t3 t4 t5 t6 a2 p1 p2 p3 p4 p5 p6 _ E1.out).mono ?_);rintro e_ w_20 ⟨rfl,hb⟩;refine⟨_,rfl,?_⟩;replace HT:=zB (HT.out.step hb);clear hb))
  go_ret2
  exact⟨rfl,HT.out.below⟩
theorem due_At.calls (k:Nat) (a0_0 a0_1:Int) (A0_2:Option Addr) (c0_2:Nat) (l0_2:List S28) (a1_0 a1_1 a2:Int) (r1:Int) (r2:Bool) (w:World) (hr0_2:Kd.C k28 w A0_2 l0_2.length l0_2) (hc0_2:l0_2.length≤c0_2) (h:due_At.f k a0_0 a0_1 l0_2 a1_0 a1_1 a2=some (r1,r2)):
    Calls Try.prog 41 #[.agg #[.int .i64 a0_0,.int .i64 a0_1,.slice A0_2 l0_2.length c0_2],.agg #[.int .i64 a1_0,.int .i64 a1_1],.int .i64 a2] w fun e w'=>e=.returned (.tuple #[.int .i64 r1,.bool r2])∧Below w.heap.size w w':=by
  obtain⟨⟨t1,t2,t3,t4,t5,t6,t7⟩,h1,h⟩:=zL h
  cases t7 with
  | false=>
    simp only[Bool.false_eq_true,if_false] at h
    obtain⟨rfl,rfl⟩:0=r1∧false=r2:=by simpa only[zc,Prod.mk.injEq] using h
    exact due_At.e1 k a0_0 a0_1 A0_2 c0_2 l0_2 a1_0 a1_1 a2 t1 t2 t3 t4 t5 t6 w hr0_2 hc0_2 h1
  | true=>
    simp only[if_true] at h
    obtain⟨⟨p1,p2,p3,p4,p5,p6⟩,h2,h⟩:=zL h
    obtain⟨rfl,rfl⟩:p3=r1∧true=r2:=by simpa only[zc,Prod.mk.injEq] using h
    exact due_At.main k a0_0 a0_1 A0_2 c0_2 l0_2 a1_0 a1_1 a2 t1 t2 t3 t4 t5 t6 p1 p2 p3 p4 p5 p6 w hr0_2 hc0_2 h1 h2
theorem due_At.mono: ∀a0 a1 a2 a3 a4 a5 k,LeO (due_At.f k a0 a1 a2 a3 a4 a5) (due_At.f (k+1) a0 a1 a2 a3 a4 a5):=by
  intro a0 a1 a2 a3 a4 a5 k
  unfold due_At.f
  exact ze (LeO.refl _) (fun g=>zg (ze (alarm_Pass.mono _ _ _ _ _ _ _ k) (fun _=>LeO.refl _)) (LeO.refl _))
def watchmanref08_Get.l0:Nat→Int→Int→Int→List (S28)→Int→Int→Option (Int×Int×Int×Int×Int×Int×Bool)
 |0,_,_,_,_,_,_=>none
 |k+1,x6,x304000,x304001,x304002,x305000,x305001=>if x6<(x304002.length:Int) then(if 0≤x6 then(if(((rd_T28 x304002 x6).f0.f0)==x305000&&(((rd_T28 x304002 x6).f0.f1)==x305001))=true then(some ((rd_T28 x304002 x6).f0.f0,(rd_T28 x304002 x6).f0.f1,(rd_T28 x304002 x6).f1,(rd_T28 x304002 x6).f2,(rd_T28 x304002 x6).f3,(rd_T28 x304002 x6).f4,true)) else(watchmanref08_Get.l0 k (wrap64 (x6+1)) x304000 x304001 x304002 x305000 x305001)) else(none)) else(some (0,0,0,0,0,0,false))
def watchmanref08_Get.f (k:Nat) (a0_0:Int) (a0_1:Int) (l0_2:List (S28)) (a1_0:Int) (a1_1:Int):Option (Int×Int×Int×Int×Int×Int×Bool):=watchmanref08_Get.l0 k 0 a0_0 a0_1 l0_2 a1_0 a1_1
theorem watchmanref08_Get.mono_l: ∀k,(∀y0 y1 y2 y3 y4 y5,LeO (watchmanref08_Get.l0 k y0 y1 y2 y3 y4 y5) (watchmanref08_Get.l0 (k+1) y0 y1 y2 y3 y4 y5))
 |0=>fun _ _ _ _ _ _ r h=>by simp[watchmanref08_Get.l0] at h
 |k+1=>by
  have ih0:=watchmanref08_Get.mono_l k
  ·intro y0 y1 y2 y3 y4 y5
   unfold watchmanref08_Get.l0
   repeat' first
   |(with_reducible exact ih0 _ _ _ _ _ _)
   |(with_reducible exact LeO.refl _)
   |(with_reducible exact zf _)
   |(with_reducible refine zg ?_ ?_)
   |(with_reducible refine ze ?_ (fun _=>?_))
theorem watchmanref08_Get.mono: ∀a0 a1 a2 a3 a4 k,LeO (watchmanref08_Get.f k a0 a1 a2 a3 a4) (watchmanref08_Get.f (k+1) a0 a1 a2 a3 a4):=by
 intro a0 a1 a2 a3 a4 k
 have ih0:=watchmanref08_Get.mono_l k
 unfold watchmanref08_Get.f
 repeat' first
   |(with_reducible exact ih0 _ _ _ _ _ _)
   |(with_reducible exact LeO.refl _)
   |(with_reducible exact zf _)
   |(with_reducible refine zg ?_ ?_)
   |(with_reducible refine ze ?_ (fun _=>?_))
set_option maxHeartbeats 8000000 in
set_option maxRecDepth 100000 in
theorem watchmanref08_Get.calls (k:Nat) (a0_0:Int) (a0_1:Int) (A0_2:Option Addr) (c0_2:Nat) (l0_2:List (S28)) (a1_0:Int) (a1_1:Int) (r1:Int) (r2:Int) (r3:Int) (r4:Int) (r5:Int) (r6:Int) (r7:Bool) (w:World) (hr0_2:Kd.C k28 w A0_2 l0_2.length l0_2) (hc0_2:l0_2.length≤c0_2) (h:watchmanref08_Get.f k a0_0 a0_1 l0_2 a1_0 a1_1=some (r1,r2,r3,r4,r5,r6,r7)):
  Calls Try.prog 22 #[.agg #[.int .i64 a0_0,.int .i64 a0_1,.slice A0_2 l0_2.length c0_2],.agg #[.int .i64 a1_0,.int .i64 a1_1]] w fun e w'=>e=.returned (.tuple #[.agg #[.int .i64 r1,.int .i64 r2,.int .i64 r3,.int .i64 r4,.int .i64 r5,.int .i64 r6],.bool r7])∧Below w.heap.size w w':=by
 have hu24:=Try.underlying24
 have hu26:=Try.underlying26
 have hu28:=Try.underlying28
 have HR0_2:=zB hr0_2
 have HC0_2:=zB hc0_2
 clear hr0_2 hc0_2
 have HB:=zB (Below.refl w.heap.size w)
 have H:(watchmanref08_Get.l0 k 0 a0_0 a0_1 l0_2 a1_0 a1_1)=some (r1,r2,r3,r4,r5,r6,r7):=h
 clear h
 have H':=zB H
 clear H
 go_enter Try.func22,Try.ntmps22
 go_wp2_with (first|((with_reducible refine gate_dst (N:=2) rfl ?_);refine be_ (N:=2) (cs:=#[.int .i64 a0_0,.int .i64 a0_1,.slice A0_2 l0_2.length c0_2]) (t:=24) ?_;intro gb303 hg w3 hbox hb;have BK303:=zB hbox;have GW303:=gw_ hg HB;have GE303:=GW303;replace HB:=zB (zQ HB.out hb);clear hb hbox hg)|((with_reducible refine gate_dst (N:=3) rfl ?_);refine be_ (N:=3) (cs:=#[.int .i64 a1_0,.int .i64 a1_1]) (t:=26) ?_;intro gb304 hg w4 hbox hb;have BK304:=zB hbox;have GE304:=gx_ hg (show Below w.heap.size w _ from hb_ HB);have GW304:=GE304;replace HB:=zB (zQ (hb_ HB) hb);have NB303_304:=nb_ BK303 hg;have NB304_303:=nc_ BK303 hg;replace BK303:=bl_ BK303 hb;clear hb hbox hg)|((with_reducible refine gate_dst (N:=4) rfl ?_);refine be_ (N:=4) (cs:=#[.int .i64 0,.int .i64 0,.int .i64 0,.int .i64 0,.int .i64 0,.int .i64 0]) (t:=28) ?_;intro gb305 hg w5 hbox hb;have BK305:=zB hbox;have GE305:=gx_ hg (show Below w.heap.size w _ from hb_ HB);have GW305:=GE305;replace HB:=zB (zQ (hb_ HB) hb);have NB303_305:=nb_ BK303 hg;have NB305_303:=nc_ BK303 hg;replace BK303:=bl_ BK303 hb;have NB304_305:=nb_ BK304 hg;have NB305_304:=nc_ BK304 hg;replace BK304:=bl_ BK304 hb;clear hb hbox hg))
 (try simp only[Act.put,zE,zH,zI])
 go_loopg [6] k (fun kq v6 w'=> ∃(x6_1:Int) (x306000_1:Int) (x306001_1:Int) (x306002_1:Int) (x306003_1:Int) (x306004_1:Int) (x306005_1:Int),v6=.int .i64 x6_1∧Aside0 (watchmanref08_Get.l0 kq x6_1 a0_0 a0_1 l0_2 a1_0 a1_1=some (r1,r2,r3,r4,r5,r6,r7))∧Aside0 (kq≤k)∧Aside0 (w'.heap[gb303]?=some (.cells #[.int .i64 a0_0,.int .i64 a0_1,(.slice A0_2 l0_2.length c0_2)] 24 (0,0)))∧Aside0 (w'.heap[gb304]?=some (.cells #[.int .i64 a1_0,.int .i64 a1_1] 26 (0,0)))∧Aside0 (w'.heap[gb305]?=some (.cells #[.int .i64 x306000_1,.int .i64 x306001_1,.int .i64 x306002_1,.int .i64 x306003_1,.int .i64 x306004_1,.int .i64 x306005_1] 28 (0,0)))∧Aside0 (Below w.heap.size w w'))
 case atStart=>exact⟨(0),(0),(0),(0),(0),(0),(0),rs_,H',⟨za _⟩,⟨bk_ BK303⟩,⟨bk_ BK304⟩,⟨bk_ BK305⟩,⟨hb_ HB⟩⟩
 case round=>
  clear H'
  try clear c2;try clear p2
  obtain⟨x6_1,x306000_1,x306001_1,x306002_1,x306003_1,x306004_1,x306005_1,rfl,HA,HK1,BK303,BK304,BK305,HB⟩:=hrel
  cases gk with
  |zero=>exact absurd HA.out (by simp[watchmanref08_Get.l0])
  |succ k1=>
   have H:=HA.out
   clear HA
   simp only[watchmanref08_Get.l0] at H
   by_cases c6:x6_1<(l0_2.length:Int)
   ·rw[if_pos c6] at H
    have c6b0:=zO c6
    clear c6
    obtain⟨c7,H⟩:=gd_ H
    have c7b0:=zO c7
    clear c7
    by_cases c8:(((rd_T28 l0_2 x6_1).f0.f0)==a1_0&&(((rd_T28 l0_2 x6_1).f0.f1)==a1_1))=true
    ·rw[if_pos c8] at H
     have c8b0:(((rd_T28 l0_2 x6_1).f0.f0)==a1_0&&(((rd_T28 l0_2 x6_1).f0.f1)==a1_1))=true:=c8
     (try(have c8b1:decide (((rd_T28 l0_2 x6_1).f0.f0)=a1_0&&(((rd_T28 l0_2 x6_1).f0.f1)==a1_1))=true:=by simpa using c8))
     (try(have c8b2:(((rd_T28 l0_2 x6_1).f0.f0)==a1_0&&(((rd_T28 l0_2 x6_1).f0.f1)==a1_1))=true:=by simpa using c8))
     clear c8
     simp only[zc,Prod.mk.injEq] at H
     obtain⟨rfl,rfl,rfl,rfl,rfl,rfl,rfl⟩:=H
     have hnb9:=NB303_304.out
     have hnc9:=NB304_303.out
     have hnb10:=NB303_305.out
     have hnc10:=NB305_303.out
     have hcz11:=zD BK303.out
     have hfz11:=zC BK303.out
     have p306:0≤(x6_1:Int):=zJ as_
     have q306:x6_1<(l0_2.length:Int):=zJ as_
     obtain⟨ad306,e306,hx306_0,hx306_1,hx306_2,hx306_3,hx306_4,hx306_5⟩:=at_T28 HR0_2.out x6_1 p306 q306
     cases e306
     replace hx306_0:=cb_ HB hx306_0
     replace hx306_1:=cb_ HB hx306_1
     replace hx306_2:=cb_ HB hx306_2
     replace hx306_3:=cb_ HB hx306_3
     replace hx306_4:=cb_ HB hx306_4
     replace hx306_5:=cb_ HB hx306_5
     replace p306:=eq_true p306
     replace q306:=eq_true q306
     have hnb12:=NB304_305.out
     have hnc12:=NB305_304.out
     have hcz13:=zD BK304.out
     have p307:0≤(x6_1:Int):=zJ as_
     have q307:x6_1<(l0_2.length:Int):=zJ as_
     obtain⟨ad307,e307,hx307_0,hx307_1,hx307_2,hx307_3,hx307_4,hx307_5⟩:=at_T28 HR0_2.out x6_1 p307 q307
     obtain rfl:ad306=ad307:=(by injection e307)
     replace hx307_0:=cb_ HB hx307_0
     replace hx307_1:=cb_ HB hx307_1
     replace hx307_2:=cb_ HB hx307_2
     replace hx307_3:=cb_ HB hx307_3
     replace hx307_4:=cb_ HB hx307_4
     replace hx307_5:=cb_ HB hx307_5
     replace p307:=eq_true p307
     replace q307:=eq_true q307
     have hcz14:=zD BK305.out
     have hfz14:=zC BK305.out
     go_wp2
     repeat(go_quiet (fail);try go_wp2)
     refine bodyPost_ret (results_ct rfl _ _ gb305 28 #[.int .i64 ((rd_T28 l0_2 x6_1).f0.f0),.int .i64 ((rd_T28 l0_2 x6_1).f0.f1),.int .i64 ((rd_T28 l0_2 x6_1).f1),.int .i64 ((rd_T28 l0_2 x6_1).f2),.int .i64 ((rd_T28 l0_2 x6_1).f3),.int .i64 ((rd_T28 l0_2 x6_1).f4)] (0,0) _ rfl (by refine zZ (cs:=#[.int .i64 ((rd_T28 l0_2 x6_1).f0.f0),.int .i64 ((rd_T28 l0_2 x6_1).f0.f1),.int .i64 ((rd_T28 l0_2 x6_1).f1),.int .i64 ((rd_T28 l0_2 x6_1).f2),.int .i64 ((rd_T28 l0_2 x6_1).f3),.int .i64 x306005_1]) ?_ 5 _ rfl;refine zZ (cs:=#[.int .i64 ((rd_T28 l0_2 x6_1).f0.f0),.int .i64 ((rd_T28 l0_2 x6_1).f0.f1),.int .i64 ((rd_T28 l0_2 x6_1).f1),.int .i64 ((rd_T28 l0_2 x6_1).f2),.int .i64 x306004_1,.int .i64 x306005_1]) ?_ 4 _ rfl;refine zZ (cs:=#[.int .i64 ((rd_T28 l0_2 x6_1).f0.f0),.int .i64 ((rd_T28 l0_2 x6_1).f0.f1),.int .i64 ((rd_T28 l0_2 x6_1).f1),.int .i64 x306003_1,.int .i64 x306004_1,.int .i64 x306005_1]) ?_ 3 _ rfl;refine zZ (cs:=#[.int .i64 ((rd_T28 l0_2 x6_1).f0.f0),.int .i64 ((rd_T28 l0_2 x6_1).f0.f1),.int .i64 x306002_1,.int .i64 x306003_1,.int .i64 x306004_1,.int .i64 x306005_1]) ?_ 2 _ rfl;refine zZ (cs:=#[.int .i64 ((rd_T28 l0_2 x6_1).f0.f0),.int .i64 x306001_1,.int .i64 x306002_1,.int .i64 x306003_1,.int .i64 x306004_1,.int .i64 x306005_1]) ?_ 1 _ rfl;refine zZ (cs:=#[.int .i64 x306000_1,.int .i64 x306001_1,.int .i64 x306002_1,.int .i64 x306003_1,.int .i64 x306004_1,.int .i64 x306005_1]) ?_ 0 _ rfl;exact BK305.out) Try.underlying28 rfl (by kernel_rfl)) rfl ?_
     exact⟨ew_,hb_ HB⟩
    ·rw[if_neg c8] at H
     have c8b0:(((rd_T28 l0_2 x6_1).f0.f0)==a1_0&&(((rd_T28 l0_2 x6_1).f0.f1)==a1_1))=false:=by simpa using c8
     (try(have c8b1:decide (((rd_T28 l0_2 x6_1).f0.f0)=a1_0&&(((rd_T28 l0_2 x6_1).f0.f1)==a1_1))=false:=by simpa using c8))
     (try(have c8b2:(((rd_T28 l0_2 x6_1).f0.f0)==a1_0&&(((rd_T28 l0_2 x6_1).f0.f1)==a1_1))=false:=by simpa using c8))
     (try(have c8b3: ¬(((rd_T28 l0_2 x6_1).f0.f0)=a1_0&&(((rd_T28 l0_2 x6_1).f0.f1)==a1_1)):=by simpa using c8))
     clear c8
     have H':=zB H
     clear H
     have hnb15:=NB303_304.out
     have hnc15:=NB304_303.out
     have hnb16:=NB303_305.out
     have hnc16:=NB305_303.out
     have hcz17:=zD BK303.out
     have hfz17:=zC BK303.out
     have p306:0≤(x6_1:Int):=zJ as_
     have q306:x6_1<(l0_2.length:Int):=zJ as_
     obtain⟨ad306,e306,hx306_0,hx306_1,hx306_2,hx306_3,hx306_4,hx306_5⟩:=at_T28 HR0_2.out x6_1 p306 q306
     cases e306
     replace hx306_0:=cb_ HB hx306_0
     replace hx306_1:=cb_ HB hx306_1
     replace hx306_2:=cb_ HB hx306_2
     replace hx306_3:=cb_ HB hx306_3
     replace hx306_4:=cb_ HB hx306_4
     replace hx306_5:=cb_ HB hx306_5
     replace p306:=eq_true p306
     replace q306:=eq_true q306
     have hnb18:=NB304_305.out
     have hnc18:=NB305_304.out
     have hcz19:=zD BK304.out
     go_wp2
     repeat(go_quiet (fail);try go_wp2)
     go_roundg k1
     case measure=>have:=HK1.out;omega
     case rel=>exact⟨(wrap64 (x6_1+1)),(x306000_1),(x306001_1),(x306002_1),(x306003_1),(x306004_1),(x306005_1),rs_,H',⟨za_ HK1⟩,⟨bk_ BK303⟩,⟨bk_ BK304⟩,⟨bk_ BK305⟩,⟨hb_ HB⟩⟩
   ·rw[if_neg c6] at H
    have c6b0:=zY c6
    clear c6
    simp only[zc,Prod.mk.injEq] at H
    obtain⟨rfl,rfl,rfl,rfl,rfl,rfl,rfl⟩:=H
    have hnb20:=NB303_304.out
    have hnc20:=NB304_303.out
    have hnb21:=NB303_305.out
    have hnc21:=NB305_303.out
    have hcz22:=zD BK303.out
    have hfz22:=zC BK303.out
    have hnb23:=NB305_304.out
    have hnc23:=NB304_305.out
    have hcz24:=zD BK305.out
    have hfz24:=zC BK305.out
    go_wp2
    repeat(go_quiet (fail);try go_wp2)
    refine bodyPost_ret (results_ct rfl _ _ gb305 28 #[.int .i64 0,.int .i64 0,.int .i64 0,.int .i64 0,.int .i64 0,.int .i64 0] (0,0) _ rfl (by refine zZ (cs:=#[.int .i64 0,.int .i64 0,.int .i64 0,.int .i64 0,.int .i64 0,.int .i64 x306005_1]) ?_ 5 _ rfl;refine zZ (cs:=#[.int .i64 0,.int .i64 0,.int .i64 0,.int .i64 0,.int .i64 x306004_1,.int .i64 x306005_1]) ?_ 4 _ rfl;refine zZ (cs:=#[.int .i64 0,.int .i64 0,.int .i64 0,.int .i64 x306003_1,.int .i64 x306004_1,.int .i64 x306005_1]) ?_ 3 _ rfl;refine zZ (cs:=#[.int .i64 0,.int .i64 0,.int .i64 x306002_1,.int .i64 x306003_1,.int .i64 x306004_1,.int .i64 x306005_1]) ?_ 2 _ rfl;refine zZ (cs:=#[.int .i64 0,.int .i64 x306001_1,.int .i64 x306002_1,.int .i64 x306003_1,.int .i64 x306004_1,.int .i64 x306005_1]) ?_ 1 _ rfl;refine zZ (cs:=#[.int .i64 x306000_1,.int .i64 x306001_1,.int .i64 x306002_1,.int .i64 x306003_1,.int .i64 x306004_1,.int .i64 x306005_1]) ?_ 0 _ rfl;exact BK305.out) Try.underlying28 rfl (by kernel_rfl)) rfl ?_
    exact⟨ew_,hb_ HB⟩
end Go.Proofs.Ytcfpbmdndapeaaa.F
