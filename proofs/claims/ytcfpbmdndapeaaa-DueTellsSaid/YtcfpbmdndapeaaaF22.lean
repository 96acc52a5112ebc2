-- Written by a program of this session (xprint.py), out of the translation and of contracts proved by hand.
import Derived.Test.YtcfpbmdndapeaaaF0
import Derived.Test.YtcfpbmdndapeaaaF14
import Derived.Test.YtcfpbmdndapeaaaF16
namespace Go.Proofs.Ytcfpbmdndapeaaa.F
open Go.RowKit Go.Proofs.YtcfpbmdndapeaaaV.PrintWords Go.Proofs.YtcfpbmdndapeaaaV.PrintLast Go.Proofs.YtcfpbmdndapeaaaV.PrintMore
attribute [local go_sem] max2_int min2_int max_two min_two max_three min_three max_four min_four
set_option linter.unusedVariables false
set_option linter.unusedSimpArgs false
theorem due_Next.first (k:Nat) (A0:Option Addr) (c0:Nat) (l0:List S28) (y0 y1 y2 y3 y4 y5:Int) (y6:Bool) (w:World) (hr0:Kd.C k28 w A0 l0.length l0) (hc0:l0.length≤c0) (h:due_First.g k l0=some (⟨⟨y0,y1⟩,y2,y3,y4,y5⟩,y6)):
    Calls Try.prog 43 #[.slice A0 l0.length c0] w fun e w'=>e=.returned (.tuple #[.agg #[.int .i64 y0,.int .i64 y1,.int .i64 y2,.int .i64 y3,.int .i64 y4,.int .i64 y5],.bool y6])∧Below w.heap.size w w':=due_First.main k A0 c0 l0 ⟨⟨y0,y1⟩,y2,y3,y4,y5⟩ y6 w hr0 hc0 h
def due_Next.f (k:Nat) (a0_0 a0_1:Int) (l0_2:List S28):Option (Int×Bool):=(due_First.g k l0_2).map (fun p=>(p.1.f4,p.2))
theorem due_Next.mono: ∀a0 a1 a2 k,LeO (due_Next.f k a0 a1 a2) (due_Next.f (k+1) a0 a1 a2):=by
  intro a0 a1 a2 k r h
  obtain⟨p,hp,he⟩:=Option.map_eq_some_iff.1 h
  exact Option.map_eq_some_iff.2 ⟨p,due_First.g_mono k a2 p hp,he⟩
set_option maxHeartbeats 4000000 in
set_option maxRecDepth 100000 in
theorem due_Next.calls (k:Nat) (a0_0 a0_1:Int) (A0_2:Option Addr) (c0_2:Nat) (l0_2:List S28) (r1:Int) (r2:Bool) (w:World) (hr0_2:Kd.C k28 w A0_2 l0_2.length l0_2) (hc0_2:l0_2.length≤c0_2) (h:due_Next.f k a0_0 a0_1 l0_2=some (r1,r2)):
    Calls Try.prog 39 #[.agg #[.int .i64 a0_0,.int .i64 a0_1,.slice A0_2 l0_2.length c0_2]] w fun e w'=>e=.returned (.tuple #[.int .i64 r1,.bool r2])∧Below w.heap.size w w':=by
  have hu0:=Try.underlying24
  have hu1:=Try.underlying28
  have hu2:=Try.underlying26
  have HR0:=zB hr0_2
  have HC0:=zB hc0_2
  obtain⟨⟨⟨⟨y0,y1⟩,y2,y3,y4,y5⟩,y6⟩,E0,h2⟩:=Option.map_eq_some_iff.1 h
  obtain⟨rfl,rfl⟩:y5=r1∧y6=r2:=by simpa only[Prod.mk.injEq] using h2
  replace E0:=zB E0
  clear hr0_2 hc0_2 h h2
  have HT:=zB (T.Tell.init w)
  go_enter Try.func39,Try.ntmps39
  go_wp2_with (first|((with_reducible refine gate_dst (N:=1) rfl ?_);refine be_ (N:=1) (cs:=#[.int .i64 a0_0,.int .i64 a0_1,.slice A0_2 l0_2.length c0_2]) (t:=24) ?_;intro g_b hg w_1 hbox hb;replace HT:=zB (HT.out.pushBe hbox hg hb);clear hb hbox hg;have hx0_b:=(HT.out.bx 0 rfl 0).trans rfl;have hx1_b:=(HT.out.bx 0 rfl 1).trans rfl;have hx2_b:=(HT.out.bx 0 rfl 2).trans rfl;have hz_b:=(HT.out.far 0 rfl (k:=g_b) rfl).1)|((with_reducible refine gate_dst (N:=9) rfl ?_);(try(refine gate_guard (by rfl) ?_;dsimp only));refine gl_ (some 9) Try.func43 #[.slice A0_2 l0_2.length c0_2] rfl ?_;(with_reducible refine(due_Next.first k A0_2 c0_2 l0_2 y0 y1 y2 y3 y4 y5 y6 _ ?s1 ?s2 E0.out).mono ?_);(case s1=>exact Kd.C_below HR0.out HT.out.below);(case s2=>exact HC0.out);rintro e_ w_9 ⟨rfl,hb⟩;refine⟨_,rfl,?_⟩;replace HT:=zB (HT.out.step hb);clear hb))
  repeat(go_quiet (fail))
  replace HT:=zB (HT.out.pushB #[.int .i64 y0,.int .i64 y1,.int .i64 y2,.int .i64 y3,.int .i64 y4,.int .i64 y5] 28)
  go_ret2
  exact⟨rfl,HT.out.below⟩
def watchmanref09_waits.f (a0_0:Int) (a0_1:Int) (a0_2:Int) (a0_3:Int) (a0_4:Int) (a0_5:Int):Option (Bool):=if a0_2=1 then(some true) else(some (a0_2==4))
set_option maxHeartbeats 8000000 in
set_option maxRecDepth 100000 in
theorem watchmanref09_waits.calls (a0_0:Int) (a0_1:Int) (a0_2:Int) (a0_3:Int) (a0_4:Int) (a0_5:Int) (r:Bool) (w:World) (h:watchmanref09_waits.f a0_0 a0_1 a0_2 a0_3 a0_4 a0_5=some r):
  Calls Try.prog 75 #[.agg #[.int .i64 a0_0,.int .i64 a0_1,.int .i64 a0_2,.int .i64 a0_3,.int .i64 a0_4,.int .i64 a0_5]] w fun e w'=>e=.returned (.bool r)∧Below w.heap.size w w':=by
 have hu28:=Try.underlying28
 have HB:=zB (Below.refl w.heap.size w)
 have H:(if a0_2=1 then(some true) else(some (a0_2==4)))=some r:=h
 clear h
 by_cases c2:a0_2=1
 ·rw[if_pos c2] at H
  have c2b0:=beq_iff_eq.mpr c2
  have c2b1:=bne_eq_false_iff_eq.mpr c2
  clear c2
  obtain rfl:=zW H
  go_enter Try.func75,Try.ntmps75
  go_wp2_with (first|((with_reducible refine gate_dst (N:=1) rfl ?_);refine be_ (N:=1) (cs:=#[.int .i64 a0_0,.int .i64 a0_1,.int .i64 a0_2,.int .i64 a0_3,.int .i64 a0_4,.int .i64 a0_5]) (t:=28) ?_;intro gb302 hg w3 hbox hb;have BK302:=zB hbox;have GW302:=gw_ hg HB;have GE302:=GW302;replace HB:=zB (zQ HB.out hb);clear hb hbox hg;have hcz4:=zD BK302.out;have hfz4:=zC BK302.out))
  go_ret
  exact⟨ew_,hb_ HB⟩
 ·rw[if_neg c2] at H
  have c2b0:=beq_eq_false_iff_ne.mpr c2
  have c2b1:=bne_iff_ne.mpr c2
  obtain rfl:=zW H
  go_enter Try.func75,Try.ntmps75
  go_wp2_with (first|((with_reducible refine gate_dst (N:=1) rfl ?_);refine be_ (N:=1) (cs:=#[.int .i64 a0_0,.int .i64 a0_1,.int .i64 a0_2,.int .i64 a0_3,.int .i64 a0_4,.int .i64 a0_5]) (t:=28) ?_;intro gb302 hg w5 hbox hb;have BK302:=zB hbox;have GW302:=gw_ hg HB;have GE302:=GW302;replace HB:=zB (zQ HB.out hb);clear hb hbox hg;have hcz6:=zD BK302.out;have hfz6:=zC BK302.out))
  go_ret
  exact⟨ew_,hb_ HB⟩
def watchmanref09_First.tk (l0:List S28) (b i:Int):Option Bool:=(watchmanref09_waits.f (rd_T28 l0 i).f0.f0 (rd_T28 l0 i).f0.f1 (rd_T28 l0 i).f1 (rd_T28 l0 i).f2 (rd_T28 l0 i).f3 (rd_T28 l0 i).f4).bind fun t=>if t=true then(if b<0 then some true else if(rd_T28 l0 i).f4<(rd_T28 l0 b).f4 then some true else if(rd_T28 l0 i).f4=(rd_T28 l0 b).f4 then watchmanref04_Less.f (rd_T28 l0 i).f0.f0 (rd_T28 l0 i).f0.f1 (rd_T28 l0 b).f0.f0 (rd_T28 l0 b).f0.f1 else some false) else some false
def watchmanref09_First.bs (l0:List S28):Nat→Int
  |0=> -1
  |i+1=>if(watchmanref09_First.tk l0 (watchmanref09_First.bs l0 i) (i:Int)).getD false=true then(i:Int) else watchmanref09_First.bs l0 i
theorem watchmanref09_First.bs_lt (l0:List S28): ∀i:Nat,-1≤watchmanref09_First.bs l0 i∧watchmanref09_First.bs l0 i<i
  |0=>by unfold watchmanref09_First.bs;omega
  | i+1=>by
    have:=watchmanref09_First.bs_lt l0 i
    unfold watchmanref09_First.bs
    split<;>omega
def watchmanref09_First.f (l0:List S28):Option (Int×Int×Int×Int×Int×Int×Bool):=if(List.range l0.length).all (fun i=>(watchmanref09_First.tk l0 (watchmanref09_First.bs l0 i) (i:Int)).isSome)=true then(if watchmanref09_First.bs l0 l0.length<0 then some (0,0,0,0,0,0,false) else some ((rd_T28 l0 (watchmanref09_First.bs l0 l0.length)).f0.f0,(rd_T28 l0 (watchmanref09_First.bs l0 l0.length)).f0.f1,(rd_T28 l0 (watchmanref09_First.bs l0 l0.length)).f1,(rd_T28 l0 (watchmanref09_First.bs l0 l0.length)).f2,(rd_T28 l0 (watchmanref09_First.bs l0 l0.length)).f3,(rd_T28 l0 (watchmanref09_First.bs l0 l0.length)).f4,true)) else none
def watchmanref09_First.T5:Bool×List (List Nat×List Nat):=(true,[([],[]),([],[]),([0,1],[0,1]),([2],[2]),([3],[3]),([4,4],[4]),([5],[5]),([6,5],[5,6]),([7,5,5],[5,7]),([8],[8]),([8],[8]),([9,10,8],[8,9,10]),([11,8],[8,11]),([12,8],[8,12]),([8],[8]),([8],[8]),([14,15,8],[8,14,15]),([16,8],[8,16]),([17,8],[8,17]),([13,18,8],[8,13,18]),([8,19,5],[5,8,19]),([20,8,5],[5,20]),([21],[21]),([21],[21]),([22,23,21],[21,22,23]),([24,21],[21,24]),([25,21],[21,25]),([21],[21]),([21],[21]),([27,28,21],[21,27,28]),([29,21],[21,29]),([30,21],[21,30]),([26,31,21],[21,26,31]),([32,21,21],[21,32]),([33],[33]),([33],[33]),([34,35,33],[33,34,35]),([36,33],[33,36]),([37,33],[33,37]),([33],[33]),([33],[33]),([39,40,33],[33,39,40]),([41,33],[33,41]),([42,33],[33,42]),([38,43,33,33],[33,38,43]),([33,44,21],[21,33,44]),([21,45,5],[5,21,45]),([5,46],[5,46])])
def watchmanref09_First.B5:List Nat:=[0,0,3,7,15,31,63,127,255,511,511,2047,4095,8191,511,511,49663,115199,246271,524287,1048575,2097151,4194303,4194303,16777215,33554431,67108863,4194303,4194303,406847487,943718399,2017460223,4294967295,8589934591,17179869183,17179869183,68719476735,137438953471,274877906943,17179869183,17179869183,1666447310847,3865470566399,8263517077503,17592186044415,35184372088831,70368744177663,140737488355327]
theorem watchmanref09_First.tab5:rtab .any (opsOf Try.f44 5)=watchmanref09_First.T5:=by kernel_rfl
theorem watchmanref09_First.bits5:waitsOk watchmanref09_First.T5.2 watchmanref09_First.B5=true:=by kernel_rfl
set_option maxHeartbeats 8000000 in
set_option maxRecDepth 100000 in
theorem watchmanref09_First.calls (A0:Option Addr) (c0:Nat) (l0:List S28) (r1 r2 r3 r4 r5 r6:Int) (r7:Bool) (w:World) (hr0:Kd.C k28 w A0 l0.length l0) (hc0:l0.length≤c0) (h:watchmanref09_First.f l0=some (r1,r2,r3,r4,r5,r6,r7)):
    Calls Try.prog 44 #[.slice A0 l0.length c0] w fun e w'=>e=.returned (.tuple #[.agg #[.int .i64 r1,.int .i64 r2,.int .i64 r3,.int .i64 r4,.int .i64 r5,.int .i64 r6],.bool r7])∧Below w.heap.size w w':=by
  unfold watchmanref09_First.f at h
  by_cases he:(List.range l0.length).all (fun i=>(watchmanref09_First.tk l0 (watchmanref09_First.bs l0 i) (i:Int)).isSome)=true
  case neg=>rw[if_neg he] at h;cases h
  rw[if_pos he] at h
  replace he: ∀i,i<l0.length→(watchmanref09_First.tk l0 (watchmanref09_First.bs l0 i) (i:Int)).isSome=true:=fun i hi=>List.all_eq_true.1 he i (List.mem_range.2 hi)
  have H:=zB h
  clear h
  have hu0:=Try.underlying28
  have hu1:=Try.underlying26
  have HR0:=zB hr0
  have HC0:=zB hc0
  have hlm:=hr0.2.1
  clear hr0 hc0
  have HT:=zB (T.Tell.init w)
  go_enter Try.func44,Try.ntmps44
  go_wp2_with (first|((with_reducible refine gate_dst (N:=2) rfl ?_);refine be_ (N:=2) (cs:=#[.int .i64 0,.int .i64 0,.int .i64 0,.int .i64 0,.int .i64 0,.int .i64 0]) (t:=28) ?_;intro g_r hg w_2 hbox hb;replace HT:=zB (HT.out.pushBe hbox hg hb);clear hb hbox hg))
  have HE:=zB he
  clear he
  go_loopw [4,5] (fun v4 v5 wr=> ∃i:Int,v5=.int .i64 i∧v4=.int .i64 (watchmanref09_First.bs l0 i.toNat)∧0≤i∧i≤l0.length∧Aside0 (T.Tell w wr [T.cB g_r #[.int .i64 0,.int .i64 0,.int .i64 0,.int .i64 0,.int .i64 0,.int .i64 0] 28])) (fun _ v5 _=>l0.length-(intOf v5).toNat)
  case atStart=>exact⟨0,rfl,rfl,by omega,by omega,HT⟩
  case round=>
    clear HT
    obtain⟨i,rfl,rfl,p_,q_,HT⟩:=hrel
    by_cases hlt:i<(l0.length:Int)
    · obtain⟨ad,e_,hy0,hy1,hy2,hy3,hy4,hy5⟩:=at_T28 HR0.out i p_ hlt
      cases e_
      have hex:=HE.out i.toNat (by omega)
      obtain⟨q,hq⟩:=Option.isSome_iff_exists.1 hex
      have hbl:=watchmanref09_First.bs_lt l0 i.toNat
      have hsn:watchmanref09_First.bs l0 (i+1).toNat=if q=true then i else watchmanref09_First.bs l0 i.toNat:=by
        rw[show(i+1).toNat=i.toNat+1 by omega,watchmanref09_First.bs,hq,Option.getD_some,show((i.toNat:Nat):Int)=i by omega]
      rw[show((i.toNat:Nat):Int)=i by omega] at hq hbl
      clear hex
      generalize watchmanref09_First.bs l0 i.toNat=b at hq hbl hsn⊢
      have HSN:=zB hsn
      clear hsn
      obtain⟨t,E0,hq⟩:=zL hq
      replace E0:=zB E0
      generalize he_:(rd_T28 l0 i)=e at E0 hq hy0 hy1 hy2 hy3 hy4 hy5
      obtain⟨⟨x0,x1⟩,x2,x3,x4,x5⟩:=e
      cases t with
      | false=>
        rw[if_neg Bool.false_ne_true] at hq
        obtain rfl:=zW hq
        clear hq he_ hbl
        go_wp2
        replace HT:=zB (HT.out.step (T.below_drew_ _))
        refine start_ (n:=48) (S:=fun w'=>w'.cell? (ad.add (i.toNat*6))=some (.int .i64 x0)∧w'.cell? ⟨(ad.add (i.toNat*6)).block,(ad.add (i.toNat*6)).off+1,none⟩=some (.int .i64 x1)∧w'.cell? ⟨(ad.add (i.toNat*6)).block,(ad.add (i.toNat*6)).off+2,none⟩=some (.int .i64 x2)∧w'.cell? ⟨(ad.add (i.toNat*6)).block,(ad.add (i.toNat*6)).off+3,none⟩=some (.int .i64 x3)∧w'.cell? ⟨(ad.add (i.toNat*6)).block,(ad.add (i.toNat*6)).off+4,none⟩=some (.int .i64 x4)∧w'.cell? ⟨(ad.add (i.toNat*6)).block,(ad.add (i.toNat*6)).off+5,none⟩=some (.int .i64 x5)) (ds:=[]) (bt_ 0 48) (by kernel_rfl) rfl rfl ⟨(HT.out.below.cell (zA w _ hy0)).trans hy0,(HT.out.below.cell (zA w _ hy1)).trans hy1,(HT.out.below.cell (zA w _ hy2)).trans hy2,(HT.out.below.cell (zA w _ hy3)).trans hy3,(HT.out.below.cell (zA w _ hy4)).trans hy4,(HT.out.below.cell (zA w _ hy5)).trans hy5⟩ (fun hHeld=>?_);refine with_tabW watchmanref09_First.tab5 watchmanref09_First.bits5 (fun HT_ HW_=>?_)
        generalize wr.drew=w_r5 at HT hHeld⊢
        have Q_:=Qs.mk (n:=48) [(0,0,12,1),(0,1,13,3),(0,2,14,7),(2,3,15,15)]
        iterate 4 (first|(refine pq_ Q_ ?_;replace Q_:=qt_ Q_)|(refine tq_ Q_ hHeld ?_;replace Q_:=qt_ Q_))
        clear Q_
        refine one_ (i:=4) (N:=some 16) (bt_ 31 48) rfl rfl (one_of HT_.out (by kernel_rfl)) (by decide) (fun K hK=>?_)
        refine goes_ Try.func75 (by kernel_rfl) rfl #[.agg #[.int .i64 x0,.int .i64 x1,.int .i64 x2,.int .i64 x3,.int .i64 x4,.int .i64 x5]] (by rfl) rfl rfl (by(try simp only[zM,zS,zV]);first|done|rfl) ?_
        (with_reducible refine(watchmanref09_waits.calls x0 x1 x2 x3 x4 x5 false _ E0.out).mono ?_)
        rintro e_ w_16 ⟨rfl,hb⟩;refine⟨_,rfl,?_⟩;replace HT:=zB (HT.out.step hb);clear hb
        refine hK.out _ _ ⟨(HT.out.below.cell (zA w _ hy0)).trans hy0,(HT.out.below.cell (zA w _ hy1)).trans hy1,(HT.out.below.cell (zA w _ hy2)).trans hy2,(HT.out.below.cell (zA w _ hy3)).trans hy3,(HT.out.below.cell (zA w _ hy4)).trans hy4,(HT.out.below.cell (zA w _ hy5)).trans hy5⟩ (fun hHeld=>?_);clear hK K;refine norm_ (a':=?_) ?_ ?_
        rotate_left
        · show Act.put _ (some 16) _=_
          simp only[Act.put,zE,zH,zI,i64_w,i32_w]
          rfl
        have Q_:=Qs.mk (n:=48) [(0,5,17,63),(1,6,18,127),(1,7,19,255),(1,8,20,511),(1,9,21,1023),(1,10,22,2047),(1,11,23,4095),(1,12,24,8191),(1,14,26,24575),(1,15,27,57343),(1,16,28,122879),(1,17,29,253951),(1,13,25,262143),(1,18,30,524287),(1,19,31,1048575),(1,20,32,2097151),(1,21,33,4194303),(1,22,34,8388607),(1,23,35,16777215),(1,24,36,33554431),(1,25,37,67108863),(1,27,39,201326591),(1,28,40,469762047),(1,29,41,1006632959),(1,30,42,2080374783),(1,26,38,2147483647),(1,31,43,4294967295),(1,32,44,8589934591),(1,33,45,17179869183),(1,34,46,34359738367),(1,35,47,68719476735),(1,36,48,137438953471),(1,37,49,274877906943),(1,39,51,824633720831),(1,40,52,1924145348607),(1,41,53,4123168604159),(1,42,54,8521215115263),(1,38,50,8796093022207),(1,43,55,17592186044415),(1,44,56,35184372088831),(1,45,57,70368744177663),(1,46,58,140737488355327),(0,47,59,281474976710655)]
        iterate 43 (first|(refine pq_ Q_ ?_;replace Q_:=qt_ Q_)|(refine uq_ Q_ ?_;replace Q_:=qt_ Q_))
        clear Q_
        refine done_ (done_of HT_.out (by kernel_rfl)) ?_;clear hHeld
        go_wp2
        go_roundw
        case rel=>exact⟨i+1,rfl,by rw[HSN.out];rfl,by omega,by omega,HT⟩
        case measure=>simp[intOf];omega
      | true=>
        rw[if_pos rfl] at hq
        by_cases hb0:b<0
        · rw[if_pos hb0] at hq
          obtain rfl:=zW hq
          have hbd:decide (b<0)=true:=zO hb0
          clear hq he_ hbl
          go_wp2
          replace HT:=zB (HT.out.step (T.below_drew_ _))
          refine start_ (n:=48) (S:=fun w'=>w'.cell? (ad.add (i.toNat*6))=some (.int .i64 x0)∧w'.cell? ⟨(ad.add (i.toNat*6)).block,(ad.add (i.toNat*6)).off+1,none⟩=some (.int .i64 x1)∧w'.cell? ⟨(ad.add (i.toNat*6)).block,(ad.add (i.toNat*6)).off+2,none⟩=some (.int .i64 x2)∧w'.cell? ⟨(ad.add (i.toNat*6)).block,(ad.add (i.toNat*6)).off+3,none⟩=some (.int .i64 x3)∧w'.cell? ⟨(ad.add (i.toNat*6)).block,(ad.add (i.toNat*6)).off+4,none⟩=some (.int .i64 x4)∧w'.cell? ⟨(ad.add (i.toNat*6)).block,(ad.add (i.toNat*6)).off+5,none⟩=some (.int .i64 x5)) (ds:=[]) (bt_ 0 48) (by kernel_rfl) rfl rfl ⟨(HT.out.below.cell (zA w _ hy0)).trans hy0,(HT.out.below.cell (zA w _ hy1)).trans hy1,(HT.out.below.cell (zA w _ hy2)).trans hy2,(HT.out.below.cell (zA w _ hy3)).trans hy3,(HT.out.below.cell (zA w _ hy4)).trans hy4,(HT.out.below.cell (zA w _ hy5)).trans hy5⟩ (fun hHeld=>?_);refine with_tabW watchmanref09_First.tab5 watchmanref09_First.bits5 (fun HT_ HW_=>?_)
          generalize wr.drew=w_r5 at HT hHeld⊢
          have Q_:=Qs.mk (n:=48) [(0,0,12,1),(0,1,13,3),(0,2,14,7),(2,3,15,15)]
          iterate 4 (first|(refine pq_ Q_ ?_;replace Q_:=qt_ Q_)|(refine tq_ Q_ hHeld ?_;replace Q_:=qt_ Q_))
          clear Q_
          refine one_ (i:=4) (N:=some 16) (bt_ 31 48) rfl rfl (one_of HT_.out (by kernel_rfl)) (by decide) (fun K hK=>?_)
          refine goes_ Try.func75 (by kernel_rfl) rfl #[.agg #[.int .i64 x0,.int .i64 x1,.int .i64 x2,.int .i64 x3,.int .i64 x4,.int .i64 x5]] (by rfl) rfl rfl (by(try simp only[zM,zS,zV]);first|done|rfl) ?_
          (with_reducible refine(watchmanref09_waits.calls x0 x1 x2 x3 x4 x5 true _ E0.out).mono ?_)
          rintro e_ w_16 ⟨rfl,hb⟩;refine⟨_,rfl,?_⟩;replace HT:=zB (HT.out.step hb);clear hb
          refine hK.out _ _ ⟨(HT.out.below.cell (zA w _ hy0)).trans hy0,(HT.out.below.cell (zA w _ hy1)).trans hy1,(HT.out.below.cell (zA w _ hy2)).trans hy2,(HT.out.below.cell (zA w _ hy3)).trans hy3,(HT.out.below.cell (zA w _ hy4)).trans hy4,(HT.out.below.cell (zA w _ hy5)).trans hy5⟩ (fun hHeld=>?_);clear hK K;refine norm_ (a':=?_) ?_ ?_
          rotate_left
          · show Act.put _ (some 16) _=_
            simp only[Act.put,zE,zH,zI,i64_w,i32_w]
            rfl
          have Q_:=Qs.mk (n:=48) [(0,5,17,63),(0,6,18,127),(0,7,19,255),(0,8,20,511),(1,9,21,1023),(1,10,22,2047),(1,11,23,4095),(1,12,24,8191),(1,14,26,24575),(1,15,27,57343),(1,16,28,122879),(1,17,29,253951),(1,13,25,262143),(1,18,30,524287),(1,19,31,1048575),(0,20,32,2097151),(0,21,33,4194303),(1,22,34,8388607),(1,23,35,16777215),(1,24,36,33554431),(1,25,37,67108863),(1,27,39,201326591),(1,28,40,469762047),(1,29,41,1006632959),(1,30,42,2080374783),(1,26,38,2147483647),(1,31,43,4294967295),(1,32,44,8589934591),(1,33,45,17179869183),(1,34,46,34359738367),(1,35,47,68719476735),(1,36,48,137438953471),(1,37,49,274877906943),(1,39,51,824633720831),(1,40,52,1924145348607),(1,41,53,4123168604159),(1,42,54,8521215115263),(1,38,50,8796093022207),(1,43,55,17592186044415),(1,44,56,35184372088831),(1,45,57,70368744177663),(0,46,58,140737488355327),(0,47,59,281474976710655)]
          iterate 43 (first|(refine pq_ Q_ ?_;replace Q_:=qt_ Q_)|(refine uq_ Q_ ?_;replace Q_:=qt_ Q_))
          clear Q_
          refine done_ (done_of HT_.out (by kernel_rfl)) ?_;clear hHeld
          go_wp2
          go_roundw
          case rel=>exact⟨i+1,rfl,by rw[HSN.out];rfl,by omega,by omega,HT⟩
          case measure=>simp[intOf];omega
        · rw[if_neg hb0] at hq
          have hbd:decide (b<0)=false:=zY hb0
          have pb:0≤b:=by omega
          have qb:b<(l0.length:Int):=by omega
          clear hbl he_
          obtain⟨ad2,e2,hb0_,hb1_,hb2_,hb3_,hb4_,hb5_⟩:=at_T28 HR0.out b pb qb
          cases e2
          generalize(rd_T28 l0 b)=e2 at hq hb0_ hb1_ hb5_
          clear hb2_ hb3_ hb4_
          obtain⟨⟨b0,b1⟩,b2,b3,b4,b5⟩:=e2
          dsimp only at hq
          by_cases hu:x5<b5
          · rw[if_pos hu] at hq
            obtain rfl:=zW hq
            clear hq
            have hud:decide (x5<b5)=true:=zO hu
            go_wp2
            replace HT:=zB (HT.out.step (T.below_drew_ _))
            refine start_ (n:=48) (S:=fun w'=>w'.cell? (ad.add (i.toNat*6))=some (.int .i64 x0)∧w'.cell? ⟨(ad.add (i.toNat*6)).block,(ad.add (i.toNat*6)).off+1,none⟩=some (.int .i64 x1)∧w'.cell? ⟨(ad.add (i.toNat*6)).block,(ad.add (i.toNat*6)).off+2,none⟩=some (.int .i64 x2)∧w'.cell? ⟨(ad.add (i.toNat*6)).block,(ad.add (i.toNat*6)).off+3,none⟩=some (.int .i64 x3)∧w'.cell? ⟨(ad.add (i.toNat*6)).block,(ad.add (i.toNat*6)).off+4,none⟩=some (.int .i64 x4)∧w'.cell? ⟨(ad.add (i.toNat*6)).block,(ad.add (i.toNat*6)).off+5,none⟩=some (.int .i64 x5)∧w'.cell? (ad.add (b.toNat*6))=some (.int .i64 b0)∧w'.cell? ⟨(ad.add (b.toNat*6)).block,(ad.add (b.toNat*6)).off+1,none⟩=some (.int .i64 b1)∧w'.cell? ⟨(ad.add (b.toNat*6)).block,(ad.add (b.toNat*6)).off+5,none⟩=some (.int .i64 b5)) (ds:=[]) (bt_ 0 48) (by kernel_rfl) rfl rfl ⟨(HT.out.below.cell (zA w _ hy0)).trans hy0,(HT.out.below.cell (zA w _ hy1)).trans hy1,(HT.out.below.cell (zA w _ hy2)).trans hy2,(HT.out.below.cell (zA w _ hy3)).trans hy3,(HT.out.below.cell (zA w _ hy4)).trans hy4,(HT.out.below.cell (zA w _ hy5)).trans hy5,(HT.out.below.cell (zA w _ hb0_)).trans hb0_,(HT.out.below.cell (zA w _ hb1_)).trans hb1_,(HT.out.below.cell (zA w _ hb5_)).trans hb5_⟩ (fun hHeld=>?_);refine with_tabW watchmanref09_First.tab5 watchmanref09_First.bits5 (fun HT_ HW_=>?_)
            generalize wr.drew=w_r5 at HT hHeld⊢
            have Q_:=Qs.mk (n:=48) [(0,0,12,1),(0,1,13,3),(0,2,14,7),(2,3,15,15)]
            iterate 4 (first|(refine pq_ Q_ ?_;replace Q_:=qt_ Q_)|(refine tq_ Q_ hHeld ?_;replace Q_:=qt_ Q_))
            clear Q_
            refine one_ (i:=4) (N:=some 16) (bt_ 31 48) rfl rfl (one_of HT_.out (by kernel_rfl)) (by decide) (fun K hK=>?_)
            refine goes_ Try.func75 (by kernel_rfl) rfl #[.agg #[.int .i64 x0,.int .i64 x1,.int .i64 x2,.int .i64 x3,.int .i64 x4,.int .i64 x5]] (by rfl) rfl rfl (by(try simp only[zM,zS,zV]);first|done|rfl) ?_
            (with_reducible refine(watchmanref09_waits.calls x0 x1 x2 x3 x4 x5 true _ E0.out).mono ?_)
            rintro e_ w_16 ⟨rfl,hb⟩;refine⟨_,rfl,?_⟩;replace HT:=zB (HT.out.step hb);clear hb
            refine hK.out _ _ ⟨(HT.out.below.cell (zA w _ hy0)).trans hy0,(HT.out.below.cell (zA w _ hy1)).trans hy1,(HT.out.below.cell (zA w _ hy2)).trans hy2,(HT.out.below.cell (zA w _ hy3)).trans hy3,(HT.out.below.cell (zA w _ hy4)).trans hy4,(HT.out.below.cell (zA w _ hy5)).trans hy5,(HT.out.below.cell (zA w _ hb0_)).trans hb0_,(HT.out.below.cell (zA w _ hb1_)).trans hb1_,(HT.out.below.cell (zA w _ hb5_)).trans hb5_⟩ (fun hHeld=>?_);clear hK K;refine norm_ (a':=?_) ?_ ?_
            rotate_left
            · show Act.put _ (some 16) _=_
              simp only[Act.put,zE,zH,zI,i64_w,i32_w]
              rfl
            have Q_:=Qs.mk (n:=48) [(0,5,17,63),(0,6,18,127),(0,7,19,255),(0,8,20,511),(0,9,21,1023),(0,10,22,2047),(0,11,23,4095),(0,12,24,8191),(0,14,26,24575),(0,15,27,57343),(0,16,28,122879),(0,17,29,253951),(2,13,25,262143),(2,18,30,524287),(0,19,31,1048575),(0,20,32,2097151),(0,21,33,4194303),(1,22,34,8388607),(1,23,35,16777215),(1,24,36,33554431),(1,25,37,67108863),(1,27,39,201326591),(1,28,40,469762047),(1,29,41,1006632959),(1,30,42,2080374783),(1,26,38,2147483647),(1,31,43,4294967295),(1,32,44,8589934591),(1,33,45,17179869183),(1,34,46,34359738367),(1,35,47,68719476735),(1,36,48,137438953471),(1,37,49,274877906943),(1,39,51,824633720831),(1,40,52,1924145348607),(1,41,53,4123168604159),(1,42,54,8521215115263),(1,38,50,8796093022207),(1,43,55,17592186044415),(1,44,56,35184372088831),(1,45,57,70368744177663),(0,46,58,140737488355327),(0,47,59,281474976710655)]
            iterate 43 (first|(refine pq_ Q_ ?_;replace Q_:=qt_ Q_)|(refine uq_ Q_ ?_;replace Q_:=qt_ Q_)|(refine tq_ Q_ hHeld ?_;replace Q_:=qt_ Q_))
            clear Q_
            refine done_ (done_of HT_.out (by kernel_rfl)) ?_;clear hHeld
            go_wp2
            go_roundw
            case rel=>exact⟨i+1,rfl,by rw[HSN.out];rfl,by omega,by omega,HT⟩
            case measure=>simp[intOf];omega
          · rw[if_neg hu] at hq
            have hud:decide (x5<b5)=false:=zY hu
            by_cases hv:x5=b5
            · rw[if_pos hv] at hq
              have hvd:decide (x5=b5)=true:=zO hv
              have hve:(x5==b5)=true:=beq_iff_eq.2 hv
              have E1:=zB hq
              clear hq hv hu
              go_wp2
              replace HT:=zB (HT.out.step (T.below_drew_ _))
              refine start_ (n:=48) (S:=fun w'=>w'.cell? (ad.add (i.toNat*6))=some (.int .i64 x0)∧w'.cell? ⟨(ad.add (i.toNat*6)).block,(ad.add (i.toNat*6)).off+1,none⟩=some (.int .i64 x1)∧w'.cell? ⟨(ad.add (i.toNat*6)).block,(ad.add (i.toNat*6)).off+2,none⟩=some (.int .i64 x2)∧w'.cell? ⟨(ad.add (i.toNat*6)).block,(ad.add (i.toNat*6)).off+3,none⟩=some (.int .i64 x3)∧w'.cell? ⟨(ad.add (i.toNat*6)).block,(ad.add (i.toNat*6)).off+4,none⟩=some (.int .i64 x4)∧w'.cell? ⟨(ad.add (i.toNat*6)).block,(ad.add (i.toNat*6)).off+5,none⟩=some (.int .i64 x5)∧w'.cell? (ad.add (b.toNat*6))=some (.int .i64 b0)∧w'.cell? ⟨(ad.add (b.toNat*6)).block,(ad.add (b.toNat*6)).off+1,none⟩=some (.int .i64 b1)∧w'.cell? ⟨(ad.add (b.toNat*6)).block,(ad.add (b.toNat*6)).off+5,none⟩=some (.int .i64 b5)) (ds:=[]) (bt_ 0 48) (by kernel_rfl) rfl rfl ⟨(HT.out.below.cell (zA w _ hy0)).trans hy0,(HT.out.below.cell (zA w _ hy1)).trans hy1,(HT.out.below.cell (zA w _ hy2)).trans hy2,(HT.out.below.cell (zA w _ hy3)).trans hy3,(HT.out.below.cell (zA w _ hy4)).trans hy4,(HT.out.below.cell (zA w _ hy5)).trans hy5,(HT.out.below.cell (zA w _ hb0_)).trans hb0_,(HT.out.below.cell (zA w _ hb1_)).trans hb1_,(HT.out.below.cell (zA w _ hb5_)).trans hb5_⟩ (fun hHeld=>?_);refine with_tabW watchmanref09_First.tab5 watchmanref09_First.bits5 (fun HT_ HW_=>?_)
              generalize wr.drew=w_r5 at HT hHeld⊢
              have Q_:=Qs.mk (n:=48) [(0,0,12,1),(0,1,13,3),(0,2,14,7),(2,3,15,15)]
              iterate 4 (first|(refine pq_ Q_ ?_;replace Q_:=qt_ Q_)|(refine tq_ Q_ hHeld ?_;replace Q_:=qt_ Q_))
              clear Q_
              refine one_ (i:=4) (N:=some 16) (bt_ 31 48) rfl rfl (one_of HT_.out (by kernel_rfl)) (by decide) (fun K hK=>?_)
              refine goes_ Try.func75 (by kernel_rfl) rfl #[.agg #[.int .i64 x0,.int .i64 x1,.int .i64 x2,.int .i64 x3,.int .i64 x4,.int .i64 x5]] (by rfl) rfl rfl (by(try simp only[zM,zS,zV]);first|done|rfl) ?_
              (with_reducible refine(watchmanref09_waits.calls x0 x1 x2 x3 x4 x5 true _ E0.out).mono ?_)
              rintro e_ w_16 ⟨rfl,hb⟩;refine⟨_,rfl,?_⟩;replace HT:=zB (HT.out.step hb);clear hb
              refine hK.out _ _ ⟨(HT.out.below.cell (zA w _ hy0)).trans hy0,(HT.out.below.cell (zA w _ hy1)).trans hy1,(HT.out.below.cell (zA w _ hy2)).trans hy2,(HT.out.below.cell (zA w _ hy3)).trans hy3,(HT.out.below.cell (zA w _ hy4)).trans hy4,(HT.out.below.cell (zA w _ hy5)).trans hy5,(HT.out.below.cell (zA w _ hb0_)).trans hb0_,(HT.out.below.cell (zA w _ hb1_)).trans hb1_,(HT.out.below.cell (zA w _ hb5_)).trans hb5_⟩ (fun hHeld=>?_);clear hK K;refine norm_ (a':=?_) ?_ ?_
              rotate_left
              · show Act.put _ (some 16) _=_
                simp only[Act.put,zE,zH,zI,i64_w,i32_w]
                rfl
              have Q_:=Qs.mk (n:=48) [(0,5,17,63),(0,6,18,127),(0,7,19,255),(0,8,20,511),(0,9,21,1023),(0,10,22,2047),(0,11,23,4095),(0,12,24,8191),(0,14,26,24575),(0,15,27,57343),(0,16,28,122879),(0,17,29,253951),(2,13,25,262143),(2,18,30,524287),(0,19,31,1048575),(0,20,32,2097151),(0,21,33,4194303),(0,22,34,8388607),(0,23,35,16777215),(0,24,36,33554431),(0,25,37,67108863),(0,27,39,201326591),(0,28,40,469762047),(0,29,41,1006632959),(0,30,42,2080374783),(2,26,38,2147483647),(2,31,43,4294967295),(0,32,44,8589934591),(0,33,45,17179869183),(0,34,46,34359738367),(0,35,47,68719476735),(0,36,48,137438953471),(0,37,49,274877906943),(0,39,51,824633720831),(0,40,52,1924145348607),(0,41,53,4123168604159),(0,42,54,8521215115263),(2,38,50,8796093022207),(2,43,55,17592186044415)]
              iterate 39 (first|(refine pq_ Q_ ?_;replace Q_:=qt_ Q_)|(refine tq_ Q_ hHeld ?_;replace Q_:=qt_ Q_))
              clear Q_
              refine one_ (i:=44) (N:=some 56) (bt_ 35184372088831 48) rfl rfl (one_of HT_.out (by kernel_rfl)) (by decide) (fun K hK=>?_)
              refine goes_ Try.func56 (by kernel_rfl) rfl #[.agg #[.int .i64 x0,.int .i64 x1],.agg #[.int .i64 b0,.int .i64 b1]] (by rfl) rfl rfl (by(try simp only[zM,zS,zV]);first|done|rfl) ?_
              (with_reducible refine(watchmanref04_Less.calls x0 x1 b0 b1 q _ E1.out).mono ?_)
              rintro e_ w_56 ⟨rfl,hb⟩;refine⟨_,rfl,?_⟩;replace HT:=zB (HT.out.step hb);clear hb
              refine hK.out _ _ ⟨(HT.out.below.cell (zA w _ hy0)).trans hy0,(HT.out.below.cell (zA w _ hy1)).trans hy1,(HT.out.below.cell (zA w _ hy2)).trans hy2,(HT.out.below.cell (zA w _ hy3)).trans hy3,(HT.out.below.cell (zA w _ hy4)).trans hy4,(HT.out.below.cell (zA w _ hy5)).trans hy5,(HT.out.below.cell (zA w _ hb0_)).trans hb0_,(HT.out.below.cell (zA w _ hb1_)).trans hb1_,(HT.out.below.cell (zA w _ hb5_)).trans hb5_⟩ (fun hHeld=>?_);clear hK K;refine norm_ (a':=?_) ?_ ?_
              rotate_left
              · show Act.put _ (some 56) _=_
                simp only[Act.put,zE,zH,zI,i64_w,i32_w]
                rfl
              have Q_:=Qs.mk (n:=48) [(0,45,57,70368744177663),(0,46,58,140737488355327),(0,47,59,281474976710655)]
              iterate 3 (refine pq_ Q_ ?_;replace Q_:=qt_ Q_)
              clear Q_
              refine done_ (done_of HT_.out (by kernel_rfl)) ?_;clear hHeld
              cases q
              · go_wp2
                go_roundw
                case rel=>exact⟨i+1,rfl,by rw[HSN.out];rfl,by omega,by omega,HT⟩
                case measure=>simp[intOf];omega
              · go_wp2
                go_roundw
                case rel=>exact⟨i+1,rfl,by rw[HSN.out];rfl,by omega,by omega,HT⟩
                case measure=>simp[intOf];omega
            · rw[if_neg hv] at hq
              obtain rfl:=zW hq
              clear hq
              have hvd:decide (x5=b5)=false:=zY hv
              have hve:(x5==b5)=false:=beq_eq_false_iff_ne.2 hv
              go_wp2
              replace HT:=zB (HT.out.step (T.below_drew_ _))
              refine start_ (n:=48) (S:=fun w'=>w'.cell? (ad.add (i.toNat*6))=some (.int .i64 x0)∧w'.cell? ⟨(ad.add (i.toNat*6)).block,(ad.add (i.toNat*6)).off+1,none⟩=some (.int .i64 x1)∧w'.cell? ⟨(ad.add (i.toNat*6)).block,(ad.add (i.toNat*6)).off+2,none⟩=some (.int .i64 x2)∧w'.cell? ⟨(ad.add (i.toNat*6)).block,(ad.add (i.toNat*6)).off+3,none⟩=some (.int .i64 x3)∧w'.cell? ⟨(ad.add (i.toNat*6)).block,(ad.add (i.toNat*6)).off+4,none⟩=some (.int .i64 x4)∧w'.cell? ⟨(ad.add (i.toNat*6)).block,(ad.add (i.toNat*6)).off+5,none⟩=some (.int .i64 x5)∧w'.cell? (ad.add (b.toNat*6))=some (.int .i64 b0)∧w'.cell? ⟨(ad.add (b.toNat*6)).block,(ad.add (b.toNat*6)).off+1,none⟩=some (.int .i64 b1)∧w'.cell? ⟨(ad.add (b.toNat*6)).block,(ad.add (b.toNat*6)).off+5,none⟩=some (.int .i64 b5)) (ds:=[]) (bt_ 0 48) (by kernel_rfl) rfl rfl ⟨(HT.out.below.cell (zA w _ hy0)).trans hy0,(HT.out.below.cell (zA w _ hy1)).trans hy1,(HT.out.below.cell (zA w _ hy2)).trans hy2,(HT.out.below.cell (zA w _ hy3)).trans hy3,(HT.out.below.cell (zA w _ hy4)).trans hy4,(HT.out.below.cell (zA w _ hy5)).trans hy5,(HT.out.below.cell (zA w _ hb0_)).trans hb0_,(HT.out.below.cell (zA w _ hb1_)).trans hb1_,(HT.out.below.cell (zA w _ hb5_)).trans hb5_⟩ (fun hHeld=>?_);refine with_tabW watchmanref09_First.tab5 watchmanref09_First.bits5 (fun HT_ HW_=>?_)
              generalize wr.drew=w_r5 at HT hHeld⊢
              have Q_:=Qs.mk (n:=48) [(0,0,12,1),(0,1,13,3),(0,2,14,7),(2,3,15,15)]
              iterate 4 (first|(refine pq_ Q_ ?_;replace Q_:=qt_ Q_)|(refine tq_ Q_ hHeld ?_;replace Q_:=qt_ Q_))
              clear Q_
              refine one_ (i:=4) (N:=some 16) (bt_ 31 48) rfl rfl (one_of HT_.out (by kernel_rfl)) (by decide) (fun K hK=>?_)
              refine goes_ Try.func75 (by kernel_rfl) rfl #[.agg #[.int .i64 x0,.int .i64 x1,.int .i64 x2,.int .i64 x3,.int .i64 x4,.int .i64 x5]] (by rfl) rfl rfl (by(try simp only[zM,zS,zV]);first|done|rfl) ?_
              (with_reducible refine(watchmanref09_waits.calls x0 x1 x2 x3 x4 x5 true _ E0.out).mono ?_)
              rintro e_ w_16 ⟨rfl,hb⟩;refine⟨_,rfl,?_⟩;replace HT:=zB (HT.out.step hb);clear hb
              refine hK.out _ _ ⟨(HT.out.below.cell (zA w _ hy0)).trans hy0,(HT.out.below.cell (zA w _ hy1)).trans hy1,(HT.out.below.cell (zA w _ hy2)).trans hy2,(HT.out.below.cell (zA w _ hy3)).trans hy3,(HT.out.below.cell (zA w _ hy4)).trans hy4,(HT.out.below.cell (zA w _ hy5)).trans hy5,(HT.out.below.cell (zA w _ hb0_)).trans hb0_,(HT.out.below.cell (zA w _ hb1_)).trans hb1_,(HT.out.below.cell (zA w _ hb5_)).trans hb5_⟩ (fun hHeld=>?_);clear hK K;refine norm_ (a':=?_) ?_ ?_
              rotate_left
              · show Act.put _ (some 16) _=_
                simp only[Act.put,zE,zH,zI,i64_w,i32_w]
                rfl
              have Q_:=Qs.mk (n:=48) [(0,5,17,63),(0,6,18,127),(0,7,19,255),(0,8,20,511),(0,9,21,1023),(0,10,22,2047),(0,11,23,4095),(0,12,24,8191),(0,14,26,24575),(0,15,27,57343),(0,16,28,122879),(0,17,29,253951),(2,13,25,262143),(2,18,30,524287),(0,19,31,1048575),(0,20,32,2097151),(0,21,33,4194303),(0,22,34,8388607),(0,23,35,16777215),(0,24,36,33554431),(0,25,37,67108863),(0,27,39,201326591),(0,28,40,469762047),(0,29,41,1006632959),(0,30,42,2080374783),(2,26,38,2147483647),(2,31,43,4294967295),(0,32,44,8589934591),(0,33,45,17179869183),(1,34,46,34359738367),(1,35,47,68719476735),(1,36,48,137438953471),(1,37,49,274877906943),(1,39,51,824633720831),(1,40,52,1924145348607),(1,41,53,4123168604159),(1,42,54,8521215115263),(1,38,50,8796093022207),(1,43,55,17592186044415),(1,44,56,35184372088831),(0,45,57,70368744177663),(0,46,58,140737488355327),(0,47,59,281474976710655)]
              iterate 43 (first|(refine pq_ Q_ ?_;replace Q_:=qt_ Q_)|(refine uq_ Q_ ?_;replace Q_:=qt_ Q_)|(refine tq_ Q_ hHeld ?_;replace Q_:=qt_ Q_))
              clear Q_
              refine done_ (done_of HT_.out (by kernel_rfl)) ?_;clear hHeld
              go_wp2
              go_roundw
              case rel=>exact⟨i+1,rfl,by rw[HSN.out];rfl,by omega,by omega,HT⟩
              case measure=>simp[intOf];omega
    · obtain rfl:i=(l0.length:Int):=by omega
      clear p_ q_ hlt
      have hH:=H.out
      rw[Int.toNat_natCast]
      have hbl:=watchmanref09_First.bs_lt l0 l0.length
      generalize watchmanref09_First.bs l0 l0.length=b at hH hbl⊢
      have hz0:=(HT.out.bx 0 rfl 0).trans rfl;have hz1:=(HT.out.bx 0 rfl 1).trans rfl;have hz2:=(HT.out.bx 0 rfl 2).trans rfl;have hz3:=(HT.out.bx 0 rfl 3).trans rfl;have hz4:=(HT.out.bx 0 rfl 4).trans rfl;have hz5:=(HT.out.bx 0 rfl 5).trans rfl
      have hf0:=HT.out.fz 0 rfl 0;have hf1:=HT.out.fz 0 rfl 1;have hf2:=HT.out.fz 0 rfl 2;have hf3:=HT.out.fz 0 rfl 3;have hf4:=HT.out.fz 0 rfl 4;have hf5:=HT.out.fz 0 rfl 5
      by_cases hb0:b<0
      · rw[if_pos hb0] at hH
        obtain⟨rfl,rfl,rfl,rfl,rfl,rfl,rfl⟩:0=r1∧0=r2∧0=r3∧0=r4∧0=r5∧0=r6∧false=r7:=by simpa only[zc,Prod.mk.injEq] using hH
        have hbd:decide (b<0)=true:=zO hb0
        clear hH
        go_wp2
        have HF:=((((((HT.out.put 0 rfl 0 (.int .i64 0)).put 0 rfl 1 (.int .i64 0)).put 0 rfl 2 (.int .i64 0)).put 0 rfl 3 (.int .i64 0)).put 0 rfl 4 (.int .i64 0)).put 0 rfl 5 (.int .i64 0))
        refine bodyPost_ret (results_ct rfl _ _ g_r 28 #[.int .i64 0,.int .i64 0,.int .i64 0,.int .i64 0,.int .i64 0,.int .i64 0] (0,0) _ rfl (HF.get 0 rfl) hu0 rfl (by kernel_rfl)) rfl ?_
        exact⟨rfl,HF.below⟩
      · rw[if_neg hb0] at hH
        have hbd:decide (b<0)=false:=zY hb0
        have pb:0≤b:=by omega
        have qb:b<(l0.length:Int):=by omega
        clear hbl
        obtain⟨ad,e2,hy0,hy1,hy2,hy3,hy4,hy5⟩:=at_T28 HR0.out b pb qb
        cases e2
        generalize(rd_T28 l0 b)=e at hH hy0 hy1 hy2 hy3 hy4 hy5
        obtain⟨⟨x0,x1⟩,x2,x3,x4,x5⟩:=e
        obtain⟨rfl,rfl,rfl,rfl,rfl,rfl,rfl⟩:x0=r1∧x1=r2∧x2=r3∧x3=r4∧x4=r5∧x5=r6∧true=r7:=by simpa only[zc,Prod.mk.injEq] using hH
        have hc0:=(HT.out.below.cell (zA w _ hy0)).trans hy0;have hc1:=(HT.out.below.cell (zA w _ hy1)).trans hy1;have hc2:=(HT.out.below.cell (zA w _ hy2)).trans hy2;have hc3:=(HT.out.below.cell (zA w _ hy3)).trans hy3;have hc4:=(HT.out.below.cell (zA w _ hy4)).trans hy4;have hc5:=(HT.out.below.cell (zA w _ hy5)).trans hy5
        clear hH
        go_wp2
        have HF:=((((((HT.out.put 0 rfl 0 (.int .i64 x0)).put 0 rfl 1 (.int .i64 x1)).put 0 rfl 2 (.int .i64 x2)).put 0 rfl 3 (.int .i64 x3)).put 0 rfl 4 (.int .i64 x4)).put 0 rfl 5 (.int .i64 x5))
        refine bodyPost_ret (results_ct rfl _ _ g_r 28 #[.int .i64 x0,.int .i64 x1,.int .i64 x2,.int .i64 x3,.int .i64 x4,.int .i64 x5] (0,0) _ rfl (HF.get 0 rfl) hu0 rfl (by kernel_rfl)) rfl ?_
        exact⟨rfl,HF.below⟩
def watchmanref09_Next.f (a0_0 a0_1:Int) (l0_2:List S28):Option (Int×Bool):=(watchmanref09_First.f l0_2).map (fun p=>(p.2.2.2.2.2.1,p.2.2.2.2.2.2))
set_option maxHeartbeats 4000000 in
set_option maxRecDepth 100000 in
theorem watchmanref09_Next.calls (a0_0 a0_1:Int) (A0_2:Option Addr) (c0_2:Nat) (l0_2:List S28) (r1:Int) (r2:Bool) (w:World) (hr0_2:Kd.C k28 w A0_2 l0_2.length l0_2) (hc0_2:l0_2.length≤c0_2) (h:watchmanref09_Next.f a0_0 a0_1 l0_2=some (r1,r2)):
    Calls Try.prog 40 #[.agg #[.int .i64 a0_0,.int .i64 a0_1,.slice A0_2 l0_2.length c0_2]] w fun e w'=>e=.returned (.tuple #[.int .i64 r1,.bool r2])∧Below w.heap.size w w':=by
  have hu0:=Try.underlying24
  have hu1:=Try.underlying28
  have hu2:=Try.underlying26
  have HR0:=zB hr0_2
  have HC0:=zB hc0_2
  obtain⟨⟨y0,y1,y2,y3,y4,y5,y6⟩,E0,h2⟩:=Option.map_eq_some_iff.1 h
  obtain⟨rfl,rfl⟩:y5=r1∧y6=r2:=by simpa only[Prod.mk.injEq] using h2
  replace E0:=zB E0
  clear hr0_2 hc0_2 h h2
  have HT:=zB (T.Tell.init w)
  go_enter Try.func40,Try.ntmps40
  go_wp2_with (first|((with_reducible refine gate_dst (N:=1) rfl ?_);refine be_ (N:=1) (cs:=#[.int .i64 a0_0,.int .i64 a0_1,.slice A0_2 l0_2.length c0_2]) (t:=24) ?_;intro g_b hg w_1 hbox hb;replace HT:=zB (HT.out.pushBe hbox hg hb);clear hb hbox hg;have hx0_b:=(HT.out.bx 0 rfl 0).trans rfl;have hx1_b:=(HT.out.bx 0 rfl 1).trans rfl;have hx2_b:=(HT.out.bx 0 rfl 2).trans rfl;have hz_b:=(HT.out.far 0 rfl (k:=g_b) rfl).1)|((with_reducible refine gate_dst (N:=9) rfl ?_);(try(refine gate_guard (by rfl) ?_;dsimp only));refine gl_ (some 9) Try.func44 #[.slice A0_2 l0_2.length c0_2] rfl ?_;(with_reducible refine(watchmanref09_First.calls A0_2 c0_2 l0_2 y0 y1 y2 y3 y4 y5 y6 _ ?s1 ?s2 E0.out).mono ?_);(case s1=>exact Kd.C_below HR0.out HT.out.below);(case s2=>exact HC0.out);rintro e_ w_9 ⟨rfl,hb⟩;refine⟨_,rfl,?_⟩;replace HT:=zB (HT.out.step hb);clear hb))
  repeat(go_quiet (fail))
  replace HT:=zB (HT.out.pushB #[.int .i64 y0,.int .i64 y1,.int .i64 y2,.int .i64 y3,.int .i64 y4,.int .i64 y5] 28)
  go_ret2
  exact⟨rfl,HT.out.below⟩
def ix_Alarm (p:S28→Bool) (l:List S28):Int:=match l.findIdx? p with|some i=>(i:Int)|none=> -1
theorem ix_Alarm_hit (p:S28→Bool) (l:List S28) (i:Nat) (hi:i<l.length) (h:p (rd_T28 l (i:Int))=true) (hn: ∀j,j<i→p (rd_T28 l (j:Int))=false):ix_Alarm p l=(i:Int):=by
  have e:l.findIdx? p=some i:=by
    rw[List.findIdx?_eq_some_iff_getElem]
    refine⟨hi,?_,fun j hj=>?_⟩
    · simpa[rd_T28,List.getD_eq_getElem?_getD,List.getElem?_eq_getElem hi] using h
    · have:=hn j hj
      simpa[rd_T28,List.getD_eq_getElem?_getD,List.getElem?_eq_getElem (show j<l.length by omega)] using this
  unfold ix_Alarm;rw[e]
theorem ix_Alarm_miss (p:S28→Bool) (l:List S28) (hn: ∀j,j<l.length→p (rd_T28 l (j:Int))=false):ix_Alarm p l= -1:=by
  have e:l.findIdx? p=none:=by
    rw[List.findIdx?_eq_none_iff]
    intro x hx
    obtain⟨j,hj,rfl⟩:=List.mem_iff_getElem.1 hx
    have:=hn j hj
    simpa[rd_T28,List.getD_eq_getElem?_getD,List.getElem?_eq_getElem hj] using this
  unfold ix_Alarm;rw[e]
set_option maxHeartbeats 8000000 in
set_option maxRecDepth 100000 in
theorem ixfunc_Alarm.calls (p:S28→Bool) (g:Nat) (lb:Array Value) (eg: ∀args w,(callFunc g args).run Try.prog w=.ok (.enter g args) w) (A0:Option Addr) (c0:Nat) (l0:List S28) (w:World)
    (hp: ∀(W:World) (x:S28),Below w.heap.size w W→Calls Try.prog g (#[.agg #[.int .i64 x.f0.f0,.int .i64 x.f0.f1,.int .i64 x.f1,.int .i64 x.f2,.int .i64 x.f3,.int .i64 x.f4]]++lb) W fun e w'=>e=.returned (.bool (p x))∧Below w.heap.size w w')
    (hr0:Kd.C k28 w A0 l0.length l0):
    Calls Try.prog 58 #[.slice A0 l0.length c0,.func (.func g) #[] lb] w fun e w'=>e=.returned (.int .i64 (ix_Alarm p l0))∧Below w.heap.size w w':=by
  have hu_:=Try.underlying28
  have hbig:=hr0.2.1
  have HR0:=zB hr0
  have HP:=zB hp
  clear hr0 hp
  go_enter Try.func58,Try.ntmps58
  go_wp2
  go_loopg [5,8] l0.length (fun gg _ s8 wr=> ∃kk:Nat,kk≤l0.length∧l0.length-kk≤gg∧s8=.int .i64 kk∧Aside0 (Below w.heap.size w wr)∧Aside0 (∀j,j<kk→p (rd_T28 l0 (j:Int))=false))
  case atStart=>exact⟨0,Nat.zero_le _,by omega,rfl,⟨Below.refl _ w⟩,⟨fun j hj=>absurd hj (Nat.not_lt_zero _)⟩⟩
  case round=>
    obtain⟨kk,hkk,hg,rfl,BW,A⟩:=hrel
    by_cases hlt:kk<l0.length
    · have hltz:(kk:Int)<(l0.length:Int):=by omega
      obtain⟨ad,e0,hx0,hx1,hx2,hx3,hx4,hx5⟩:=at_T28 (Kd.C_below HR0.out BW.out) (kk:Int) (by omega) hltz
      cases e0
      simp only[Int.toNat_natCast] at hx0 hx1 hx2 hx3 hx4 hx5
      have hcall:=HP.out wr (rd_T28 l0 (kk:Int)) BW.out
      generalize hy_:rd_T28 l0 (kk:Int)=y_ at hcall hx0 hx1 hx2 hx3 hx4 hx5
      have Y:=zB hy_
      clear hy_
      cases hq:p y_ with
      | true=>
        rw[hq] at hcall
        have Q:=zB hq
        clear hq
        go_wp2_with (go_at_fn g;refine hcall.mono ?_;rintro e w' ⟨rfl,hb'⟩)
        go_ret
        exact⟨by rw[ix_Alarm_hit p l0 kk hlt (by rw[Y.out];exact Q.out) A.out];rfl,hb'⟩
      | false=>
        rw[hq] at hcall
        have Q:=zB hq
        clear hq
        go_wp2_with (go_at_fn g;refine hcall.mono ?_;rintro e w' ⟨rfl,hb'⟩)
        go_roundg (l0.length-(kk+1))
        case measure=>omega
        case rel=>
          refine⟨kk+1,by omega,by omega,by go_num,⟨hb'⟩,⟨fun j hj=>?_⟩⟩
          by_cases e:j=kk
          · subst e;rw[Y.out];exact Q.out
          · exact A.out j (by omega)
    · have hltz: ¬(kk:Int)<(l0.length:Int):=by omega
      go_wp2
      go_ret
      exact⟨by rw[ix_Alarm_miss p l0 (fun j hj=>A.out j (by omega))];rfl,BW.out⟩
def board_Get.f (a0_0:Int) (a0_1:Int) (l0_2:List S28) (a1_0:Int) (a1_1:Int):Option (Int×Int×Int×Int×Int×Int×Bool):=if ix_Alarm (fun x=>decide (x.f0.f0=a1_0)&&decide (x.f0.f1=a1_1)) l0_2<0 then some (0,0,0,0,0,0,false) else some ((rd_T28 l0_2 (ix_Alarm (fun x=>decide (x.f0.f0=a1_0)&&decide (x.f0.f1=a1_1)) l0_2)).f0.f0,(rd_T28 l0_2 (ix_Alarm (fun x=>decide (x.f0.f0=a1_0)&&decide (x.f0.f1=a1_1)) l0_2)).f0.f1,(rd_T28 l0_2 (ix_Alarm (fun x=>decide (x.f0.f0=a1_0)&&decide (x.f0.f1=a1_1)) l0_2)).f1,(rd_T28 l0_2 (ix_Alarm (fun x=>decide (x.f0.f0=a1_0)&&decide (x.f0.f1=a1_1)) l0_2)).f2,(rd_T28 l0_2 (ix_Alarm (fun x=>decide (x.f0.f0=a1_0)&&decide (x.f0.f1=a1_1)) l0_2)).f3,(rd_T28 l0_2 (ix_Alarm (fun x=>decide (x.f0.f0=a1_0)&&decide (x.f0.f1=a1_1)) l0_2)).f4,true)
theorem ix_Alarm_lt (p:S28→Bool) (l:List S28) (h: ¬ix_Alarm p l<0):ix_Alarm p l<(l.length:Int):=by
  unfold ix_Alarm at h⊢
  cases e:l.findIdx? p with
  |none=>rw[e] at h;exact absurd h (by decide)
  | some i=>
    rw[List.findIdx?_eq_some_iff_getElem] at e
    obtain⟨hi,_⟩:=e
    show(i:Int)<_
    omega
theorem board_Get.one (s0 s1:Int) (B:Nat) (w:World) (hB:B<w.heap.size) (hcell0:w.cell? ⟨B,0,none⟩=some (.int .i64 s0)) (hcell1:w.cell? ⟨B,1,none⟩=some (.int .i64 s1)) (W:World) (x:S28) (hb:Below w.heap.size w W):
    Calls Try.prog 59 (#[.agg #[.int .i64 x.f0.f0,.int .i64 x.f0.f1,.int .i64 x.f1,.int .i64 x.f2,.int .i64 x.f3,.int .i64 x.f4]]++#[.pointer (some ⟨B,0,none⟩)]) W fun e w'=>e=.returned (.bool (decide (x.f0.f0=s0)&&decide (x.f0.f1=s1)))∧Below w.heap.size w w':=by
  have hc0:W.cell? ⟨B,0,none⟩=some (.int .i64 s0):=(hb.cell (p:=⟨B,0,none⟩) hB).trans hcell0
  have hc1:W.cell? ⟨B,1,none⟩=some (.int .i64 s1):=(hb.cell (p:=⟨B,1,none⟩) hB).trans hcell1
  have hBW:B<W.heap.size:=Nat.lt_of_lt_of_le hB hb.size
  have hne:B≠W.heap.size:=by omega
  obtain⟨⟨x0,x1⟩,x2,x3,x4,x5⟩:=x
  show Calls Try.prog 59 #[.agg #[.int .i64 x0,.int .i64 x1,.int .i64 x2,.int .i64 x3,.int .i64 x4,.int .i64 x5],.pointer (some ⟨B,0,none⟩)] W _
  clear hcell0 hcell1
  by_cases h0:x0=s0
  · by_cases h1:x1=s1
    · subst h0;subst h1
      go_enter Try.func59,Try.ntmps59
      go_wp2
      all_goals (go_ret;exact⟨by first|(simp_all;done)|(simp_all;rfl),hb.alloc hb.size _⟩)
    · have d1:decide (x1=s1)=false:=zY h1
      have d2:(x1==s1)=false:=by rw[beq_eq_false_iff_ne];exact h1
      subst h0
      go_enter Try.func59,Try.ntmps59
      go_wp2
      all_goals (go_ret;exact⟨by first|(simp_all;done)|(simp_all;rfl),hb.alloc hb.size _⟩)
  · have d1:decide (x0=s0)=false:=zY h0
    have d2:(x0==s0)=false:=by rw[beq_eq_false_iff_ne];exact h0
    go_enter Try.func59,Try.ntmps59
    go_wp2
    all_goals (go_ret;exact⟨by first|(simp_all;done)|(simp_all;rfl),hb.alloc hb.size _⟩)
set_option maxHeartbeats 8000000 in
set_option maxRecDepth 100000 in
theorem board_Get.calls (a0_0:Int) (a0_1:Int) (A0_2:Option Addr) (c0_2:Nat) (l0_2:List S28) (a1_0:Int) (a1_1:Int) (r1:Int) (r2:Int) (r3:Int) (r4:Int) (r5:Int) (r6:Int) (r7:Bool) (w:World) (hr0_2:Kd.C k28 w A0_2 l0_2.length l0_2) (hc0_2:l0_2.length≤c0_2) (h:board_Get.f a0_0 a0_1 l0_2 a1_0 a1_1=some (r1,r2,r3,r4,r5,r6,r7)):
    Calls Try.prog 21 #[.agg #[.int .i64 a0_0,.int .i64 a0_1,.slice A0_2 l0_2.length c0_2],.agg #[.int .i64 a1_0,.int .i64 a1_1]] w fun e w'=>e=.returned (.tuple #[.agg #[.int .i64 r1,.int .i64 r2,.int .i64 r3,.int .i64 r4,.int .i64 r5,.int .i64 r6],.bool r7])∧Below w.heap.size w w':=by
  have hu24:=Try.underlying24
  have hu26:=Try.underlying26
  have hu28:=Try.underlying28
  have eg: ∀args w,(callFunc 59 args).run Try.prog w=.ok (.enter 59 args) w:=enters_of Try.func59 (by kernel_rfl) rfl
  have HR:=zB hr0_2
  have HC:=zB hc0_2
  clear hr0_2 hc0_2
  have HB:=zB (Below.refl w.heap.size w)
  unfold board_Get.f at h
  generalize hq:ix_Alarm (fun x=>decide (x.f0.f0=a1_0)&&decide (x.f0.f1=a1_1)) l0_2=q at h
  have Q:=zB hq
  by_cases c:q<0
  · rw[if_pos c] at h
    have c0:decide (q<0)=true:=zO c
    simp only[zc,Prod.mk.injEq] at h
    obtain⟨rfl,rfl,rfl,rfl,rfl,rfl,rfl⟩:=h
    clear c hq
    go_enter Try.func21,Try.ntmps21
    go_wp2_with (first|((with_reducible refine gate_dst (N:=2) rfl ?_);refine be_ (N:=2) (cs:=#[.int .i64 a0_0,.int .i64 a0_1,.slice A0_2 l0_2.length c0_2]) (t:=24) ?_;intro gbB hg w3 hbox hb;have n0_:=zB (zQ HB.out hb);have n1_:=zB hbox;have n2_:=zB ((by rw[hg];exact(zN HB.out)):w.heap.size≤gbB);clear HB;have HB:=n0_;have BKB:=n1_;have GEB:=n2_;clear n0_ n1_ n2_;clear hb hbox hg)|((with_reducible refine gate_dst (N:=3) rfl ?_);refine be_ (N:=3) (cs:=#[.int .i64 a1_0,.int .i64 a1_1]) (t:=26) ?_;intro gbS hg w4 hbox hb;have n0_:=zB (zQ HB.out hb);have n1_:=zB hbox;have n2_:=zB ((by rw[hg];exact(zN HB.out)):w.heap.size≤gbS);have m0_:=zB (blk_below BKB.out hb);clear HB;clear BKB;have HB:=n0_;have BKS:=n1_;have GES:=n2_;have BKB:=m0_;clear n0_ n1_ n2_ m0_;clear hb hbox hg)|((with_reducible refine gate_dst (N:=4) rfl ?_);refine be_ (N:=4) (cs:=#[.int .i64 0,.int .i64 0,.int .i64 0,.int .i64 0,.int .i64 0,.int .i64 0]) (t:=28) ?_;intro gbZ hg w5 hbox hb;have n0_:=zB (zQ HB.out hb);have n1_:=zB hbox;have n2_:=zB ((by rw[hg];exact(zN HB.out)):w.heap.size≤gbZ);have m0_:=zB (blk_below BKB.out hb);have m1_:=zB (blk_below BKS.out hb);clear HB;clear BKB;clear BKS;have HB:=n0_;have BKZ:=n1_;have GEZ:=n2_;have BKB:=m0_;have BKS:=m1_;clear n0_ n1_ n2_ m0_ m1_;clear hb hbox hg;have hczB_0:w5.cell? ⟨gbB,0,none⟩=some (.int .i64 a0_0):=(zD BKB.out 0).trans rfl;have hczB_1:w5.cell? ⟨gbB,1,none⟩=some (.int .i64 a0_1):=(zD BKB.out 1).trans rfl;have hczB_2:w5.cell? ⟨gbB,2,none⟩=some (.slice A0_2 l0_2.length c0_2):=(zD BKB.out 2).trans rfl;have HCON:=zB (ixfunc_Alarm.calls (fun x=>decide (x.f0.f0=a1_0)&&decide (x.f0.f1=a1_1)) 59 #[.pointer (some ⟨gbS,0,none⟩)] eg A0_2 c0_2 l0_2 w5 (fun W x hb=>board_Get.one a1_0 a1_1 gbS w5 (blk_lt BKS.out) ((zD BKS.out 0).trans rfl) ((zD BKS.out 1).trans rfl) W x hb) (Kd.C_below HR.out HB.out)))|(go_at_call 58;refine HCON.out.mono ?_;rintro e w6 ⟨rfl,hb⟩;rw[Q.out];have n0_:=zB (zQ HB.out hb);have m0_:=zB (blk_below BKB.out hb);have m1_:=zB (blk_below BKZ.out hb);clear HCON HB BKB BKZ;have HB:=n0_;have BKB:=m0_;have BKZ:=m1_;clear n0_ m0_ m1_ hb;have hczZ_0:w6.cell? ⟨gbZ,0,none⟩=some (.int .i64 0):=(zD BKZ.out 0).trans rfl;have hczZ_1:w6.cell? ⟨gbZ,1,none⟩=some (.int .i64 0):=(zD BKZ.out 1).trans rfl;have hczZ_2:w6.cell? ⟨gbZ,2,none⟩=some (.int .i64 0):=(zD BKZ.out 2).trans rfl;have hczZ_3:w6.cell? ⟨gbZ,3,none⟩=some (.int .i64 0):=(zD BKZ.out 3).trans rfl;have hczZ_4:w6.cell? ⟨gbZ,4,none⟩=some (.int .i64 0):=(zD BKZ.out 4).trans rfl;have hczZ_5:w6.cell? ⟨gbZ,5,none⟩=some (.int .i64 0):=(zD BKZ.out 5).trans rfl;have hfzZ_0:=zC BKZ.out 0;have hfzZ_1:=zC BKZ.out 1;have hfzZ_2:=zC BKZ.out 2;have hfzZ_3:=zC BKZ.out 3;have hfzZ_4:=zC BKZ.out 4;have hfzZ_5:=zC BKZ.out 5))
    refine bodyPost_ret (results_ct rfl _ _ gbZ 28 #[.int .i64 0,.int .i64 0,.int .i64 0,.int .i64 0,.int .i64 0,.int .i64 0] (0,0) _ rfl (by refine zZ (cs:=#[.int .i64 0,.int .i64 0,.int .i64 0,.int .i64 0,.int .i64 0,.int .i64 0]) ?_ 5 _ rfl;refine zZ (cs:=#[.int .i64 0,.int .i64 0,.int .i64 0,.int .i64 0,.int .i64 0,.int .i64 0]) ?_ 4 _ rfl;refine zZ (cs:=#[.int .i64 0,.int .i64 0,.int .i64 0,.int .i64 0,.int .i64 0,.int .i64 0]) ?_ 3 _ rfl;refine zZ (cs:=#[.int .i64 0,.int .i64 0,.int .i64 0,.int .i64 0,.int .i64 0,.int .i64 0]) ?_ 2 _ rfl;refine zZ (cs:=#[.int .i64 0,.int .i64 0,.int .i64 0,.int .i64 0,.int .i64 0,.int .i64 0]) ?_ 1 _ rfl;refine zZ (cs:=#[.int .i64 0,.int .i64 0,.int .i64 0,.int .i64 0,.int .i64 0,.int .i64 0]) ?_ 0 _ rfl;exact BKZ.out) Try.underlying28 rfl (by kernel_rfl)) rfl ?_
    exact⟨rs_,hb_ HB⟩
  · rw[if_neg c] at h
    have c0:decide (q<0)=false:=zY c
    have c1:decide (0≤q)=true:=zO (by omega)
    have hlt:q<(l0_2.length:Int):=by rw[←hq];exact ix_Alarm_lt _ _ (by rw[hq];exact c)
    have c2:decide (q<(l0_2.length:Int))=true:=zO hlt
    simp only[zc,Prod.mk.injEq] at h
    obtain⟨rfl,rfl,rfl,rfl,rfl,rfl,rfl⟩:=h
    have QP:=zB (show 0≤q by omega)
    have QL:=zB hlt
    clear c hq hlt
    go_enter Try.func21,Try.ntmps21
    go_wp2_with (first|((with_reducible refine gate_dst (N:=2) rfl ?_);refine be_ (N:=2) (cs:=#[.int .i64 a0_0,.int .i64 a0_1,.slice A0_2 l0_2.length c0_2]) (t:=24) ?_;intro gbB hg w3 hbox hb;have n0_:=zB (zQ HB.out hb);have n1_:=zB hbox;have n2_:=zB ((by rw[hg];exact(zN HB.out)):w.heap.size≤gbB);clear HB;have HB:=n0_;have BKB:=n1_;have GEB:=n2_;clear n0_ n1_ n2_;clear hb hbox hg)|((with_reducible refine gate_dst (N:=3) rfl ?_);refine be_ (N:=3) (cs:=#[.int .i64 a1_0,.int .i64 a1_1]) (t:=26) ?_;intro gbS hg w4 hbox hb;have n0_:=zB (zQ HB.out hb);have n1_:=zB hbox;have n2_:=zB ((by rw[hg];exact(zN HB.out)):w.heap.size≤gbS);have m0_:=zB (blk_below BKB.out hb);clear HB;clear BKB;have HB:=n0_;have BKS:=n1_;have GES:=n2_;have BKB:=m0_;clear n0_ n1_ n2_ m0_;clear hb hbox hg)|((with_reducible refine gate_dst (N:=4) rfl ?_);refine be_ (N:=4) (cs:=#[.int .i64 0,.int .i64 0,.int .i64 0,.int .i64 0,.int .i64 0,.int .i64 0]) (t:=28) ?_;intro gbZ hg w5 hbox hb;have n0_:=zB (zQ HB.out hb);have n1_:=zB hbox;have n2_:=zB ((by rw[hg];exact(zN HB.out)):w.heap.size≤gbZ);have m0_:=zB (blk_below BKB.out hb);have m1_:=zB (blk_below BKS.out hb);clear HB;clear BKB;clear BKS;have HB:=n0_;have BKZ:=n1_;have GEZ:=n2_;have BKB:=m0_;have BKS:=m1_;clear n0_ n1_ n2_ m0_ m1_;clear hb hbox hg;have hczB_0:w5.cell? ⟨gbB,0,none⟩=some (.int .i64 a0_0):=(zD BKB.out 0).trans rfl;have hczB_1:w5.cell? ⟨gbB,1,none⟩=some (.int .i64 a0_1):=(zD BKB.out 1).trans rfl;have hczB_2:w5.cell? ⟨gbB,2,none⟩=some (.slice A0_2 l0_2.length c0_2):=(zD BKB.out 2).trans rfl;have HCON:=zB (ixfunc_Alarm.calls (fun x=>decide (x.f0.f0=a1_0)&&decide (x.f0.f1=a1_1)) 59 #[.pointer (some ⟨gbS,0,none⟩)] eg A0_2 c0_2 l0_2 w5 (fun W x hb=>board_Get.one a1_0 a1_1 gbS w5 (blk_lt BKS.out) ((zD BKS.out 0).trans rfl) ((zD BKS.out 1).trans rfl) W x hb) (Kd.C_below HR.out HB.out)))|(go_at_call 58;refine HCON.out.mono ?_;rintro e w6 ⟨rfl,hb⟩;rw[Q.out];have n0_:=zB (zQ HB.out hb);have m0_:=zB (blk_below BKB.out hb);have m1_:=zB (blk_below BKZ.out hb);clear HCON HB BKB BKZ;have HB:=n0_;have BKB:=m0_;have BKZ:=m1_;clear n0_ m0_ m1_ hb;have hczB_0:w6.cell? ⟨gbB,0,none⟩=some (.int .i64 a0_0):=(zD BKB.out 0).trans rfl;have hczB_1:w6.cell? ⟨gbB,1,none⟩=some (.int .i64 a0_1):=(zD BKB.out 1).trans rfl;have hczB_2:w6.cell? ⟨gbB,2,none⟩=some (.slice A0_2 l0_2.length c0_2):=(zD BKB.out 2).trans rfl;have hczZ_0:w6.cell? ⟨gbZ,0,none⟩=some (.int .i64 0):=(zD BKZ.out 0).trans rfl;have hczZ_1:w6.cell? ⟨gbZ,1,none⟩=some (.int .i64 0):=(zD BKZ.out 1).trans rfl;have hczZ_2:w6.cell? ⟨gbZ,2,none⟩=some (.int .i64 0):=(zD BKZ.out 2).trans rfl;have hczZ_3:w6.cell? ⟨gbZ,3,none⟩=some (.int .i64 0):=(zD BKZ.out 3).trans rfl;have hczZ_4:w6.cell? ⟨gbZ,4,none⟩=some (.int .i64 0):=(zD BKZ.out 4).trans rfl;have hczZ_5:w6.cell? ⟨gbZ,5,none⟩=some (.int .i64 0):=(zD BKZ.out 5).trans rfl;have hfzZ_0:=zC BKZ.out 0;have hfzZ_1:=zC BKZ.out 1;have hfzZ_2:=zC BKZ.out 2;have hfzZ_3:=zC BKZ.out 3;have hfzZ_4:=zC BKZ.out 4;have hfzZ_5:=zC BKZ.out 5;obtain⟨ad,e0,hx0,hx1,hx2,hx3,hx4,hx5⟩:=at_T28 (Kd.C_below HR.out HB.out) q QP.out QL.out;cases e0;have p_:=eq_true QP.out;have q_:=eq_true QL.out))
    refine bodyPost_ret (results_ct rfl _ _ gbZ 28 #[.int .i64 (rd_T28 l0_2 q).f0.f0,.int .i64 (rd_T28 l0_2 q).f0.f1,.int .i64 (rd_T28 l0_2 q).f1,.int .i64 (rd_T28 l0_2 q).f2,.int .i64 (rd_T28 l0_2 q).f3,.int .i64 (rd_T28 l0_2 q).f4] (0,0) _ rfl (by refine zZ (cs:=#[.int .i64 (rd_T28 l0_2 q).f0.f0,.int .i64 (rd_T28 l0_2 q).f0.f1,.int .i64 (rd_T28 l0_2 q).f1,.int .i64 (rd_T28 l0_2 q).f2,.int .i64 (rd_T28 l0_2 q).f3,.int .i64 0]) ?_ 5 _ rfl;refine zZ (cs:=#[.int .i64 (rd_T28 l0_2 q).f0.f0,.int .i64 (rd_T28 l0_2 q).f0.f1,.int .i64 (rd_T28 l0_2 q).f1,.int .i64 (rd_T28 l0_2 q).f2,.int .i64 0,.int .i64 0]) ?_ 4 _ rfl;refine zZ (cs:=#[.int .i64 (rd_T28 l0_2 q).f0.f0,.int .i64 (rd_T28 l0_2 q).f0.f1,.int .i64 (rd_T28 l0_2 q).f1,.int .i64 0,.int .i64 0,.int .i64 0]) ?_ 3 _ rfl;refine zZ (cs:=#[.int .i64 (rd_T28 l0_2 q).f0.f0,.int .i64 (rd_T28 l0_2 q).f0.f1,.int .i64 0,.int .i64 0,.int .i64 0,.int .i64 0]) ?_ 2 _ rfl;refine zZ (cs:=#[.int .i64 (rd_T28 l0_2 q).f0.f0,.int .i64 0,.int .i64 0,.int .i64 0,.int .i64 0,.int .i64 0]) ?_ 1 _ rfl;refine zZ (cs:=#[.int .i64 0,.int .i64 0,.int .i64 0,.int .i64 0,.int .i64 0,.int .i64 0]) ?_ 0 _ rfl;exact BKZ.out) Try.underlying28 rfl (by kernel_rfl)) rfl ?_
    exact⟨rs_,hb_ HB⟩
end Go.Proofs.Ytcfpbmdndapeaaa.F
