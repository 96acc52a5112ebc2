-- Written by a program of this session (xprint.py), out of the translation and of contracts proved by hand.
import Derived.Test.YtcfpbmdndapeaaaF0
import Derived.Test.YtcfpbmdndapeaaaF16
namespace Go.Proofs.Ytcfpbmdndapeaaa.F
open Go.RowKit Go.Proofs.YtcfpbmdndapeaaaV.PrintWords Go.Proofs.YtcfpbmdndapeaaaV.PrintLast Go.Proofs.YtcfpbmdndapeaaaV.PrintMore
attribute [local go_sem] max2_int min2_int max_two min_two max_three min_three max_four min_four
set_option linter.unusedVariables false
set_option linter.unusedSimpArgs false
mutual
def watchmanref08_Is.j0:Nat→Bool→Int→Int→List (S28)→Option (Bool)
 |0,_,_,_,_=>none
 |k+1,x29,x240000,x240001,x240002=>if x29=true then(some false) else(watchmanref08_Is.l0 k 0 x240000 x240001 x240002)
def watchmanref08_Is.l0:Nat→Int→Int→Int→List (S28)→Option (Bool)
 |0,_,_,_,_=>none
 |k+1,x3,x240000,x240001,x240002=>if x3<(x240002.length:Int) then(if 0≤x3 then((watchmanref06_Is.f ((rd_T28 x240002 x3).f0.f0) ((rd_T28 x240002 x3).f0.f1) ((rd_T28 x240002 x3).f1) ((rd_T28 x240002 x3).f2) ((rd_T28 x240002 x3).f3) ((rd_T28 x240002 x3).f4)).bind fun t241=>(if t241=true then(if((rd_T28 x240002 x3).f3)>x240001 then(watchmanref08_Is.j2 k x3 true x240000 x240001 x240002) else(if x3>0 then(if 0≤(wrap64 (x3-1)) then(if(wrap64 (x3-1))<(x240002.length:Int) then((watchmanref04_Less.f ((rd_T28 x240002 (wrap64 (x3-1))).f0.f0) ((rd_T28 x240002 (wrap64 (x3-1))).f0.f1) ((rd_T28 x240002 x3).f0.f0) ((rd_T28 x240002 x3).f0.f1)).bind fun t245=>(watchmanref08_Is.j2 k x3 (!t245) x240000 x240001 x240002)) else(none)) else(none)) else(watchmanref08_Is.j2 k x3 false x240000 x240001 x240002))) else(watchmanref08_Is.j2 k x3 true x240000 x240001 x240002))) else(none)) else(some true)
def watchmanref08_Is.j2:Nat→Int→Bool→Int→Int→List (S28)→Option (Bool)
 |0,_,_,_,_,_=>none
 |k+1,x3,x75,x240000,x240001,x240002=>if x75=true then(some false) else(watchmanref08_Is.l0 k (wrap64 (x3+1)) x240000 x240001 x240002)
end
def watchmanref08_Is.f (k:Nat) (a0_0:Int) (a0_1:Int) (l0_2:List (S28)):Option (Bool):=if a0_0<1 then(watchmanref08_Is.j0 k true a0_0 a0_1 l0_2) else(if a0_0>200 then(watchmanref08_Is.j0 k true a0_0 a0_1 l0_2) else(if a0_1<0 then(watchmanref08_Is.j0 k true a0_0 a0_1 l0_2) else(if a0_1>1000000000 then(watchmanref08_Is.j0 k true a0_0 a0_1 l0_2) else(watchmanref08_Is.j0 k (decide ((l0_2.length:Int)>a0_0)) a0_0 a0_1 l0_2))))
theorem watchmanref08_Is.mono_l: ∀k,(∀y0 y1 y2 y3,LeO (watchmanref08_Is.j0 k y0 y1 y2 y3) (watchmanref08_Is.j0 (k+1) y0 y1 y2 y3))∧(∀y0 y1 y2 y3,LeO (watchmanref08_Is.l0 k y0 y1 y2 y3) (watchmanref08_Is.l0 (k+1) y0 y1 y2 y3))∧(∀y0 y1 y2 y3 y4,LeO (watchmanref08_Is.j2 k y0 y1 y2 y3 y4) (watchmanref08_Is.j2 (k+1) y0 y1 y2 y3 y4))
 |0=>⟨fun _ _ _ _ r h=>by simp[watchmanref08_Is.j0] at h,fun _ _ _ _ r h=>by simp[watchmanref08_Is.l0] at h,fun _ _ _ _ _ r h=>by simp[watchmanref08_Is.j2] at h⟩
 |k+1=>by
  obtain⟨ih0,ih1,ih2⟩:=watchmanref08_Is.mono_l k
  refine⟨?_,?_,?_⟩
  all_goals (intros;first|unfold watchmanref08_Is.j0|unfold watchmanref08_Is.l0|unfold watchmanref08_Is.j2)
  all_goals (repeat' first
   |(with_reducible exact ih0 _ _ _ _)
   |(with_reducible exact ih1 _ _ _ _)
   |(with_reducible exact ih2 _ _ _ _ _)
   |(with_reducible exact LeO.refl _)
   |(with_reducible exact zf _)
   |(with_reducible refine zg ?_ ?_)
   |(with_reducible refine ze ?_ (fun _=>?_)))
theorem watchmanref08_Is.mono: ∀a0 a1 a2 k,LeO (watchmanref08_Is.f k a0 a1 a2) (watchmanref08_Is.f (k+1) a0 a1 a2):=by
 intro a0 a1 a2 k
 obtain⟨ih0,ih1,ih2⟩:=watchmanref08_Is.mono_l k
 unfold watchmanref08_Is.f
 repeat' first
   |(with_reducible exact ih0 _ _ _ _)
   |(with_reducible exact ih1 _ _ _ _)
   |(with_reducible exact ih2 _ _ _ _ _)
   |(with_reducible exact LeO.refl _)
   |(with_reducible exact zf _)
   |(with_reducible refine zg ?_ ?_)
   |(with_reducible refine ze ?_ (fun _=>?_))
def watchmanref08_Is.T6:Bool×List (List Nat×List Nat):=(true,[([],[]),([0],[0]),([],[]),([1,2],[1,2]),([3],[3]),([4],[4]),([5],[5]),([6,5],[6]),([7],[7]),([8,7],[7,8]),([7],[7]),([9,10,7],[7,9,10]),([11,7],[7,11]),([12,7],[7,12]),([7],[7]),([14,7],[7,14]),([13,15,7],[7,13,15]),([7,16],[7,16]),([17,7],[17]),([18],[18]),([19,18],[18,19]),([20,18,18],[18,20]),([21],[21]),([22,21],[21,22]),([21],[21]),([24,21],[21,24]),([23,25,21],[21,23,25]),([26,21],[21,26]),([27,21],[21,27]),([21],[21]),([29,21],[21,29]),([21],[21]),([30,31,21],[21,30,31]),([32,21],[21,32]),([33,21],[21,33]),([28,34,21,21],[21,28,34]),([35,21],[21,35]),([21,36,18],[18,21,36]),([18,37],[18,37])])
def watchmanref08_Is.B6:List Nat:=[0,1,0,7,15,31,63,127,255,511,255,2047,4095,8191,255,16639,65535,131071,262143,524287,1048575,2097151,4194303,8388607,4194303,20971519,67108863,134217727,268435455,4194303,541065215,4194303,3762290687,8057257983,16647192575,34359738367,68719476735,137438953471,274877906943]
theorem watchmanref08_Is.tab6:rtab .any (opsOf Try.f33 6)=watchmanref08_Is.T6:=by kernel_rfl
theorem watchmanref08_Is.bits6:waitsOk watchmanref08_Is.T6.2 watchmanref08_Is.B6=true:=by kernel_rfl
set_option maxHeartbeats 8000000 in
set_option maxRecDepth 100000 in
theorem watchmanref08_Is.calls (k:Nat) (a0_0:Int) (a0_1:Int) (A0_2:Option Addr) (c0_2:Nat) (l0_2:List (S28)) (r:Bool) (w:World) (hr0_2:Kd.C k28 w A0_2 l0_2.length l0_2) (hc0_2:l0_2.length≤c0_2) (h:watchmanref08_Is.f k a0_0 a0_1 l0_2=some r):
  Calls Try.prog 33 #[.agg #[.int .i64 a0_0,.int .i64 a0_1,.slice A0_2 l0_2.length c0_2]] w fun e w'=>e=.returned (.bool r)∧Below w.heap.size w w':=by
 have hu24:=Try.underlying24
 have hu28:=Try.underlying28
 have hu26:=Try.underlying26
 have HR0_2:=zB hr0_2
 have HC0_2:=zB hc0_2
 clear hr0_2 hc0_2
 have HB:=zB (Below.refl w.heap.size w)
 have H:(if a0_0<1 then(watchmanref08_Is.j0 k true a0_0 a0_1 l0_2) else(if a0_0>200 then(watchmanref08_Is.j0 k true a0_0 a0_1 l0_2) else(if a0_1<0 then(watchmanref08_Is.j0 k true a0_0 a0_1 l0_2) else(if a0_1>1000000000 then(watchmanref08_Is.j0 k true a0_0 a0_1 l0_2) else(watchmanref08_Is.j0 k (decide ((l0_2.length:Int)>a0_0)) a0_0 a0_1 l0_2)))))=some r:=h
 clear h
 have HC2:=zB H
 clear H
 go_enter Try.func33,Try.ntmps33
 go_upto_region 1 with(first|((with_reducible refine gate_dst (N:=1) rfl ?_);(try(refine gate_guard (by rfl) ?_;dsimp only));refine be_ (N:=1) (cs:=#[.int .i64 a0_0,.int .i64 a0_1,.slice A0_2 l0_2.length c0_2]) (t:=24) ?_;intro gb239 hg w3 hbox hb;have BK239:=zB hbox;have GW239:=gw_ hg HB;have GE239:=GW239;replace HB:=zB (zQ HB.out hb);clear hb hbox hg))
 (try simp only[Act.put,zE,zH,zI])
 go_cut [29] (fun v29 wc=> ∃(kq:Nat) (x29_1:Bool),v29=.bool x29_1∧Aside0 (watchmanref08_Is.j0 kq x29_1 a0_0 a0_1 l0_2=some r)∧Aside0 (kq≤k)∧Aside0 (wc.heap[gb239]?=some (.cells #[.int .i64 a0_0,.int .i64 a0_1,(.slice A0_2 l0_2.length c0_2)] 24 (0,0)))∧Aside0 (Below w.heap.size w wc))
 case first=>
  have H:=HC2.out
  clear HC2
  by_cases c4:a0_0<1
  ·rw[if_pos c4] at H
   have c4b0:=zO c4
   clear c4
   (first|rw[c4b0]|(simp only[i64_w,i32_w];rw[c4b0])|skip)
   have H':=zB H
   clear H
   have hcz5:=zD BK239.out
   have hfz5:=zC BK239.out
   go_wp2
   go_meet
   case rel=>exact⟨_,(true),rs_,H',⟨by first|omega|exact za _⟩,⟨bk_ BK239⟩,⟨hb_ HB⟩⟩
  ·rw[if_neg c4] at H
   have c4b0:=zY c4
   clear c4
   (first|rw[c4b0]|(simp only[i64_w,i32_w];rw[c4b0])|skip)
   by_cases c6:a0_0>200
   ·rw[if_pos c6] at H
    have c6b0:=zO c6
    clear c6
    have H':=zB H
    clear H
    have hcz7:=zD BK239.out
    have hfz7:=zC BK239.out
    go_wp2
    go_meet
    case rel=>exact⟨_,(true),rs_,H',⟨by first|omega|exact za _⟩,⟨bk_ BK239⟩,⟨hb_ HB⟩⟩
   ·rw[if_neg c6] at H
    have c6b0:=zY c6
    clear c6
    by_cases c8:a0_1<0
    ·rw[if_pos c8] at H
     have c8b0:=zO c8
     clear c8
     have H':=zB H
     clear H
     have hcz9:=zD BK239.out
     have hfz9:=zC BK239.out
     go_wp2
     go_meet
     case rel=>exact⟨_,(true),rs_,H',⟨by first|omega|exact za _⟩,⟨bk_ BK239⟩,⟨hb_ HB⟩⟩
    ·rw[if_neg c8] at H
     have c8b0:=zY c8
     clear c8
     by_cases c10:a0_1>1000000000
     ·rw[if_pos c10] at H
      have c10b0:=zO c10
      clear c10
      have H':=zB H
      clear H
      have hcz11:=zD BK239.out
      have hfz11:=zC BK239.out
      go_wp2
      go_meet
      case rel=>exact⟨_,(true),rs_,H',⟨by first|omega|exact za _⟩,⟨bk_ BK239⟩,⟨hb_ HB⟩⟩
     ·rw[if_neg c10] at H
      have c10b0:=zY c10
      clear c10
      have H':=zB H
      clear H
      have hcz12:=zD BK239.out
      have hfz12:=zC BK239.out
      go_wp2
      go_meet
      case rel=>exact⟨_,(decide ((l0_2.length:Int)>a0_0)),rs_,H',⟨by first|omega|exact za _⟩,⟨bk_ BK239⟩,⟨hb_ HB⟩⟩
 case rest=>
  clear HC2
  try clear c1;try clear p2;try clear c3;try clear c4;try clear c4b0;try clear c6;try clear c6b0;try clear c8;try clear c8b0;try clear c10;try clear c10b0;try clear hcz11;try clear hcz12;try clear hcz5;try clear hcz7;try clear hcz9;try clear hfz11;try clear hfz12;try clear hfz5;try clear hfz7;try clear hfz9
  obtain⟨kq,x29_1,rfl,HA,HJ1,BK239,HB⟩:=hcut
  cases kq with
  |zero=>exact absurd HA.out (by simp[watchmanref08_Is.j0])
  |succ kj1=>
   have H:=HA.out
   clear HA
   simp only[watchmanref08_Is.j0] at H
   by_cases c13:x29_1=true
   ·subst c13
    rw[if_pos rfl] at H;try dsimp only at H
    obtain rfl:=zW H
    go_wp2
    go_ret
    exact⟨ew_,hb_ HB⟩
   ·replace c13:=zb c13
    subst c13
    rw[if_neg (show ¬(false=true) by decide)] at H;try dsimp only at H
    have H':=zB H
    clear H
    go_wp2
    go_loopg [3] kj1 (fun kq v3 w'=> ∃(x3_2:Int),v3=.int .i64 x3_2∧Aside0 (watchmanref08_Is.l0 kq x3_2 a0_0 a0_1 l0_2=some r)∧Aside0 (kq≤kj1)∧Aside0 (w'.heap[gb239]?=some (.cells #[.int .i64 a0_0,.int .i64 a0_1,(.slice A0_2 l0_2.length c0_2)] 24 (0,0)))∧Aside0 (Below w.heap.size w w'))
    case atStart=>exact⟨(0),rs_,H',⟨za _⟩,⟨bk_ BK239⟩,⟨hb_ HB⟩⟩
    case round=>
     clear H'
     try clear c1;try clear p2;try clear c3;try clear c4;try clear c4b0;try clear c6;try clear c6b0;try clear c8;try clear c8b0;try clear c10;try clear c10b0;try clear c13;try clear hcz11;try clear hcz12;try clear hcz5;try clear hcz7;try clear hcz9;try clear hfz11;try clear hfz12;try clear hfz5;try clear hfz7;try clear hfz9
     obtain⟨x3_2,rfl,HA,HK2,BK239,HB⟩:=hrel
     cases gk with
     |zero=>exact absurd HA.out (by simp[watchmanref08_Is.l0])
     |succ k2=>
      have H:=HA.out
      clear HA
      simp only[watchmanref08_Is.l0] at H
      by_cases c14:x3_2<(l0_2.length:Int)
      ·rw[if_pos c14] at H
       have c14b0:=zO c14
       clear c14
       have HC15:=zB H
       clear H
       have hcz16:=zD BK239.out
       have hfz16:=zC BK239.out
       go_upto_region 6 with(fail)
       go_cut [75] (fun v75 wc=> ∃(kq:Nat) (x75_14:Bool),v75=.bool x75_14∧Aside0 (watchmanref08_Is.j2 kq x3_2 x75_14 a0_0 a0_1 l0_2=some r)∧Aside0 (kq≤k2)∧Aside0 (wc.heap[gb239]?=some (.cells #[.int .i64 a0_0,.int .i64 a0_1,(.slice A0_2 l0_2.length c0_2)] 24 (0,0)))∧Aside0 (Below w.heap.size w wc))
       case first=>
        have H:=HC15.out
        clear HC15
        obtain⟨c17,H⟩:=gd_ H
        have c17b0:=zO c17
        clear c17
        (first|rw[c17b0]|(simp only[i64_w,i32_w];rw[c17b0])|skip)
        replace H:=zL H
        obtain⟨t241,A180,H⟩:=H
        try dsimp only at H
        have A18:=zB A180
        clear A180
        by_cases c19:t241=true
        ·subst c19
         rw[if_pos rfl] at H;try dsimp only at H
         by_cases c20:((rd_T28 l0_2 x3_2).f3)>a0_1
         ·rw[if_pos c20] at H
          have c20b0:=zO c20
          clear c20
          have H':=zB H
          clear H
          try go_wp2
          replace BK239:=zB (zX BK239.out)
          replace HB:=zB (zG HB.out)
          have p240:0≤(x3_2:Int):=zJ as_
          have q240:x3_2<(l0_2.length:Int):=zJ as_
          obtain⟨ad240,e240,hx240_0,hx240_1,hx240_2,hx240_3,hx240_4,hx240_5⟩:=at_T28 HR0_2.out x3_2 p240 q240
          have hw240_5:=hx240_5
          have hw240_4:=hx240_4
          have hw240_3:=hx240_3
          have hw240_2:=hx240_2
          have hw240_1:=hx240_1
          have hw240_0:=hx240_0
          cases e240
          replace hx240_0:=cb_ HB hx240_0
          replace hx240_1:=cb_ HB hx240_1
          replace hx240_2:=cb_ HB hx240_2
          replace hx240_3:=cb_ HB hx240_3
          replace hx240_4:=cb_ HB hx240_4
          replace hx240_5:=cb_ HB hx240_5
          replace p240:=eq_true p240
          replace q240:=eq_true q240
          have p242:0≤(x3_2:Int):=zJ as_
          have q242:x3_2<(l0_2.length:Int):=zJ as_
          obtain⟨ad242,e242,hx242_0,hx242_1,hx242_2,hx242_3,hx242_4,hx242_5⟩:=at_T28 HR0_2.out x3_2 p242 q242
          have hw242_5:=hx242_5
          have hw242_4:=hx242_4
          have hw242_3:=hx242_3
          have hw242_2:=hx242_2
          have hw242_1:=hx242_1
          have hw242_0:=hx242_0
          obtain rfl:ad240=ad242:=(by injection e242)
          replace hx242_0:=cb_ HB hx242_0
          replace hx242_1:=cb_ HB hx242_1
          replace hx242_2:=cb_ HB hx242_2
          replace hx242_3:=cb_ HB hx242_3
          replace hx242_4:=cb_ HB hx242_4
          replace hx242_5:=cb_ HB hx242_5
          replace p242:=eq_true p242
          replace q242:=eq_true q242
          refine start_ (n:=39) (S:=fun w'=>c_ w' gb239 0 (.int .i64 a0_0)∧c_ w' gb239 1 (.int .i64 a0_1)∧c_ w' gb239 2 (.slice (some ad240) l0_2.length c0_2)∧w'.cell? (ad240.add ((x3_2).toNat*6))=some (.int .i64 ((rd_T28 l0_2 x3_2).f0.f0))∧w'.cell? ⟨(ad240.add ((x3_2).toNat*6)).block,(ad240.add ((x3_2).toNat*6)).off+1,none⟩=some (.int .i64 ((rd_T28 l0_2 x3_2).f0.f1))∧w'.cell? ⟨(ad240.add ((x3_2).toNat*6)).block,(ad240.add ((x3_2).toNat*6)).off+2,none⟩=some (.int .i64 ((rd_T28 l0_2 x3_2).f1))∧w'.cell? ⟨(ad240.add ((x3_2).toNat*6)).block,(ad240.add ((x3_2).toNat*6)).off+3,none⟩=some (.int .i64 ((rd_T28 l0_2 x3_2).f2))∧w'.cell? ⟨(ad240.add ((x3_2).toNat*6)).block,(ad240.add ((x3_2).toNat*6)).off+4,none⟩=some (.int .i64 ((rd_T28 l0_2 x3_2).f3))∧w'.cell? ⟨(ad240.add ((x3_2).toNat*6)).block,(ad240.add ((x3_2).toNat*6)).off+5,none⟩=some (.int .i64 ((rd_T28 l0_2 x3_2).f4))∧w'.cell? (ad240.add ((x3_2).toNat*6))=some (.int .i64 ((rd_T28 l0_2 x3_2).f0.f0))∧w'.cell? ⟨(ad240.add ((x3_2).toNat*6)).block,(ad240.add ((x3_2).toNat*6)).off+1,none⟩=some (.int .i64 ((rd_T28 l0_2 x3_2).f0.f1))∧w'.cell? ⟨(ad240.add ((x3_2).toNat*6)).block,(ad240.add ((x3_2).toNat*6)).off+2,none⟩=some (.int .i64 ((rd_T28 l0_2 x3_2).f1))∧w'.cell? ⟨(ad240.add ((x3_2).toNat*6)).block,(ad240.add ((x3_2).toNat*6)).off+3,none⟩=some (.int .i64 ((rd_T28 l0_2 x3_2).f2))∧w'.cell? ⟨(ad240.add ((x3_2).toNat*6)).block,(ad240.add ((x3_2).toNat*6)).off+4,none⟩=some (.int .i64 ((rd_T28 l0_2 x3_2).f3))∧w'.cell? ⟨(ad240.add ((x3_2).toNat*6)).block,(ad240.add ((x3_2).toNat*6)).off+5,none⟩=some (.int .i64 ((rd_T28 l0_2 x3_2).f4))) (ds:=[]) (bt_ 0 39) (by kernel_rfl) rfl rfl ⟨bc_ BK239 0,bc_ BK239 1,bc_ BK239 2,(cb_ HB hw240_0),(cb_ HB hw240_1),(cb_ HB hw240_2),(cb_ HB hw240_3),(cb_ HB hw240_4),(cb_ HB hw240_5),(cb_ HB hw242_0),(cb_ HB hw242_1),(cb_ HB hw242_2),(cb_ HB hw242_3),(cb_ HB hw242_4),(cb_ HB hw242_5)⟩ (fun hHeld=>?_);refine with_tabW watchmanref08_Is.tab6 watchmanref08_Is.bits6 (fun HT_ HW_=>?_)
          generalize wr.drew=w21 at BK239 HB hx240_0 hx240_1 hx240_2 hx240_3 hx240_4 hx240_5 hx242_0 hx242_1 hx242_2 hx242_3 hx242_4 hx242_5 hHeld⊢
          have Q_:=Qs.mk (n:=39) [(0,0,37,1),(0,2,39,5),(2,1,38,7),(0,3,40,15),(2,4,41,31)]
          iterate 5 (first|(refine pq_ Q_ ?_;replace Q_:=qt_ Q_)|(refine tq_ Q_ hHeld ?_;replace Q_:=qt_ Q_))
          clear Q_
          refine one_ (i:=5) (N:=some 42) (dn_ 6 39) rfl rfl (one_of HT_.out (by kernel_rfl)) (by decide) (fun K hK=>?_)
          refine gs_ Try.func55 #[.agg #[.int .i64 ((rd_T28 l0_2 x3_2).f0.f0),.int .i64 ((rd_T28 l0_2 x3_2).f0.f1),.int .i64 ((rd_T28 l0_2 x3_2).f1),.int .i64 ((rd_T28 l0_2 x3_2).f2),.int .i64 ((rd_T28 l0_2 x3_2).f3),.int .i64 ((rd_T28 l0_2 x3_2).f4)]] rfl ?_
          with_reducible refine(watchmanref06_Is.calls ((rd_T28 l0_2 x3_2).f0.f0) ((rd_T28 l0_2 x3_2).f0.f1) ((rd_T28 l0_2 x3_2).f1) ((rd_T28 l0_2 x3_2).f2) ((rd_T28 l0_2 x3_2).f3) ((rd_T28 l0_2 x3_2).f4) true _ A18.out).mono ?_
          rintro e w22 ⟨rfl,hb⟩
          refine⟨_,rfl,?_⟩
          replace BK239:=bl_ BK239 hb
          replace HB:=zB (zQ (hb_ HB) hb)
          (try clear hb)
          (try clear hb2)
          (try clear hk)
          (try clear hi)
          refine hK.out _ _ ⟨bc_ BK239 0,bc_ BK239 1,bc_ BK239 2,(cb_ HB hw240_0),(cb_ HB hw240_1),(cb_ HB hw240_2),(cb_ HB hw240_3),(cb_ HB hw240_4),(cb_ HB hw240_5),(cb_ HB hw242_0),(cb_ HB hw242_1),(cb_ HB hw242_2),(cb_ HB hw242_3),(cb_ HB hw242_4),(cb_ HB hw242_5)⟩ (fun hHeld=>?_)
          clear hK K
          refine norm_ (a':=?_) ?_ ?_
          rotate_left
          ·show Act.put _ (some 42) _=_
           simp only[Act.put,zE,zH,zI,i64_w,i32_w]
           rfl
          have Q_:=Qs.mk (n:=39) [(0,6,43,127),(0,7,44,255),(0,8,45,511),(0,10,47,1535),(0,14,51,17919),(2,9,46,18431),(0,11,48,20479),(0,12,49,24575),(2,13,50,32767),(2,15,52,65535),(0,16,53,131071),(0,17,54,262143),(0,18,55,524287),(1,19,56,1048575),(1,20,57,2097151),(1,21,58,4194303),(1,22,59,8388607),(1,23,60,16777215),(1,24,61,33554431),(1,25,62,67108863),(1,26,63,134217727),(1,27,64,268435455),(1,28,65,536870911),(1,29,66,1073741823),(1,30,67,2147483647),(1,31,68,4294967295),(1,32,69,8589934591),(1,33,70,17179869183),(1,34,71,34359738367),(1,35,72,68719476735),(1,36,73,137438953471),(1,37,74,274877906943),(0,38,75,549755813887)]
          iterate 33 (first|(refine pq_ Q_ ?_;replace Q_:=qt_ Q_)|(refine uq_ Q_ ?_;replace Q_:=qt_ Q_)|(refine tq_ Q_ hHeld ?_;replace Q_:=qt_ Q_))
          clear Q_
          refine done_ (done_of HT_.out (by kernel_rfl)) ?_
          try go_wp2
          go_meet
          case rel=>exact⟨_,(true),rs_,H',⟨by have:=HJ1.out;have:=HK2.out;first|omega|exact za _⟩,⟨bk_ BK239⟩,⟨hb_ HB⟩⟩
         ·rw[if_neg c20] at H
          have c20b0:=zY c20
          clear c20
          by_cases c23:x3_2>0
          ·rw[if_pos c23] at H
           have c23b0:=zO c23
           clear c23
           obtain⟨ji24,hji24⟩: ∃j_:Int,(wrap64 (x3_2-1))=j_:=⟨_,rfl⟩
           replace H:(if 0≤(ji24) then(if(ji24)<(l0_2.length:Int) then((watchmanref04_Less.f ((rd_T28 l0_2 (ji24)).f0.f0) ((rd_T28 l0_2 (ji24)).f0.f1) ((rd_T28 l0_2 x3_2).f0.f0) ((rd_T28 l0_2 x3_2).f0.f1)).bind fun t245=>(watchmanref08_Is.j2 k2 x3_2 (!t245) a0_0 a0_1 l0_2)) else(none)) else(none))=some r:=by first|(rw[hji24] at H;exact H)|(simp only[hji24] at H⊢;exact H)
           (try rw[hji24] at A18)
           have hji24w:(IntKind.i64.wrap (x3_2-1))=ji24:=(i64_w _).trans hji24
           obtain⟨c25,H⟩:=gd_ H
           have c25b0:=zO c25
           clear c25
           obtain⟨c26,H⟩:=gd_ H
           have c26b0:=zO c26
           clear c26
           replace H:=zL H
           obtain⟨t245,A270,H⟩:=H
           try dsimp only at H
           have A27:=zB A270
           clear A270
           have H':=zB H
           clear H
           try go_wp2
           replace BK239:=zB (zX BK239.out)
           replace HB:=zB (zG HB.out)
           have p240:0≤(x3_2:Int):=zJ as_
           have q240:x3_2<(l0_2.length:Int):=zJ as_
           obtain⟨ad240,e240,hx240_0,hx240_1,hx240_2,hx240_3,hx240_4,hx240_5⟩:=at_T28 HR0_2.out x3_2 p240 q240
           have hw240_5:=hx240_5
           have hw240_4:=hx240_4
           have hw240_3:=hx240_3
           have hw240_2:=hx240_2
           have hw240_1:=hx240_1
           have hw240_0:=hx240_0
           cases e240
           replace hx240_0:=cb_ HB hx240_0
           replace hx240_1:=cb_ HB hx240_1
           replace hx240_2:=cb_ HB hx240_2
           replace hx240_3:=cb_ HB hx240_3
           replace hx240_4:=cb_ HB hx240_4
           replace hx240_5:=cb_ HB hx240_5
           replace p240:=eq_true p240
           replace q240:=eq_true q240
           have p242:0≤(x3_2:Int):=zJ as_
           have q242:x3_2<(l0_2.length:Int):=zJ as_
           obtain⟨ad242,e242,hx242_0,hx242_1,hx242_2,hx242_3,hx242_4,hx242_5⟩:=at_T28 HR0_2.out x3_2 p242 q242
           have hw242_5:=hx242_5
           have hw242_4:=hx242_4
           have hw242_3:=hx242_3
           have hw242_2:=hx242_2
           have hw242_1:=hx242_1
           have hw242_0:=hx242_0
           obtain rfl:ad240=ad242:=(by injection e242)
           replace hx242_0:=cb_ HB hx242_0
           replace hx242_1:=cb_ HB hx242_1
           replace hx242_2:=cb_ HB hx242_2
           replace hx242_3:=cb_ HB hx242_3
           replace hx242_4:=cb_ HB hx242_4
           replace hx242_5:=cb_ HB hx242_5
           replace p242:=eq_true p242
           replace q242:=eq_true q242
           have p243:0≤((ji24):Int):=zJ as_
           have q243:(ji24)<(l0_2.length:Int):=zJ as_
           obtain⟨ad243,e243,hx243_0,hx243_1,hx243_2,hx243_3,hx243_4,hx243_5⟩:=at_T28 HR0_2.out (ji24) p243 q243
           have hw243_5:=hx243_5
           have hw243_4:=hx243_4
           have hw243_3:=hx243_3
           have hw243_2:=hx243_2
           have hw243_1:=hx243_1
           have hw243_0:=hx243_0
           obtain rfl:ad240=ad243:=(by injection e243)
           replace hx243_0:=cb_ HB hx243_0
           replace hx243_1:=cb_ HB hx243_1
           replace hx243_2:=cb_ HB hx243_2
           replace hx243_3:=cb_ HB hx243_3
           replace hx243_4:=cb_ HB hx243_4
           replace hx243_5:=cb_ HB hx243_5
           replace p243:=eq_true p243
           replace q243:=eq_true q243
           have p244:0≤(x3_2:Int):=zJ as_
           have q244:x3_2<(l0_2.length:Int):=zJ as_
           obtain⟨ad244,e244,hx244_0,hx244_1,hx244_2,hx244_3,hx244_4,hx244_5⟩:=at_T28 HR0_2.out x3_2 p244 q244
           have hw244_5:=hx244_5
           have hw244_4:=hx244_4
           have hw244_3:=hx244_3
           have hw244_2:=hx244_2
           have hw244_1:=hx244_1
           have hw244_0:=hx244_0
           obtain rfl:ad240=ad244:=(by injection e244)
           replace hx244_0:=cb_ HB hx244_0
           replace hx244_1:=cb_ HB hx244_1
           replace hx244_2:=cb_ HB hx244_2
           replace hx244_3:=cb_ HB hx244_3
           replace hx244_4:=cb_ HB hx244_4
           replace hx244_5:=cb_ HB hx244_5
           replace p244:=eq_true p244
           replace q244:=eq_true q244
           refine start_ (n:=39) (S:=fun w'=>c_ w' gb239 0 (.int .i64 a0_0)∧c_ w' gb239 1 (.int .i64 a0_1)∧c_ w' gb239 2 (.slice (some ad240) l0_2.length c0_2)∧w'.cell? (ad240.add ((x3_2).toNat*6))=some (.int .i64 ((rd_T28 l0_2 x3_2).f0.f0))∧w'.cell? ⟨(ad240.add ((x3_2).toNat*6)).block,(ad240.add ((x3_2).toNat*6)).off+1,none⟩=some (.int .i64 ((rd_T28 l0_2 x3_2).f0.f1))∧w'.cell? ⟨(ad240.add ((x3_2).toNat*6)).block,(ad240.add ((x3_2).toNat*6)).off+2,none⟩=some (.int .i64 ((rd_T28 l0_2 x3_2).f1))∧w'.cell? ⟨(ad240.add ((x3_2).toNat*6)).block,(ad240.add ((x3_2).toNat*6)).off+3,none⟩=some (.int .i64 ((rd_T28 l0_2 x3_2).f2))∧w'.cell? ⟨(ad240.add ((x3_2).toNat*6)).block,(ad240.add ((x3_2).toNat*6)).off+4,none⟩=some (.int .i64 ((rd_T28 l0_2 x3_2).f3))∧w'.cell? ⟨(ad240.add ((x3_2).toNat*6)).block,(ad240.add ((x3_2).toNat*6)).off+5,none⟩=some (.int .i64 ((rd_T28 l0_2 x3_2).f4))∧w'.cell? (ad240.add ((x3_2).toNat*6))=some (.int .i64 ((rd_T28 l0_2 x3_2).f0.f0))∧w'.cell? ⟨(ad240.add ((x3_2).toNat*6)).block,(ad240.add ((x3_2).toNat*6)).off+1,none⟩=some (.int .i64 ((rd_T28 l0_2 x3_2).f0.f1))∧w'.cell? ⟨(ad240.add ((x3_2).toNat*6)).block,(ad240.add ((x3_2).toNat*6)).off+2,none⟩=some (.int .i64 ((rd_T28 l0_2 x3_2).f1))∧w'.cell? ⟨(ad240.add ((x3_2).toNat*6)).block,(ad240.add ((x3_2).toNat*6)).off+3,none⟩=some (.int .i64 ((rd_T28 l0_2 x3_2).f2))∧w'.cell? ⟨(ad240.add ((x3_2).toNat*6)).block,(ad240.add ((x3_2).toNat*6)).off+4,none⟩=some (.int .i64 ((rd_T28 l0_2 x3_2).f3))∧w'.cell? ⟨(ad240.add ((x3_2).toNat*6)).block,(ad240.add ((x3_2).toNat*6)).off+5,none⟩=some (.int .i64 ((rd_T28 l0_2 x3_2).f4))∧w'.cell? (ad240.add (((ji24)).toNat*6))=some (.int .i64 ((rd_T28 l0_2 (ji24)).f0.f0))∧w'.cell? ⟨(ad240.add (((ji24)).toNat*6)).block,(ad240.add (((ji24)).toNat*6)).off+1,none⟩=some (.int .i64 ((rd_T28 l0_2 (ji24)).f0.f1))∧w'.cell? ⟨(ad240.add (((ji24)).toNat*6)).block,(ad240.add (((ji24)).toNat*6)).off+2,none⟩=some (.int .i64 ((rd_T28 l0_2 (ji24)).f1))∧w'.cell? ⟨(ad240.add (((ji24)).toNat*6)).block,(ad240.add (((ji24)).toNat*6)).off+3,none⟩=some (.int .i64 ((rd_T28 l0_2 (ji24)).f2))∧w'.cell? ⟨(ad240.add (((ji24)).toNat*6)).block,(ad240.add (((ji24)).toNat*6)).off+4,none⟩=some (.int .i64 ((rd_T28 l0_2 (ji24)).f3))∧w'.cell? ⟨(ad240.add (((ji24)).toNat*6)).block,(ad240.add (((ji24)).toNat*6)).off+5,none⟩=some (.int .i64 ((rd_T28 l0_2 (ji24)).f4))∧w'.cell? (ad240.add ((x3_2).toNat*6))=some (.int .i64 ((rd_T28 l0_2 x3_2).f0.f0))∧w'.cell? ⟨(ad240.add ((x3_2).toNat*6)).block,(ad240.add ((x3_2).toNat*6)).off+1,none⟩=some (.int .i64 ((rd_T28 l0_2 x3_2).f0.f1))∧w'.cell? ⟨(ad240.add ((x3_2).toNat*6)).block,(ad240.add ((x3_2).toNat*6)).off+2,none⟩=some (.int .i64 ((rd_T28 l0_2 x3_2).f1))∧w'.cell? ⟨(ad240.add ((x3_2).toNat*6)).block,(ad240.add ((x3_2).toNat*6)).off+3,none⟩=some (.int .i64 ((rd_T28 l0_2 x3_2).f2))∧w'.cell? ⟨(ad240.add ((x3_2).toNat*6)).block,(ad240.add ((x3_2).toNat*6)).off+4,none⟩=some (.int .i64 ((rd_T28 l0_2 x3_2).f3))∧w'.cell? ⟨(ad240.add ((x3_2).toNat*6)).block,(ad240.add ((x3_2).toNat*6)).off+5,none⟩=some (.int .i64 ((rd_T28 l0_2 x3_2).f4))) (ds:=[]) (bt_ 0 39) (by kernel_rfl) rfl rfl ⟨bc_ BK239 0,bc_ BK239 1,bc_ BK239 2,(cb_ HB hw240_0),(cb_ HB hw240_1),(cb_ HB hw240_2),(cb_ HB hw240_3),(cb_ HB hw240_4),(cb_ HB hw240_5),(cb_ HB hw242_0),(cb_ HB hw242_1),(cb_ HB hw242_2),(cb_ HB hw242_3),(cb_ HB hw242_4),(cb_ HB hw242_5),(cb_ HB hw243_0),(cb_ HB hw243_1),(cb_ HB hw243_2),(cb_ HB hw243_3),(cb_ HB hw243_4),(cb_ HB hw243_5),(cb_ HB hw244_0),(cb_ HB hw244_1),(cb_ HB hw244_2),(cb_ HB hw244_3),(cb_ HB hw244_4),(cb_ HB hw244_5)⟩ (fun hHeld=>?_);refine with_tabW watchmanref08_Is.tab6 watchmanref08_Is.bits6 (fun HT_ HW_=>?_)
           generalize wr.drew=w28 at BK239 HB hx240_0 hx240_1 hx240_2 hx240_3 hx240_4 hx240_5 hx242_0 hx242_1 hx242_2 hx242_3 hx242_4 hx242_5 hx243_0 hx243_1 hx243_2 hx243_3 hx243_4 hx243_5 hx244_0 hx244_1 hx244_2 hx244_3 hx244_4 hx244_5 hHeld⊢
           have Q_:=Qs.mk (n:=39) [(0,0,37,1),(0,2,39,5),(2,1,38,7),(0,3,40,15),(2,4,41,31)]
           iterate 5 (first|(refine pq_ Q_ ?_;replace Q_:=qt_ Q_)|(refine tq_ Q_ hHeld ?_;replace Q_:=qt_ Q_))
           clear Q_
           refine one_ (i:=5) (N:=some 42) (dn_ 6 39) rfl rfl (one_of HT_.out (by kernel_rfl)) (by decide) (fun K hK=>?_)
           refine gs_ Try.func55 #[.agg #[.int .i64 ((rd_T28 l0_2 x3_2).f0.f0),.int .i64 ((rd_T28 l0_2 x3_2).f0.f1),.int .i64 ((rd_T28 l0_2 x3_2).f1),.int .i64 ((rd_T28 l0_2 x3_2).f2),.int .i64 ((rd_T28 l0_2 x3_2).f3),.int .i64 ((rd_T28 l0_2 x3_2).f4)]] rfl ?_
           with_reducible refine(watchmanref06_Is.calls ((rd_T28 l0_2 x3_2).f0.f0) ((rd_T28 l0_2 x3_2).f0.f1) ((rd_T28 l0_2 x3_2).f1) ((rd_T28 l0_2 x3_2).f2) ((rd_T28 l0_2 x3_2).f3) ((rd_T28 l0_2 x3_2).f4) true _ A18.out).mono ?_
           rintro e w29 ⟨rfl,hb⟩
           refine⟨_,rfl,?_⟩
           replace BK239:=bl_ BK239 hb
           replace HB:=zB (zQ (hb_ HB) hb)
           (try clear hb)
           (try clear hb2)
           (try clear hk)
           (try clear hi)
           refine hK.out _ _ ⟨bc_ BK239 0,bc_ BK239 1,bc_ BK239 2,(cb_ HB hw240_0),(cb_ HB hw240_1),(cb_ HB hw240_2),(cb_ HB hw240_3),(cb_ HB hw240_4),(cb_ HB hw240_5),(cb_ HB hw242_0),(cb_ HB hw242_1),(cb_ HB hw242_2),(cb_ HB hw242_3),(cb_ HB hw242_4),(cb_ HB hw242_5),(cb_ HB hw243_0),(cb_ HB hw243_1),(cb_ HB hw243_2),(cb_ HB hw243_3),(cb_ HB hw243_4),(cb_ HB hw243_5),(cb_ HB hw244_0),(cb_ HB hw244_1),(cb_ HB hw244_2),(cb_ HB hw244_3),(cb_ HB hw244_4),(cb_ HB hw244_5)⟩ (fun hHeld=>?_)
           clear hK K
           refine norm_ (a':=?_) ?_ ?_
           rotate_left
           ·show Act.put _ (some 42) _=_
            simp only[Act.put,zE,zH,zI,i64_w,i32_w]
            rfl
           have Q_:=Qs.mk (n:=39) [(0,6,43,127),(0,7,44,255),(0,8,45,511),(0,10,47,1535),(0,14,51,17919),(2,9,46,18431),(0,11,48,20479),(0,12,49,24575),(2,13,50,32767),(2,15,52,65535),(0,16,53,131071),(0,17,54,262143),(0,18,55,524287),(0,19,56,1048575),(0,20,57,2097151),(0,21,58,4194303),(0,22,59,8388607),(0,24,61,25165823),(0,25,62,58720255),(0,29,66,595591167),(0,31,68,2743074815),(2,23,60,2751463423),(0,26,63,2818572287),(0,27,64,2952790015),(2,28,65,3221225471),(2,30,67,4294967295),(0,32,69,8589934591),(0,33,70,17179869183),(2,34,71,34359738367)]
           iterate 29 (first|(refine pq_ Q_ ?_;replace Q_:=qt_ Q_)|(refine tq_ Q_ hHeld ?_;replace Q_:=qt_ Q_))
           clear Q_
           refine one_ (i:=35) (N:=some 72) (dn_ 36 39) rfl rfl (one_of HT_.out (by kernel_rfl)) (by decide) (fun K hK=>?_)
           refine goes_ Try.func56 (by kernel_rfl) rfl #[.agg #[.int .i64 ((rd_T28 l0_2 (ji24)).f0.f0),.int .i64 ((rd_T28 l0_2 (ji24)).f0.f1)],.agg #[.int .i64 ((rd_T28 l0_2 x3_2).f0.f0),.int .i64 ((rd_T28 l0_2 x3_2).f0.f1)]] (by rfl) rfl rfl (by(try simp only[zM,zS,zV]);first|done|(simp only[hji24];rfl)|rfl|(simp only[zR,zP];rfl)) ?_
           with_reducible refine(watchmanref04_Less.calls ((rd_T28 l0_2 (ji24)).f0.f0) ((rd_T28 l0_2 (ji24)).f0.f1) ((rd_T28 l0_2 x3_2).f0.f0) ((rd_T28 l0_2 x3_2).f0.f1) t245 _ A27.out).mono ?_
           rintro e w30 ⟨rfl,hb⟩
           refine⟨_,rfl,?_⟩
           replace BK239:=bl_ BK239 hb
           replace HB:=zB (zQ (hb_ HB) hb)
           (try clear hb)
           (try clear hb2)
           (try clear hk)
           (try clear hi)
           refine hK.out _ _ ⟨bc_ BK239 0,bc_ BK239 1,bc_ BK239 2,(cb_ HB hw240_0),(cb_ HB hw240_1),(cb_ HB hw240_2),(cb_ HB hw240_3),(cb_ HB hw240_4),(cb_ HB hw240_5),(cb_ HB hw242_0),(cb_ HB hw242_1),(cb_ HB hw242_2),(cb_ HB hw242_3),(cb_ HB hw242_4),(cb_ HB hw242_5),(cb_ HB hw243_0),(cb_ HB hw243_1),(cb_ HB hw243_2),(cb_ HB hw243_3),(cb_ HB hw243_4),(cb_ HB hw243_5),(cb_ HB hw244_0),(cb_ HB hw244_1),(cb_ HB hw244_2),(cb_ HB hw244_3),(cb_ HB hw244_4),(cb_ HB hw244_5)⟩ (fun hHeld=>?_)
           clear hK K
           refine norm_ (a':=?_) ?_ ?_
           rotate_left
           ·show Act.put _ (some 72) _=_
            simp only[Act.put,zE,zH,zI,i64_w,i32_w]
            rfl
           have Q_:=Qs.mk (n:=39) [(0,36,73,137438953471),(0,37,74,274877906943),(0,38,75,549755813887)]
           iterate 3 (refine pq_ Q_ ?_;replace Q_:=qt_ Q_)
           clear Q_
           refine done_ (done_of HT_.out (by kernel_rfl)) ?_
           try go_wp2
           go_meet
           case rel=>exact⟨_,(!t245),rs_,H',⟨by have:=HJ1.out;have:=HK2.out;first|omega|exact za _⟩,⟨bk_ BK239⟩,⟨hb_ HB⟩⟩
          ·rw[if_neg c23] at H
           have c23b0:=zY c23
           clear c23
           have H':=zB H
           clear H
           try go_wp2
           replace BK239:=zB (zX BK239.out)
           replace HB:=zB (zG HB.out)
           have p240:0≤(x3_2:Int):=zJ as_
           have q240:x3_2<(l0_2.length:Int):=zJ as_
           obtain⟨ad240,e240,hx240_0,hx240_1,hx240_2,hx240_3,hx240_4,hx240_5⟩:=at_T28 HR0_2.out x3_2 p240 q240
           have hw240_5:=hx240_5
           have hw240_4:=hx240_4
           have hw240_3:=hx240_3
           have hw240_2:=hx240_2
           have hw240_1:=hx240_1
           have hw240_0:=hx240_0
           cases e240
           replace hx240_0:=cb_ HB hx240_0
           replace hx240_1:=cb_ HB hx240_1
           replace hx240_2:=cb_ HB hx240_2
           replace hx240_3:=cb_ HB hx240_3
           replace hx240_4:=cb_ HB hx240_4
           replace hx240_5:=cb_ HB hx240_5
           replace p240:=eq_true p240
           replace q240:=eq_true q240
           have p242:0≤(x3_2:Int):=zJ as_
           have q242:x3_2<(l0_2.length:Int):=zJ as_
           obtain⟨ad242,e242,hx242_0,hx242_1,hx242_2,hx242_3,hx242_4,hx242_5⟩:=at_T28 HR0_2.out x3_2 p242 q242
           have hw242_5:=hx242_5
           have hw242_4:=hx242_4
           have hw242_3:=hx242_3
           have hw242_2:=hx242_2
           have hw242_1:=hx242_1
           have hw242_0:=hx242_0
           obtain rfl:ad240=ad242:=(by injection e242)
           replace hx242_0:=cb_ HB hx242_0
           replace hx242_1:=cb_ HB hx242_1
           replace hx242_2:=cb_ HB hx242_2
           replace hx242_3:=cb_ HB hx242_3
           replace hx242_4:=cb_ HB hx242_4
           replace hx242_5:=cb_ HB hx242_5
           replace p242:=eq_true p242
           replace q242:=eq_true q242
           refine start_ (n:=39) (S:=fun w'=>c_ w' gb239 0 (.int .i64 a0_0)∧c_ w' gb239 1 (.int .i64 a0_1)∧c_ w' gb239 2 (.slice (some ad240) l0_2.length c0_2)∧w'.cell? (ad240.add ((x3_2).toNat*6))=some (.int .i64 ((rd_T28 l0_2 x3_2).f0.f0))∧w'.cell? ⟨(ad240.add ((x3_2).toNat*6)).block,(ad240.add ((x3_2).toNat*6)).off+1,none⟩=some (.int .i64 ((rd_T28 l0_2 x3_2).f0.f1))∧w'.cell? ⟨(ad240.add ((x3_2).toNat*6)).block,(ad240.add ((x3_2).toNat*6)).off+2,none⟩=some (.int .i64 ((rd_T28 l0_2 x3_2).f1))∧w'.cell? ⟨(ad240.add ((x3_2).toNat*6)).block,(ad240.add ((x3_2).toNat*6)).off+3,none⟩=some (.int .i64 ((rd_T28 l0_2 x3_2).f2))∧w'.cell? ⟨(ad240.add ((x3_2).toNat*6)).block,(ad240.add ((x3_2).toNat*6)).off+4,none⟩=some (.int .i64 ((rd_T28 l0_2 x3_2).f3))∧w'.cell? ⟨(ad240.add ((x3_2).toNat*6)).block,(ad240.add ((x3_2).toNat*6)).off+5,none⟩=some (.int .i64 ((rd_T28 l0_2 x3_2).f4))∧w'.cell? (ad240.add ((x3_2).toNat*6))=some (.int .i64 ((rd_T28 l0_2 x3_2).f0.f0))∧w'.cell? ⟨(ad240.add ((x3_2).toNat*6)).block,(ad240.add ((x3_2).toNat*6)).off+1,none⟩=some (.int .i64 ((rd_T28 l0_2 x3_2).f0.f1))∧w'.cell? ⟨(ad240.add ((x3_2).toNat*6)).block,(ad240.add ((x3_2).toNat*6)).off+2,none⟩=some (.int .i64 ((rd_T28 l0_2 x3_2).f1))∧w'.cell? ⟨(ad240.add ((x3_2).toNat*6)).block,(ad240.add ((x3_2).toNat*6)).off+3,none⟩=some (.int .i64 ((rd_T28 l0_2 x3_2).f2))∧w'.cell? ⟨(ad240.add ((x3_2).toNat*6)).block,(ad240.add ((x3_2).toNat*6)).off+4,none⟩=some (.int .i64 ((rd_T28 l0_2 x3_2).f3))∧w'.cell? ⟨(ad240.add ((x3_2).toNat*6)).block,(ad240.add ((x3_2).toNat*6)).off+5,none⟩=some (.int .i64 ((rd_T28 l0_2 x3_2).f4))) (ds:=[]) (bt_ 0 39) (by kernel_rfl) rfl rfl ⟨bc_ BK239 0,bc_ BK239 1,bc_ BK239 2,(cb_ HB hw240_0),(cb_ HB hw240_1),(cb_ HB hw240_2),(cb_ HB hw240_3),(cb_ HB hw240_4),(cb_ HB hw240_5),(cb_ HB hw242_0),(cb_ HB hw242_1),(cb_ HB hw242_2),(cb_ HB hw242_3),(cb_ HB hw242_4),(cb_ HB hw242_5)⟩ (fun hHeld=>?_);refine with_tabW watchmanref08_Is.tab6 watchmanref08_Is.bits6 (fun HT_ HW_=>?_)
           generalize wr.drew=w31 at BK239 HB hx240_0 hx240_1 hx240_2 hx240_3 hx240_4 hx240_5 hx242_0 hx242_1 hx242_2 hx242_3 hx242_4 hx242_5 hHeld⊢
           have Q_:=Qs.mk (n:=39) [(0,0,37,1),(0,2,39,5),(2,1,38,7),(0,3,40,15),(2,4,41,31)]
           iterate 5 (first|(refine pq_ Q_ ?_;replace Q_:=qt_ Q_)|(refine tq_ Q_ hHeld ?_;replace Q_:=qt_ Q_))
           clear Q_
           refine one_ (i:=5) (N:=some 42) (dn_ 6 39) rfl rfl (one_of HT_.out (by kernel_rfl)) (by decide) (fun K hK=>?_)
           refine gs_ Try.func55 #[.agg #[.int .i64 ((rd_T28 l0_2 x3_2).f0.f0),.int .i64 ((rd_T28 l0_2 x3_2).f0.f1),.int .i64 ((rd_T28 l0_2 x3_2).f1),.int .i64 ((rd_T28 l0_2 x3_2).f2),.int .i64 ((rd_T28 l0_2 x3_2).f3),.int .i64 ((rd_T28 l0_2 x3_2).f4)]] rfl ?_
           with_reducible refine(watchmanref06_Is.calls ((rd_T28 l0_2 x3_2).f0.f0) ((rd_T28 l0_2 x3_2).f0.f1) ((rd_T28 l0_2 x3_2).f1) ((rd_T28 l0_2 x3_2).f2) ((rd_T28 l0_2 x3_2).f3) ((rd_T28 l0_2 x3_2).f4) true _ A18.out).mono ?_
           rintro e w32 ⟨rfl,hb⟩
           refine⟨_,rfl,?_⟩
           replace BK239:=bl_ BK239 hb
           replace HB:=zB (zQ (hb_ HB) hb)
           (try clear hb)
           (try clear hb2)
           (try clear hk)
           (try clear hi)
           refine hK.out _ _ ⟨bc_ BK239 0,bc_ BK239 1,bc_ BK239 2,(cb_ HB hw240_0),(cb_ HB hw240_1),(cb_ HB hw240_2),(cb_ HB hw240_3),(cb_ HB hw240_4),(cb_ HB hw240_5),(cb_ HB hw242_0),(cb_ HB hw242_1),(cb_ HB hw242_2),(cb_ HB hw242_3),(cb_ HB hw242_4),(cb_ HB hw242_5)⟩ (fun hHeld=>?_)
           clear hK K
           refine norm_ (a':=?_) ?_ ?_
           rotate_left
           ·show Act.put _ (some 42) _=_
            simp only[Act.put,zE,zH,zI,i64_w,i32_w]
            rfl
           have Q_:=Qs.mk (n:=39) [(0,6,43,127),(0,7,44,255),(0,8,45,511),(0,10,47,1535),(0,14,51,17919),(2,9,46,18431),(0,11,48,20479),(0,12,49,24575),(2,13,50,32767),(2,15,52,65535),(0,16,53,131071),(0,17,54,262143),(0,18,55,524287),(0,19,56,1048575),(0,20,57,2097151),(0,21,58,4194303),(1,22,59,8388607),(1,23,60,16777215),(1,24,61,33554431),(1,25,62,67108863),(1,26,63,134217727),(1,27,64,268435455),(1,28,65,536870911),(1,29,66,1073741823),(1,30,67,2147483647),(1,31,68,4294967295),(1,32,69,8589934591),(1,33,70,17179869183),(1,34,71,34359738367),(1,35,72,68719476735),(1,36,73,137438953471),(0,37,74,274877906943),(0,38,75,549755813887)]
           iterate 33 (first|(refine pq_ Q_ ?_;replace Q_:=qt_ Q_)|(refine uq_ Q_ ?_;replace Q_:=qt_ Q_)|(refine tq_ Q_ hHeld ?_;replace Q_:=qt_ Q_))
           clear Q_
           refine done_ (done_of HT_.out (by kernel_rfl)) ?_
           try go_wp2
           go_meet
           case rel=>exact⟨_,(false),rs_,H',⟨by have:=HJ1.out;have:=HK2.out;first|omega|exact za _⟩,⟨bk_ BK239⟩,⟨hb_ HB⟩⟩
        ·replace c19:=zb c19
         subst c19
         rw[if_neg (show ¬(false=true) by decide)] at H;try dsimp only at H
         have H':=zB H
         clear H
         try go_wp2
         replace BK239:=zB (zX BK239.out)
         replace HB:=zB (zG HB.out)
         have p240:0≤(x3_2:Int):=zJ as_
         have q240:x3_2<(l0_2.length:Int):=zJ as_
         obtain⟨ad240,e240,hx240_0,hx240_1,hx240_2,hx240_3,hx240_4,hx240_5⟩:=at_T28 HR0_2.out x3_2 p240 q240
         have hw240_5:=hx240_5
         have hw240_4:=hx240_4
         have hw240_3:=hx240_3
         have hw240_2:=hx240_2
         have hw240_1:=hx240_1
         have hw240_0:=hx240_0
         cases e240
         replace hx240_0:=cb_ HB hx240_0
         replace hx240_1:=cb_ HB hx240_1
         replace hx240_2:=cb_ HB hx240_2
         replace hx240_3:=cb_ HB hx240_3
         replace hx240_4:=cb_ HB hx240_4
         replace hx240_5:=cb_ HB hx240_5
         replace p240:=eq_true p240
         replace q240:=eq_true q240
         refine start_ (n:=39) (S:=fun w'=>c_ w' gb239 0 (.int .i64 a0_0)∧c_ w' gb239 1 (.int .i64 a0_1)∧c_ w' gb239 2 (.slice (some ad240) l0_2.length c0_2)∧w'.cell? (ad240.add ((x3_2).toNat*6))=some (.int .i64 ((rd_T28 l0_2 x3_2).f0.f0))∧w'.cell? ⟨(ad240.add ((x3_2).toNat*6)).block,(ad240.add ((x3_2).toNat*6)).off+1,none⟩=some (.int .i64 ((rd_T28 l0_2 x3_2).f0.f1))∧w'.cell? ⟨(ad240.add ((x3_2).toNat*6)).block,(ad240.add ((x3_2).toNat*6)).off+2,none⟩=some (.int .i64 ((rd_T28 l0_2 x3_2).f1))∧w'.cell? ⟨(ad240.add ((x3_2).toNat*6)).block,(ad240.add ((x3_2).toNat*6)).off+3,none⟩=some (.int .i64 ((rd_T28 l0_2 x3_2).f2))∧w'.cell? ⟨(ad240.add ((x3_2).toNat*6)).block,(ad240.add ((x3_2).toNat*6)).off+4,none⟩=some (.int .i64 ((rd_T28 l0_2 x3_2).f3))∧w'.cell? ⟨(ad240.add ((x3_2).toNat*6)).block,(ad240.add ((x3_2).toNat*6)).off+5,none⟩=some (.int .i64 ((rd_T28 l0_2 x3_2).f4))) (ds:=[]) (bt_ 0 39) (by kernel_rfl) rfl rfl ⟨bc_ BK239 0,bc_ BK239 1,bc_ BK239 2,(cb_ HB hw240_0),(cb_ HB hw240_1),(cb_ HB hw240_2),(cb_ HB hw240_3),(cb_ HB hw240_4),(cb_ HB hw240_5)⟩ (fun hHeld=>?_);refine with_tabW watchmanref08_Is.tab6 watchmanref08_Is.bits6 (fun HT_ HW_=>?_)
         generalize wr.drew=w33 at BK239 HB hx240_0 hx240_1 hx240_2 hx240_3 hx240_4 hx240_5 hHeld⊢
         have Q_:=Qs.mk (n:=39) [(0,0,37,1),(0,2,39,5),(2,1,38,7),(0,3,40,15),(2,4,41,31)]
         iterate 5 (first|(refine pq_ Q_ ?_;replace Q_:=qt_ Q_)|(refine tq_ Q_ hHeld ?_;replace Q_:=qt_ Q_))
         clear Q_
         refine one_ (i:=5) (N:=some 42) (dn_ 6 39) rfl rfl (one_of HT_.out (by kernel_rfl)) (by decide) (fun K hK=>?_)
         refine gs_ Try.func55 #[.agg #[.int .i64 ((rd_T28 l0_2 x3_2).f0.f0),.int .i64 ((rd_T28 l0_2 x3_2).f0.f1),.int .i64 ((rd_T28 l0_2 x3_2).f1),.int .i64 ((rd_T28 l0_2 x3_2).f2),.int .i64 ((rd_T28 l0_2 x3_2).f3),.int .i64 ((rd_T28 l0_2 x3_2).f4)]] rfl ?_
         with_reducible refine(watchmanref06_Is.calls ((rd_T28 l0_2 x3_2).f0.f0) ((rd_T28 l0_2 x3_2).f0.f1) ((rd_T28 l0_2 x3_2).f1) ((rd_T28 l0_2 x3_2).f2) ((rd_T28 l0_2 x3_2).f3) ((rd_T28 l0_2 x3_2).f4) false _ A18.out).mono ?_
         rintro e w34 ⟨rfl,hb⟩
         refine⟨_,rfl,?_⟩
         replace BK239:=bl_ BK239 hb
         replace HB:=zB (zQ (hb_ HB) hb)
         (try clear hb)
         (try clear hb2)
         (try clear hk)
         (try clear hi)
         refine hK.out _ _ ⟨bc_ BK239 0,bc_ BK239 1,bc_ BK239 2,(cb_ HB hw240_0),(cb_ HB hw240_1),(cb_ HB hw240_2),(cb_ HB hw240_3),(cb_ HB hw240_4),(cb_ HB hw240_5)⟩ (fun hHeld=>?_)
         clear hK K
         refine norm_ (a':=?_) ?_ ?_
         rotate_left
         ·show Act.put _ (some 42) _=_
          simp only[Act.put,zE,zH,zI,i64_w,i32_w]
          rfl
         have Q_:=Qs.mk (n:=39) [(0,6,43,127),(0,7,44,255),(1,8,45,511),(1,9,46,1023),(1,10,47,2047),(1,11,48,4095),(1,12,49,8191),(1,13,50,16383),(1,14,51,32767),(1,15,52,65535),(1,16,53,131071),(0,17,54,262143),(0,18,55,524287),(1,19,56,1048575),(1,20,57,2097151),(1,21,58,4194303),(1,22,59,8388607),(1,23,60,16777215),(1,24,61,33554431),(1,25,62,67108863),(1,26,63,134217727),(1,27,64,268435455),(1,28,65,536870911),(1,29,66,1073741823),(1,30,67,2147483647),(1,31,68,4294967295),(1,32,69,8589934591),(1,33,70,17179869183),(1,34,71,34359738367),(1,35,72,68719476735),(1,36,73,137438953471),(1,37,74,274877906943),(0,38,75,549755813887)]
         iterate 33 (first|(refine pq_ Q_ ?_;replace Q_:=qt_ Q_)|(refine uq_ Q_ ?_;replace Q_:=qt_ Q_))
         clear Q_
         refine done_ (done_of HT_.out (by kernel_rfl)) ?_
         try go_wp2
         go_meet
         case rel=>exact⟨_,(true),rs_,H',⟨by have:=HJ1.out;have:=HK2.out;first|omega|exact za _⟩,⟨bk_ BK239⟩,⟨hb_ HB⟩⟩
       case rest=>
        clear HC15
        try clear c1;try clear c2;try clear p2;try clear q2;try clear hx2;try clear c5;try clear c17;try clear c19;try clear c23;try clear c23b0;try clear p24;try clear q24;try clear hx24;try clear c25;try clear c26;try clear hx240_0;try clear hx240_1;try clear hx240_2;try clear hx240_3;try clear hx240_4;try clear hx240_5;try clear hx242_0;try clear hx242_1;try clear hx242_2;try clear hx242_3;try clear hx242_4;try clear hx242_5;try clear p240;try clear p242;try clear q240;try clear q242
        obtain⟨kq,x75_14,rfl,HA,HJ14,BK239,HB⟩:=hcut
        cases kq with
        |zero=>exact absurd HA.out (by simp[watchmanref08_Is.j2])
        |succ kj14=>
         have H:=HA.out
         clear HA
         simp only[watchmanref08_Is.j2] at H
         by_cases c35:x75_14=true
         ·subst c35
          rw[if_pos rfl] at H;try dsimp only at H
          obtain rfl:=zW H
          go_wp2
          go_ret
          exact⟨ew_,hb_ HB⟩
         ·replace c35:=zb c35
          subst c35
          rw[if_neg (show ¬(false=true) by decide)] at H;try dsimp only at H
          have H':=zB H
          clear H
          go_wp2
          go_roundg kj14
          case measure=>have:=HJ1.out;have:=HK2.out;have:=HJ14.out;omega
          case rel=>exact⟨(wrap64 (x3_2+1)),rs_,H',⟨by have:=HJ1.out;have:=HK2.out;have:=HJ14.out;omega⟩,⟨bk_ BK239⟩,⟨hb_ HB⟩⟩
      ·rw[if_neg c14] at H
       have c14b0:=zY c14
       clear c14
       obtain rfl:=zW H
       have hcz36:=zD BK239.out
       have hfz36:=zC BK239.out
       go_wp2
       go_ret
       exact⟨ew_,hb_ HB⟩
end Go.Proofs.Ytcfpbmdndapeaaa.F
