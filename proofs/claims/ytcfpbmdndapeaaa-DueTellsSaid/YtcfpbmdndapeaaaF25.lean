-- Written by a program of this session (xprint.py), out of the translation and of contracts proved by hand.
import Derived.Test.YtcfpbmdndapeaaaF0
import Derived.Test.YtcfpbmdndapeaaaF16
import Derived.Test.YtcfpbmdndapeaaaF23
import Derived.Test.YtcfpbmdndapeaaaF24
namespace Go.Proofs.Ytcfpbmdndapeaaa.F
open Go.RowKit Go.Proofs.YtcfpbmdndapeaaaV.PrintWords Go.Proofs.YtcfpbmdndapeaaaV.PrintLast Go.Proofs.YtcfpbmdndapeaaaV.PrintMore
attribute [local go_sem] max2_int min2_int max_two min_two max_three min_three max_four min_four
set_option linter.unusedVariables false
set_option linter.unusedSimpArgs false
mutual
def watchmanref06_Pass.l0:Nat→Int→Int→Int→Int→Int→Int→Int→Int→Option (Int×Int×Int×Int×Int×Int)
 |0,_,_,_,_,_,_,_,_=>none
 |k+1,x1,x5,x309000,x309001,x309002,x309003,x309004,x309005=>if x5<3 then(if x309002=4 then(watchmanref06_Pass.j1 k x1 x5 (decide (x309005≤x1)) x309000 x309001 x309002 x309003 x309004 x309005) else(watchmanref06_Pass.j1 k x1 x5 false x309000 x309001 x309002 x309003 x309004 x309005)) else(some (x309000,x309001,x309002,x309003,x309004,x309005))
def watchmanref06_Pass.j1:Nat→Int→Int→Bool→Int→Int→Int→Int→Int→Int→Option (Int×Int×Int×Int×Int×Int)
 |0,_,_,_,_,_,_,_,_,_=>none
 |k+1,x1,x5,x22,x309000,x309001,x309002,x309003,x309004,x309005=>if x22=true then((watchmanref06_turn.f k x309000 x309001 x309002 x309003 x309004 x309005 6 x309005 0).bind fun bt311=>(watchmanref06_Pass.l0 k x1 (wrap64 (x5+1)) bt311.1 bt311.2.1 bt311.2.2.1 bt311.2.2.2.1 bt311.2.2.2.2.1 bt311.2.2.2.2.2)) else(if x309002=1 then(if x309005≤x1 then((watchmanref06_turn.f k x309000 x309001 x309002 x309003 x309004 x309005 2 x309005 0).bind fun bt317=>(watchmanref06_Pass.l0 k x1 (wrap64 (x5+1)) bt317.1 bt317.2.1 bt317.2.2.1 bt317.2.2.2.1 bt317.2.2.2.2.1 bt317.2.2.2.2.2)) else(watchmanref06_Pass.l0 k x1 (wrap64 (x5+1)) x309000 x309001 x309002 x309003 x309004 x309005)) else(watchmanref06_Pass.l0 k x1 (wrap64 (x5+1)) x309000 x309001 x309002 x309003 x309004 x309005))
end
def watchmanref06_Pass.f (k:Nat) (a0_0:Int) (a0_1:Int) (a0_2:Int) (a0_3:Int) (a0_4:Int) (a0_5:Int) (a1:Int):Option (Int×Int×Int×Int×Int×Int):=(watchmanref06_Is.f a0_0 a0_1 a0_2 a0_3 a0_4 a0_5).bind fun t310=>(if t310=true then(watchmanref06_Pass.l0 k a1 0 a0_0 a0_1 a0_2 a0_3 a0_4 a0_5) else(some (a0_0,a0_1,a0_2,a0_3,a0_4,a0_5)))
theorem watchmanref06_Pass.mono_l: ∀k,(∀y0 y1 y2 y3 y4 y5 y6 y7,LeO (watchmanref06_Pass.l0 k y0 y1 y2 y3 y4 y5 y6 y7) (watchmanref06_Pass.l0 (k+1) y0 y1 y2 y3 y4 y5 y6 y7))∧(∀y0 y1 y2 y3 y4 y5 y6 y7 y8,LeO (watchmanref06_Pass.j1 k y0 y1 y2 y3 y4 y5 y6 y7 y8) (watchmanref06_Pass.j1 (k+1) y0 y1 y2 y3 y4 y5 y6 y7 y8))
 |0=>⟨fun _ _ _ _ _ _ _ _ r h=>by simp[watchmanref06_Pass.l0] at h,fun _ _ _ _ _ _ _ _ _ r h=>by simp[watchmanref06_Pass.j1] at h⟩
 |k+1=>by
  obtain⟨ih0,ih1⟩:=watchmanref06_Pass.mono_l k
  refine⟨?_,?_⟩
  all_goals (intros;first|unfold watchmanref06_Pass.l0|unfold watchmanref06_Pass.j1)
  all_goals (repeat' first
   |(with_reducible exact ih0 _ _ _ _ _ _ _ _)
   |(with_reducible exact ih1 _ _ _ _ _ _ _ _ _)
   |(with_reducible exact watchmanref06_turn.mono _ _ _ _ _ _ _ _ _ _)
   |(with_reducible exact LeO.refl _)
   |(with_reducible exact zf _)
   |(with_reducible refine zg ?_ ?_)
   |(with_reducible refine ze ?_ (fun _=>?_)))
theorem watchmanref06_Pass.mono: ∀a0 a1 a2 a3 a4 a5 a6 k,LeO (watchmanref06_Pass.f k a0 a1 a2 a3 a4 a5 a6) (watchmanref06_Pass.f (k+1) a0 a1 a2 a3 a4 a5 a6):=by
 intro a0 a1 a2 a3 a4 a5 a6 k
 obtain⟨ih0,ih1⟩:=watchmanref06_Pass.mono_l k
 unfold watchmanref06_Pass.f
 repeat' first
   |(with_reducible exact ih0 _ _ _ _ _ _ _ _)
   |(with_reducible exact ih1 _ _ _ _ _ _ _ _ _)
   |(with_reducible exact watchmanref06_turn.mono _ _ _ _ _ _ _ _ _ _)
   |(with_reducible exact LeO.refl _)
   |(with_reducible exact zf _)
   |(with_reducible refine zg ?_ ?_)
   |(with_reducible refine ze ?_ (fun _=>?_))
set_option maxHeartbeats 8000000 in
set_option maxRecDepth 100000 in
theorem watchmanref06_Pass.calls (k:Nat) (a0_0:Int) (a0_1:Int) (a0_2:Int) (a0_3:Int) (a0_4:Int) (a0_5:Int) (a1:Int) (r1:Int) (r2:Int) (r3:Int) (r4:Int) (r5:Int) (r6:Int) (w:World) (h:watchmanref06_Pass.f k a0_0 a0_1 a0_2 a0_3 a0_4 a0_5 a1=some (r1,r2,r3,r4,r5,r6)):
  Calls Try.prog 57 #[.agg #[.int .i64 a0_0,.int .i64 a0_1,.int .i64 a0_2,.int .i64 a0_3,.int .i64 a0_4,.int .i64 a0_5],.int .i64 a1] w fun e w'=>e=.returned (.agg #[.int .i64 r1,.int .i64 r2,.int .i64 r3,.int .i64 r4,.int .i64 r5,.int .i64 r6])∧Below w.heap.size w w':=by
 have hu28:=Try.underlying28
 have HB:=zB (Below.refl w.heap.size w)
 have H:((watchmanref06_Is.f a0_0 a0_1 a0_2 a0_3 a0_4 a0_5).bind fun t310=>(if t310=true then(watchmanref06_Pass.l0 k a1 0 a0_0 a0_1 a0_2 a0_3 a0_4 a0_5) else(some (a0_0,a0_1,a0_2,a0_3,a0_4,a0_5))))=some (r1,r2,r3,r4,r5,r6):=h
 clear h
 replace H:=zL H
 obtain⟨t310,A30,H⟩:=H
 try dsimp only at H
 have A3:=zB A30
 clear A30
 by_cases c4:t310=true
 ·subst c4
  rw[if_pos rfl] at H;try dsimp only at H
  have H':=zB H
  clear H
  go_enter Try.func57,Try.ntmps57
  go_wp2_with (first|((with_reducible refine gate_dst (N:=2) rfl ?_);refine be_ (N:=2) (cs:=#[.int .i64 a0_0,.int .i64 a0_1,.int .i64 a0_2,.int .i64 a0_3,.int .i64 a0_4,.int .i64 a0_5]) (t:=28) ?_;intro gb308 hg w5 hbox hb;have BK308:=zB hbox;have GW308:=gw_ hg HB;have GE308:=GW308;replace HB:=zB (zQ HB.out hb);clear hb hbox hg)|((with_reducible refine gate_dst (N:=4) rfl ?_);refine be_ (N:=4) (cs:=#[.int .i64 0,.int .i64 0,.int .i64 0,.int .i64 0,.int .i64 0,.int .i64 0]) (t:=28) ?_;intro gb309 hg w6 hbox hb;have BK309:=zB hbox;have GE309:=gx_ hg (show Below w.heap.size w _ from hb_ HB);have GW309:=GE309;replace HB:=zB (zQ (hb_ HB) hb);have NB308_309:=nb_ BK308 hg;have NB309_308:=nc_ BK308 hg;replace BK308:=bl_ BK308 hb;clear hb hbox hg;have hnb7:=NB308_309.out;have hnc7:=NB309_308.out;have hcz8:=zD BK308.out;have hfz8:=zC BK308.out)|((with_reducible refine gate_callee (f:=55) rfl ?_);refine gl_ (some 7) Try.func55 #[.agg #[.int .i64 a0_0,.int .i64 a0_1,.int .i64 a0_2,.int .i64 a0_3,.int .i64 a0_4,.int .i64 a0_5]] rfl ?_;(with_reducible refine(watchmanref06_Is.calls a0_0 a0_1 a0_2 a0_3 a0_4 a0_5 true _ A3.out).mono ?_);rintro e w9 ⟨rfl,hb⟩;refine⟨_,rfl,?_⟩;replace BK308:=bl_ BK308 hb;replace BK309:=bl_ BK309 hb;replace HB:=zB (zQ (hb_ HB) hb);(try clear hb);(try clear hb2);(try clear hk);(try clear hi)))
  (try simp only[Act.put,zE,zH,zI])
  go_loopg [5] k (fun kq v5 w'=> ∃(x5_1:Int) (x309000_1:Int) (x309001_1:Int) (x309002_1:Int) (x309003_1:Int) (x309004_1:Int) (x309005_1:Int),v5=.int .i64 x5_1∧Aside0 (watchmanref06_Pass.l0 kq a1 x5_1 x309000_1 x309001_1 x309002_1 x309003_1 x309004_1 x309005_1=some (r1,r2,r3,r4,r5,r6))∧Aside0 (kq≤k)∧Aside0 (w'.heap[gb308]?=some (.cells #[.int .i64 x309000_1,.int .i64 x309001_1,.int .i64 x309002_1,.int .i64 x309003_1,.int .i64 x309004_1,.int .i64 x309005_1] 28 (0,0)))∧Aside0 (w'.heap[gb309]?=some (.cells #[.int .i64 0,.int .i64 0,.int .i64 0,.int .i64 0,.int .i64 0,.int .i64 0] 28 (0,0)))∧Aside0 (Below w.heap.size w w'))
  case atStart=>exact⟨(0),(a0_0),(a0_1),(a0_2),(a0_3),(a0_4),(a0_5),rs_,H',⟨za _⟩,⟨bk_ BK308⟩,⟨bk_ BK309⟩,⟨hb_ HB⟩⟩
  case round=>
   clear H'
   try clear p2;try clear c4;try clear c5;try clear c7;try clear hcz8;try clear hfz8
   obtain⟨x5_1,x309000_1,x309001_1,x309002_1,x309003_1,x309004_1,x309005_1,rfl,HA,HK1,BK308,BK309,HB⟩:=hrel
   cases gk with
   |zero=>exact absurd HA.out (by simp[watchmanref06_Pass.l0])
   |succ k1=>
    have H:=HA.out
    clear HA
    simp only[watchmanref06_Pass.l0] at H
    by_cases c10:x5_1<3
    ·rw[if_pos c10] at H
     have c10b0:=zO c10
     clear c10
     have HC11:=zB H
     clear H
     go_upto_region 6 with(fail)
     go_cut [22] (fun v22 wc=> ∃(kq:Nat) (x22_10:Bool),v22=.bool x22_10∧Aside0 (watchmanref06_Pass.j1 kq a1 x5_1 x22_10 x309000_1 x309001_1 x309002_1 x309003_1 x309004_1 x309005_1=some (r1,r2,r3,r4,r5,r6))∧Aside0 (kq≤k1)∧Aside0 (wc.heap[gb308]?=some (.cells #[.int .i64 x309000_1,.int .i64 x309001_1,.int .i64 x309002_1,.int .i64 x309003_1,.int .i64 x309004_1,.int .i64 x309005_1] 28 (0,0)))∧Aside0 (wc.heap[gb309]?=some (.cells #[.int .i64 0,.int .i64 0,.int .i64 0,.int .i64 0,.int .i64 0,.int .i64 0] 28 (0,0)))∧Aside0 (Below w.heap.size w wc))
     case first=>
      have H:=HC11.out
      clear HC11
      by_cases c12:x309002_1=4
      ·rw[if_pos c12] at H
       have c12b0:=beq_iff_eq.mpr c12
       have c12b1:=bne_eq_false_iff_eq.mpr c12
       clear c12
       (first|rw[c12b0]|(simp only[i64_w,i32_w];rw[c12b0])|skip)
       have H':=zB H
       clear H
       have hnb13:=NB308_309.out
       have hnc13:=NB309_308.out
       have hcz14:=zD BK308.out
       have hfz14:=zC BK308.out
       go_wp2
       go_meet
       case rel=>exact⟨_,(decide (x309005_1≤a1)),rs_,H',⟨za_ HK1⟩,⟨bk_ BK308⟩,⟨bk_ BK309⟩,⟨hb_ HB⟩⟩
      ·rw[if_neg c12] at H
       have c12b0:=beq_eq_false_iff_ne.mpr c12
       have c12b1:=bne_iff_ne.mpr c12
       (first|rw[c12b0]|(simp only[i64_w,i32_w];rw[c12b0])|skip)
       have H':=zB H
       clear H
       have hnb15:=NB308_309.out
       have hnc15:=NB309_308.out
       have hcz16:=zD BK308.out
       have hfz16:=zC BK308.out
       go_wp2
       go_meet
       case rel=>exact⟨_,(false),rs_,H',⟨za_ HK1⟩,⟨bk_ BK308⟩,⟨bk_ BK309⟩,⟨hb_ HB⟩⟩
     case rest=>
      clear HC11
      try clear c1;try clear p2;try clear c4;try clear c5;try clear c7;try clear c10;try clear c10b0;try clear c12;try clear c12b0;try clear c12b1;try clear c13;try clear c15;try clear hcz14;try clear hcz16;try clear hcz8;try clear hfz14;try clear hfz16;try clear hfz8
      obtain⟨kq,x22_10,rfl,HA,HJ10,BK308,BK309,HB⟩:=hcut
      cases kq with
      |zero=>exact absurd HA.out (by simp[watchmanref06_Pass.j1])
      |succ kj10=>
       have H:=HA.out
       clear HA
       simp only[watchmanref06_Pass.j1] at H
       by_cases c17:x22_10=true
       ·subst c17
        rw[if_pos rfl] at H;try dsimp only at H
        replace H:=zL H
        obtain⟨⟨t311,t312,t313,t314,t315,t316⟩,A180,H⟩:=H
        try dsimp only at H
        have A18:=zB A180
        clear A180
        have H':=zB H
        clear H
        have hnb19:=NB308_309.out
        have hnc19:=NB309_308.out
        have hcz20:=zD BK308.out
        have hfz20:=zC BK308.out
        go_wp2_with (first|((with_reducible refine gate_callee (f:=88) rfl ?_);refine gl_ (some 26) Try.func88 #[.agg #[.int .i64 x309000_1,.int .i64 x309001_1,.int .i64 x309002_1,.int .i64 x309003_1,.int .i64 x309004_1,.int .i64 x309005_1],.int .i64 6,.int .i64 x309005_1,.int .i64 0] rfl ?_;(with_reducible refine(watchmanref06_turn.calls kj10 x309000_1 x309001_1 x309002_1 x309003_1 x309004_1 x309005_1 6 x309005_1 0 t311 t312 t313 t314 t315 t316 _ A18.out).mono ?_);rintro e w21 ⟨rfl,hb⟩;refine⟨_,rfl,?_⟩;replace BK308:=bl_ BK308 hb;replace BK309:=bl_ BK309 hb;replace HB:=zB (zQ (hb_ HB) hb);(try clear hb);(try clear hb2);(try clear hk);(try clear hi);have hcz22:=zD BK308.out;have hfz22:=zC BK308.out))
        go_roundg kj10
        case measure=>have:=HK1.out;have:=HJ10.out;omega
        case rel=>exact⟨(wrap64 (x5_1+1)),(t311),(t312),(t313),(t314),(t315),(t316),rs_,H',⟨by have:=HK1.out;have:=HJ10.out;omega⟩,⟨by(with_reducible repeat(first|refine zU ?_ _|refine zX ?_|refine zT ?_ _));refine zZ (cs:=#[.int .i64 t311,.int .i64 t312,.int .i64 t313,.int .i64 t314,.int .i64 t315,.int .i64 x309005_1]) ?_ 5 _ rfl;(with_reducible repeat(first|refine zU ?_ _|refine zX ?_|refine zT ?_ _));refine zZ (cs:=#[.int .i64 t311,.int .i64 t312,.int .i64 t313,.int .i64 t314,.int .i64 x309004_1,.int .i64 x309005_1]) ?_ 4 _ rfl;(with_reducible repeat(first|refine zU ?_ _|refine zX ?_|refine zT ?_ _));refine zZ (cs:=#[.int .i64 t311,.int .i64 t312,.int .i64 t313,.int .i64 x309003_1,.int .i64 x309004_1,.int .i64 x309005_1]) ?_ 3 _ rfl;(with_reducible repeat(first|refine zU ?_ _|refine zX ?_|refine zT ?_ _));refine zZ (cs:=#[.int .i64 t311,.int .i64 t312,.int .i64 x309002_1,.int .i64 x309003_1,.int .i64 x309004_1,.int .i64 x309005_1]) ?_ 2 _ rfl;(with_reducible repeat(first|refine zU ?_ _|refine zX ?_|refine zT ?_ _));refine zZ (cs:=#[.int .i64 t311,.int .i64 x309001_1,.int .i64 x309002_1,.int .i64 x309003_1,.int .i64 x309004_1,.int .i64 x309005_1]) ?_ 1 _ rfl;(with_reducible repeat(first|refine zU ?_ _|refine zX ?_|refine zT ?_ _));refine zZ (cs:=#[.int .i64 x309000_1,.int .i64 x309001_1,.int .i64 x309002_1,.int .i64 x309003_1,.int .i64 x309004_1,.int .i64 x309005_1]) ?_ 0 _ rfl;(with_reducible repeat(first|refine zU ?_ _|refine zX ?_|refine zT ?_ _));exact BK308.out⟩,⟨bk_ BK309⟩,⟨hb_ HB⟩⟩
       ·replace c17:=zb c17
        subst c17
        rw[if_neg (show ¬(false=true) by decide)] at H;try dsimp only at H
        by_cases c23:x309002_1=1
        ·rw[if_pos c23] at H
         have c23b0:=beq_iff_eq.mpr c23
         have c23b1:=bne_eq_false_iff_eq.mpr c23
         clear c23
         by_cases c24:x309005_1≤a1
         ·rw[if_pos c24] at H
          have c24b0:=zO c24
          clear c24
          replace H:=zL H
          obtain⟨⟨t317,t318,t319,t320,t321,t322⟩,A250,H⟩:=H
          try dsimp only at H
          have A25:=zB A250
          clear A250
          have H':=zB H
          clear H
          have hnb26:=NB308_309.out
          have hnc26:=NB309_308.out
          have hcz27:=zD BK308.out
          have hfz27:=zC BK308.out
          go_wp2_with (first|((with_reducible refine gate_callee (f:=88) rfl ?_);refine gl_ (some 39) Try.func88 #[.agg #[.int .i64 x309000_1,.int .i64 x309001_1,.int .i64 x309002_1,.int .i64 x309003_1,.int .i64 x309004_1,.int .i64 x309005_1],.int .i64 2,.int .i64 x309005_1,.int .i64 0] rfl ?_;(with_reducible refine(watchmanref06_turn.calls kj10 x309000_1 x309001_1 x309002_1 x309003_1 x309004_1 x309005_1 2 x309005_1 0 t317 t318 t319 t320 t321 t322 _ A25.out).mono ?_);rintro e w28 ⟨rfl,hb⟩;refine⟨_,rfl,?_⟩;replace BK308:=bl_ BK308 hb;replace BK309:=bl_ BK309 hb;replace HB:=zB (zQ (hb_ HB) hb);(try clear hb);(try clear hb2);(try clear hk);(try clear hi);have hcz29:=zD BK308.out;have hfz29:=zC BK308.out))
          go_roundg kj10
          case measure=>have:=HK1.out;have:=HJ10.out;omega
          case rel=>exact⟨(wrap64 (x5_1+1)),(t317),(t318),(t319),(t320),(t321),(t322),rs_,H',⟨by have:=HK1.out;have:=HJ10.out;omega⟩,⟨by(with_reducible repeat(first|refine zU ?_ _|refine zX ?_|refine zT ?_ _));refine zZ (cs:=#[.int .i64 t317,.int .i64 t318,.int .i64 t319,.int .i64 t320,.int .i64 t321,.int .i64 x309005_1]) ?_ 5 _ rfl;(with_reducible repeat(first|refine zU ?_ _|refine zX ?_|refine zT ?_ _));refine zZ (cs:=#[.int .i64 t317,.int .i64 t318,.int .i64 t319,.int .i64 t320,.int .i64 x309004_1,.int .i64 x309005_1]) ?_ 4 _ rfl;(with_reducible repeat(first|refine zU ?_ _|refine zX ?_|refine zT ?_ _));refine zZ (cs:=#[.int .i64 t317,.int .i64 t318,.int .i64 t319,.int .i64 x309003_1,.int .i64 x309004_1,.int .i64 x309005_1]) ?_ 3 _ rfl;(with_reducible repeat(first|refine zU ?_ _|refine zX ?_|refine zT ?_ _));refine zZ (cs:=#[.int .i64 t317,.int .i64 t318,.int .i64 x309002_1,.int .i64 x309003_1,.int .i64 x309004_1,.int .i64 x309005_1]) ?_ 2 _ rfl;(with_reducible repeat(first|refine zU ?_ _|refine zX ?_|refine zT ?_ _));refine zZ (cs:=#[.int .i64 t317,.int .i64 x309001_1,.int .i64 x309002_1,.int .i64 x309003_1,.int .i64 x309004_1,.int .i64 x309005_1]) ?_ 1 _ rfl;(with_reducible repeat(first|refine zU ?_ _|refine zX ?_|refine zT ?_ _));refine zZ (cs:=#[.int .i64 x309000_1,.int .i64 x309001_1,.int .i64 x309002_1,.int .i64 x309003_1,.int .i64 x309004_1,.int .i64 x309005_1]) ?_ 0 _ rfl;(with_reducible repeat(first|refine zU ?_ _|refine zX ?_|refine zT ?_ _));exact BK308.out⟩,⟨bk_ BK309⟩,⟨hb_ HB⟩⟩
         ·rw[if_neg c24] at H
          have c24b0:=zY c24
          clear c24
          have H':=zB H
          clear H
          have hnb30:=NB308_309.out
          have hnc30:=NB309_308.out
          have hcz31:=zD BK308.out
          have hfz31:=zC BK308.out
          go_wp2
          go_roundg kj10
          case measure=>have:=HK1.out;have:=HJ10.out;omega
          case rel=>exact⟨(wrap64 (x5_1+1)),(x309000_1),(x309001_1),(x309002_1),(x309003_1),(x309004_1),(x309005_1),rs_,H',⟨by have:=HK1.out;have:=HJ10.out;omega⟩,⟨bk_ BK308⟩,⟨bk_ BK309⟩,⟨hb_ HB⟩⟩
        ·rw[if_neg c23] at H
         have c23b0:=beq_eq_false_iff_ne.mpr c23
         have c23b1:=bne_iff_ne.mpr c23
         have H':=zB H
         clear H
         have hnb32:=NB308_309.out
         have hnc32:=NB309_308.out
         have hcz33:=zD BK308.out
         have hfz33:=zC BK308.out
         go_wp2
         go_roundg kj10
         case measure=>have:=HK1.out;have:=HJ10.out;omega
         case rel=>exact⟨(wrap64 (x5_1+1)),(x309000_1),(x309001_1),(x309002_1),(x309003_1),(x309004_1),(x309005_1),rs_,H',⟨by have:=HK1.out;have:=HJ10.out;omega⟩,⟨bk_ BK308⟩,⟨bk_ BK309⟩,⟨hb_ HB⟩⟩
    ·rw[if_neg c10] at H
     have c10b0:=zY c10
     clear c10
     simp only[zc,Prod.mk.injEq] at H
     obtain⟨rfl,rfl,rfl,rfl,rfl,rfl⟩:=H
     have hnb34:=NB308_309.out
     have hnc34:=NB309_308.out
     have hcz35:=zD BK308.out
     have hfz35:=zC BK308.out
     have hcz36:=zD BK309.out
     have hfz36:=zC BK309.out
     go_wp2
     refine bodyPost_ret (results_cell_row rfl _ _ gb309 28 #[.int .i64 x309000_1,.int .i64 x309001_1,.int .i64 x309002_1,.int .i64 x309003_1,.int .i64 x309004_1,.int .i64 x309005_1] (0,0) _ rfl (by refine zZ (cs:=#[.int .i64 x309000_1,.int .i64 x309001_1,.int .i64 x309002_1,.int .i64 x309003_1,.int .i64 x309004_1,.int .i64 0]) ?_ 5 _ rfl;refine zZ (cs:=#[.int .i64 x309000_1,.int .i64 x309001_1,.int .i64 x309002_1,.int .i64 x309003_1,.int .i64 0,.int .i64 0]) ?_ 4 _ rfl;refine zZ (cs:=#[.int .i64 x309000_1,.int .i64 x309001_1,.int .i64 x309002_1,.int .i64 0,.int .i64 0,.int .i64 0]) ?_ 3 _ rfl;refine zZ (cs:=#[.int .i64 x309000_1,.int .i64 x309001_1,.int .i64 0,.int .i64 0,.int .i64 0,.int .i64 0]) ?_ 2 _ rfl;refine zZ (cs:=#[.int .i64 x309000_1,.int .i64 0,.int .i64 0,.int .i64 0,.int .i64 0,.int .i64 0]) ?_ 1 _ rfl;refine zZ (cs:=#[.int .i64 0,.int .i64 0,.int .i64 0,.int .i64 0,.int .i64 0,.int .i64 0]) ?_ 0 _ rfl;exact BK309.out) Try.underlying28 rfl (by kernel_rfl)) rfl ?_
     exact⟨ew_,hb_ HB⟩
 ·replace c4:=zb c4
  subst c4
  rw[if_neg (show ¬(false=true) by decide)] at H;try dsimp only at H
  simp only[zc,Prod.mk.injEq] at H
  obtain⟨rfl,rfl,rfl,rfl,rfl,rfl⟩:=H
  go_enter Try.func57,Try.ntmps57
  go_wp2_with (first|((with_reducible refine gate_dst (N:=2) rfl ?_);refine be_ (N:=2) (cs:=#[.int .i64 a0_0,.int .i64 a0_1,.int .i64 a0_2,.int .i64 a0_3,.int .i64 a0_4,.int .i64 a0_5]) (t:=28) ?_;intro gb308 hg w37 hbox hb;have BK308:=zB hbox;have GW308:=gw_ hg HB;have GE308:=GW308;replace HB:=zB (zQ HB.out hb);clear hb hbox hg)|((with_reducible refine gate_dst (N:=4) rfl ?_);refine be_ (N:=4) (cs:=#[.int .i64 0,.int .i64 0,.int .i64 0,.int .i64 0,.int .i64 0,.int .i64 0]) (t:=28) ?_;intro gb309 hg w38 hbox hb;have BK309:=zB hbox;have GE309:=gx_ hg (show Below w.heap.size w _ from hb_ HB);have GW309:=GE309;replace HB:=zB (zQ (hb_ HB) hb);have NB308_309:=nb_ BK308 hg;have NB309_308:=nc_ BK308 hg;replace BK308:=bl_ BK308 hb;clear hb hbox hg;have hnb39:=NB308_309.out;have hnc39:=NB309_308.out;have hcz40:=zD BK308.out;have hfz40:=zC BK308.out)|((with_reducible refine gate_callee (f:=55) rfl ?_);refine gl_ (some 7) Try.func55 #[.agg #[.int .i64 a0_0,.int .i64 a0_1,.int .i64 a0_2,.int .i64 a0_3,.int .i64 a0_4,.int .i64 a0_5]] rfl ?_;(with_reducible refine(watchmanref06_Is.calls a0_0 a0_1 a0_2 a0_3 a0_4 a0_5 false _ A3.out).mono ?_);rintro e w41 ⟨rfl,hb⟩;refine⟨_,rfl,?_⟩;replace BK308:=bl_ BK308 hb;replace BK309:=bl_ BK309 hb;replace HB:=zB (zQ (hb_ HB) hb);(try clear hb);(try clear hb2);(try clear hk);(try clear hi);have hcz42:=zD BK308.out;have hfz42:=zC BK308.out;have hcz43:=zD BK309.out;have hfz43:=zC BK309.out))
  refine bodyPost_ret (results_cell_row rfl _ _ gb309 28 #[.int .i64 a0_0,.int .i64 a0_1,.int .i64 a0_2,.int .i64 a0_3,.int .i64 a0_4,.int .i64 a0_5] (0,0) _ rfl (by refine zZ (cs:=#[.int .i64 a0_0,.int .i64 a0_1,.int .i64 a0_2,.int .i64 a0_3,.int .i64 a0_4,.int .i64 0]) ?_ 5 _ rfl;refine zZ (cs:=#[.int .i64 a0_0,.int .i64 a0_1,.int .i64 a0_2,.int .i64 a0_3,.int .i64 0,.int .i64 0]) ?_ 4 _ rfl;refine zZ (cs:=#[.int .i64 a0_0,.int .i64 a0_1,.int .i64 a0_2,.int .i64 0,.int .i64 0,.int .i64 0]) ?_ 3 _ rfl;refine zZ (cs:=#[.int .i64 a0_0,.int .i64 a0_1,.int .i64 0,.int .i64 0,.int .i64 0,.int .i64 0]) ?_ 2 _ rfl;refine zZ (cs:=#[.int .i64 a0_0,.int .i64 0,.int .i64 0,.int .i64 0,.int .i64 0,.int .i64 0]) ?_ 1 _ rfl;refine zZ (cs:=#[.int .i64 0,.int .i64 0,.int .i64 0,.int .i64 0,.int .i64 0,.int .i64 0]) ?_ 0 _ rfl;exact BK309.out) Try.underlying28 rfl (by kernel_rfl)) rfl ?_
  exact⟨ew_,hb_ HB⟩
theorem watchmanref09_At.fld (x0 x1 x2 x3 x4 x5:Int) (W:World):(Instr.field 28 (.agg #[.int .i64 x0,.int .i64 x1,.int .i64 x2,.int .i64 x3,.int .i64 x4,.int .i64 x5]) 1).run Try.prog W=.ok (.int .i64 x2) W:=by kernel_rfl
def watchmanref09_At.f (k:Nat) (a0_0 a0_1:Int) (l0_2:List S28) (a1_0 a1_1 a2:Int):Option (Int×Bool):=(watchmanref08_Get.f k a0_0 a0_1 l0_2 a1_0 a1_1).bind fun g=>if g.2.2.2.2.2.2=true then((watchmanref06_Pass.f k g.1 g.2.1 g.2.2.1 g.2.2.2.1 g.2.2.2.2.1 g.2.2.2.2.2.1 a2).bind fun p=>some (p.2.2.1,true)) else some (0,false)
theorem watchmanref09_At.e1 (k:Nat) (a0_0 a0_1:Int) (A0_2:Option Addr) (c0_2:Nat) (l0_2:List S28) (a1_0 a1_1 a2:Int) (t1 t2 t3 t4 t5 t6:Int) (w:World) (hr0_2:Kd.C k28 w A0_2 l0_2.length l0_2) (hc0_2:l0_2.length≤c0_2) (E0:watchmanref08_Get.f k a0_0 a0_1 l0_2 a1_0 a1_1=some (t1,t2,t3,t4,t5,t6,false)):
    Calls Try.prog 42 #[.agg #[.int .i64 a0_0,.int .i64 a0_1,.slice A0_2 l0_2.length c0_2],.agg #[.int .i64 a1_0,.int .i64 a1_1],.int .i64 a2] w fun e w'=>e=.returned (.tuple #[.int .i64 0,.bool false])∧Below w.heap.size w w':=by
  have hu0:=Try.underlying24
  have hu1:=Try.underlying28
  have hu2:=Try.underlying26
  have HR0:=zB hr0_2
  have HC0:=zB hc0_2
  clear hr0_2 hc0_2
  replace E0:=zB E0
  have HT:=zB (T.Tell.init w)
  go_enter Try.func42,Try.ntmps42
  go_wp2_with (first|((with_reducible refine gate_dst (N:=3) rfl ?_);refine be_ (N:=3) (cs:=#[.int .i64 a0_0,.int .i64 a0_1,.slice A0_2 l0_2.length c0_2]) (t:=24) ?_;intro g_b hg w_3 hbox hb;replace HT:=zB (HT.out.pushBe hbox hg hb);clear hb hbox hg)|((with_reducible refine gate_dst (N:=4) rfl ?_);refine be_ (N:=4) (cs:=#[.int .i64 a1_0,.int .i64 a1_1]) (t:=26) ?_;intro g_s hg w_4 hbox hb;replace HT:=zB (HT.out.pushBe hbox hg hb);clear hb hbox hg;have hx0_b:=(HT.out.bx 1 rfl 0).trans rfl;have hx1_b:=(HT.out.bx 1 rfl 1).trans rfl;have hx2_b:=(HT.out.bx 1 rfl 2).trans rfl;have hz_b:=(HT.out.far 1 rfl (k:=g_b) rfl).1;have hx0_s:=(HT.out.bx 0 rfl 0).trans rfl;have hx1_s:=(HT.out.bx 0 rfl 1).trans rfl)|((with_reducible refine gate_dst (N:=13) rfl ?_);(try(refine gate_guard (by rfl) ?_;dsimp only));refine gl_ (some 13) Try.func22 #[.agg #[.int .i64 a0_0,.int .i64 a0_1,.slice A0_2 l0_2.length c0_2],.agg #[.int .i64 a1_0,.int .i64 a1_1]] rfl ?_;(with_reducible refine(watchmanref08_Get.calls k a0_0 a0_1 _ _ l0_2 a1_0 a1_1 t1 t2 t3 t4 t5 t6 false _ ?s1 ?s2 E0.out).mono ?_);(case s1=>exact Kd.C_below HR0.out HT.out.below);(case s2=>exact HC0.out);rintro e_ w_13 ⟨rfl,hb⟩;refine⟨_,rfl,?_⟩;replace HT:=zB (HT.out.step hb);clear hb))
  replace HT:=zB (HT.out.pushB #[.int .i64 t1,.int .i64 t2,.int .i64 t3,.int .i64 t4,.int .i64 t5,.int .i64 t6] 28)
  go_ret2
  exact⟨rfl,HT.out.below⟩
theorem watchmanref09_At.main (k:Nat) (a0_0 a0_1:Int) (A0_2:Option Addr) (c0_2:Nat) (l0_2:List S28) (a1_0 a1_1 a2:Int) (t1 t2 t3 t4 t5 t6 p1 p2 p3 p4 p5 p6:Int) (w:World) (hr0_2:Kd.C k28 w A0_2 l0_2.length l0_2) (hc0_2:l0_2.length≤c0_2) (E0:watchmanref08_Get.f k a0_0 a0_1 l0_2 a1_0 a1_1=some (t1,t2,t3,t4,t5,t6,true)) (E1:watchmanref06_Pass.f k t1 t2 t3 t4 t5 t6 a2=some (p1,p2,p3,p4,p5,p6)):
    Calls Try.prog 42 #[.agg #[.int .i64 a0_0,.int .i64 a0_1,.slice A0_2 l0_2.length c0_2],.agg #[.int .i64 a1_0,.int .i64 a1_1],.int .i64 a2] w fun e w'=>e=.returned (.tuple #[.int .i64 p3,.bool true])∧Below w.heap.size w w':=by
  have hu0:=Try.underlying24
  have hu1:=Try.underlying28
  have hu2:=Try.underlying26
  have HR0:=zB hr0_2
  have HC0:=zB hc0_2
  clear hr0_2 hc0_2
  replace E0:=zB E0
  replace E1:=zB E1
  have hfl:=watchmanref09_At.fld p1 p2 p3 p4 p5 p6
  have HT:=zB (T.Tell.init w)
  go_enter Try.func42,Try.ntmps42
  go_wp2_with (first|((with_reducible refine gate_dst (N:=3) rfl ?_);refine be_ (N:=3) (cs:=#[.int .i64 a0_0,.int .i64 a0_1,.slice A0_2 l0_2.length c0_2]) (t:=24) ?_;intro g_b hg w_3 hbox hb;replace HT:=zB (HT.out.pushBe hbox hg hb);clear hb hbox hg)|((with_reducible refine gate_dst (N:=4) rfl ?_);refine be_ (N:=4) (cs:=#[.int .i64 a1_0,.int .i64 a1_1]) (t:=26) ?_;intro g_s hg w_4 hbox hb;replace HT:=zB (HT.out.pushBe hbox hg hb);clear hb hbox hg;have hx0_b:=(HT.out.bx 1 rfl 0).trans rfl;have hx1_b:=(HT.out.bx 1 rfl 1).trans rfl;have hx2_b:=(HT.out.bx 1 rfl 2).trans rfl;have hz_b:=(HT.out.far 1 rfl (k:=g_b) rfl).1;have hx0_s:=(HT.out.bx 0 rfl 0).trans rfl;have hx1_s:=(HT.out.bx 0 rfl 1).trans rfl)|((with_reducible refine gate_dst (N:=13) rfl ?_);(try(refine gate_guard (by rfl) ?_;dsimp only));refine gl_ (some 13) Try.func22 #[.agg #[.int .i64 a0_0,.int .i64 a0_1,.slice A0_2 l0_2.length c0_2],.agg #[.int .i64 a1_0,.int .i64 a1_1]] rfl ?_;(with_reducible refine(watchmanref08_Get.calls k a0_0 a0_1 _ _ l0_2 a1_0 a1_1 t1 t2 t3 t4 t5 t6 true _ ?s1 ?s2 E0.out).mono ?_);(case s1=>exact Kd.C_below HR0.out HT.out.below);(case s2=>exact HC0.out);rintro e_ w_13 ⟨rfl,hb⟩;refine⟨_,rfl,?_⟩;replace HT:=zB (HT.out.step hb);clear hb)|((with_reducible refine gate_dst (N:=20) rfl ?_);(try(refine gate_guard (by rfl) ?_;dsimp only));replace HT:=zB (HT.out.pushB #[.int .i64 t1,.int .i64 t2,.int .i64 t3,.int .i64 t4,.int .i64 t5,.int .i64 t6] 28);refine gl_ (some 20) Try.func57 #[.agg #[.int .i64 t1,.int .i64 t2,.int .i64 t3,.int .i64 t4,.int .i64 t5,.int .i64 t6],.int .i64 a2] rfl ?_;(with_reducible refine(watchmanref06_Pass.calls k t1 t2 t3 t4 t5 t6 a2 p1 p2 p3 p4 p5 p6 _ E1.out).mono ?_);rintro e_ w_20 ⟨rfl,hb⟩;refine⟨_,rfl,?_⟩;replace HT:=zB (HT.out.step hb);clear hb))
  go_ret2
  exact⟨rfl,HT.out.below⟩
theorem watchmanref09_At.calls (k:Nat) (a0_0 a0_1:Int) (A0_2:Option Addr) (c0_2:Nat) (l0_2:List S28) (a1_0 a1_1 a2:Int) (r1:Int) (r2:Bool) (w:World) (hr0_2:Kd.C k28 w A0_2 l0_2.length l0_2) (hc0_2:l0_2.length≤c0_2) (h:watchmanref09_At.f k a0_0 a0_1 l0_2 a1_0 a1_1 a2=some (r1,r2)):
    Calls Try.prog 42 #[.agg #[.int .i64 a0_0,.int .i64 a0_1,.slice A0_2 l0_2.length c0_2],.agg #[.int .i64 a1_0,.int .i64 a1_1],.int .i64 a2] w fun e w'=>e=.returned (.tuple #[.int .i64 r1,.bool r2])∧Below w.heap.size w w':=by
  obtain⟨⟨t1,t2,t3,t4,t5,t6,t7⟩,h1,h⟩:=zL h
  cases t7 with
  | false=>
    simp only[Bool.false_eq_true,if_false] at h
    obtain⟨rfl,rfl⟩:0=r1∧false=r2:=by simpa only[zc,Prod.mk.injEq] using h
    exact watchmanref09_At.e1 k a0_0 a0_1 A0_2 c0_2 l0_2 a1_0 a1_1 a2 t1 t2 t3 t4 t5 t6 w hr0_2 hc0_2 h1
  | true=>
    simp only[if_true] at h
    obtain⟨⟨p1,p2,p3,p4,p5,p6⟩,h2,h⟩:=zL h
    obtain⟨rfl,rfl⟩:p3=r1∧true=r2:=by simpa only[zc,Prod.mk.injEq] using h
    exact watchmanref09_At.main k a0_0 a0_1 A0_2 c0_2 l0_2 a1_0 a1_1 a2 t1 t2 t3 t4 t5 t6 p1 p2 p3 p4 p5 p6 w hr0_2 hc0_2 h1 h2
theorem watchmanref09_At.mono: ∀a0 a1 a2 a3 a4 a5 k,LeO (watchmanref09_At.f k a0 a1 a2 a3 a4 a5) (watchmanref09_At.f (k+1) a0 a1 a2 a3 a4 a5):=by
  intro a0 a1 a2 a3 a4 a5 k
  unfold watchmanref09_At.f
  exact ze (watchmanref08_Get.mono _ _ _ _ _ k) (fun g=>zg (ze (watchmanref06_Pass.mono _ _ _ _ _ _ _ k) (fun _=>LeO.refl _)) (LeO.refl _))
end Go.Proofs.Ytcfpbmdndapeaaa.F
