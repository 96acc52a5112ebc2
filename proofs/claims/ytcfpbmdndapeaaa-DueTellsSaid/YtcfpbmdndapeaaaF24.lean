-- Written by a program of this session (xprint.py), out of the translation and of contracts proved by hand.
import Derived.Test.YtcfpbmdndapeaaaF0
import Derived.Test.YtcfpbmdndapeaaaF20
namespace Go.Proofs.Ytcfpbmdndapeaaa.F
open Go.RowKit Go.Proofs.YtcfpbmdndapeaaaV.PrintWords Go.Proofs.YtcfpbmdndapeaaaV.PrintLast Go.Proofs.YtcfpbmdndapeaaaV.PrintMore
attribute [local go_sem] max2_int min2_int max_two min_two max_three min_three max_four min_four
set_option linter.unusedVariables false
set_option linter.unusedSimpArgs false
mutual
def watchmanref05_Next.j0:Nat→Int→Int→Bool→Option (Int×Bool)
 |0,_,_,_=>none
 |k+1,x0,x1,x11=>if x11=true then(some (0,false)) else(if x1=1 then(if x0=2 then(some (x0,true)) else(if x0=4 then(some (x0,true)) else(some (1,true)))) else(if x1=2 then(if x0=1 then(some (2,true)) else(some (0,false))) else(if x1=3 then(if x0=1 then(watchmanref05_Next.j1 k true) else(if x0=2 then(watchmanref05_Next.j1 k true) else(watchmanref05_Next.j1 k (x0==4)))) else(if x1=4 then(if x0=1 then(watchmanref05_Next.j2 k true) else(if x0=2 then(watchmanref05_Next.j2 k true) else(watchmanref05_Next.j2 k (x0==3)))) else(if x1=5 then(some (0,(x0 !=0))) else(if x1=6 then(if x0=4 then(some (1,true)) else(some (0,false))) else(some (0,false))))))))
def watchmanref05_Next.j1:Nat→Bool→Option (Int×Bool)
 |0,_=>none
 |k+1,x37=>if x37=true then(some (3,true)) else(some (0,false))
def watchmanref05_Next.j2:Nat→Bool→Option (Int×Bool)
 |0,_=>none
 |k+1,x49=>if x49=true then(some (4,true)) else(some (0,false))
end
def watchmanref05_Next.f (k:Nat) (a0:Int) (a1:Int):Option (Int×Bool):=if a0<0 then(watchmanref05_Next.j0 k a0 a1 true) else(watchmanref05_Next.j0 k a0 a1 (decide (a0>4)))
theorem watchmanref05_Next.mono_l: ∀k,(∀y0 y1 y2,LeO (watchmanref05_Next.j0 k y0 y1 y2) (watchmanref05_Next.j0 (k+1) y0 y1 y2))∧(∀y0,LeO (watchmanref05_Next.j1 k y0) (watchmanref05_Next.j1 (k+1) y0))∧(∀y0,LeO (watchmanref05_Next.j2 k y0) (watchmanref05_Next.j2 (k+1) y0))
 |0=>⟨fun _ _ _ r h=>by simp[watchmanref05_Next.j0] at h,fun _ r h=>by simp[watchmanref05_Next.j1] at h,fun _ r h=>by simp[watchmanref05_Next.j2] at h⟩
 |k+1=>by
  obtain⟨ih0,ih1,ih2⟩:=watchmanref05_Next.mono_l k
  refine⟨?_,?_,?_⟩
  all_goals (intros;first|unfold watchmanref05_Next.j0|unfold watchmanref05_Next.j1|unfold watchmanref05_Next.j2)
  all_goals (repeat' first
   |(with_reducible exact ih0 _ _ _)
   |(with_reducible exact ih1 _)
   |(with_reducible exact ih2 _)
   |(with_reducible exact LeO.refl _)
   |(with_reducible exact zf _)
   |(with_reducible refine zg ?_ ?_)
   |(with_reducible refine ze ?_ (fun _=>?_)))
theorem watchmanref05_Next.mono: ∀a0 a1 k,LeO (watchmanref05_Next.f k a0 a1) (watchmanref05_Next.f (k+1) a0 a1):=by
 intro a0 a1 k
 obtain⟨ih0,ih1,ih2⟩:=watchmanref05_Next.mono_l k
 unfold watchmanref05_Next.f
 repeat' first
   |(with_reducible exact ih0 _ _ _)
   |(with_reducible exact ih1 _)
   |(with_reducible exact ih2 _)
   |(with_reducible exact LeO.refl _)
   |(with_reducible exact zf _)
   |(with_reducible refine zg ?_ ?_)
   |(with_reducible refine ze ?_ (fun _=>?_))
set_option maxHeartbeats 8000000 in
set_option maxRecDepth 100000 in
theorem watchmanref05_Next.calls (k:Nat) (a0:Int) (a1:Int) (r1:Int) (r2:Bool) (w:World) (h:watchmanref05_Next.f k a0 a1=some (r1,r2)):
  Calls Try.prog 101 #[.int .i64 a0,.int .i64 a1] w fun e w'=>e=.returned (.tuple #[.int .i64 r1,.bool r2])∧Below w.heap.size w w':=by
 have HB:=zB (Below.refl w.heap.size w)
 have H:(if a0<0 then(watchmanref05_Next.j0 k a0 a1 true) else(watchmanref05_Next.j0 k a0 a1 (decide (a0>4))))=some (r1,r2):=h
 clear h
 have HC3:=zB H
 clear H
 go_enter Try.func101,Try.ntmps101
 go_upto_region 1 with(fail)
 go_cut [11] (fun v11 wc=> ∃(kq:Nat) (x11_2:Bool),v11=.bool x11_2∧Aside0 (watchmanref05_Next.j0 kq a0 a1 x11_2=some (r1,r2))∧Aside0 (kq≤k)∧Aside0 (Below w.heap.size w wc))
 case first=>
  have H:=HC3.out
  clear HC3
  by_cases c4:a0<0
  ·rw[if_pos c4] at H
   have c4b0:=zO c4
   clear c4
   (first|rw[c4b0]|(simp only[i64_w,i32_w];rw[c4b0])|skip)
   have H':=zB H
   clear H
   go_wp2
   go_meet
   case rel=>exact⟨_,(true),rs_,H',⟨by first|omega|exact za _⟩,⟨hb_ HB⟩⟩
  ·rw[if_neg c4] at H
   have c4b0:=zY c4
   clear c4
   (first|rw[c4b0]|(simp only[i64_w,i32_w];rw[c4b0])|skip)
   have H':=zB H
   clear H
   go_wp2
   go_meet
   case rel=>exact⟨_,(decide (a0>4)),rs_,H',⟨by first|omega|exact za _⟩,⟨hb_ HB⟩⟩
 case rest=>
  clear HC3
  try clear c1;try clear p2;try clear c4;try clear c4b0
  obtain⟨kq,x11_2,rfl,HA,HJ2,HB⟩:=hcut
  cases kq with
  |zero=>exact absurd HA.out (by simp[watchmanref05_Next.j0])
  |succ kj2=>
   have H:=HA.out
   clear HA
   simp only[watchmanref05_Next.j0] at H
   by_cases c5:x11_2=true
   ·subst c5
    rw[if_pos rfl] at H;try dsimp only at H
    simp only[zc,Prod.mk.injEq] at H
    obtain⟨rfl,rfl⟩:=H
    go_wp2
    go_ret2
    exact⟨ew_,hb_ HB⟩
   ·replace c5:=zb c5
    subst c5
    rw[if_neg (show ¬(false=true) by decide)] at H;try dsimp only at H
    by_cases c6:a1=1
    ·rw[if_pos c6] at H
     have c6b0:=beq_iff_eq.mpr c6
     have c6b1:=bne_eq_false_iff_eq.mpr c6
     clear c6
     by_cases c7:a0=2
     ·rw[if_pos c7] at H
      have c7b0:=beq_iff_eq.mpr c7
      have c7b1:=bne_eq_false_iff_eq.mpr c7
      clear c7
      simp only[zc,Prod.mk.injEq] at H
      obtain⟨rfl,rfl⟩:=H
      go_wp2
      go_ret2
      exact⟨ew_,hb_ HB⟩
     ·rw[if_neg c7] at H
      have c7b0:=beq_eq_false_iff_ne.mpr c7
      have c7b1:=bne_iff_ne.mpr c7
      by_cases c8:a0=4
      ·rw[if_pos c8] at H
       have c8b0:=beq_iff_eq.mpr c8
       have c8b1:=bne_eq_false_iff_eq.mpr c8
       clear c8
       simp only[zc,Prod.mk.injEq] at H
       obtain⟨rfl,rfl⟩:=H
       go_wp2
       go_ret2
       exact⟨ew_,hb_ HB⟩
      ·rw[if_neg c8] at H
       have c8b0:=beq_eq_false_iff_ne.mpr c8
       have c8b1:=bne_iff_ne.mpr c8
       simp only[zc,Prod.mk.injEq] at H
       obtain⟨rfl,rfl⟩:=H
       go_wp2
       go_ret2
       exact⟨ew_,hb_ HB⟩
    ·rw[if_neg c6] at H
     have c6b0:=beq_eq_false_iff_ne.mpr c6
     have c6b1:=bne_iff_ne.mpr c6
     by_cases c9:a1=2
     ·rw[if_pos c9] at H
      have c9b0:=beq_iff_eq.mpr c9
      have c9b1:=bne_eq_false_iff_eq.mpr c9
      clear c9
      by_cases c10:a0=1
      ·rw[if_pos c10] at H
       have c10b0:=beq_iff_eq.mpr c10
       have c10b1:=bne_eq_false_iff_eq.mpr c10
       clear c10
       simp only[zc,Prod.mk.injEq] at H
       obtain⟨rfl,rfl⟩:=H
       go_wp2
       go_ret2
       exact⟨ew_,hb_ HB⟩
      ·rw[if_neg c10] at H
       have c10b0:=beq_eq_false_iff_ne.mpr c10
       have c10b1:=bne_iff_ne.mpr c10
       simp only[zc,Prod.mk.injEq] at H
       obtain⟨rfl,rfl⟩:=H
       go_wp2
       go_ret2
       exact⟨ew_,hb_ HB⟩
     ·rw[if_neg c9] at H
      have c9b0:=beq_eq_false_iff_ne.mpr c9
      have c9b1:=bne_iff_ne.mpr c9
      by_cases c11:a1=3
      ·rw[if_pos c11] at H
       have c11b0:=beq_iff_eq.mpr c11
       have c11b1:=bne_eq_false_iff_eq.mpr c11
       clear c11
       have HC12:=zB H
       clear H
       go_upto_region 12 with(fail)
       go_cut [37] (fun v37 wc=> ∃(kq:Nat) (x37_11:Bool),v37=.bool x37_11∧Aside0 (watchmanref05_Next.j1 kq x37_11=some (r1,r2))∧Aside0 (kq≤kj2)∧Aside0 (Below w.heap.size w wc))
       case first=>
        have H:=HC12.out
        clear HC12
        by_cases c13:a0=1
        ·rw[if_pos c13] at H
         have c13b0:=beq_iff_eq.mpr c13
         have c13b1:=bne_eq_false_iff_eq.mpr c13
         clear c13
         (first|rw[c13b0]|(simp only[i64_w,i32_w];rw[c13b0])|skip)
         have H':=zB H
         clear H
         go_wp2
         go_meet
         case rel=>exact⟨_,(true),rs_,H',⟨by have:=HJ2.out;first|omega|exact za _⟩,⟨hb_ HB⟩⟩
        ·rw[if_neg c13] at H
         have c13b0:=beq_eq_false_iff_ne.mpr c13
         have c13b1:=bne_iff_ne.mpr c13
         (first|rw[c13b0]|(simp only[i64_w,i32_w];rw[c13b0])|skip)
         by_cases c14:a0=2
         ·rw[if_pos c14] at H
          have c14b0:=beq_iff_eq.mpr c14
          have c14b1:=bne_eq_false_iff_eq.mpr c14
          clear c14
          have H':=zB H
          clear H
          go_wp2
          go_meet
          case rel=>exact⟨_,(true),rs_,H',⟨by have:=HJ2.out;first|omega|exact za _⟩,⟨hb_ HB⟩⟩
         ·rw[if_neg c14] at H
          have c14b0:=beq_eq_false_iff_ne.mpr c14
          have c14b1:=bne_iff_ne.mpr c14
          have H':=zB H
          clear H
          go_wp2
          go_meet
          case rel=>exact⟨_,((a0==4)),rs_,H',⟨by have:=HJ2.out;first|omega|exact za _⟩,⟨hb_ HB⟩⟩
       case rest=>
        clear HC12
        try clear c1;try clear p2;try clear c4;try clear c4b0;try clear c5;try clear c6;try clear c6b0;try clear c6b1;try clear c7;try clear c7b0;try clear c7b1;try clear c8;try clear c8b0;try clear c8b1;try clear c9;try clear c9b0;try clear c9b1;try clear c10;try clear c10b0;try clear c10b1;try clear c11;try clear c11b0;try clear c11b1;try clear c13;try clear c13b0;try clear c13b1;try clear c14;try clear c14b0;try clear c14b1
        obtain⟨kq,x37_11,rfl,HA,HJ11,HB⟩:=hcut
        cases kq with
        |zero=>exact absurd HA.out (by simp[watchmanref05_Next.j1])
        |succ kj11=>
         have H:=HA.out
         clear HA
         simp only[watchmanref05_Next.j1] at H
         by_cases c15:x37_11=true
         ·subst c15
          rw[if_pos rfl] at H;try dsimp only at H
          simp only[zc,Prod.mk.injEq] at H
          obtain⟨rfl,rfl⟩:=H
          go_wp2
          go_ret2
          exact⟨ew_,hb_ HB⟩
         ·replace c15:=zb c15
          subst c15
          rw[if_neg (show ¬(false=true) by decide)] at H;try dsimp only at H
          simp only[zc,Prod.mk.injEq] at H
          obtain⟨rfl,rfl⟩:=H
          go_wp2
          go_ret2
          exact⟨ew_,hb_ HB⟩
      ·rw[if_neg c11] at H
       have c11b0:=beq_eq_false_iff_ne.mpr c11
       have c11b1:=bne_iff_ne.mpr c11
       by_cases c16:a1=4
       ·rw[if_pos c16] at H
        have c16b0:=beq_iff_eq.mpr c16
        have c16b1:=bne_eq_false_iff_eq.mpr c16
        clear c16
        have HC17:=zB H
        clear H
        go_upto_region 15 with(fail)
        go_cut [49] (fun v49 wc=> ∃(kq:Nat) (x49_16:Bool),v49=.bool x49_16∧Aside0 (watchmanref05_Next.j2 kq x49_16=some (r1,r2))∧Aside0 (kq≤kj2)∧Aside0 (Below w.heap.size w wc))
        case first=>
         have H:=HC17.out
         clear HC17
         by_cases c18:a0=1
         ·rw[if_pos c18] at H
          have c18b0:=beq_iff_eq.mpr c18
          have c18b1:=bne_eq_false_iff_eq.mpr c18
          clear c18
          (first|rw[c18b0]|(simp only[i64_w,i32_w];rw[c18b0])|skip)
          have H':=zB H
          clear H
          go_wp2
          go_meet
          case rel=>exact⟨_,(true),rs_,H',⟨by have:=HJ2.out;first|omega|exact za _⟩,⟨hb_ HB⟩⟩
         ·rw[if_neg c18] at H
          have c18b0:=beq_eq_false_iff_ne.mpr c18
          have c18b1:=bne_iff_ne.mpr c18
          (first|rw[c18b0]|(simp only[i64_w,i32_w];rw[c18b0])|skip)
          by_cases c19:a0=2
          ·rw[if_pos c19] at H
           have c19b0:=beq_iff_eq.mpr c19
           have c19b1:=bne_eq_false_iff_eq.mpr c19
           clear c19
           have H':=zB H
           clear H
           go_wp2
           go_meet
           case rel=>exact⟨_,(true),rs_,H',⟨by have:=HJ2.out;first|omega|exact za _⟩,⟨hb_ HB⟩⟩
          ·rw[if_neg c19] at H
           have c19b0:=beq_eq_false_iff_ne.mpr c19
           have c19b1:=bne_iff_ne.mpr c19
           have H':=zB H
           clear H
           go_wp2
           go_meet
           case rel=>exact⟨_,((a0==3)),rs_,H',⟨by have:=HJ2.out;first|omega|exact za _⟩,⟨hb_ HB⟩⟩
        case rest=>
         clear HC17
         try clear c1;try clear p2;try clear c4;try clear c4b0;try clear c5;try clear c6;try clear c6b0;try clear c6b1;try clear c7;try clear c7b0;try clear c7b1;try clear c8;try clear c8b0;try clear c8b1;try clear c9;try clear c9b0;try clear c9b1;try clear c10;try clear c10b0;try clear c10b1;try clear c11;try clear c11b0;try clear c11b1;try clear c13;try clear c13b0;try clear c13b1;try clear c14;try clear c14b0;try clear c14b1;try clear c15;try clear c16;try clear c16b0;try clear c16b1;try clear c18;try clear c18b0;try clear c18b1;try clear c19;try clear c19b0;try clear c19b1
         obtain⟨kq,x49_16,rfl,HA,HJ16,HB⟩:=hcut
         cases kq with
         |zero=>exact absurd HA.out (by simp[watchmanref05_Next.j2])
         |succ kj16=>
          have H:=HA.out
          clear HA
          simp only[watchmanref05_Next.j2] at H
          by_cases c20:x49_16=true
          ·subst c20
           rw[if_pos rfl] at H;try dsimp only at H
           simp only[zc,Prod.mk.injEq] at H
           obtain⟨rfl,rfl⟩:=H
           go_wp2
           go_ret2
           exact⟨ew_,hb_ HB⟩
          ·replace c20:=zb c20
           subst c20
           rw[if_neg (show ¬(false=true) by decide)] at H;try dsimp only at H
           simp only[zc,Prod.mk.injEq] at H
           obtain⟨rfl,rfl⟩:=H
           go_wp2
           go_ret2
           exact⟨ew_,hb_ HB⟩
       ·rw[if_neg c16] at H
        have c16b0:=beq_eq_false_iff_ne.mpr c16
        have c16b1:=bne_iff_ne.mpr c16
        by_cases c21:a1=5
        ·rw[if_pos c21] at H
         have c21b0:=beq_iff_eq.mpr c21
         have c21b1:=bne_eq_false_iff_eq.mpr c21
         clear c21
         simp only[zc,Prod.mk.injEq] at H
         obtain⟨rfl,rfl⟩:=H
         go_wp2
         go_ret2
         exact⟨ew_,hb_ HB⟩
        ·rw[if_neg c21] at H
         have c21b0:=beq_eq_false_iff_ne.mpr c21
         have c21b1:=bne_iff_ne.mpr c21
         by_cases c22:a1=6
         ·rw[if_pos c22] at H
          have c22b0:=beq_iff_eq.mpr c22
          have c22b1:=bne_eq_false_iff_eq.mpr c22
          clear c22
          by_cases c23:a0=4
          ·rw[if_pos c23] at H
           have c23b0:=beq_iff_eq.mpr c23
           have c23b1:=bne_eq_false_iff_eq.mpr c23
           clear c23
           simp only[zc,Prod.mk.injEq] at H
           obtain⟨rfl,rfl⟩:=H
           go_wp2
           go_ret2
           exact⟨ew_,hb_ HB⟩
          ·rw[if_neg c23] at H
           have c23b0:=beq_eq_false_iff_ne.mpr c23
           have c23b1:=bne_iff_ne.mpr c23
           simp only[zc,Prod.mk.injEq] at H
           obtain⟨rfl,rfl⟩:=H
           go_wp2
           go_ret2
           exact⟨ew_,hb_ HB⟩
         ·rw[if_neg c22] at H
          have c22b0:=beq_eq_false_iff_ne.mpr c22
          have c22b1:=bne_iff_ne.mpr c22
          simp only[zc,Prod.mk.injEq] at H
          obtain⟨rfl,rfl⟩:=H
          go_wp2
          go_ret2
          exact⟨ew_,hb_ HB⟩
def watchmanref06_turn.f (k:Nat) (a0_0:Int) (a0_1:Int) (a0_2:Int) (a0_3:Int) (a0_4:Int) (a0_5:Int) (a1:Int) (a2:Int) (a3:Int):Option (Int×Int×Int×Int×Int×Int):=(watchmanref05_Next.f k a0_2 a1).bind fun t=>if a1=4 then some (a0_0,a0_1,t.1,a0_3,a0_4,wrap64 (a2+a3)) else if a1=6 then(watchmanref06_Wait.f a0_3).bind fun s=>some (a0_0,a0_1,t.1,a0_3,a0_4,wrap64 (a2+s)) else some (a0_0,a0_1,t.1,a0_3,a0_4,a2)
theorem watchmanref06_turn.mono: ∀a0 a1 a2 a3 a4 a5 a6 a7 a8 k,LeO (watchmanref06_turn.f k a0 a1 a2 a3 a4 a5 a6 a7 a8) (watchmanref06_turn.f (k+1) a0 a1 a2 a3 a4 a5 a6 a7 a8):=by
  intro a0 a1 a2 a3 a4 a5 a6 a7 a8 k
  unfold watchmanref06_turn.f
  exact ze (watchmanref05_Next.mono _ _ _) (fun _=>LeO.refl _)
theorem watchmanref06_turn.first {w w1:World} {X Y:Obj} (hb:Below ((w.alloc X).alloc Y).heap.size ((w.alloc X).alloc Y) w1):
    Below w.heap.size w w1∧w1.heap[w.heap.size]?=some X∧w1.heap[w.heap.size+1]?=some Y:=by
  refine⟨below_then (below_alloc (below_alloc (Below.refl w.heap.size w) _) _) (by simp;omega) hb,blk_below (zT (blk_new w X) Y) hb,blk_below ?_ hb⟩
  have h_:=blk_new (w.alloc X) Y
  rw[show(w.alloc X).heap.size=w.heap.size+1 from by simp] at h_
  exact h_
theorem watchmanref06_turn.c6 {w1:World} {g t:Nat} {a0 a1 a2 a3 a4 a5:Int} (h:w1.heap[g]?=some (.cells #[.int .i64 a0,.int .i64 a1,.int .i64 a2,.int .i64 a3,.int .i64 a4,.int .i64 a5] t (0,0))):
    (w1.cell? ⟨g,0,none⟩=some (.int .i64 a0)∧w1.cell? ⟨g,1,none⟩=some (.int .i64 a1)∧w1.cell? ⟨g,2,none⟩=some (.int .i64 a2)∧w1.cell? ⟨g,3,none⟩=some (.int .i64 a3)∧w1.cell? ⟨g,4,none⟩=some (.int .i64 a4)∧w1.cell? ⟨g,5,none⟩=some (.int .i64 a5))∧
    (w1.frozen? ⟨g,0,none⟩=false∧w1.frozen? ⟨g,1,none⟩=false∧w1.frozen? ⟨g,2,none⟩=false∧w1.frozen? ⟨g,3,none⟩=false∧w1.frozen? ⟨g,4,none⟩=false∧w1.frozen? ⟨g,5,none⟩=false):=
  ⟨⟨(zD h 0).trans rfl,(zD h 1).trans rfl,(zD h 2).trans rfl,(zD h 3).trans rfl,(zD h 4).trans rfl,(zD h 5).trans rfl⟩,⟨zC h 0,zC h 1,zC h 2,zC h 3,zC h 4,zC h 5⟩⟩
theorem watchmanref06_turn.put6 {w1:World} {g t:Nat} {z:Value} {v0 v1 v2 v3 v4 v5:Value} (h:w1.heap[g]?=some (.cells #[z,z,z,z,z,z] t (0,0))):
    ((((((w1.setCell ⟨g,0,none⟩ v0).setCell ⟨g,1,none⟩ v1).setCell ⟨g,2,none⟩ v2).setCell ⟨g,3,none⟩ v3).setCell ⟨g,4,none⟩ v4).setCell ⟨g,5,none⟩ v5).heap[g]?=some (.cells #[v0,v1,v2,v3,v4,v5] t (0,0)):=
  zZ (cs:=#[v0,v1,v2,v3,v4,z]) (zZ (cs:=#[v0,v1,v2,v3,z,z]) (zZ (cs:=#[v0,v1,v2,z,z,z]) (zZ (cs:=#[v0,v1,z,z,z,z]) (zZ (cs:=#[v0,z,z,z,z,z]) (zZ h 0 _ rfl) 1 _ rfl) 2 _ rfl) 3 _ rfl) 4 _ rfl) 5 _ rfl
theorem watchmanref06_turn.twice {w1:World} {g:Nat} {z:Value} (h:w1.cell? ⟨g,5,none⟩=some z) (a u v:Value):(((w1.setCell ⟨g,2,none⟩ a).setCell ⟨g,5,none⟩ u).setCell ⟨g,5,none⟩ v).cell? ⟨g,5,none⟩=some v:=
  World.cell?_setCell_same _ _ _ (World.cell?_setCell_same _ _ _ ((World.cell?_setCell_other _ _ _ _ (by simp)).trans h))
theorem watchmanref06_turn.twice2 {w1:World} {g:Nat} {z:Value} (h:w1.cell? ⟨g,5,none⟩=some z) (n:Nat) (a u v:Value):((((w1.setCell ⟨g,2,none⟩ a).setCell ⟨g,5,none⟩ u).drewN n).setCell ⟨g,5,none⟩ v).cell? ⟨g,5,none⟩=some v:=
  World.cell?_setCell_same _ _ _ (show((w1.setCell ⟨g,2,none⟩ a).setCell ⟨g,5,none⟩ u).cell? ⟨g,5,none⟩=some u from World.cell?_setCell_same _ _ _ ((World.cell?_setCell_other _ _ _ _ (by simp)).trans h))
set_option maxHeartbeats 8000000 in
set_option maxRecDepth 100000 in
theorem watchmanref06_turn.go (a0_0 a0_1 a0_2 a0_3 a0_4 a0_5 a1 a2 a3 q x s:Int) (b:Bool) (w:World) (b4 b6:Bool) (h4:(a1==4)=b4) (h6:(a1==6)=b6) (hx:x=if b4=true then wrap64 (a2+a3) else if b6=true then wrap64 (a2+s) else a2) (h46:b4=true→b6=false)
    (HN:Aside0 (∀w,Calls Try.prog 101 #[.int .i64 a0_2,.int .i64 a1] w fun e w'=>e=.returned (.tuple #[.int .i64 q,.bool b])∧Below w.heap.size w w')) (HW:Aside0 (∀w,Calls Try.prog 71 #[.int .i64 a0_3] w fun e w'=>e=.returned (.int .i64 s)∧Drawn0 w w')):
    Calls Try.prog 88 #[.agg #[.int .i64 a0_0,.int .i64 a0_1,.int .i64 a0_2,.int .i64 a0_3,.int .i64 a0_4,.int .i64 a0_5],.int .i64 a1,.int .i64 a2,.int .i64 a3] w fun e w'=>e=.returned (.agg #[.int .i64 a0_0,.int .i64 a0_1,.int .i64 q,.int .i64 a0_3,.int .i64 a0_4,.int .i64 x])∧Below w.heap.size w w':=by
  cases b4 with
  | true=>
    have hb6:=h46 rfl
    subst hb6
    rw[if_pos rfl] at hx
    subst hx
    clear h46
    go_enter Try.func88,Try.ntmps88
    go_wp2_with (go_at_call 101;refine(HN.out _).mono ?_;rintro e w1 ⟨rfl,hd⟩;obtain⟨q0,q1,q2⟩:=watchmanref06_turn.first hd;have HB:=zB q0;have K0:=zB q1;have K1:=zB q2;clear q0 q1 q2 hd;obtain⟨⟨hc0,hc1,hc2,hc3,hc4,hc5⟩,hf0,hf1,hf2,hf3,hf4,hf5⟩:=watchmanref06_turn.c6 K0.out;obtain⟨⟨hz0,hz1,hz2,hz3,hz4,hz5⟩,hg0,hg1,hg2,hg3,hg4,hg5⟩:=watchmanref06_turn.c6 K1.out;have hss:=watchmanref06_turn.twice hc5;have hst:=watchmanref06_turn.twice2 hc5)
    refine bodyPost_ret (results_cell_row rfl _ _ (w.heap.size+1) 28 #[.int .i64 a0_0,.int .i64 a0_1,.int .i64 q,.int .i64 a0_3,.int .i64 a0_4,.int .i64 (wrap64 (a2+a3))] (0,0) _ rfl (by(with_reducible repeat(first|refine zU ?_ _));refine watchmanref06_turn.put6 (z:=.int .i64 0) ?_;(with_reducible repeat(first|refine zU ?_ _|refine blk_far ?_ (by show w.heap.size+1≠w.heap.size;omega) _));exact K1.out) Try.underlying28 rfl (by kernel_rfl)) rfl ?_
    exact⟨rfl,by repeat(first|(with_reducible first|exact HB.out|apply zF|refine zK ?_ (Nat.le_succ _)|refine zK ?_ (za _))|exact HB.out)⟩
  | false=>
    rw[if_neg (by simp)] at hx
    clear h46
    cases b6 with
    | true=>
      rw[if_pos rfl] at hx
      subst hx
      go_enter Try.func88,Try.ntmps88
      go_wp2_with (first|(go_at_call 101;refine(HN.out _).mono ?_;rintro e w1 ⟨rfl,hd⟩;obtain⟨q0,q1,q2⟩:=watchmanref06_turn.first hd;have HB:=zB q0;have K0:=zB q1;have K1:=zB q2;clear q0 q1 q2 hd;obtain⟨⟨hc0,hc1,hc2,hc3,hc4,hc5⟩,hf0,hf1,hf2,hf3,hf4,hf5⟩:=watchmanref06_turn.c6 K0.out;obtain⟨⟨hz0,hz1,hz2,hz3,hz4,hz5⟩,hg0,hg1,hg2,hg3,hg4,hg5⟩:=watchmanref06_turn.c6 K1.out;have hss:=watchmanref06_turn.twice hc5;have hst:=watchmanref06_turn.twice2 hc5)|(go_at_call 71;refine(HW.out _).mono ?_;rintro e w2 ⟨rfl,⟨n2,rfl⟩⟩))
      refine bodyPost_ret (results_cell_row rfl _ _ (w.heap.size+1) 28 #[.int .i64 a0_0,.int .i64 a0_1,.int .i64 q,.int .i64 a0_3,.int .i64 a0_4,.int .i64 (wrap64 (a2+s))] (0,0) _ rfl (by(with_reducible repeat(first|refine zU ?_ _));refine watchmanref06_turn.put6 (z:=.int .i64 0) ?_;(with_reducible repeat(first|refine zU ?_ _|refine blk_far ?_ (by show w.heap.size+1≠w.heap.size;omega) _));exact K1.out) Try.underlying28 rfl (by kernel_rfl)) rfl ?_
      exact⟨rfl,by repeat(first|(with_reducible first|exact HB.out|apply zF|refine zK ?_ (Nat.le_succ _)|refine zK ?_ (za _))|exact HB.out)⟩
    | false=>
      rw[if_neg (by simp)] at hx
      subst hx
      go_enter Try.func88,Try.ntmps88
      go_wp2_with (go_at_call 101;refine(HN.out _).mono ?_;rintro e w1 ⟨rfl,hd⟩;obtain⟨q0,q1,q2⟩:=watchmanref06_turn.first hd;have HB:=zB q0;have K0:=zB q1;have K1:=zB q2;clear q0 q1 q2 hd;obtain⟨⟨hc0,hc1,hc2,hc3,hc4,hc5⟩,hf0,hf1,hf2,hf3,hf4,hf5⟩:=watchmanref06_turn.c6 K0.out;obtain⟨⟨hz0,hz1,hz2,hz3,hz4,hz5⟩,hg0,hg1,hg2,hg3,hg4,hg5⟩:=watchmanref06_turn.c6 K1.out;have hss:=watchmanref06_turn.twice hc5;have hst:=watchmanref06_turn.twice2 hc5)
      refine bodyPost_ret (results_cell_row rfl _ _ (w.heap.size+1) 28 #[.int .i64 a0_0,.int .i64 a0_1,.int .i64 q,.int .i64 a0_3,.int .i64 a0_4,.int .i64 x] (0,0) _ rfl (by(with_reducible repeat(first|refine zU ?_ _));refine watchmanref06_turn.put6 (z:=.int .i64 0) ?_;(with_reducible repeat(first|refine zU ?_ _|refine blk_far ?_ (by show w.heap.size+1≠w.heap.size;omega) _));exact K1.out) Try.underlying28 rfl (by kernel_rfl)) rfl ?_
      exact⟨rfl,by repeat(first|(with_reducible first|exact HB.out|apply zF|refine zK ?_ (Nat.le_succ _)|refine zK ?_ (za _))|exact HB.out)⟩
theorem watchmanref06_turn.calls (k:Nat) (a0_0:Int) (a0_1:Int) (a0_2:Int) (a0_3:Int) (a0_4:Int) (a0_5:Int) (a1:Int) (a2:Int) (a3:Int) (r1:Int) (r2:Int) (r3:Int) (r4:Int) (r5:Int) (r6:Int) (w:World) (h:watchmanref06_turn.f k a0_0 a0_1 a0_2 a0_3 a0_4 a0_5 a1 a2 a3=some (r1,r2,r3,r4,r5,r6)):
    Calls Try.prog 88 #[.agg #[.int .i64 a0_0,.int .i64 a0_1,.int .i64 a0_2,.int .i64 a0_3,.int .i64 a0_4,.int .i64 a0_5],.int .i64 a1,.int .i64 a2,.int .i64 a3] w fun e w'=>e=.returned (.agg #[.int .i64 r1,.int .i64 r2,.int .i64 r3,.int .i64 r4,.int .i64 r5,.int .i64 r6])∧Below w.heap.size w w':=by
  obtain⟨⟨q,b⟩,A1,h⟩:=zL h
  have HN:=zB (fun w=>watchmanref05_Next.calls k a0_2 a1 q b w A1)
  obtain ⟨s,hs⟩: ∃s,watchmanref06_Wait.f a0_3=some s:=by
    unfold watchmanref06_Wait.f
    split
    · exact⟨_,rfl⟩
    · split
      · exact⟨_,rfl⟩
      · split<;>exact⟨_,rfl⟩
  have HW:=zB (fun w=>watchmanref06_Wait.calls a0_3 s w hs)
  by_cases h4:a1=4
  · rw[if_pos h4] at h
    simp only[zc,Prod.mk.injEq] at h
    obtain⟨rfl,rfl,rfl,rfl,rfl,rfl⟩:=h
    exact watchmanref06_turn.go _ _ _ _ _ _ a1 a2 a3 _ _ s b w true false (beq_iff_eq.mpr h4) (beq_eq_false_iff_ne.mpr (by omega)) rfl (fun _=>rfl) HN HW
  · rw[if_neg h4] at h
    by_cases h6:a1=6
    · rw[if_pos h6,hs] at h
      simp only[Option.bind_some,zc,Prod.mk.injEq] at h
      obtain⟨rfl,rfl,rfl,rfl,rfl,rfl⟩:=h
      exact watchmanref06_turn.go _ _ _ _ _ _ a1 a2 a3 _ _ s b w false true (beq_eq_false_iff_ne.mpr h4) (beq_iff_eq.mpr h6) rfl (fun h_=>absurd h_ (by simp)) HN HW
    · rw[if_neg h6] at h
      simp only[zc,Prod.mk.injEq] at h
      obtain⟨rfl,rfl,rfl,rfl,rfl,rfl⟩:=h
      exact watchmanref06_turn.go _ _ _ _ _ _ a1 a2 a3 _ _ s b w false false (beq_eq_false_iff_ne.mpr h4) (beq_eq_false_iff_ne.mpr h6) rfl (fun h_=>absurd h_ (by simp)) HN HW
end Go.Proofs.Ytcfpbmdndapeaaa.F
