-- Written by a program of this session (xprint.py), out of the translation and of contracts proved by hand.
import Derived.Test.YtcfpbmdndapeaaaF0
import Derived.Test.YtcfpbmdndapeaaaF18
namespace Go.Proofs.Ytcfpbmdndapeaaa.F
open Go.RowKit Go.Proofs.YtcfpbmdndapeaaaV.PrintWords Go.Proofs.YtcfpbmdndapeaaaV.PrintLast Go.Proofs.YtcfpbmdndapeaaaV.PrintMore
attribute [local go_sem] max2_int min2_int max_two min_two max_three min_three max_four min_four
set_option linter.unusedVariables false
set_option linter.unusedSimpArgs false
mutual
def watchmanref09_Order.l0:Nat→List (S65)→List (S65)→Int→Option ((List (S65)))
 |0,_,_,_=>none
 |k+1,x0,x3,x4=>if x4<(x0.length:Int) then(watchmanref09_Order.l1 k x0 x3 x4 0) else(some x3)
def watchmanref09_Order.l1:Nat→List (S65)→List (S65)→Int→Int→Option ((List (S65)))
 |0,_,_,_,_=>none
 |k+1,x0,x3,x4,x5=>if x5<(x3.length:Int) then(if 0≤x4 then(if x4<(x0.length:Int) then(if 0≤x5 then((watchmanref09_ahead.f ((rd_T65 x0 x4).f0) ((rd_T65 x0 x4).f1.f0) ((rd_T65 x0 x4).f1.f1) ((rd_T65 x0 x4).f2) ((rd_T65 x3 x5).f0) ((rd_T65 x3 x5).f1.f0) ((rd_T65 x3 x5).f1.f1) ((rd_T65 x3 x5).f2)).bind fun t251=>(if t251=true then(if x5≤(x3.length:Int) then((some (x3.take (x5:Int).toNat:List (S65))).bind fun y252=>(if([]:List (S65)).length+y252.length<4398046511104 then((some (([]:List (S65))++y252:List (S65))).bind fun y256=>(if y256.length<4398046511104 then((some (y256++[(⟨(rd_T65 x0 x4).f0,(⟨(rd_T65 x0 x4).f1.f0,(rd_T65 x0 x4).f1.f1⟩:S26),(rd_T65 x0 x4).f2⟩:S65)]:List (S65))).bind fun y260=>((some (x3.drop (x5:Int).toNat:List (S65))).bind fun y263=>(if y260.length+y263.length<4398046511104 then(watchmanref09_Order.l0 k x0 (y260++y263) (wrap64 (x4+1))) else(none)))) else(none))) else(none))) else(none)) else(watchmanref09_Order.l1 k x0 x3 x4 (wrap64 (x5+1))))) else(none)) else(none)) else(none)) else(if 0≤x5 then(if x5≤(x3.length:Int) then((some (x3.take (x5:Int).toNat:List (S65))).bind fun y270=>(if([]:List (S65)).length+y270.length<4398046511104 then((some (([]:List (S65))++y270:List (S65))).bind fun y274=>(if 0≤x4 then(if x4<(x0.length:Int) then(if y274.length<4398046511104 then((some (y274++[(⟨(rd_T65 x0 x4).f0,(⟨(rd_T65 x0 x4).f1.f0,(rd_T65 x0 x4).f1.f1⟩:S26),(rd_T65 x0 x4).f2⟩:S65)]:List (S65))).bind fun y278=>((some (x3.drop (x5:Int).toNat:List (S65))).bind fun y281=>(if y278.length+y281.length<4398046511104 then(watchmanref09_Order.l0 k x0 (y278++y281) (wrap64 (x4+1))) else(none)))) else(none)) else(none)) else(none))) else(none))) else(none)) else(none))
end
def watchmanref09_Order.f (k:Nat) (l0:List (S65)):Option ((List (S65))):=watchmanref09_Order.l0 k l0 ([]:List (S65)) 0
theorem watchmanref09_Order.mono_l: ∀k,(∀y0 y1 y2,LeO (watchmanref09_Order.l0 k y0 y1 y2) (watchmanref09_Order.l0 (k+1) y0 y1 y2))∧(∀y0 y1 y2 y3,LeO (watchmanref09_Order.l1 k y0 y1 y2 y3) (watchmanref09_Order.l1 (k+1) y0 y1 y2 y3))
 |0=>⟨fun _ _ _ r h=>by simp[watchmanref09_Order.l0] at h,fun _ _ _ _ r h=>by simp[watchmanref09_Order.l1] at h⟩
 |k+1=>by
  obtain⟨ih0,ih1⟩:=watchmanref09_Order.mono_l k
  refine⟨?_,?_⟩
  all_goals (intros;first|unfold watchmanref09_Order.l0|unfold watchmanref09_Order.l1)
  all_goals (repeat' first
   |(with_reducible exact ih0 _ _ _)
   |(with_reducible exact ih1 _ _ _ _)
   |(with_reducible exact LeO.refl _)
   |(with_reducible exact zf _)
   |(with_reducible refine zg ?_ ?_)
   |(with_reducible refine ze ?_ (fun _=>?_)))
theorem watchmanref09_Order.mono: ∀a0 k,LeO (watchmanref09_Order.f k a0) (watchmanref09_Order.f (k+1) a0):=by
 intro a0 k
 obtain⟨ih0,ih1⟩:=watchmanref09_Order.mono_l k
 unfold watchmanref09_Order.f
 repeat' first
   |(with_reducible exact ih0 _ _ _)
   |(with_reducible exact ih1 _ _ _ _)
   |(with_reducible exact LeO.refl _)
   |(with_reducible exact zf _)
   |(with_reducible refine zg ?_ ?_)
   |(with_reducible refine ze ?_ (fun _=>?_))
def watchmanref09_Order.T6:Bool×List (List Nat×List Nat):=(true,[([],[]),([],[]),([1],[1]),([0,2],[0,2]),([3],[3]),([4],[4]),([4],[4]),([5,6,4],[4,5,6]),([7,4],[4,7]),([4],[4]),([4],[4]),([9,10,4],[4,9,10]),([11,4],[4,11]),([8,12,4,4],[4,8,12]),([13,4],[4,13]),([4,14],[4,14])])
def watchmanref09_Order.B6:List Nat:=[0,0,2,7,15,31,31,127,255,31,31,1567,3615,8191,16383,32767]
theorem watchmanref09_Order.tab6:rtab .any (opsOf Try.f48 6)=watchmanref09_Order.T6:=by kernel_rfl
theorem watchmanref09_Order.bits6:waitsOk watchmanref09_Order.T6.2 watchmanref09_Order.B6=true:=by kernel_rfl
set_option maxHeartbeats 8000000 in
set_option maxRecDepth 100000 in
theorem watchmanref09_Order.calls (k:Nat) (A0:Option Addr) (c0:Nat) (l0:List (S65)) (r:List (S65)) (w:World) (hr0:Kd.C k65 w A0 l0.length l0) (hc0:l0.length≤c0) (h:watchmanref09_Order.f k l0=some r):
  Calls Try.prog 48 #[.slice A0 l0.length c0] w fun e w'=> ∃v0_:Value,e=.returned (v0_)∧Kd.R k65 65 w' w.heap.size (fun _=>True) v0_ r∧Below w.heap.size w w':=by
 have hu65:=Try.underlying65
 have HR0:=zB hr0
 have HC0:=zB hc0
 clear hr0 hc0
 have HB:=zB (Below.refl w.heap.size w)
 have H:(watchmanref09_Order.l0 k l0 ([]:List (S65)) 0)=some r:=h
 clear h
 have H':=zB H
 clear H
 go_enter Try.func48,Try.ntmps48
 go_wp2
 go_loopg [3,4] k (fun kq v3 v4 w'=> ∃(x3_1:List (S65)) (x4_1:Int),v4=.int .i64 x4_1∧Aside0 (watchmanref09_Order.l0 kq l0 x3_1 x4_1=some r)∧Aside0 (kq≤k)∧Aside0 (Kd.R k65 65 w' w.heap.size (fun _=>True) v3 x3_1)∧Aside0 (Below w.heap.size w w'))
 case atStart=>exact⟨(([]:List (S65))),(0),rs_,H',⟨za _⟩,⟨by first|exact Kd.R_nil _ _ _ _ _|exact Kd.N_nil _ _ _ _ _|exact Kd.V_nil _ _ _ _ _|exact Kd.Q_nil _ _ _ _ _|exact Kd.S_nil _ _ _ _ _⟩,⟨hb_ HB⟩⟩
 case round=>
  clear H'
  obtain⟨x3_1,x4_1,rfl,HA,HK1,HO_3,HB⟩:=hrel
  cases gk with
  |zero=>exact absurd HA.out (by simp[watchmanref09_Order.l0])
  |succ k1=>
   have H:=HA.out
   clear HA
   simp only[watchmanref09_Order.l0] at H
   by_cases c2:x4_1<(l0.length:Int)
   ·rw[if_pos c2] at H
    have c2b0:=zO c2
    clear c2
    have H':=zB H
    clear H
    go_wp2
    go_loopg [5] k1 (fun kq v5 w'=> ∃(x5_2:Int),v5=.int .i64 x5_2∧Aside0 (watchmanref09_Order.l1 kq l0 x3_1 x4_1 x5_2=some r)∧Aside0 (kq≤k1)∧Aside0 (Kd.R k65 65 w' w.heap.size (fun _=>True) u3 x3_1)∧Aside0 (Below w.heap.size w w'))
    case atStart=>exact⟨(0),rs_,H',⟨za _⟩,⟨kr_ HO_3⟩,⟨hb_ HB⟩⟩
    case round=>
     clear H'
     try clear c2;try clear c2b0;try clear p2
     obtain⟨x5_2,rfl,HA,HK2,HO_3,HB⟩:=hrel
     cases gk with
     |zero=>exact absurd HA.out (by simp[watchmanref09_Order.l1])
     |succ k2=>
      have H:=HA.out
      clear HA
      simp only[watchmanref09_Order.l1] at H
      by_cases c3:x5_2<(x3_1.length:Int)
      ·rw[if_pos c3] at H
       have c3b0:=zO c3
       clear c3
       obtain⟨c4,H⟩:=gd_ H
       have c4b0:=zO c4
       clear c4
       obtain⟨c5,H⟩:=gd_ H
       have c5b0:=zO c5
       clear c5
       obtain⟨c6,H⟩:=gd_ H
       have c6b0:=zO c6
       clear c6
       replace H:=zL H
       obtain⟨t251,A70,H⟩:=H
       try dsimp only at H
       have A7:=zB A70
       clear A70
       by_cases c8:t251=true
       ·subst c8
        rw[if_pos rfl] at H;try dsimp only at H
        have c9b0:=eq_true (zJ as_:0≤x5_2)
        obtain⟨c10,H⟩:=gd_ H
        have c10b0:=eq_true c10
        have c10b1:=zO c10
        clear c10
        obtain⟨y252,hy252⟩: ∃y_:List (S65),y_=(x3_1.take (x5_2:Int).toNat):=⟨_,rfl⟩
        replace H:(if([]:List (S65)).length+y252.length<4398046511104 then((some (([]:List (S65))++y252:List (S65))).bind fun y256=>(if y256.length<4398046511104 then((some (y256++[(⟨(rd_T65 l0 x4_1).f0,(⟨(rd_T65 l0 x4_1).f1.f0,(rd_T65 l0 x4_1).f1.f1⟩:S26),(rd_T65 l0 x4_1).f2⟩:S65)]:List (S65))).bind fun y260=>((some (x3_1.drop (x5_2:Int).toNat:List (S65))).bind fun y263=>(if y260.length+y263.length<4398046511104 then(watchmanref09_Order.l0 k2 l0 (y260++y263) (wrap64 (x4_1+1))) else(none)))) else(none))) else(none))=some r:=by first|(rw[hy252];with_reducible exact H)|(have H2_:=(Option.bind_some _ _).symm.trans H;rw[hy252];with_reducible exact H2_)|(have H2_:=(Option.bind_some _ _).symm.trans H;with_reducible exact H2_)|with_reducible exact H|(rw[hy252];exact H)|exact H
        have Ny252:=zB hy252
        clear hy252
        obtain⟨c11,H⟩:=gd_ H
        have LMc11:=zB c11
        clear c11
        obtain⟨y256,hy256⟩: ∃y_:List (S65),y_=(([]:List (S65))++y252):=⟨_,rfl⟩
        replace H:(if y256.length<4398046511104 then((some (y256++[(⟨(rd_T65 l0 x4_1).f0,(⟨(rd_T65 l0 x4_1).f1.f0,(rd_T65 l0 x4_1).f1.f1⟩:S26),(rd_T65 l0 x4_1).f2⟩:S65)]:List (S65))).bind fun y260=>((some (x3_1.drop (x5_2:Int).toNat:List (S65))).bind fun y263=>(if y260.length+y263.length<4398046511104 then(watchmanref09_Order.l0 k2 l0 (y260++y263) (wrap64 (x4_1+1))) else(none)))) else(none))=some r:=by first|(rw[hy256];with_reducible exact H)|(have H2_:=(Option.bind_some _ _).symm.trans H;rw[hy256];with_reducible exact H2_)|(have H2_:=(Option.bind_some _ _).symm.trans H;with_reducible exact H2_)|with_reducible exact H|(rw[hy256];exact H)|exact H
        have Ny256:=zB hy256
        clear hy256
        obtain⟨c12,H⟩:=gd_ H
        have LMc12:=zB c12
        clear c12
        obtain⟨y260,hy260⟩: ∃y_:List (S65),y_=(y256++[(⟨(rd_T65 l0 x4_1).f0,(⟨(rd_T65 l0 x4_1).f1.f0,(rd_T65 l0 x4_1).f1.f1⟩:S26),(rd_T65 l0 x4_1).f2⟩:S65)]):=⟨_,rfl⟩
        replace H:((some (x3_1.drop (x5_2:Int).toNat:List (S65))).bind fun y263=>(if y260.length+y263.length<4398046511104 then(watchmanref09_Order.l0 k2 l0 (y260++y263) (wrap64 (x4_1+1))) else(none)))=some r:=by first|(rw[hy260];with_reducible exact H)|(have H2_:=(Option.bind_some _ _).symm.trans H;rw[hy260];with_reducible exact H2_)|(have H2_:=(Option.bind_some _ _).symm.trans H;with_reducible exact H2_)|with_reducible exact H|(rw[hy260];exact H)|exact H
        have Ny260:=zB hy260
        clear hy260
        have c13b0:=eq_true (zJ as_:0≤x5_2)
        have c14b0:=eq_true (zJ as_:x5_2≤(x3_1.length:Int))
        obtain⟨y263,hy263⟩: ∃y_:List (S65),y_=(x3_1.drop (x5_2:Int).toNat):=⟨_,rfl⟩
        replace H:(if y260.length+y263.length<4398046511104 then(watchmanref09_Order.l0 k2 l0 (y260++y263) (wrap64 (x4_1+1))) else(none))=some r:=by first|(rw[hy263];with_reducible exact H)|(have H2_:=(Option.bind_some _ _).symm.trans H;rw[hy263];with_reducible exact H2_)|(have H2_:=(Option.bind_some _ _).symm.trans H;with_reducible exact H2_)|with_reducible exact H|(rw[hy263];exact H)|exact H
        have Ny263:=zB hy263
        clear hy263
        obtain⟨c15,H⟩:=gd_ H
        have LMc15:=zB c15
        clear c15
        obtain⟨y267,hy267⟩: ∃y_:List (S65),y_=(y260++y263):=⟨_,rfl⟩
        replace H:(watchmanref09_Order.l0 k2 l0 y267 (wrap64 (x4_1+1)))=some r:=by first|(rw[hy267];with_reducible exact H)|(have H2_:=(Option.bind_some _ _).symm.trans H;rw[hy267];with_reducible exact H2_)|(have H2_:=(Option.bind_some _ _).symm.trans H;with_reducible exact H2_)|with_reducible exact H|(rw[hy267];exact H)|exact H
        have Ny267:=zB hy267
        clear hy267
        have H':=zB H
        clear H
        try go_wp2
        replace HO_3:=zB (Kd.R_drew HO_3.out)
        replace HB:=zB (zG HB.out)
        obtain⟨Ao17,co17,eo17⟩:=Kd.R_slice HO_3.out
        (first|subst eo17|(injection eo17 with f1_ f2_ f3_;have f4_:=f1_.symm;have f5_:=f3_.symm;clear f1_ f2_ f3_;subst f4_;subst f5_))
        have p249:0≤(x4_1:Int):=zJ as_
        have q249:x4_1<(l0.length:Int):=zJ as_
        obtain⟨ad249,e249,hx249_0,hx249_1,hx249_2,hx249_3⟩:=at_T65 HR0.out x4_1 p249 q249
        have hw249_3:=hx249_3
        have hw249_2:=hx249_2
        have hw249_1:=hx249_1
        have hw249_0:=hx249_0
        cases e249
        replace hx249_0:=cb_ HB hx249_0
        replace hx249_1:=cb_ HB hx249_1
        replace hx249_2:=cb_ HB hx249_2
        replace hx249_3:=cb_ HB hx249_3
        replace p249:=eq_true p249
        replace q249:=eq_true q249
        have p250:0≤(x5_2:Int):=zJ as_
        have q250:x5_2<(x3_1.length:Int):=zJ as_
        obtain⟨ad250,e250,hx250_0,hx250_1,hx250_2,hx250_3⟩:=at_T65 (zd HO_3.out).2.2 x5_2 p250 q250
        cases e250
        replace p250:=eq_true p250
        replace q250:=eq_true q250
        refine start_ (n:=16) (S:=fun w'=>w'.cell? (ad249.add ((x4_1).toNat*4))=some (.int .i64 ((rd_T65 l0 x4_1).f0))∧w'.cell? ⟨(ad249.add ((x4_1).toNat*4)).block,(ad249.add ((x4_1).toNat*4)).off+1,none⟩=some (.int .i64 ((rd_T65 l0 x4_1).f1.f0))∧w'.cell? ⟨(ad249.add ((x4_1).toNat*4)).block,(ad249.add ((x4_1).toNat*4)).off+2,none⟩=some (.int .i64 ((rd_T65 l0 x4_1).f1.f1))∧w'.cell? ⟨(ad249.add ((x4_1).toNat*4)).block,(ad249.add ((x4_1).toNat*4)).off+3,none⟩=some (.int .i64 ((rd_T65 l0 x4_1).f2))∧w'.cell? (ad250.add ((x5_2).toNat*4))=some (.int .i64 ((rd_T65 x3_1 x5_2).f0))∧w'.cell? ⟨(ad250.add ((x5_2).toNat*4)).block,(ad250.add ((x5_2).toNat*4)).off+1,none⟩=some (.int .i64 ((rd_T65 x3_1 x5_2).f1.f0))∧w'.cell? ⟨(ad250.add ((x5_2).toNat*4)).block,(ad250.add ((x5_2).toNat*4)).off+2,none⟩=some (.int .i64 ((rd_T65 x3_1 x5_2).f1.f1))∧w'.cell? ⟨(ad250.add ((x5_2).toNat*4)).block,(ad250.add ((x5_2).toNat*4)).off+3,none⟩=some (.int .i64 ((rd_T65 x3_1 x5_2).f2))) (ds:=[]) (bt_ 0 16) (by kernel_rfl) rfl rfl ⟨(cb_ HB hw249_0),(cb_ HB hw249_1),(cb_ HB hw249_2),(cb_ HB hw249_3),hx250_0,hx250_1,hx250_2,hx250_3⟩ (fun hHeld=>?_);refine with_tabW watchmanref09_Order.tab6 watchmanref09_Order.bits6 (fun HT_ HW_=>?_)
        generalize wr.drew=w16 at HO_3 HB hx249_0 hx249_1 hx249_2 hx249_3 hx250_0 hx250_1 hx250_2 hx250_3 hHeld⊢
        have Q_:=Qs.mk (n:=16) [(0,0,13,1),(0,1,14,3),(0,2,15,7),(0,3,16,15),(0,4,17,31),(0,5,18,63),(0,6,19,127),(0,7,20,255),(0,9,22,767),(0,10,23,1791),(0,11,24,3839),(2,8,21,4095),(2,12,25,8191)]
        iterate 13 (first|(refine pq_ Q_ ?_;replace Q_:=qt_ Q_)|(refine tq_ Q_ hHeld ?_;replace Q_:=qt_ Q_))
        clear Q_
        refine one_ (i:=13) (N:=some 26) (dn_ 14 16) rfl rfl (one_of HT_.out (by kernel_rfl)) (by decide) (fun K hK=>?_)
        refine gs_ Try.func80 #[.agg #[.int .i64 ((rd_T65 l0 x4_1).f0),.int .i64 ((rd_T65 l0 x4_1).f1.f0),.int .i64 ((rd_T65 l0 x4_1).f1.f1),.int .i64 ((rd_T65 l0 x4_1).f2)],.agg #[.int .i64 ((rd_T65 x3_1 x5_2).f0),.int .i64 ((rd_T65 x3_1 x5_2).f1.f0),.int .i64 ((rd_T65 x3_1 x5_2).f1.f1),.int .i64 ((rd_T65 x3_1 x5_2).f2)]] rfl ?_
        with_reducible refine(watchmanref09_ahead.calls ((rd_T65 l0 x4_1).f0) ((rd_T65 l0 x4_1).f1.f0) ((rd_T65 l0 x4_1).f1.f1) ((rd_T65 l0 x4_1).f2) ((rd_T65 x3_1 x5_2).f0) ((rd_T65 x3_1 x5_2).f1.f0) ((rd_T65 x3_1 x5_2).f1.f1) ((rd_T65 x3_1 x5_2).f2) true _ A7.out).mono ?_
        rintro e w18 ⟨rfl,hb⟩
        have HS4_:=(hb.cell (zA _ _ (hHeld.2.2.2.2.1))).trans (hHeld.2.2.2.2.1)
        have HS5_:=(hb.cell (zA _ _ (hHeld.2.2.2.2.2.1))).trans (hHeld.2.2.2.2.2.1)
        have HS6_:=(hb.cell (zA _ _ (hHeld.2.2.2.2.2.2.1))).trans (hHeld.2.2.2.2.2.2.1)
        have HS7_:=(hb.cell (zA _ _ (hHeld.2.2.2.2.2.2.2))).trans (hHeld.2.2.2.2.2.2.2)
        refine⟨_,rfl,?_⟩
        replace HO_3:=rb_ HO_3 hb
        replace HB:=zB (zQ HB.out hb)
        (try clear hb)
        (try clear hb2)
        (try clear hk)
        (try clear hi)
        refine hK.out _ _ ⟨(cb_ HB hw249_0),(cb_ HB hw249_1),(cb_ HB hw249_2),(cb_ HB hw249_3),HS4_,HS5_,HS6_,HS7_⟩ (fun hHeld=>?_)
        clear hK K
        refine norm_ (a':=?_) ?_ ?_
        rotate_left
        ·show Act.put _ (some 26) _=_
         simp only[Act.put,zE,zH,zI,i64_w,i32_w]
         rfl
        refine pure_ (i:=14) (N:=some 27) (v:=?_) (a':=?_) (dn_ 15 16) rfl rfl (any_of HT_.out (by kernel_rfl)) (fun _ _ _ h=>h) (Or.inl ⟨by rfl,?_⟩) ?_ ?_
        rotate_left
        ·intro w'
         go_simp
         with_reducible rfl
        rotate_left;(simp only[Act.put,zE,zH,zI,i64_w,i32_w];rfl)
        refine pure_ (i:=15) (N:=some 28) (v:=?_) (a':=?_) (bt_ 65535 16) rfl rfl (any_of HT_.out (by kernel_rfl)) (fun _ _ _ h=>h) (Or.inl ⟨by rfl,?_⟩) ?_ ?_
        rotate_left
        ·intro w'
         go_simp
         with_reducible rfl
        rotate_left;(simp only[Act.put,zE,zH,zI,i64_w,i32_w];rfl)
        refine done_ (done_of HT_.out (by kernel_rfl)) ?_
        have q19:(x5_2:Int)≤((x3_1.length:Int):Int):=zJ as_
        obtain⟨i019,hi019,_,hsz19,_⟩:=info_parts info65
        have hroom19:x3_1.length≤co17:=(zd HO_3.out).2.1
        have hC19:Kd.C k65 _ (some ad250) x3_1.length x3_1:=(zd HO_3.out).2.2
        have hcut19:=cut_to (P:=Try.prog) 53 65 .i64 Try.underlying53 hi019 (some ad250) x3_1.length co17 x5_2 (zJ as_) q19 hroom19
        have hr19:=Kd.C_take (m:=(x5_2:Int).toNat) hC19 (by omega)
        have hy19:y252.length=(x5_2:Int).toNat:=(by rw[Ny252.out,zP];omega)
        rw[←Ny252.out] at hr19
        rw[←hy19] at hcut19
        have HR255:=zB hr19
        have HC255:=zB (show y252.length≤co17 from by omega)
        clear hr19 hC19 hroom19 hi019 hsz19
        have KY19:=zB hy19
        clear hy19
        have KL19:=zB (show(x5_2:Int).toNat≤x3_1.length from by omega)
        replace q19:=eq_true q19
        try go_wp2_with (first|((with_reducible refine gate_builtin (b:=.append) (xs:=#[.tmp 31,.tmp 34]) rfl ?_);at_builtin;refine Kd.R_append_rows k65 (w0:=w) w.heap.size rfl (.tmp 31) (.tmp 34) 53 65 (.agg #[(.int .i64 0),(.int .i64 0),(.int .i64 0),(.int .i64 0)]) 32 rfl Try.underlying53 info65 rfl (by decide) (by omega) (.slice none 0 0) ([]:List (S65)) y252 _ _ _ (fun k_=>some k_≠(.slice (some ad250) x3_1.length co17:Value).ownBlock) (fun _=>False) rfl rfl ?aO ?aR (fun _ _ h=>h) (fun _ h=>h.elim) ?aF ?aB ?aS ?aL ?_;(case aR=>repeat(first|exact(by repeat(first|(with_reducible exact HR255.out)|(with_reducible refine Kd.C_alloc ?_ _)|(with_reducible refine Kd.C_drewN ?_ _)|(with_reducible refine Kd.C_drew ?_)|exact HR255.out))|(with_reducible refine Kd.C_alloc ?_ _)|(with_reducible refine Kd.C_drewN ?_ _)|(with_reducible refine Kd.C_drew ?_)));(case aB=>exact HB.out);(case aF=>exact(fun k_ hk=>Kd.fresh' (Kd.R_lt (HO_3.out)) k_ hk));(case aO=>exact((Kd.R_nil _ _ _ _ (fun k_=>some k_≠(.slice (some ad250) x3_1.length co17:Value).ownBlock))));(case aS=>exact(zN HB.out));(case aL=>have:=LMc11.out;omega);intro v257 w20 ho hb hg hat;rw[←Ny256.out] at ho;replace HB:=zB (hb);replace HR255:=zB ((show Kd.C k65 w20 (some ad250) y252.length y252 from by rw[Ny252.out];exact Kd.C_take (m:=(x5_2:Int).toNat) ((zd (Kd.R_after (Kd.R_apart_nil (HO_3.out)) hg hat)).2.2) KL19.out));replace HO_3:=zB (Kd.R_after (Kd.R_apart_nil (HO_3.out)) hg hat);have HO258:=zB (ho);clear ho hb hg hat;have p259:0≤(x4_1:Int):=zJ as_;have q259:x4_1<(l0.length:Int):=zJ as_;obtain⟨ad259,e259,hx259_0,hx259_1,hx259_2,hx259_3⟩:=at_T65 HR0.out x4_1 p259 q259;obtain rfl:ad249=ad259:=(by injection e259);replace hx259_0:=cb_ HB hx259_0;replace hx259_1:=cb_ HB hx259_1;replace hx259_2:=cb_ HB hx259_2;replace hx259_3:=cb_ HB hx259_3;replace p259:=eq_true p259;replace q259:=eq_true q259)|((with_reducible refine gate_builtin (b:=.append) (xs:=#[.tmp 36,.tmp 41]) rfl ?_);at_builtin;refine Kd.R_append k65 (w0:=w) w.heap.size rfl (.tmp 36) (.tmp 41) 53 65 (.agg #[(.int .i64 0),(.int .i64 0),(.int .i64 0),(.int .i64 0)]) 32 rfl Try.underlying53 info65 rfl (by decide) (by omega) v257 y256 (⟨(rd_T65 l0 x4_1).f0,(⟨(rd_T65 l0 x4_1).f1.f0,(rd_T65 l0 x4_1).f1.f1⟩:S26),(rd_T65 l0 x4_1).f2⟩:S65) [.int .i64 ((rd_T65 l0 x4_1).f0),.int .i64 ((rd_T65 l0 x4_1).f1.f0),.int .i64 ((rd_T65 l0 x4_1).f1.f1),.int .i64 ((rd_T65 l0 x4_1).f2)] (fun k_=>some k_≠(.slice (some ad250) x3_1.length co17:Value).ownBlock) (fun _=>False) rfl rfl ?aP (fun _ hk=>hk.elim) ?aF ?aO ?aB ?aS ?aL ?_;(case aP=>exact k65_mkM _ _ _ (⟨(rd_T65 l0 x4_1).f0,(⟨(rd_T65 l0 x4_1).f1.f0,(rd_T65 l0 x4_1).f1.f1⟩:S26),(rd_T65 l0 x4_1).f2⟩:S65));(case aB=>exact HB.out);(case aF=>exact(fun k_ hk=>Kd.fresh' (Kd.R_lt (HO_3.out)) k_ hk));(case aO=>exact(HO258.out));(case aS=>exact(zN HB.out));(case aL=>have:=LMc12.out;omega);intro v261 w21 ho hb hg hat;rw[←Ny260.out] at ho;replace HB:=zB (hb);replace HR255:=zB ((show Kd.C k65 w21 (some ad250) y252.length y252 from by rw[Ny252.out];exact Kd.C_take (m:=(x5_2:Int).toNat) ((zd (Kd.R_after (ok:=(fun _=>True)) (HO_3.out) hg hat)).2.2) KL19.out));replace HO_3:=zB (Kd.R_after (ok:=(fun _=>True)) (HO_3.out) hg hat);have HO262:=zB (ho);clear HO258;clear ho hb hg hat;have q22:(x5_2:Int)≤((x3_1.length:Int):Int):=zJ as_;obtain⟨i022,hi022,_,hsz22,_⟩:=info_parts info65;have hroom22:x3_1.length≤co17:=(zd HO_3.out).2.1;have hC22:Kd.C k65 _ (some ad250) x3_1.length x3_1:=(zd HO_3.out).2.2;have q022:(0:Int)≤(x5_2:Int):=zJ as_;have hcut22:=cut_from (P:=Try.prog) 53 65 .i64 Try.underlying53 hi022 4 hsz22 (some ad250) x3_1.length co17 x5_2 q022 q22;have hr22:=Kd.C_drop (m:=(x5_2:Int).toNat) (c:=co17) hC22 (by omega) hroom22;obtain⟨A22,hA22⟩: ∃A1,A1=(if co17=(x5_2:Int).toNat then(some ad250) else((some ad250):Option Addr).map (·.add ((x5_2:Int).toNat*4))):=⟨_,rfl⟩;obtain⟨c22,hc22⟩: ∃c1,c1=co17-(x5_2:Int).toNat:=⟨_,rfl⟩;have hy22:y263.length=x3_1.length-(x5_2:Int).toNat:=(by rw[Ny263.out,zR]<;>omega);rw[show(x3_1).drop (x5_2:Int).toNat=y263 from Ny263.out.symm] at hr22;replace hr22:Kd.C k65 _ A22 y263.length y263:=(by rw[hA22];exact hr22);rw[←hy22,←hA22,←hc22] at hcut22;have HR266:=zB hr22;have HC266:=zB (show y263.length≤c22 from by rw[hy22,hc22];exact Nat.sub_le_sub_right hroom22 _);clear hr22 hC22 hroom22 hi022 hsz22 hc22;have KY22:=zB hy22;have KA22:=zB hA22;clear hy22 hA22;have KL22:=zB (show(x5_2:Int).toNat≤x3_1.length from by omega);replace q22:=eq_true q22)|((with_reducible refine gate_builtin (b:=.append) (xs:=#[.tmp 43,.tmp 46]) rfl ?_);at_builtin;refine Kd.R_append_rows k65 (w0:=w) w.heap.size rfl (.tmp 43) (.tmp 46) 53 65 (.agg #[(.int .i64 0),(.int .i64 0),(.int .i64 0),(.int .i64 0)]) 32 rfl Try.underlying53 info65 rfl (by decide) (by omega) v261 y260 y263 _ _ _ (fun k_=>some k_≠(.slice (some ad250) x3_1.length co17:Value).ownBlock) (fun _=>False) rfl rfl ?aO ?aR (fun _ _ h=>h) (fun _ h=>h.elim) ?aF ?aB ?aS ?aL ?_;(case aR=>repeat(first|exact(by repeat(first|(with_reducible exact HR266.out)|(with_reducible refine Kd.C_alloc ?_ _)|(with_reducible refine Kd.C_drewN ?_ _)|(with_reducible refine Kd.C_drew ?_)|exact HR266.out))|(with_reducible refine Kd.C_alloc ?_ _)|(with_reducible refine Kd.C_drewN ?_ _)|(with_reducible refine Kd.C_drew ?_)));(case aB=>exact HB.out);(case aF=>exact(fun k_ hk=>Kd.fresh' (Kd.R_lt (HO_3.out)) k_ hk));(case aO=>exact(HO262.out));(case aS=>exact(zN HB.out));(case aL=>have:=LMc15.out;omega);intro v268 w23 ho hb hg hat;rw[←Ny267.out] at ho;replace HB:=zB (hb);replace HR255:=zB ((show Kd.C k65 w23 (some ad250) y252.length y252 from by rw[Ny252.out];exact Kd.C_take (m:=(x5_2:Int).toNat) ((zd (Kd.R_after (ok:=(fun _=>True)) (HO_3.out) hg hat)).2.2) KL19.out));replace HR266:=zB ((show Kd.C k65 w23 A22 y263.length y263 from by rw[Ny263.out,KA22.out];exact Kd.C_drop (m:=(x5_2:Int).toNat) (c:=co17) ((zd (Kd.R_after (ok:=(fun _=>True)) (HO_3.out) hg hat)).2.2) KL22.out ((zd (Kd.R_after (ok:=(fun _=>True)) (HO_3.out) hg hat)).2.1)));replace HO_3:=zB (Kd.R_after (ok:=(fun _=>True)) (HO_3.out) hg hat);have HO269:=zB (ho);clear HO262;clear ho hb hg hat))
        go_roundg k2
        case measure=>have:=HK1.out;have:=HK2.out;omega
        case rel=>exact⟨(y267),(wrap64 (x4_1+1)),rs_,H',⟨by have:=HK1.out;have:=HK2.out;omega⟩,⟨by(with_reducible repeat(first|apply Kd.R_alloc|apply Kd.R_drewN|apply Kd.R_drew));exact Kd.R_mono HO269.out (fun _ hk=>trivial)⟩,⟨hb_ HB⟩⟩
       ·replace c8:=zb c8
        subst c8
        rw[if_neg (show ¬(false=true) by decide)] at H;try dsimp only at H
        have H':=zB H
        clear H
        try go_wp2
        replace HO_3:=zB (Kd.R_drew HO_3.out)
        replace HB:=zB (zG HB.out)
        obtain⟨Ao25,co25,eo25⟩:=Kd.R_slice HO_3.out
        (first|subst eo25|(injection eo25 with f1_ f2_ f3_;have f4_:=f1_.symm;have f5_:=f3_.symm;clear f1_ f2_ f3_;subst f4_;subst f5_))
        have p249:0≤(x4_1:Int):=zJ as_
        have q249:x4_1<(l0.length:Int):=zJ as_
        obtain⟨ad249,e249,hx249_0,hx249_1,hx249_2,hx249_3⟩:=at_T65 HR0.out x4_1 p249 q249
        have hw249_3:=hx249_3
        have hw249_2:=hx249_2
        have hw249_1:=hx249_1
        have hw249_0:=hx249_0
        cases e249
        replace hx249_0:=cb_ HB hx249_0
        replace hx249_1:=cb_ HB hx249_1
        replace hx249_2:=cb_ HB hx249_2
        replace hx249_3:=cb_ HB hx249_3
        replace p249:=eq_true p249
        replace q249:=eq_true q249
        have p250:0≤(x5_2:Int):=zJ as_
        have q250:x5_2<(x3_1.length:Int):=zJ as_
        obtain⟨ad250,e250,hx250_0,hx250_1,hx250_2,hx250_3⟩:=at_T65 (zd HO_3.out).2.2 x5_2 p250 q250
        cases e250
        replace p250:=eq_true p250
        replace q250:=eq_true q250
        refine start_ (n:=16) (S:=fun w'=>w'.cell? (ad249.add ((x4_1).toNat*4))=some (.int .i64 ((rd_T65 l0 x4_1).f0))∧w'.cell? ⟨(ad249.add ((x4_1).toNat*4)).block,(ad249.add ((x4_1).toNat*4)).off+1,none⟩=some (.int .i64 ((rd_T65 l0 x4_1).f1.f0))∧w'.cell? ⟨(ad249.add ((x4_1).toNat*4)).block,(ad249.add ((x4_1).toNat*4)).off+2,none⟩=some (.int .i64 ((rd_T65 l0 x4_1).f1.f1))∧w'.cell? ⟨(ad249.add ((x4_1).toNat*4)).block,(ad249.add ((x4_1).toNat*4)).off+3,none⟩=some (.int .i64 ((rd_T65 l0 x4_1).f2))∧w'.cell? (ad250.add ((x5_2).toNat*4))=some (.int .i64 ((rd_T65 x3_1 x5_2).f0))∧w'.cell? ⟨(ad250.add ((x5_2).toNat*4)).block,(ad250.add ((x5_2).toNat*4)).off+1,none⟩=some (.int .i64 ((rd_T65 x3_1 x5_2).f1.f0))∧w'.cell? ⟨(ad250.add ((x5_2).toNat*4)).block,(ad250.add ((x5_2).toNat*4)).off+2,none⟩=some (.int .i64 ((rd_T65 x3_1 x5_2).f1.f1))∧w'.cell? ⟨(ad250.add ((x5_2).toNat*4)).block,(ad250.add ((x5_2).toNat*4)).off+3,none⟩=some (.int .i64 ((rd_T65 x3_1 x5_2).f2))) (ds:=[]) (bt_ 0 16) (by kernel_rfl) rfl rfl ⟨(cb_ HB hw249_0),(cb_ HB hw249_1),(cb_ HB hw249_2),(cb_ HB hw249_3),hx250_0,hx250_1,hx250_2,hx250_3⟩ (fun hHeld=>?_);refine with_tabW watchmanref09_Order.tab6 watchmanref09_Order.bits6 (fun HT_ HW_=>?_)
        generalize wr.drew=w24 at HO_3 HB hx249_0 hx249_1 hx249_2 hx249_3 hx250_0 hx250_1 hx250_2 hx250_3 hHeld⊢
        have Q_:=Qs.mk (n:=16) [(0,0,13,1),(0,1,14,3),(0,2,15,7),(0,3,16,15),(0,4,17,31),(0,5,18,63),(0,6,19,127),(0,7,20,255),(0,9,22,767),(0,10,23,1791),(0,11,24,3839),(2,8,21,4095),(2,12,25,8191)]
        iterate 13 (first|(refine pq_ Q_ ?_;replace Q_:=qt_ Q_)|(refine tq_ Q_ hHeld ?_;replace Q_:=qt_ Q_))
        clear Q_
        refine one_ (i:=13) (N:=some 26) (dn_ 14 16) rfl rfl (one_of HT_.out (by kernel_rfl)) (by decide) (fun K hK=>?_)
        refine gs_ Try.func80 #[.agg #[.int .i64 ((rd_T65 l0 x4_1).f0),.int .i64 ((rd_T65 l0 x4_1).f1.f0),.int .i64 ((rd_T65 l0 x4_1).f1.f1),.int .i64 ((rd_T65 l0 x4_1).f2)],.agg #[.int .i64 ((rd_T65 x3_1 x5_2).f0),.int .i64 ((rd_T65 x3_1 x5_2).f1.f0),.int .i64 ((rd_T65 x3_1 x5_2).f1.f1),.int .i64 ((rd_T65 x3_1 x5_2).f2)]] rfl ?_
        with_reducible refine(watchmanref09_ahead.calls ((rd_T65 l0 x4_1).f0) ((rd_T65 l0 x4_1).f1.f0) ((rd_T65 l0 x4_1).f1.f1) ((rd_T65 l0 x4_1).f2) ((rd_T65 x3_1 x5_2).f0) ((rd_T65 x3_1 x5_2).f1.f0) ((rd_T65 x3_1 x5_2).f1.f1) ((rd_T65 x3_1 x5_2).f2) false _ A7.out).mono ?_
        rintro e w26 ⟨rfl,hb⟩
        have HS4_:=(hb.cell (zA _ _ (hHeld.2.2.2.2.1))).trans (hHeld.2.2.2.2.1)
        have HS5_:=(hb.cell (zA _ _ (hHeld.2.2.2.2.2.1))).trans (hHeld.2.2.2.2.2.1)
        have HS6_:=(hb.cell (zA _ _ (hHeld.2.2.2.2.2.2.1))).trans (hHeld.2.2.2.2.2.2.1)
        have HS7_:=(hb.cell (zA _ _ (hHeld.2.2.2.2.2.2.2))).trans (hHeld.2.2.2.2.2.2.2)
        refine⟨_,rfl,?_⟩
        replace HO_3:=rb_ HO_3 hb
        replace HB:=zB (zQ HB.out hb)
        (try clear hb)
        (try clear hb2)
        (try clear hk)
        (try clear hi)
        refine hK.out _ _ ⟨(cb_ HB hw249_0),(cb_ HB hw249_1),(cb_ HB hw249_2),(cb_ HB hw249_3),HS4_,HS5_,HS6_,HS7_⟩ (fun hHeld=>?_)
        clear hK K
        refine norm_ (a':=?_) ?_ ?_
        rotate_left
        ·show Act.put _ (some 26) _=_
         simp only[Act.put,zE,zH,zI,i64_w,i32_w]
         rfl
        refine pure_ (i:=14) (N:=some 27) (v:=?_) (a':=?_) (dn_ 15 16) rfl rfl (any_of HT_.out (by kernel_rfl)) (fun _ _ _ h=>h) (Or.inl ⟨by rfl,?_⟩) ?_ ?_
        rotate_left
        ·intro w'
         go_simp
         with_reducible rfl
        rotate_left;(simp only[Act.put,zE,zH,zI,i64_w,i32_w];rfl)
        refine pure_ (i:=15) (N:=some 28) (v:=?_) (a':=?_) (bt_ 65535 16) rfl rfl (any_of HT_.out (by kernel_rfl)) (fun _ _ _ h=>h) (Or.inl ⟨by rfl,?_⟩) ?_ ?_
        rotate_left
        ·intro w'
         go_simp
         with_reducible rfl
        rotate_left;(simp only[Act.put,zE,zH,zI,i64_w,i32_w];rfl)
        refine done_ (done_of HT_.out (by kernel_rfl)) ?_
        try go_wp2
        go_roundg k2
        case measure=>have:=HK1.out;have:=HK2.out;omega
        case rel=>exact⟨(wrap64 (x5_2+1)),rs_,H',⟨by have:=HK1.out;have:=HK2.out;omega⟩,⟨kr_ HO_3⟩,⟨hb_ HB⟩⟩
      ·rw[if_neg c3] at H
       have c3b0:=zY c3
       clear c3
       obtain⟨c27,H⟩:=gd_ H
       have c27b0:=eq_true c27
       have c27b1:=zO c27
       clear c27
       obtain⟨c28,H⟩:=gd_ H
       have c28b0:=eq_true c28
       have c28b1:=zO c28
       clear c28
       obtain⟨y270,hy270⟩: ∃y_:List (S65),y_=(x3_1.take (x5_2:Int).toNat):=⟨_,rfl⟩
       replace H:(if([]:List (S65)).length+y270.length<4398046511104 then((some (([]:List (S65))++y270:List (S65))).bind fun y274=>(if 0≤x4_1 then(if x4_1<(l0.length:Int) then(if y274.length<4398046511104 then((some (y274++[(⟨(rd_T65 l0 x4_1).f0,(⟨(rd_T65 l0 x4_1).f1.f0,(rd_T65 l0 x4_1).f1.f1⟩:S26),(rd_T65 l0 x4_1).f2⟩:S65)]:List (S65))).bind fun y278=>((some (x3_1.drop (x5_2:Int).toNat:List (S65))).bind fun y281=>(if y278.length+y281.length<4398046511104 then(watchmanref09_Order.l0 k2 l0 (y278++y281) (wrap64 (x4_1+1))) else(none)))) else(none)) else(none)) else(none))) else(none))=some r:=by first|(rw[hy270];with_reducible exact H)|(have H2_:=(Option.bind_some _ _).symm.trans H;rw[hy270];with_reducible exact H2_)|(have H2_:=(Option.bind_some _ _).symm.trans H;with_reducible exact H2_)|with_reducible exact H|(rw[hy270];exact H)|exact H
       have Ny270:=zB hy270
       clear hy270
       obtain⟨c29,H⟩:=gd_ H
       have LMc29:=zB c29
       clear c29
       obtain⟨y274,hy274⟩: ∃y_:List (S65),y_=(([]:List (S65))++y270):=⟨_,rfl⟩
       replace H:(if 0≤x4_1 then(if x4_1<(l0.length:Int) then(if y274.length<4398046511104 then((some (y274++[(⟨(rd_T65 l0 x4_1).f0,(⟨(rd_T65 l0 x4_1).f1.f0,(rd_T65 l0 x4_1).f1.f1⟩:S26),(rd_T65 l0 x4_1).f2⟩:S65)]:List (S65))).bind fun y278=>((some (x3_1.drop (x5_2:Int).toNat:List (S65))).bind fun y281=>(if y278.length+y281.length<4398046511104 then(watchmanref09_Order.l0 k2 l0 (y278++y281) (wrap64 (x4_1+1))) else(none)))) else(none)) else(none)) else(none))=some r:=by first|(rw[hy274];with_reducible exact H)|(have H2_:=(Option.bind_some _ _).symm.trans H;rw[hy274];with_reducible exact H2_)|(have H2_:=(Option.bind_some _ _).symm.trans H;with_reducible exact H2_)|with_reducible exact H|(rw[hy274];exact H)|exact H
       have Ny274:=zB hy274
       clear hy274
       obtain⟨c30,H⟩:=gd_ H
       have c30b0:=zO c30
       clear c30
       obtain⟨c31,H⟩:=gd_ H
       have c31b0:=zO c31
       clear c31
       obtain⟨c32,H⟩:=gd_ H
       have LMc32:=zB c32
       clear c32
       obtain⟨y278,hy278⟩: ∃y_:List (S65),y_=(y274++[(⟨(rd_T65 l0 x4_1).f0,(⟨(rd_T65 l0 x4_1).f1.f0,(rd_T65 l0 x4_1).f1.f1⟩:S26),(rd_T65 l0 x4_1).f2⟩:S65)]):=⟨_,rfl⟩
       replace H:((some (x3_1.drop (x5_2:Int).toNat:List (S65))).bind fun y281=>(if y278.length+y281.length<4398046511104 then(watchmanref09_Order.l0 k2 l0 (y278++y281) (wrap64 (x4_1+1))) else(none)))=some r:=by first|(rw[hy278];with_reducible exact H)|(have H2_:=(Option.bind_some _ _).symm.trans H;rw[hy278];with_reducible exact H2_)|(have H2_:=(Option.bind_some _ _).symm.trans H;with_reducible exact H2_)|with_reducible exact H|(rw[hy278];exact H)|exact H
       have Ny278:=zB hy278
       clear hy278
       have c33b0:=eq_true (zJ as_:0≤x5_2)
       have c34b0:=eq_true (zJ as_:x5_2≤(x3_1.length:Int))
       obtain⟨y281,hy281⟩: ∃y_:List (S65),y_=(x3_1.drop (x5_2:Int).toNat):=⟨_,rfl⟩
       replace H:(if y278.length+y281.length<4398046511104 then(watchmanref09_Order.l0 k2 l0 (y278++y281) (wrap64 (x4_1+1))) else(none))=some r:=by first|(rw[hy281];with_reducible exact H)|(have H2_:=(Option.bind_some _ _).symm.trans H;rw[hy281];with_reducible exact H2_)|(have H2_:=(Option.bind_some _ _).symm.trans H;with_reducible exact H2_)|with_reducible exact H|(rw[hy281];exact H)|exact H
       have Ny281:=zB hy281
       clear hy281
       obtain⟨c35,H⟩:=gd_ H
       have LMc35:=zB c35
       clear c35
       obtain⟨y285,hy285⟩: ∃y_:List (S65),y_=(y278++y281):=⟨_,rfl⟩
       replace H:(watchmanref09_Order.l0 k2 l0 y285 (wrap64 (x4_1+1)))=some r:=by first|(rw[hy285];with_reducible exact H)|(have H2_:=(Option.bind_some _ _).symm.trans H;rw[hy285];with_reducible exact H2_)|(have H2_:=(Option.bind_some _ _).symm.trans H;with_reducible exact H2_)|with_reducible exact H|(rw[hy285];exact H)|exact H
       have Ny285:=zB hy285
       clear hy285
       have H':=zB H
       clear H
       try go_wp2
       replace HO_3:=zB (Kd.R_drew HO_3.out)
       replace HB:=zB (zG HB.out)
       obtain⟨Ao37,co37,eo37⟩:=Kd.R_slice HO_3.out
       (first|subst eo37|(injection eo37 with f1_ f2_ f3_;have f4_:=f1_.symm;have f5_:=f3_.symm;clear f1_ f2_ f3_;subst f4_;subst f5_))
       refine start_ (n:=16) (S:=fun w'=>True) (ds:=[]) (bt_ 0 16) (by kernel_rfl) rfl rfl trivial (fun hHeld=>?_);refine with_tabW watchmanref09_Order.tab6 watchmanref09_Order.bits6 (fun HT_ HW_=>?_)
       generalize wr.drew=w36 at HO_3 HB hHeld⊢
       have Q_:=Qs.mk (n:=16) [(0,0,13,1),(0,1,14,3),(0,2,15,7),(0,3,16,15),(0,4,17,31),(1,5,18,63),(1,6,19,127),(1,7,20,255),(1,8,21,511),(1,9,22,1023),(1,10,23,2047),(1,11,24,4095),(1,12,25,8191),(1,13,26,16383),(1,14,27,32767),(0,15,28,65535)]
       iterate 16 (first|(refine pq_ Q_ ?_;replace Q_:=qt_ Q_)|(refine uq_ Q_ ?_;replace Q_:=qt_ Q_))
       clear Q_
       refine done_ (done_of HT_.out (by kernel_rfl)) ?_
       have q38:(x5_2:Int)≤((x3_1.length:Int):Int):=zJ as_
       obtain⟨i038,hi038,_,hsz38,_⟩:=info_parts info65
       have hroom38:x3_1.length≤co37:=(zd HO_3.out).2.1
       have hC38:Kd.C k65 _ Ao37 x3_1.length x3_1:=(zd HO_3.out).2.2
       have hcut38:=cut_to (P:=Try.prog) 53 65 .i64 Try.underlying53 hi038 Ao37 x3_1.length co37 x5_2 (zJ as_) q38 hroom38
       have hr38:=Kd.C_take (m:=(x5_2:Int).toNat) hC38 (by omega)
       have hy38:y270.length=(x5_2:Int).toNat:=(by rw[Ny270.out,zP];omega)
       rw[←Ny270.out] at hr38
       rw[←hy38] at hcut38
       have HR273:=zB hr38
       have HC273:=zB (show y270.length≤co37 from by omega)
       clear hr38 hC38 hroom38 hi038 hsz38
       have KY38:=zB hy38
       clear hy38
       have KL38:=zB (show(x5_2:Int).toNat≤x3_1.length from by omega)
       replace q38:=eq_true q38
       try go_wp2_with (first|((with_reducible refine gate_builtin (b:=.append) (xs:=#[.tmp 31,.tmp 34]) rfl ?_);at_builtin;refine Kd.R_append_rows k65 (w0:=w) w.heap.size rfl (.tmp 31) (.tmp 34) 53 65 (.agg #[(.int .i64 0),(.int .i64 0),(.int .i64 0),(.int .i64 0)]) 32 rfl Try.underlying53 info65 rfl (by decide) (by omega) (.slice none 0 0) ([]:List (S65)) y270 _ _ _ (fun k_=>some k_≠(.slice Ao37 x3_1.length co37:Value).ownBlock) (fun _=>False) rfl rfl ?aO ?aR (fun _ _ h=>h) (fun _ h=>h.elim) ?aF ?aB ?aS ?aL ?_;(case aR=>repeat(first|exact(by repeat(first|(with_reducible exact HR273.out)|(with_reducible refine Kd.C_alloc ?_ _)|(with_reducible refine Kd.C_drewN ?_ _)|(with_reducible refine Kd.C_drew ?_)|exact HR273.out))|(with_reducible refine Kd.C_alloc ?_ _)|(with_reducible refine Kd.C_drewN ?_ _)|(with_reducible refine Kd.C_drew ?_)));(case aB=>exact HB.out);(case aF=>exact(fun k_ hk=>Kd.fresh' (Kd.R_lt (HO_3.out)) k_ hk));(case aO=>exact((Kd.R_nil _ _ _ _ (fun k_=>some k_≠(.slice Ao37 x3_1.length co37:Value).ownBlock))));(case aS=>exact(zN HB.out));(case aL=>have:=LMc29.out;omega);intro v275 w39 ho hb hg hat;rw[←Ny274.out] at ho;replace HB:=zB (hb);replace HR273:=zB ((show Kd.C k65 w39 Ao37 y270.length y270 from by rw[Ny270.out];exact Kd.C_take (m:=(x5_2:Int).toNat) ((zd (Kd.R_after (Kd.R_apart_nil (HO_3.out)) hg hat)).2.2) KL38.out));replace HO_3:=zB (Kd.R_after (Kd.R_apart_nil (HO_3.out)) hg hat);have HO276:=zB (ho);clear ho hb hg hat;have p277:0≤(x4_1:Int):=zJ as_;have q277:x4_1<(l0.length:Int):=zJ as_;obtain⟨ad277,e277,hx277_0,hx277_1,hx277_2,hx277_3⟩:=at_T65 HR0.out x4_1 p277 q277;cases e277;replace hx277_0:=cb_ HB hx277_0;replace hx277_1:=cb_ HB hx277_1;replace hx277_2:=cb_ HB hx277_2;replace hx277_3:=cb_ HB hx277_3;replace p277:=eq_true p277;replace q277:=eq_true q277)|((with_reducible refine gate_builtin (b:=.append) (xs:=#[.tmp 36,.tmp 41]) rfl ?_);at_builtin;refine Kd.R_append k65 (w0:=w) w.heap.size rfl (.tmp 36) (.tmp 41) 53 65 (.agg #[(.int .i64 0),(.int .i64 0),(.int .i64 0),(.int .i64 0)]) 32 rfl Try.underlying53 info65 rfl (by decide) (by omega) v275 y274 (⟨(rd_T65 l0 x4_1).f0,(⟨(rd_T65 l0 x4_1).f1.f0,(rd_T65 l0 x4_1).f1.f1⟩:S26),(rd_T65 l0 x4_1).f2⟩:S65) [.int .i64 ((rd_T65 l0 x4_1).f0),.int .i64 ((rd_T65 l0 x4_1).f1.f0),.int .i64 ((rd_T65 l0 x4_1).f1.f1),.int .i64 ((rd_T65 l0 x4_1).f2)] (fun k_=>some k_≠(.slice Ao37 x3_1.length co37:Value).ownBlock) (fun _=>False) rfl rfl ?aP (fun _ hk=>hk.elim) ?aF ?aO ?aB ?aS ?aL ?_;(case aP=>exact k65_mkM _ _ _ (⟨(rd_T65 l0 x4_1).f0,(⟨(rd_T65 l0 x4_1).f1.f0,(rd_T65 l0 x4_1).f1.f1⟩:S26),(rd_T65 l0 x4_1).f2⟩:S65));(case aB=>exact HB.out);(case aF=>exact(fun k_ hk=>Kd.fresh' (Kd.R_lt (HO_3.out)) k_ hk));(case aO=>exact(HO276.out));(case aS=>exact(zN HB.out));(case aL=>have:=LMc32.out;omega);intro v279 w40 ho hb hg hat;rw[←Ny278.out] at ho;replace HB:=zB (hb);replace HR273:=zB ((show Kd.C k65 w40 Ao37 y270.length y270 from by rw[Ny270.out];exact Kd.C_take (m:=(x5_2:Int).toNat) ((zd (Kd.R_after (ok:=(fun _=>True)) (HO_3.out) hg hat)).2.2) KL38.out));replace HO_3:=zB (Kd.R_after (ok:=(fun _=>True)) (HO_3.out) hg hat);have HO280:=zB (ho);clear HO276;clear ho hb hg hat;have q41:(x5_2:Int)≤((x3_1.length:Int):Int):=zJ as_;obtain⟨i041,hi041,_,hsz41,_⟩:=info_parts info65;have hroom41:x3_1.length≤co37:=(zd HO_3.out).2.1;have hC41:Kd.C k65 _ Ao37 x3_1.length x3_1:=(zd HO_3.out).2.2;have q041:(0:Int)≤(x5_2:Int):=zJ as_;have hcut41:=cut_from (P:=Try.prog) 53 65 .i64 Try.underlying53 hi041 4 hsz41 Ao37 x3_1.length co37 x5_2 q041 q41;have hr41:=Kd.C_drop (m:=(x5_2:Int).toNat) (c:=co37) hC41 (by omega) hroom41;obtain⟨A41,hA41⟩: ∃A1,A1=(if co37=(x5_2:Int).toNat then Ao37 else(Ao37:Option Addr).map (·.add ((x5_2:Int).toNat*4))):=⟨_,rfl⟩;obtain⟨c41,hc41⟩: ∃c1,c1=co37-(x5_2:Int).toNat:=⟨_,rfl⟩;have hy41:y281.length=x3_1.length-(x5_2:Int).toNat:=(by rw[Ny281.out,zR]<;>omega);rw[show(x3_1).drop (x5_2:Int).toNat=y281 from Ny281.out.symm] at hr41;replace hr41:Kd.C k65 _ A41 y281.length y281:=(by rw[hA41];exact hr41);rw[←hy41,←hA41,←hc41] at hcut41;have HR284:=zB hr41;have HC284:=zB (show y281.length≤c41 from by rw[hy41,hc41];exact Nat.sub_le_sub_right hroom41 _);clear hr41 hC41 hroom41 hi041 hsz41 hc41;have KY41:=zB hy41;have KA41:=zB hA41;clear hy41 hA41;have KL41:=zB (show(x5_2:Int).toNat≤x3_1.length from by omega);replace q41:=eq_true q41)|((with_reducible refine gate_builtin (b:=.append) (xs:=#[.tmp 43,.tmp 46]) rfl ?_);at_builtin;refine Kd.R_append_rows k65 (w0:=w) w.heap.size rfl (.tmp 43) (.tmp 46) 53 65 (.agg #[(.int .i64 0),(.int .i64 0),(.int .i64 0),(.int .i64 0)]) 32 rfl Try.underlying53 info65 rfl (by decide) (by omega) v279 y278 y281 _ _ _ (fun k_=>some k_≠(.slice Ao37 x3_1.length co37:Value).ownBlock) (fun _=>False) rfl rfl ?aO ?aR (fun _ _ h=>h) (fun _ h=>h.elim) ?aF ?aB ?aS ?aL ?_;(case aR=>repeat(first|exact(by repeat(first|(with_reducible exact HR284.out)|(with_reducible refine Kd.C_alloc ?_ _)|(with_reducible refine Kd.C_drewN ?_ _)|(with_reducible refine Kd.C_drew ?_)|exact HR284.out))|(with_reducible refine Kd.C_alloc ?_ _)|(with_reducible refine Kd.C_drewN ?_ _)|(with_reducible refine Kd.C_drew ?_)));(case aB=>exact HB.out);(case aF=>exact(fun k_ hk=>Kd.fresh' (Kd.R_lt (HO_3.out)) k_ hk));(case aO=>exact(HO280.out));(case aS=>exact(zN HB.out));(case aL=>have:=LMc35.out;omega);intro v286 w42 ho hb hg hat;rw[←Ny285.out] at ho;replace HB:=zB (hb);replace HR273:=zB ((show Kd.C k65 w42 Ao37 y270.length y270 from by rw[Ny270.out];exact Kd.C_take (m:=(x5_2:Int).toNat) ((zd (Kd.R_after (ok:=(fun _=>True)) (HO_3.out) hg hat)).2.2) KL38.out));replace HR284:=zB ((show Kd.C k65 w42 A41 y281.length y281 from by rw[Ny281.out,KA41.out];exact Kd.C_drop (m:=(x5_2:Int).toNat) (c:=co37) ((zd (Kd.R_after (ok:=(fun _=>True)) (HO_3.out) hg hat)).2.2) KL41.out ((zd (Kd.R_after (ok:=(fun _=>True)) (HO_3.out) hg hat)).2.1)));replace HO_3:=zB (Kd.R_after (ok:=(fun _=>True)) (HO_3.out) hg hat);have HO287:=zB (ho);clear HO280;clear ho hb hg hat))
       go_roundg k2
       case measure=>have:=HK1.out;have:=HK2.out;omega
       case rel=>exact⟨(y285),(wrap64 (x4_1+1)),rs_,H',⟨by have:=HK1.out;have:=HK2.out;omega⟩,⟨by(with_reducible repeat(first|apply Kd.R_alloc|apply Kd.R_drewN|apply Kd.R_drew));exact Kd.R_mono HO287.out (fun _ hk=>trivial)⟩,⟨hb_ HB⟩⟩
   ·rw[if_neg c2] at H
    have c2b0:=zY c2
    clear c2
    obtain rfl:=zW H
    go_wp2
    go_ret
    exact⟨_,ew_,by(with_reducible repeat(first|apply Kd.R_alloc|apply Kd.R_drewN|apply Kd.R_drew));exact HO_3.out,hb_ HB⟩
end Go.Proofs.Ytcfpbmdndapeaaa.F
