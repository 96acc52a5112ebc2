-- Written by a program of this session (xprint.py), out of the translation and of contracts proved by hand.
import Derived.Test.YtcfpbmdndapeaaaF0
import Derived.Test.YtcfpbmdndapeaaaF9
namespace Go.Proofs.Ytcfpbmdndapeaaa.F
open Go.RowKit Go.Proofs.YtcfpbmdndapeaaaV.PrintWords Go.Proofs.YtcfpbmdndapeaaaV.PrintLast Go.Proofs.YtcfpbmdndapeaaaV.PrintMore
attribute [local go_sem] max2_int min2_int max_two min_two max_three min_three max_four min_four
set_option linter.unusedVariables false
set_option linter.unusedSimpArgs false
mutual
def api_Turn_106.l0:Nat→List (S65)→Int→Int→Int→Option ((List (S65)))
 |0,_,_,_,_=>none
 |k+1,x0,x1,x2,x8=>if x8<x2 then(api_Turn_106.l1 k x0 x1 x2 x8 x8) else(some x0)
def api_Turn_106.l1:Nat→List (S65)→Int→Int→Int→Int→Option ((List (S65)))
 |0,_,_,_,_,_=>none
 |k+1,x0,x1,x2,x8,x9=>if x9>x1 then(if 0≤x9 then(if x9<(x0.length:Int) then(if 0≤(wrap64 (x9-1)) then(if(wrap64 (x9-1))<(x0.length:Int) then((due_Order_1.f k ((rd_T65 x0 x9).f0) ((rd_T65 x0 x9).f1.f0) ((rd_T65 x0 x9).f1.f1) ((rd_T65 x0 x9).f2) ((rd_T65 x0 (wrap64 (x9-1))).f0) ((rd_T65 x0 (wrap64 (x9-1))).f1.f0) ((rd_T65 x0 (wrap64 (x9-1))).f1.f1) ((rd_T65 x0 (wrap64 (x9-1))).f2)).bind fun t196=>(if t196<0 then(api_Turn_106.l1 k ((x0.set (x9:Int).toNat (⟨(rd_T65 x0 (wrap64 (x9-1))).f0,(⟨(rd_T65 x0 (wrap64 (x9-1))).f1.f0,(rd_T65 x0 (wrap64 (x9-1))).f1.f1⟩:S26),(rd_T65 x0 (wrap64 (x9-1))).f2⟩:S65)).set ((wrap64 (x9-1)):Int).toNat (⟨(rd_T65 x0 x9).f0,(⟨(rd_T65 x0 x9).f1.f0,(rd_T65 x0 x9).f1.f1⟩:S26),(rd_T65 x0 x9).f2⟩:S65)) x1 x2 x8 (wrap64 (x9-1))) else(api_Turn_106.l0 k x0 x1 x2 (wrap64 (x8+1))))) else(none)) else(none)) else(none)) else(none)) else(api_Turn_106.l0 k x0 x1 x2 (wrap64 (x8+1)))
end
def api_Turn_106.f (k:Nat) (l0:List (S65)) (a1:Int) (a2:Int) (a3:Int):Option ((List (S65))):=api_Turn_106.l0 k l0 a1 a2 (wrap64 (a1+1))
theorem api_Turn_106.mono_l: ∀k,(∀y0 y1 y2 y3,LeO (api_Turn_106.l0 k y0 y1 y2 y3) (api_Turn_106.l0 (k+1) y0 y1 y2 y3))∧(∀y0 y1 y2 y3 y4,LeO (api_Turn_106.l1 k y0 y1 y2 y3 y4) (api_Turn_106.l1 (k+1) y0 y1 y2 y3 y4))
 |0=>⟨fun _ _ _ _ r h=>by simp[api_Turn_106.l0] at h,fun _ _ _ _ _ r h=>by simp[api_Turn_106.l1] at h⟩
 |k+1=>by
  obtain⟨ih0,ih1⟩:=api_Turn_106.mono_l k
  refine⟨?_,?_⟩
  all_goals (intros;first|unfold api_Turn_106.l0|unfold api_Turn_106.l1)
  all_goals (repeat' first
   |(with_reducible exact ih0 _ _ _ _)
   |(with_reducible exact ih1 _ _ _ _ _)
   |(with_reducible exact due_Order_1.mono _ _ _ _ _ _ _ _ _)
   |(with_reducible exact LeO.refl _)
   |(with_reducible exact zf _)
   |(with_reducible refine zg ?_ ?_)
   |(with_reducible refine ze ?_ (fun _=>?_)))
theorem api_Turn_106.mono: ∀a0 a1 a2 a3 k,LeO (api_Turn_106.f k a0 a1 a2 a3) (api_Turn_106.f (k+1) a0 a1 a2 a3):=by
 intro a0 a1 a2 a3 k
 obtain⟨ih0,ih1⟩:=api_Turn_106.mono_l k
 unfold api_Turn_106.f
 repeat' first
   |(with_reducible exact ih0 _ _ _ _)
   |(with_reducible exact ih1 _ _ _ _ _)
   |(with_reducible exact due_Order_1.mono _ _ _ _ _ _ _ _ _)
   |(with_reducible exact LeO.refl _)
   |(with_reducible exact zf _)
   |(with_reducible refine zg ?_ ?_)
   |(with_reducible refine ze ?_ (fun _=>?_))
def api_Turn_106.T4:Bool×List (List Nat×List Nat):=(true,[([],[]),([],[]),([0,1],[0,1]),([2],[2]),([3],[3]),([3],[3]),([3],[3]),([5,6,3],[3,5,6]),([7,3],[3,7]),([3],[3]),([3],[3]),([10,3],[3,10]),([9,11,3],[3,9,11]),([12,3],[3,12]),([4,8,13,3,3],[3,4,8,13]),([14,3],[3,14]),([3,15],[3,15])])
def api_Turn_106.B4:List Nat:=[0,0,3,7,15,15,15,111,239,15,15,1039,3599,7695,16383,32767,65535]
theorem api_Turn_106.tab4:rtab .any (opsOf Try.f106 4)=api_Turn_106.T4:=by kernel_rfl
theorem api_Turn_106.bits4:waitsOk api_Turn_106.T4.2 api_Turn_106.B4=true:=by kernel_rfl
def api_Turn_106.T6:Bool×List (List Nat×List Nat):=(true,[([],[]),([],[]),([],[]),([],[]),([3],[3]),([],[]),([],[]),([6],[6]),([5,7],[5,7]),([8],[8]),([],[]),([],[]),([10,11],[10,11]),([12],[12]),([0,1,0,1,5,6,7,8,9,13],[0,1]),([14,9,0,1,5,6,7,8,9,13],[9,14]),([2,4,0,1,2,3,4,5,6,7,8,9,10,11,12,13,14,15],[2,4]),([16,13,15,0,1,2,3,4,5,6,7,8,9,10,11,12,13,14,15],[13,16])])
def api_Turn_106.B6:List Nat:=[0,0,0,0,8,0,0,64,224,480,0,0,3072,7168,16355,32739,65535,131071]
theorem api_Turn_106.tab6:rtab .any (opsOf Try.f106 6)=api_Turn_106.T6:=by kernel_rfl
theorem api_Turn_106.bits6:waitsOk api_Turn_106.T6.2 api_Turn_106.B6=true:=by kernel_rfl
set_option maxHeartbeats 8000000 in
set_option maxRecDepth 100000 in
theorem api_Turn_106.calls (k:Nat) (P0_:Nat→Prop) (u9000_:Value) (l0:List (S65)) (a1:Int) (a2:Int) (a3:Int) (r:List (S65)) (w0 w:World) (hB:Below w0.heap.size w0 w) (ho0:Kd.R k65 65 w w0.heap.size P0_ u9000_ l0) (h:api_Turn_106.f k l0 a1 a2 a3=some r):
  Calls Try.prog 106 #[u9000_,.int .i64 a1,.int .i64 a2,.func (.func 79) #[] #[]] w fun e w'=>e=.returned (.tuple #[])∧Kd.R k65 65 w' w0.heap.size (fun k_=>(P0_ k_∨w.heap.size≤k_)) u9000_ r∧Below w0.heap.size w0 w'∧Kept w w' (fun k_=>P0_ k_):=by
 have hu65:=Try.underlying65
 have HO0:=zB (show Kd.R k65 65 w w0.heap.size (fun k_=>(P0_ k_∨w.heap.size≤k_)) u9000_ l0 from Kd.R_mono ho0 (fun k_ hk=>(.inl hk)))
 have HK:=zB (Kept.refl w (fun k_=>P0_ k_))
 have HW0:=zB hB.size
 have HB:=zB hB
 clear hB
 have H:(api_Turn_106.l0 k l0 a1 a2 (wrap64 (a1+1)))=some r:=h
 clear h
 have H':=zB H
 clear H
 go_enter Try.func106,Try.ntmps106
 go_wp2
 go_loopg [8] k (fun kq v8 w'=> ∃(x0_1:List (S65)) (x8_1:Int),v8=.int .i64 x8_1∧Aside0 (api_Turn_106.l0 kq x0_1 a1 a2 x8_1=some r)∧Aside0 (kq≤k)∧Aside0 (Kd.R k65 65 w' w0.heap.size (fun k_=>(P0_ k_∨w.heap.size≤k_)) u9000_ x0_1)∧Aside0 (Kept w w' (fun k_=>P0_ k_))∧Aside0 (Below w0.heap.size w0 w'))
 case atStart=>exact⟨(l0),(wrap64 (a1+1)),rs_,H',⟨za _⟩,⟨kr_ HO0⟩,⟨kk_ HK⟩,⟨hb_ HB⟩⟩
 case round=>
  clear H'
  try clear c1;try clear p2
  obtain⟨x0_1,x8_1,rfl,HA,HK1,HO_0,HK,HB⟩:=hrel
  cases gk with
  |zero=>exact absurd HA.out (by simp[api_Turn_106.l0])
  |succ k1=>
   have H:=HA.out
   clear HA
   simp only[api_Turn_106.l0] at H
   by_cases c5:x8_1<a2
   ·rw[if_pos c5] at H
    have c5b0:=zO c5
    clear c5
    have H':=zB H
    clear H
    go_wp2
    go_loopg [9] k1 (fun kq v9 w'=> ∃(x0_2:List (S65)) (x9_2:Int),v9=.int .i64 x9_2∧Aside0 (api_Turn_106.l1 kq x0_2 a1 a2 x8_1 x9_2=some r)∧Aside0 (kq≤k1)∧Aside0 (Kd.R k65 65 w' w0.heap.size (fun k_=>(P0_ k_∨w.heap.size≤k_)) u9000_ x0_2)∧Aside0 (Kept w w' (fun k_=>P0_ k_))∧Aside0 (Below w0.heap.size w0 w'))
    case atStart=>exact⟨(x0_1),(x8_1),rs_,H',⟨za _⟩,⟨kr_ HO_0⟩,⟨kk_ HK⟩,⟨hb_ HB⟩⟩
    case round=>
     clear H'
     try clear c1;try clear p2;try clear c5;try clear c5b0
     obtain⟨x0_2,x9_2,rfl,HA,HK2,HO_0,HK,HB⟩:=hrel
     cases gk with
     |zero=>exact absurd HA.out (by simp[api_Turn_106.l1])
     |succ k2=>
      have H:=HA.out
      clear HA
      simp only[api_Turn_106.l1] at H
      by_cases c6:x9_2>a1
      ·rw[if_pos c6] at H
       have c6b0:=zO c6
       clear c6
       obtain⟨c7,H⟩:=gd_ H
       have c7b0:=zO c7
       clear c7
       obtain⟨c8,H⟩:=gd_ H
       have c8b0:=zO c8
       clear c8
       obtain⟨ji9,hji9⟩: ∃j_:Int,(wrap64 (x9_2-1))=j_:=⟨_,rfl⟩
       replace H:(if 0≤(ji9) then(if(ji9)<(x0_2.length:Int) then((due_Order_1.f k2 ((rd_T65 x0_2 x9_2).f0) ((rd_T65 x0_2 x9_2).f1.f0) ((rd_T65 x0_2 x9_2).f1.f1) ((rd_T65 x0_2 x9_2).f2) ((rd_T65 x0_2 (ji9)).f0) ((rd_T65 x0_2 (ji9)).f1.f0) ((rd_T65 x0_2 (ji9)).f1.f1) ((rd_T65 x0_2 (ji9)).f2)).bind fun t196=>(if t196<0 then(api_Turn_106.l1 k2 ((x0_2.set (x9_2:Int).toNat (⟨(rd_T65 x0_2 (ji9)).f0,(⟨(rd_T65 x0_2 (ji9)).f1.f0,(rd_T65 x0_2 (ji9)).f1.f1⟩:S26),(rd_T65 x0_2 (ji9)).f2⟩:S65)).set ((ji9):Int).toNat (⟨(rd_T65 x0_2 x9_2).f0,(⟨(rd_T65 x0_2 x9_2).f1.f0,(rd_T65 x0_2 x9_2).f1.f1⟩:S26),(rd_T65 x0_2 x9_2).f2⟩:S65)) a1 a2 x8_1 ji9) else(api_Turn_106.l0 k2 x0_2 a1 a2 (wrap64 (x8_1+1))))) else(none)) else(none))=some r:=by first|(rw[hji9] at H;exact H)|(simp only[hji9] at H⊢;exact H)
       have hji9w:(IntKind.i64.wrap (x9_2-1))=ji9:=(i64_w _).trans hji9
       obtain⟨c10,H⟩:=gd_ H
       have c10b0:=zO c10
       clear c10
       obtain⟨c11,H⟩:=gd_ H
       have c11b0:=zO c11
       clear c11
       replace H:=zL H
       obtain⟨t196,A120,H⟩:=H
       try dsimp only at H
       have A12:=zB A120
       clear A120
       by_cases c13:t196<0
       ·rw[if_pos c13] at H
        have c13b0:=zO c13
        clear c13
        obtain⟨y199,hy199⟩: ∃y_:List (S65),y_=(x0_2.set (x9_2:Int).toNat (⟨(rd_T65 x0_2 (ji9)).f0,(⟨(rd_T65 x0_2 (ji9)).f1.f0,(rd_T65 x0_2 (ji9)).f1.f1⟩:S26),(rd_T65 x0_2 (ji9)).f2⟩:S65)):=⟨_,rfl⟩
        replace H:(api_Turn_106.l1 k2 (y199.set ((ji9):Int).toNat (⟨(rd_T65 x0_2 x9_2).f0,(⟨(rd_T65 x0_2 x9_2).f1.f0,(rd_T65 x0_2 x9_2).f1.f1⟩:S26),(rd_T65 x0_2 x9_2).f2⟩:S65)) a1 a2 x8_1 ji9)=some r:=by first|(rw[hy199];with_reducible exact H)|(have H2_:=(Option.bind_some _ _).symm.trans H;rw[hy199];with_reducible exact H2_)|(have H2_:=(Option.bind_some _ _).symm.trans H;with_reducible exact H2_)|with_reducible exact H|(rw[hy199];exact H)|exact H
        have Ny199:=zB hy199
        clear hy199
        obtain⟨y200,hy200⟩: ∃y_:List (S65),y_=(y199.set ((ji9):Int).toNat (⟨(rd_T65 x0_2 x9_2).f0,(⟨(rd_T65 x0_2 x9_2).f1.f0,(rd_T65 x0_2 x9_2).f1.f1⟩:S26),(rd_T65 x0_2 x9_2).f2⟩:S65)):=⟨_,rfl⟩
        replace H:(api_Turn_106.l1 k2 y200 a1 a2 x8_1 ji9)=some r:=by first|(rw[hy200];with_reducible exact H)|(have H2_:=(Option.bind_some _ _).symm.trans H;rw[hy200];with_reducible exact H2_)|(have H2_:=(Option.bind_some _ _).symm.trans H;with_reducible exact H2_)|with_reducible exact H|(rw[hy200];exact H)|exact H
        have Ny200:=zB hy200
        clear hy200
        have H':=zB H
        clear H
        try go_wp2
        replace HO_0:=zB (Kd.R_drew HO_0.out)
        replace HK:=zB (Kept.drew HK.out)
        replace HB:=zB (zG HB.out)
        obtain⟨Ao17,co17,eo17⟩:=Kd.R_slice HO_0.out
        (first|subst eo17|(injection eo17 with f1_ f2_ f3_;have f4_:=f1_.symm;have f5_:=f3_.symm;clear f1_ f2_ f3_;subst f4_;subst f5_))
        have p194:0≤(x9_2:Int):=zJ as_
        have q194:x9_2<(x0_2.length:Int):=zJ as_
        obtain⟨ad194,e194,hx194_0,hx194_1,hx194_2,hx194_3⟩:=at_T65 (zd HO_0.out).2.2 x9_2 p194 q194
        cases e194
        replace p194:=eq_true p194
        replace q194:=eq_true q194
        have p195:0≤((ji9):Int):=zJ as_
        have q195:(ji9)<(x0_2.length:Int):=zJ as_
        obtain⟨ad195,e195,hx195_0,hx195_1,hx195_2,hx195_3⟩:=at_T65 (zd HO_0.out).2.2 (ji9) p195 q195
        obtain rfl:ad194=ad195:=(by injection e195)
        replace p195:=eq_true p195
        replace q195:=eq_true q195
        refine start_ (n:=17) (S:=fun w'=>w'.cell? (ad194.add ((x9_2).toNat*4))=some (.int .i64 ((rd_T65 x0_2 x9_2).f0))∧w'.cell? ⟨(ad194.add ((x9_2).toNat*4)).block,(ad194.add ((x9_2).toNat*4)).off+1,none⟩=some (.int .i64 ((rd_T65 x0_2 x9_2).f1.f0))∧w'.cell? ⟨(ad194.add ((x9_2).toNat*4)).block,(ad194.add ((x9_2).toNat*4)).off+2,none⟩=some (.int .i64 ((rd_T65 x0_2 x9_2).f1.f1))∧w'.cell? ⟨(ad194.add ((x9_2).toNat*4)).block,(ad194.add ((x9_2).toNat*4)).off+3,none⟩=some (.int .i64 ((rd_T65 x0_2 x9_2).f2))∧w'.cell? (ad194.add (((ji9)).toNat*4))=some (.int .i64 ((rd_T65 x0_2 (ji9)).f0))∧w'.cell? ⟨(ad194.add (((ji9)).toNat*4)).block,(ad194.add (((ji9)).toNat*4)).off+1,none⟩=some (.int .i64 ((rd_T65 x0_2 (ji9)).f1.f0))∧w'.cell? ⟨(ad194.add (((ji9)).toNat*4)).block,(ad194.add (((ji9)).toNat*4)).off+2,none⟩=some (.int .i64 ((rd_T65 x0_2 (ji9)).f1.f1))∧w'.cell? ⟨(ad194.add (((ji9)).toNat*4)).block,(ad194.add (((ji9)).toNat*4)).off+3,none⟩=some (.int .i64 ((rd_T65 x0_2 (ji9)).f2))) (ds:=[]) (bt_ 0 17) (by kernel_rfl) rfl rfl ⟨hx194_0,hx194_1,hx194_2,hx194_3,hx195_0,hx195_1,hx195_2,hx195_3⟩ (fun hHeld=>?_);refine with_tabW api_Turn_106.tab4 api_Turn_106.bits4 (fun HT_ HW_=>?_)
        generalize wr.drew=w16 at HO_0 HK HB hx194_0 hx194_1 hx194_2 hx194_3 hx195_0 hx195_1 hx195_2 hx195_3 hHeld⊢
        have Q_:=Qs.mk (n:=17) [(0,0,18,1),(0,1,19,3),(0,2,20,7),(0,3,21,15),(0,4,22,31),(0,5,23,63),(0,6,24,127),(0,7,25,255),(0,9,27,767),(0,10,28,1791),(0,11,29,3839),(0,12,30,7935),(2,8,26,8191),(2,13,31,16383)]
        iterate 14 (first|(refine pq_ Q_ ?_;replace Q_:=qt_ Q_)|(refine tq_ Q_ hHeld ?_;replace Q_:=qt_ Q_))
        clear Q_
        refine one_ (i:=14) (N:=some 32) (dn_ 15 17) rfl rfl (one_of HT_.out (by kernel_rfl)) (by decide) (fun K hK=>?_)
        refine goesV_ Try.func79 (by kernel_rfl) rfl #[.agg #[.int .i64 ((rd_T65 x0_2 x9_2).f0),.int .i64 ((rd_T65 x0_2 x9_2).f1.f0),.int .i64 ((rd_T65 x0_2 x9_2).f1.f1),.int .i64 ((rd_T65 x0_2 x9_2).f2)],.agg #[.int .i64 ((rd_T65 x0_2 (ji9)).f0),.int .i64 ((rd_T65 x0_2 (ji9)).f1.f0),.int .i64 ((rd_T65 x0_2 (ji9)).f1.f1),.int .i64 ((rd_T65 x0_2 (ji9)).f2)]] (by rfl) rfl rfl (by(try simp only[zM,zS,zV]);first|done|(simp only[hji9];rfl)|rfl|(simp only[zR,zP];rfl)) (by rfl) ?_
        with_reducible refine(due_Order_1.calls k2 ((rd_T65 x0_2 x9_2).f0) ((rd_T65 x0_2 x9_2).f1.f0) ((rd_T65 x0_2 x9_2).f1.f1) ((rd_T65 x0_2 x9_2).f2) ((rd_T65 x0_2 (ji9)).f0) ((rd_T65 x0_2 (ji9)).f1.f0) ((rd_T65 x0_2 (ji9)).f1.f1) ((rd_T65 x0_2 (ji9)).f2) t196 _ A12.out).mono ?_
        rintro e w18 ⟨rfl,hb⟩
        have HS0_:=(hb.cell (zA _ _ (hHeld.1))).trans (hHeld.1)
        have HS1_:=(hb.cell (zA _ _ (hHeld.2.1))).trans (hHeld.2.1)
        have HS2_:=(hb.cell (zA _ _ (hHeld.2.2.1))).trans (hHeld.2.2.1)
        have HS3_:=(hb.cell (zA _ _ (hHeld.2.2.2.1))).trans (hHeld.2.2.2.1)
        have HS4_:=(hb.cell (zA _ _ (hHeld.2.2.2.2.1))).trans (hHeld.2.2.2.2.1)
        have HS5_:=(hb.cell (zA _ _ (hHeld.2.2.2.2.2.1))).trans (hHeld.2.2.2.2.2.1)
        have HS6_:=(hb.cell (zA _ _ (hHeld.2.2.2.2.2.2.1))).trans (hHeld.2.2.2.2.2.2.1)
        have HS7_:=(hb.cell (zA _ _ (hHeld.2.2.2.2.2.2.2))).trans (hHeld.2.2.2.2.2.2.2)
        refine⟨_,rfl,?_⟩
        replace HO_0:=rb_ HO_0 hb
        replace HK:=zB (Kept.below (S:=(fun k_=>P0_ k_)) (kk_ HK) hb)
        replace HB:=zB (zQ HB.out hb)
        (try clear hb)
        (try clear hb2)
        (try clear hk)
        (try clear hi)
        refine hK.out _ _ ⟨HS0_,HS1_,HS2_,HS3_,HS4_,HS5_,HS6_,HS7_⟩ (fun hHeld=>?_)
        clear hK K
        refine norm_ (a':=?_) ?_ ?_
        rotate_left
        ·show Act.put _ (some 32) _=_
         simp only[Act.put,zE,zH,zI,i64_w,i32_w]
         rfl
        refine pure_ (i:=15) (N:=some 33) (v:=?_) (a':=?_) (dn_ 16 17) rfl rfl (any_of HT_.out (by kernel_rfl)) (fun _ _ _ h=>h) (Or.inl ⟨by rfl,?_⟩) ?_ ?_
        rotate_left
        ·intro w'
         go_simp
         with_reducible rfl
        rotate_left;(simp only[Act.put,zE,zH,zI,i64_w,i32_w];rfl)
        refine pure_ (i:=16) (N:=some 34) (v:=?_) (a':=?_) (bt_ 131071 17) rfl rfl (any_of HT_.out (by kernel_rfl)) (fun _ _ _ h=>h) (Or.inl ⟨by rfl,?_⟩) ?_ ?_
        rotate_left
        ·intro w'
         go_simp
         with_reducible rfl
        rotate_left;(simp only[Act.put,zE,zH,zI,i64_w,i32_w];rfl)
        refine done_ (done_of HT_.out (by kernel_rfl)) ?_
        try go_wp2
        replace HO_0:=zB (Kd.R_drew HO_0.out)
        replace HK:=zB (Kept.drew HK.out)
        replace HB:=zB (zG HB.out)
        have p197:0≤((ji9):Int):=zJ as_
        have q197:(ji9)<(x0_2.length:Int):=zJ as_
        obtain⟨ad197,e197,hx197_0,hx197_1,hx197_2,hx197_3⟩:=at_T65 (zd HO_0.out).2.2 (ji9) p197 q197
        obtain rfl:ad194=ad197:=(by injection e197)
        replace p197:=eq_true p197
        replace q197:=eq_true q197
        have p198:0≤(x9_2:Int):=zJ as_
        have q198:x9_2<(x0_2.length:Int):=zJ as_
        obtain⟨ad198,e198,hx198_0,hx198_1,hx198_2,hx198_3⟩:=at_T65 (zd HO_0.out).2.2 x9_2 p198 q198
        obtain rfl:ad194=ad198:=(by injection e198)
        replace p198:=eq_true p198
        replace q198:=eq_true q198
        have p14:0≤(x9_2:Int):=zJ as_
        have q14:(x9_2:Int)<((x0_2.length:Int):Int):=zJ as_
        obtain⟨go14,co14,eo14,gb14,gl14,cl14,HG14⟩:=Kd.R_form HO_0.out (by omega)
        (first|cases eo14|(injection eo14 with ea_ en_ ec_;(first|subst ea_|(injection ea_ with ea_;subst ea_));subst ec_;clear en_))
        have GB14:=zB gb14
        have GG14:=zB HG14
        clear gb14 gl14 HG14
        have HMgo14:=zB (show(P0_ go14∨w.heap.size≤go14) from(HO_0.out.1 _ rfl))
        (first|simp only[add_plain] at hx194_0|skip)
        (first|simp only[add_plain] at hx194_1|skip)
        (first|simp only[add_plain] at hx194_2|skip)
        (first|simp only[add_plain] at hx194_3|skip)
        (first|simp only[add_plain] at hx195_0|skip)
        (first|simp only[add_plain] at hx195_1|skip)
        (first|simp only[add_plain] at hx195_2|skip)
        (first|simp only[add_plain] at hx195_3|skip)
        (first|simp only[add_plain] at hx197_0|skip)
        (first|simp only[add_plain] at hx197_1|skip)
        (first|simp only[add_plain] at hx197_2|skip)
        (first|simp only[add_plain] at hx197_3|skip)
        (first|simp only[add_plain] at hx198_0|skip)
        (first|simp only[add_plain] at hx198_1|skip)
        (first|simp only[add_plain] at hx198_2|skip)
        (first|simp only[add_plain] at hx198_3|skip)
        obtain⟨ce14,hcl14,hM14,hcc14,hfr14⟩:=Kd.R_elem HO_0.out z65 (x9_2:Int) p14 q14
        obtain rfl:=k65_openM hM14
        have hx14_0:World.cell? _ ⟨go14,(x9_2:Int).toNat*4,none⟩=some (.int .i64 ((rd_T65 x0_2 x9_2).f0)):=hcc14 0 _ rfl
        have hx14_1:World.cell? _ ⟨go14,(x9_2:Int).toNat*4+1,none⟩=some (.int .i64 ((rd_T65 x0_2 x9_2).f1.f0)):=hcc14 1 _ rfl
        have hx14_2:World.cell? _ ⟨go14,(x9_2:Int).toNat*4+2,none⟩=some (.int .i64 ((rd_T65 x0_2 x9_2).f1.f1)):=hcc14 2 _ rfl
        have hx14_3:World.cell? _ ⟨go14,(x9_2:Int).toNat*4+3,none⟩=some (.int .i64 ((rd_T65 x0_2 x9_2).f2)):=hcc14 3 _ rfl
        have hf14_0:World.frozen? _ ⟨go14,(x9_2:Int).toNat*4,none⟩=false:=hfr14 0
        have hf14_1:World.frozen? _ ⟨go14,(x9_2:Int).toNat*4+1,none⟩=false:=hfr14 1
        have hf14_2:World.frozen? _ ⟨go14,(x9_2:Int).toNat*4+2,none⟩=false:=hfr14 2
        have hf14_3:World.frozen? _ ⟨go14,(x9_2:Int).toNat*4+3,none⟩=false:=hfr14 3
        clear hcl14 hcc14 hfr14 hM14
        replace p14:=eq_true p14
        replace q14:=eq_true q14
        obtain⟨ce20,hcl20,hM20,hcc20,hfr20⟩:=Kd.R_elem HO_0.out z65 (x9_2:Int) (zJ as_) (by have h_:(x9_2:Int)<((x0_2.length:Int):Int):=zJ as_;first|exact h_|(have e_:=(zd HO_0.out).1;omega)|simpa using h_)
        obtain rfl:=k65_openM hM20
        have HP20:=(Kd.R_seg HO_0.out (x9_2:Int) (zJ as_) (by have h_:(x9_2:Int)<((x0_2.length:Int):Int):=zJ as_;first|exact h_|(have e_:=(zd HO_0.out).1;omega)|simpa using h_) (seg:=[.int .i64 ((rd_T65 x0_2 (ji9)).f0),.int .i64 ((rd_T65 x0_2 (ji9)).f1.f0),.int .i64 ((rd_T65 x0_2 (ji9)).f1.f1),.int .i64 ((rd_T65 x0_2 (ji9)).f2)]) (j:=0) hcl20 hcc20 (show 4≤4 from by decide) (x':=(⟨(rd_T65 x0_2 (ji9)).f0,(⟨(rd_T65 x0_2 (ji9)).f1.f0,(rd_T65 x0_2 (ji9)).f1.f1⟩:S26),(rd_T65 x0_2 (ji9)).f2⟩:S65)) (k65_mkM _ _ _ (⟨(rd_T65 x0_2 (ji9)).f0,(⟨(rd_T65 x0_2 (ji9)).f1.f0,(rd_T65 x0_2 (ji9)).f1.f1⟩:S26),(rd_T65 x0_2 (ji9)).f2⟩:S65)) (fun _ hk=>hk)).1
        rw[←Ny199.out] at HP20
        have HQ20:=zB HP20
        clear hcl20 hcc20 hfr20 hM20 HP20
        have p15:0≤((ji9):Int):=zJ as_
        have q15:((ji9):Int)<((x0_2.length:Int):Int):=zJ as_
        obtain⟨ce15,hcl15,hM15,hcc15,hfr15⟩:=Kd.R_elem HQ20.out z65 ((ji9):Int) p15 q15
        obtain rfl:=k65_openM hM15
        have hx15_0:World.cell? _ ⟨go14,((ji9):Int).toNat*4,none⟩=some (.int .i64 ((rd_T65 y199 (ji9)).f0)):=hcc15 0 _ rfl
        have hx15_1:World.cell? _ ⟨go14,((ji9):Int).toNat*4+1,none⟩=some (.int .i64 ((rd_T65 y199 (ji9)).f1.f0)):=hcc15 1 _ rfl
        have hx15_2:World.cell? _ ⟨go14,((ji9):Int).toNat*4+2,none⟩=some (.int .i64 ((rd_T65 y199 (ji9)).f1.f1)):=hcc15 2 _ rfl
        have hx15_3:World.cell? _ ⟨go14,((ji9):Int).toNat*4+3,none⟩=some (.int .i64 ((rd_T65 y199 (ji9)).f2)):=hcc15 3 _ rfl
        have hf15_0:World.frozen? _ ⟨go14,((ji9):Int).toNat*4,none⟩=false:=hfr15 0
        have hf15_1:World.frozen? _ ⟨go14,((ji9):Int).toNat*4+1,none⟩=false:=hfr15 1
        have hf15_2:World.frozen? _ ⟨go14,((ji9):Int).toNat*4+2,none⟩=false:=hfr15 2
        have hf15_3:World.frozen? _ ⟨go14,((ji9):Int).toNat*4+3,none⟩=false:=hfr15 3
        clear hcl15 hcc15 hfr15 hM15
        replace p15:=eq_true p15
        replace q15:=eq_true q15
        obtain⟨ce21,hcl21,hM21,hcc21,hfr21⟩:=Kd.R_elem HQ20.out z65 ((ji9):Int) (zJ as_) (by have h_:((ji9):Int)<((x0_2.length:Int):Int):=zJ as_;first|exact h_|(have e_:=(zd HO_0.out).1;omega)|simpa using h_)
        obtain rfl:=k65_openM hM21
        have HP21:=(Kd.R_seg HQ20.out ((ji9):Int) (zJ as_) (by have h_:((ji9):Int)<((x0_2.length:Int):Int):=zJ as_;first|exact h_|(have e_:=(zd HO_0.out).1;omega)|simpa using h_) (seg:=[.int .i64 ((rd_T65 x0_2 x9_2).f0),.int .i64 ((rd_T65 x0_2 x9_2).f1.f0),.int .i64 ((rd_T65 x0_2 x9_2).f1.f1),.int .i64 ((rd_T65 x0_2 x9_2).f2)]) (j:=0) hcl21 hcc21 (show 4≤4 from by decide) (x':=(⟨(rd_T65 x0_2 x9_2).f0,(⟨(rd_T65 x0_2 x9_2).f1.f0,(rd_T65 x0_2 x9_2).f1.f1⟩:S26),(rd_T65 x0_2 x9_2).f2⟩:S65)) (k65_mkM _ _ _ (⟨(rd_T65 x0_2 x9_2).f0,(⟨(rd_T65 x0_2 x9_2).f1.f0,(rd_T65 x0_2 x9_2).f1.f1⟩:S26),(rd_T65 x0_2 x9_2).f2⟩:S65)) (fun _ hk=>hk)).1
        rw[←Ny200.out] at HP21
        have HQ21:=zB HP21
        clear hcl21 hcc21 hfr21 hM21 HP21
        refine start_ (n:=18) (S:=fun w'=>w'.cell? ⟨go14,(((ji9)).toNat*4),none⟩=some (.int .i64 ((rd_T65 x0_2 (ji9)).f0))∧w'.cell? ⟨go14,(((ji9)).toNat*4)+1,none⟩=some (.int .i64 ((rd_T65 x0_2 (ji9)).f1.f0))∧w'.cell? ⟨go14,(((ji9)).toNat*4)+2,none⟩=some (.int .i64 ((rd_T65 x0_2 (ji9)).f1.f1))∧w'.cell? ⟨go14,(((ji9)).toNat*4)+3,none⟩=some (.int .i64 ((rd_T65 x0_2 (ji9)).f2))∧w'.cell? ⟨go14,((x9_2).toNat*4),none⟩=some (.int .i64 ((rd_T65 x0_2 x9_2).f0))∧w'.cell? ⟨go14,((x9_2).toNat*4)+1,none⟩=some (.int .i64 ((rd_T65 x0_2 x9_2).f1.f0))∧w'.cell? ⟨go14,((x9_2).toNat*4)+2,none⟩=some (.int .i64 ((rd_T65 x0_2 x9_2).f1.f1))∧w'.cell? ⟨go14,((x9_2).toNat*4)+3,none⟩=some (.int .i64 ((rd_T65 x0_2 x9_2).f2))) (ds:=[15,17]) (bt_ 0 18) (by kernel_rfl) rfl rfl ⟨hx197_0,hx197_1,hx197_2,hx197_3,hx198_0,hx198_1,hx198_2,hx198_3⟩ (fun hHeld=>?_);refine with_tabW api_Turn_106.tab6 api_Turn_106.bits6 (fun HT_ HW_=>?_)
        generalize w18.drew=w19 at HO_0 HK HB GG14 HQ20 HQ21 hf14_0 hf14_1 hf14_2 hf14_3 hf15_0 hf15_1 hf15_2 hf15_3 hx14_0 hx14_1 hx14_2 hx14_3 hx15_0 hx15_1 hx15_2 hx15_3 hx194_0 hx194_1 hx194_2 hx194_3 hx195_0 hx195_1 hx195_2 hx195_3 hx197_0 hx197_1 hx197_2 hx197_3 hx198_0 hx198_1 hx198_2 hx198_3 hHeld⊢
        have Q_:=Qs.mk (n:=18) [(0,0,37,1),(0,1,38,3),(0,2,39,7),(0,3,40,15),(0,4,41,31),(0,5,42,63),(0,6,43,127),(0,7,44,255),(0,8,45,511),(0,10,47,1535),(0,11,48,3583),(0,12,49,7679),(2,9,46,8191),(2,13,50,16383),(0,14,51,32767)]
        iterate 15 (first|(refine pq_ Q_ ?_;replace Q_:=qt_ Q_)|(refine tq_ Q_ hHeld ?_;replace Q_:=qt_ Q_))
        clear Q_
        refine last_ (i:=15) (N:=none) (dn_ 16 18) rfl rfl (one_of HT_.out (by kernel_rfl)) (by decide) (fun K hK=>?_)
        refine skip_ (w1:=?_) (by rfl) rfl ?_ ?_
        rotate_left
        ·(try simp[go_sem,World.setCells,show k65.sz=4 from rfl] at hx15_0);(try simp[go_sem,World.setCells,show k65.sz=4 from rfl] at hx15_1);(try simp[go_sem,World.setCells,show k65.sz=4 from rfl] at hx15_2);(try simp[go_sem,World.setCells,show k65.sz=4 from rfl] at hx15_3);(try simp[go_sem,World.setCells,show k65.sz=4 from rfl] at hf15_0);(try simp[go_sem,World.setCells,show k65.sz=4 from rfl] at hf15_1);(try simp[go_sem,World.setCells,show k65.sz=4 from rfl] at hf15_2);(try simp[go_sem,World.setCells,show k65.sz=4 from rfl] at hf15_3)
         go_simp
         rfl
        refine hK.out _ _ ?_
        clear hK K
        refine pure_ (i:=16) (N:=some 52) (v:=?_) (a':=?_) (dn_ 17 18) rfl rfl (any_of HT_.out (by kernel_rfl)) (fun _ _ _ h=>h) (Or.inl ⟨by rfl,?_⟩) ?_ ?_
        rotate_left
        ·intro w'
         go_simp
         with_reducible rfl
        rotate_left;(simp only[Act.put,zE,zH,zI,i64_w,i32_w];rfl)
        refine last_ (i:=17) (N:=none) (bt_ 262143 18) rfl rfl (one_of HT_.out (by kernel_rfl)) (by decide) (fun K hK=>?_)
        refine skip_ (w1:=?_) (by rfl) rfl ?_ ?_
        rotate_left
        ·(try simp[go_sem,World.setCells,show k65.sz=4 from rfl] at hx15_0);(try simp[go_sem,World.setCells,show k65.sz=4 from rfl] at hx15_1);(try simp[go_sem,World.setCells,show k65.sz=4 from rfl] at hx15_2);(try simp[go_sem,World.setCells,show k65.sz=4 from rfl] at hx15_3);(try simp[go_sem,World.setCells,show k65.sz=4 from rfl] at hf15_0);(try simp[go_sem,World.setCells,show k65.sz=4 from rfl] at hf15_1);(try simp[go_sem,World.setCells,show k65.sz=4 from rfl] at hf15_2);(try simp[go_sem,World.setCells,show k65.sz=4 from rfl] at hf15_3)
         go_simp
         rfl
        refine hK.out _ _ ?_
        clear hK K
        refine done_ (done_of HT_.out (by kernel_rfl)) ?_
        try go_wp2
        go_roundg k2
        case measure=>have:=HK1.out;have:=HK2.out;omega
        case rel=>exact⟨(y200),(ji9),(by first|rfl|(simp;done)|(simp only[←hji9]<;>(first|rfl|simp))|(simp[*];done)),H',⟨by have:=HK1.out;have:=HK2.out;omega⟩,⟨kr_ HQ21⟩,⟨kk_ HK⟩,⟨hb_ HB⟩⟩
       ·rw[if_neg c13] at H
        have c13b0:=zY c13
        clear c13
        have H':=zB H
        clear H
        try go_wp2
        replace HO_0:=zB (Kd.R_drew HO_0.out)
        replace HK:=zB (Kept.drew HK.out)
        replace HB:=zB (zG HB.out)
        obtain⟨Ao23,co23,eo23⟩:=Kd.R_slice HO_0.out
        (first|subst eo23|(injection eo23 with f1_ f2_ f3_;have f4_:=f1_.symm;have f5_:=f3_.symm;clear f1_ f2_ f3_;subst f4_;subst f5_))
        have p194:0≤(x9_2:Int):=zJ as_
        have q194:x9_2<(x0_2.length:Int):=zJ as_
        obtain⟨ad194,e194,hx194_0,hx194_1,hx194_2,hx194_3⟩:=at_T65 (zd HO_0.out).2.2 x9_2 p194 q194
        cases e194
        replace p194:=eq_true p194
        replace q194:=eq_true q194
        have p195:0≤((ji9):Int):=zJ as_
        have q195:(ji9)<(x0_2.length:Int):=zJ as_
        obtain⟨ad195,e195,hx195_0,hx195_1,hx195_2,hx195_3⟩:=at_T65 (zd HO_0.out).2.2 (ji9) p195 q195
        obtain rfl:ad194=ad195:=(by injection e195)
        replace p195:=eq_true p195
        replace q195:=eq_true q195
        refine start_ (n:=17) (S:=fun w'=>w'.cell? (ad194.add ((x9_2).toNat*4))=some (.int .i64 ((rd_T65 x0_2 x9_2).f0))∧w'.cell? ⟨(ad194.add ((x9_2).toNat*4)).block,(ad194.add ((x9_2).toNat*4)).off+1,none⟩=some (.int .i64 ((rd_T65 x0_2 x9_2).f1.f0))∧w'.cell? ⟨(ad194.add ((x9_2).toNat*4)).block,(ad194.add ((x9_2).toNat*4)).off+2,none⟩=some (.int .i64 ((rd_T65 x0_2 x9_2).f1.f1))∧w'.cell? ⟨(ad194.add ((x9_2).toNat*4)).block,(ad194.add ((x9_2).toNat*4)).off+3,none⟩=some (.int .i64 ((rd_T65 x0_2 x9_2).f2))∧w'.cell? (ad194.add (((ji9)).toNat*4))=some (.int .i64 ((rd_T65 x0_2 (ji9)).f0))∧w'.cell? ⟨(ad194.add (((ji9)).toNat*4)).block,(ad194.add (((ji9)).toNat*4)).off+1,none⟩=some (.int .i64 ((rd_T65 x0_2 (ji9)).f1.f0))∧w'.cell? ⟨(ad194.add (((ji9)).toNat*4)).block,(ad194.add (((ji9)).toNat*4)).off+2,none⟩=some (.int .i64 ((rd_T65 x0_2 (ji9)).f1.f1))∧w'.cell? ⟨(ad194.add (((ji9)).toNat*4)).block,(ad194.add (((ji9)).toNat*4)).off+3,none⟩=some (.int .i64 ((rd_T65 x0_2 (ji9)).f2))) (ds:=[]) (bt_ 0 17) (by kernel_rfl) rfl rfl ⟨hx194_0,hx194_1,hx194_2,hx194_3,hx195_0,hx195_1,hx195_2,hx195_3⟩ (fun hHeld=>?_);refine with_tabW api_Turn_106.tab4 api_Turn_106.bits4 (fun HT_ HW_=>?_)
        generalize wr.drew=w22 at HO_0 HK HB hx194_0 hx194_1 hx194_2 hx194_3 hx195_0 hx195_1 hx195_2 hx195_3 hHeld⊢
        have Q_:=Qs.mk (n:=17) [(0,0,18,1),(0,1,19,3),(0,2,20,7),(0,3,21,15),(0,4,22,31),(0,5,23,63),(0,6,24,127),(0,7,25,255),(0,9,27,767),(0,10,28,1791),(0,11,29,3839),(0,12,30,7935),(2,8,26,8191),(2,13,31,16383)]
        iterate 14 (first|(refine pq_ Q_ ?_;replace Q_:=qt_ Q_)|(refine tq_ Q_ hHeld ?_;replace Q_:=qt_ Q_))
        clear Q_
        refine one_ (i:=14) (N:=some 32) (dn_ 15 17) rfl rfl (one_of HT_.out (by kernel_rfl)) (by decide) (fun K hK=>?_)
        refine goesV_ Try.func79 (by kernel_rfl) rfl #[.agg #[.int .i64 ((rd_T65 x0_2 x9_2).f0),.int .i64 ((rd_T65 x0_2 x9_2).f1.f0),.int .i64 ((rd_T65 x0_2 x9_2).f1.f1),.int .i64 ((rd_T65 x0_2 x9_2).f2)],.agg #[.int .i64 ((rd_T65 x0_2 (ji9)).f0),.int .i64 ((rd_T65 x0_2 (ji9)).f1.f0),.int .i64 ((rd_T65 x0_2 (ji9)).f1.f1),.int .i64 ((rd_T65 x0_2 (ji9)).f2)]] (by rfl) rfl rfl (by(try simp only[zM,zS,zV]);first|done|(simp only[hji9];rfl)|rfl|(simp only[zR,zP];rfl)) (by rfl) ?_
        with_reducible refine(due_Order_1.calls k2 ((rd_T65 x0_2 x9_2).f0) ((rd_T65 x0_2 x9_2).f1.f0) ((rd_T65 x0_2 x9_2).f1.f1) ((rd_T65 x0_2 x9_2).f2) ((rd_T65 x0_2 (ji9)).f0) ((rd_T65 x0_2 (ji9)).f1.f0) ((rd_T65 x0_2 (ji9)).f1.f1) ((rd_T65 x0_2 (ji9)).f2) t196 _ A12.out).mono ?_
        rintro e w24 ⟨rfl,hb⟩
        have HS0_:=(hb.cell (zA _ _ (hHeld.1))).trans (hHeld.1)
        have HS1_:=(hb.cell (zA _ _ (hHeld.2.1))).trans (hHeld.2.1)
        have HS2_:=(hb.cell (zA _ _ (hHeld.2.2.1))).trans (hHeld.2.2.1)
        have HS3_:=(hb.cell (zA _ _ (hHeld.2.2.2.1))).trans (hHeld.2.2.2.1)
        have HS4_:=(hb.cell (zA _ _ (hHeld.2.2.2.2.1))).trans (hHeld.2.2.2.2.1)
        have HS5_:=(hb.cell (zA _ _ (hHeld.2.2.2.2.2.1))).trans (hHeld.2.2.2.2.2.1)
        have HS6_:=(hb.cell (zA _ _ (hHeld.2.2.2.2.2.2.1))).trans (hHeld.2.2.2.2.2.2.1)
        have HS7_:=(hb.cell (zA _ _ (hHeld.2.2.2.2.2.2.2))).trans (hHeld.2.2.2.2.2.2.2)
        refine⟨_,rfl,?_⟩
        replace HO_0:=rb_ HO_0 hb
        replace HK:=zB (Kept.below (S:=(fun k_=>P0_ k_)) (kk_ HK) hb)
        replace HB:=zB (zQ HB.out hb)
        (try clear hb)
        (try clear hb2)
        (try clear hk)
        (try clear hi)
        refine hK.out _ _ ⟨HS0_,HS1_,HS2_,HS3_,HS4_,HS5_,HS6_,HS7_⟩ (fun hHeld=>?_)
        clear hK K
        refine norm_ (a':=?_) ?_ ?_
        rotate_left
        ·show Act.put _ (some 32) _=_
         simp only[Act.put,zE,zH,zI,i64_w,i32_w]
         rfl
        refine pure_ (i:=15) (N:=some 33) (v:=?_) (a':=?_) (dn_ 16 17) rfl rfl (any_of HT_.out (by kernel_rfl)) (fun _ _ _ h=>h) (Or.inl ⟨by rfl,?_⟩) ?_ ?_
        rotate_left
        ·intro w'
         go_simp
         with_reducible rfl
        rotate_left;(simp only[Act.put,zE,zH,zI,i64_w,i32_w];rfl)
        refine pure_ (i:=16) (N:=some 34) (v:=?_) (a':=?_) (bt_ 131071 17) rfl rfl (any_of HT_.out (by kernel_rfl)) (fun _ _ _ h=>h) (Or.inl ⟨by rfl,?_⟩) ?_ ?_
        rotate_left
        ·intro w'
         go_simp
         with_reducible rfl
        rotate_left;(simp only[Act.put,zE,zH,zI,i64_w,i32_w];rfl)
        refine done_ (done_of HT_.out (by kernel_rfl)) ?_
        try go_wp2
        go_roundg k2
        case measure=>have:=HK1.out;have:=HK2.out;omega
        case rel=>exact⟨(x0_2),(wrap64 (x8_1+1)),rs_,H',⟨by have:=HK1.out;have:=HK2.out;omega⟩,⟨kr_ HO_0⟩,⟨kk_ HK⟩,⟨hb_ HB⟩⟩
      ·rw[if_neg c6] at H
       have c6b0:=zY c6
       clear c6
       have H':=zB H
       clear H
       try go_wp2
       replace HO_0:=zB (Kd.R_drew HO_0.out)
       replace HK:=zB (Kept.drew HK.out)
       replace HB:=zB (zG HB.out)
       refine start_ (n:=17) (S:=fun w'=>True) (ds:=[]) (bt_ 0 17) (by kernel_rfl) rfl rfl trivial (fun hHeld=>?_);refine with_tabW api_Turn_106.tab4 api_Turn_106.bits4 (fun HT_ HW_=>?_)
       generalize wr.drew=w25 at HO_0 HK HB hHeld⊢
       have Q_:=Qs.mk (n:=17) [(0,0,18,1),(0,1,19,3),(0,2,20,7),(0,3,21,15),(1,4,22,31),(1,5,23,63),(1,6,24,127),(1,7,25,255),(1,8,26,511),(1,9,27,1023),(1,10,28,2047),(1,11,29,4095),(1,12,30,8191),(1,13,31,16383),(1,14,32,32767),(1,15,33,65535),(0,16,34,131071)]
       iterate 17 (first|(refine pq_ Q_ ?_;replace Q_:=qt_ Q_)|(refine uq_ Q_ ?_;replace Q_:=qt_ Q_))
       clear Q_
       refine done_ (done_of HT_.out (by kernel_rfl)) ?_
       try go_wp2
       go_roundg k2
       case measure=>have:=HK1.out;have:=HK2.out;omega
       case rel=>exact⟨(x0_2),(wrap64 (x8_1+1)),rs_,H',⟨by have:=HK1.out;have:=HK2.out;omega⟩,⟨kr_ HO_0⟩,⟨kk_ HK⟩,⟨hb_ HB⟩⟩
   ·rw[if_neg c5] at H
    have c5b0:=zY c5
    clear c5
    obtain rfl:=zW H
    go_wp2
    first|go_end0|((try simp only[Exit.inBlock,Exit.then]);refine bodyPost_ret (results_none rfl _ _ _) rfl ?_)
    exact⟨ew_,by(with_reducible repeat(first|apply Kd.R_alloc|apply Kd.R_drewN|apply Kd.R_drew));exact HO_0.out,hb_ HB,kk_ HK⟩
end Go.Proofs.Ytcfpbmdndapeaaa.F
