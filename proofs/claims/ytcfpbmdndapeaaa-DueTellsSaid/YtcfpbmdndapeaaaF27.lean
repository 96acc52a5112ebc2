-- Written by a program of this session (xprint.py), out of the translation and of contracts proved by hand.
import Derived.Test.YtcfpbmdndapeaaaF0
import Derived.Test.YtcfpbmdndapeaaaF4
namespace Go.Proofs.Ytcfpbmdndapeaaa.F
open Go.RowKit Go.Proofs.YtcfpbmdndapeaaaV.PrintWords Go.Proofs.YtcfpbmdndapeaaaV.PrintLast Go.Proofs.YtcfpbmdndapeaaaV.PrintMore
attribute [local go_sem] max2_int min2_int max_two min_two max_three min_three max_four min_four
set_option linter.unusedVariables false
set_option linter.unusedSimpArgs false
def board_alarms_find.l0:Nat→List (S28)→Int→Int→Int→Option (Int×Bool)
 |0,_,_,_,_=>none
 |k+1,x0,x6,x341000,x341001=>if x6<(x0.length:Int) then(if 0≤x6 then((spot_Less.f ((rd_T28 x0 x6).f0.f0) ((rd_T28 x0 x6).f0.f1) x341000 x341001).bind fun t342=>(if t342=true then(board_alarms_find.l0 k x0 (wrap64 (x6+1)) x341000 x341001) else(none))) else(none)) else(some (x6,false))
def board_alarms_find.f (k:Nat) (l0:List (S28)) (a1_0:Int) (a1_1:Int):Option (Int×Bool):=board_alarms_find.l0 k l0 0 a1_0 a1_1
theorem board_alarms_find.mono_l: ∀k,(∀y0 y1 y2 y3,LeO (board_alarms_find.l0 k y0 y1 y2 y3) (board_alarms_find.l0 (k+1) y0 y1 y2 y3))
 |0=>fun _ _ _ _ r h=>by simp[board_alarms_find.l0] at h
 |k+1=>by
  have ih0:=board_alarms_find.mono_l k
  ·intro y0 y1 y2 y3
   unfold board_alarms_find.l0
   repeat' first
   |(with_reducible exact ih0 _ _ _ _)
   |(with_reducible exact LeO.refl _)
   |(with_reducible exact zf _)
   |(with_reducible refine zg ?_ ?_)
   |(with_reducible refine ze ?_ (fun _=>?_))
theorem board_alarms_find.mono: ∀a0 a1 a2 k,LeO (board_alarms_find.f k a0 a1 a2) (board_alarms_find.f (k+1) a0 a1 a2):=by
 intro a0 a1 a2 k
 have ih0:=board_alarms_find.mono_l k
 unfold board_alarms_find.f
 repeat' first
   |(with_reducible exact ih0 _ _ _ _)
   |(with_reducible exact LeO.refl _)
   |(with_reducible exact zf _)
   |(with_reducible refine zg ?_ ?_)
   |(with_reducible refine ze ?_ (fun _=>?_))
def board_alarms_find.T2:Bool×List (List Nat×List Nat):=(true,[([],[]),([],[]),([1],[1]),([0,2],[0,2]),([3],[3]),([4],[4]),([4],[4]),([5,6,4],[4,5,6]),([7,4],[4,7]),([8,4],[4,8]),([4],[4]),([9,10,4,4],[4,9,10]),([4,11],[4,11])])
def board_alarms_find.B2:List Nat:=[0,0,2,7,15,31,31,127,255,511,31,2047,4095]
theorem board_alarms_find.tab2:rtab .any (opsOf Try.f52 2)=board_alarms_find.T2:=by kernel_rfl
theorem board_alarms_find.bits2:waitsOk board_alarms_find.T2.2 board_alarms_find.B2=true:=by kernel_rfl
def board_alarms_find.T4:Bool×List (List Nat×List Nat):=(true,[([],[]),([],[]),([],[]),([2],[2]),([1,3],[1,3]),([4],[4]),([5],[5]),([5],[5]),([6,7,5],[5,6,7]),([8,5],[5,8]),([9,5],[5,9]),([5],[5]),([10,11,5],[5,10,11]),([5,12],[5,12]),([0,5,0],[0]),([13,14,0,1,2,3,4,5,6,7,8,9,10,11,12,13,14],[13])])
def board_alarms_find.B4:List Nat:=[0,0,0,4,14,30,62,62,254,510,1022,62,4094,8190,63,32767]
theorem board_alarms_find.tab4:rtab .any (opsOf Try.f52 4)=board_alarms_find.T4:=by kernel_rfl
theorem board_alarms_find.bits4:waitsOk board_alarms_find.T4.2 board_alarms_find.B4=true:=by kernel_rfl
set_option maxHeartbeats 8000000 in
set_option maxRecDepth 100000 in
theorem board_alarms_find.calls (k:Nat) (A0:Option Addr) (c0:Nat) (l0:List (S28)) (a1_0:Int) (a1_1:Int) (r1:Int) (r2:Bool) (w:World) (hr0:Kd.C k28 w A0 l0.length l0) (hc0:l0.length≤c0) (h:board_alarms_find.f k l0 a1_0 a1_1=some (r1,r2)):
  Calls Try.prog 52 #[.slice A0 l0.length c0,.agg #[.int .i64 a1_0,.int .i64 a1_1]] w fun e w'=>e=.returned (.tuple #[.int .i64 r1,.bool r2])∧Below w.heap.size w w':=by
 have hu26:=Try.underlying26
 have HR0:=zB hr0
 have HC0:=zB hc0
 clear hr0 hc0
 have HB:=zB (Below.refl w.heap.size w)
 have H:(board_alarms_find.l0 k l0 0 a1_0 a1_1)=some (r1,r2):=h
 clear h
 have H':=zB H
 clear H
 go_enter Try.func52,Try.ntmps52
 go_wp2_with (first|((with_reducible refine gate_dst (N:=3) rfl ?_);refine be_ (N:=3) (cs:=#[.int .i64 a1_0,.int .i64 a1_1]) (t:=26) ?_;intro gb340 hg w3 hbox hb;have BK340:=zB hbox;have GW340:=gw_ hg HB;have GE340:=GW340;replace HB:=zB (zQ HB.out hb);clear hb hbox hg))
 (try simp only[Act.put,zE,zH,zI])
 go_loopg [6] k (fun kq v6 w'=> ∃(x6_1:Int),v6=.int .i64 x6_1∧Aside0 (board_alarms_find.l0 kq l0 x6_1 a1_0 a1_1=some (r1,r2))∧Aside0 (kq≤k)∧Aside0 (w'.heap[gb340]?=some (.cells #[.int .i64 a1_0,.int .i64 a1_1] 26 (0,0)))∧Aside0 (Below w.heap.size w w'))
 case atStart=>exact⟨(0),rs_,H',⟨za _⟩,⟨bk_ BK340⟩,⟨hb_ HB⟩⟩
 case round=>
  clear H'
  try clear p2
  obtain⟨x6_1,rfl,HA,HK1,BK340,HB⟩:=hrel
  cases gk with
  |zero=>exact absurd HA.out (by simp[board_alarms_find.l0])
  |succ k1=>
   have H:=HA.out
   clear HA
   simp only[board_alarms_find.l0] at H
   by_cases c4:x6_1<(l0.length:Int)
   ·rw[if_pos c4] at H
    have c4b0:=zO c4
    clear c4
    obtain⟨c5,H⟩:=gd_ H
    have c5b0:=zO c5
    clear c5
    replace H:=zL H
    obtain⟨t342,A60,H⟩:=H
    try dsimp only at H
    have A6:=zB A60
    clear A60
    by_cases c7:t342=true
    ·subst c7
     rw[if_pos rfl] at H;try dsimp only at H
     have H':=zB H
     clear H
     try go_wp2
     replace BK340:=zB (zX BK340.out)
     replace HB:=zB (zG HB.out)
     have p341:0≤(x6_1:Int):=zJ as_
     have q341:x6_1<(l0.length:Int):=zJ as_
     obtain⟨ad341,e341,hx341_0,hx341_1,hx341_2,hx341_3,hx341_4,hx341_5⟩:=at_T28 HR0.out x6_1 p341 q341
     have hw341_5:=hx341_5
     have hw341_4:=hx341_4
     have hw341_3:=hx341_3
     have hw341_2:=hx341_2
     have hw341_1:=hx341_1
     have hw341_0:=hx341_0
     cases e341
     replace hx341_0:=cb_ HB hx341_0
     replace hx341_1:=cb_ HB hx341_1
     replace hx341_2:=cb_ HB hx341_2
     replace hx341_3:=cb_ HB hx341_3
     replace hx341_4:=cb_ HB hx341_4
     replace hx341_5:=cb_ HB hx341_5
     replace p341:=eq_true p341
     replace q341:=eq_true q341
     refine start_ (n:=13) (S:=fun w'=>c_ w' gb340 0 (.int .i64 a1_0)∧c_ w' gb340 1 (.int .i64 a1_1)∧w'.cell? (ad341.add ((x6_1).toNat*6))=some (.int .i64 ((rd_T28 l0 x6_1).f0.f0))∧w'.cell? ⟨(ad341.add ((x6_1).toNat*6)).block,(ad341.add ((x6_1).toNat*6)).off+1,none⟩=some (.int .i64 ((rd_T28 l0 x6_1).f0.f1))∧w'.cell? ⟨(ad341.add ((x6_1).toNat*6)).block,(ad341.add ((x6_1).toNat*6)).off+2,none⟩=some (.int .i64 ((rd_T28 l0 x6_1).f1))∧w'.cell? ⟨(ad341.add ((x6_1).toNat*6)).block,(ad341.add ((x6_1).toNat*6)).off+3,none⟩=some (.int .i64 ((rd_T28 l0 x6_1).f2))∧w'.cell? ⟨(ad341.add ((x6_1).toNat*6)).block,(ad341.add ((x6_1).toNat*6)).off+4,none⟩=some (.int .i64 ((rd_T28 l0 x6_1).f3))∧w'.cell? ⟨(ad341.add ((x6_1).toNat*6)).block,(ad341.add ((x6_1).toNat*6)).off+5,none⟩=some (.int .i64 ((rd_T28 l0 x6_1).f4))) (ds:=[]) (bt_ 0 13) (by kernel_rfl) rfl rfl ⟨bc_ BK340 0,bc_ BK340 1,(cb_ HB hw341_0),(cb_ HB hw341_1),(cb_ HB hw341_2),(cb_ HB hw341_3),(cb_ HB hw341_4),(cb_ HB hw341_5)⟩ (fun hHeld=>?_);refine with_tabW board_alarms_find.tab2 board_alarms_find.bits2 (fun HT_ HW_=>?_)
     generalize wr.drew=w8 at BK340 HB hx341_0 hx341_1 hx341_2 hx341_3 hx341_4 hx341_5 hHeld⊢
     have Q_:=Qs.mk (n:=13) [(0,0,7,1),(0,1,8,3),(0,2,9,7),(0,3,10,15),(0,4,11,31),(0,5,12,63),(0,6,13,127),(0,7,14,255),(0,8,15,511),(2,9,16,1023),(2,10,17,2047)]
     iterate 11 (first|(refine pq_ Q_ ?_;replace Q_:=qt_ Q_)|(refine tq_ Q_ hHeld ?_;replace Q_:=qt_ Q_))
     clear Q_
     refine one_ (i:=11) (N:=some 18) (dn_ 12 13) rfl rfl (one_of HT_.out (by kernel_rfl)) (by decide) (fun K hK=>?_)
     refine gs_ Try.func84 #[.agg #[.int .i64 ((rd_T28 l0 x6_1).f0.f0),.int .i64 ((rd_T28 l0 x6_1).f0.f1)],.agg #[.int .i64 a1_0,.int .i64 a1_1]] rfl ?_
     with_reducible refine(spot_Less.calls ((rd_T28 l0 x6_1).f0.f0) ((rd_T28 l0 x6_1).f0.f1) a1_0 a1_1 true _ A6.out).mono ?_
     rintro e w9 ⟨rfl,hb⟩
     refine⟨_,rfl,?_⟩
     replace BK340:=bl_ BK340 hb
     replace HB:=zB (zQ (hb_ HB) hb)
     (try clear hb)
     (try clear hb2)
     (try clear hk)
     (try clear hi)
     refine hK.out _ _ ⟨bc_ BK340 0,bc_ BK340 1,(cb_ HB hw341_0),(cb_ HB hw341_1),(cb_ HB hw341_2),(cb_ HB hw341_3),(cb_ HB hw341_4),(cb_ HB hw341_5)⟩ (fun hHeld=>?_)
     clear hK K
     refine norm_ (a':=?_) ?_ ?_
     rotate_left
     ·show Act.put _ (some 18) _=_
      simp only[Act.put,zE,zH,zI,i64_w,i32_w]
      rfl
     refine pure_ (i:=12) (N:=some 19) (v:=?_) (a':=?_) (bt_ 8191 13) rfl rfl (any_of HT_.out (by kernel_rfl)) (fun _ _ _ h=>h) (Or.inl ⟨by rfl,?_⟩) ?_ ?_
     rotate_left
     ·intro w'
      go_simp
      with_reducible rfl
     rotate_left;(simp only[Act.put,zE,zH,zI,i64_w,i32_w];rfl)
     refine done_ (done_of HT_.out (by kernel_rfl)) ?_
     try go_wp2
     go_roundg k1
     case measure=>have:=HK1.out;omega
     case rel=>exact⟨(wrap64 (x6_1+1)),rs_,H',⟨za_ HK1⟩,⟨bk_ BK340⟩,⟨hb_ HB⟩⟩
    ·replace c7:=zb c7
     subst c7
     rw[if_neg (show ¬(false=true) by decide)] at H;try dsimp only at H
     exact absurd H (by simp)
   ·rw[if_neg c4] at H
    have c4b0:=zY c4
    clear c4
    simp only[zc,Prod.mk.injEq] at H
    obtain⟨rfl,rfl⟩:=H
    try go_wp2
    replace BK340:=zB (zX BK340.out)
    replace HB:=zB (zG HB.out)
    refine start_ (n:=13) (S:=fun w'=>True) (ds:=[]) (bt_ 0 13) (by kernel_rfl) rfl rfl trivial (fun hHeld=>?_);refine with_tabW board_alarms_find.tab2 board_alarms_find.bits2 (fun HT_ HW_=>?_)
    generalize wr.drew=w10 at BK340 HB hHeld⊢
    have Q_:=Qs.mk (n:=13) [(0,0,7,1),(0,1,8,3),(0,2,9,7),(0,3,10,15),(0,4,11,31),(1,5,12,63),(1,6,13,127),(1,7,14,255),(1,8,15,511),(1,9,16,1023),(1,10,17,2047),(1,11,18,4095),(0,12,19,8191)]
    iterate 13 (first|(refine pq_ Q_ ?_;replace Q_:=qt_ Q_)|(refine uq_ Q_ ?_;replace Q_:=qt_ Q_))
    clear Q_
    refine done_ (done_of HT_.out (by kernel_rfl)) ?_
    try go_wp2
    replace BK340:=zB (zX BK340.out)
    replace HB:=zB (zG HB.out)
    refine start_ (n:=16) (S:=fun w'=>True) (ds:=[]) (bt_ 0 16) (by kernel_rfl) rfl rfl trivial (fun hHeld=>?_);refine with_tabW board_alarms_find.tab4 board_alarms_find.bits4 (fun HT_ HW_=>?_)
    generalize w10.drew=w11 at BK340 HB hHeld⊢
    have Q_:=Qs.mk (n:=16) [(0,0,22,1),(0,1,23,3),(0,2,24,7),(0,3,25,15),(0,4,26,31),(0,5,27,63),(1,6,28,127),(1,7,29,255),(1,8,30,511),(1,9,31,1023),(1,10,32,2047),(1,11,33,4095),(1,12,34,8191),(0,13,35,16383),(0,14,4,32767),(0,15,5,65535)]
    iterate 16 (first|(refine pq_ Q_ ?_;replace Q_:=qt_ Q_)|(refine uq_ Q_ ?_;replace Q_:=qt_ Q_))
    clear Q_
    refine done_ (done_of HT_.out (by kernel_rfl)) ?_
    try go_wp2
    go_ret2
    exact⟨ew_,hb_ HB⟩
def board_sheet_now.f (l0_0:List (S28)) (a0_1:Int) (a0_2:Int) (l0_3:List (S28)) (l1:List (S28)):Option (Int×Int×(List (S28))):=some (a0_1,a0_2,l1)
set_option maxHeartbeats 8000000 in
set_option maxRecDepth 100000 in
theorem board_sheet_now.calls (A0_0:Option Addr) (c0_0:Nat) (l0_0:List (S28)) (a0_1:Int) (a0_2:Int) (A0_3:Option Addr) (c0_3:Nat) (l0_3:List (S28)) (P1_:Nat→Prop) (u9000_:Value) (l1:List (S28)) (r1:Int) (r2:Int) (r3:List (S28)) (w0 w:World) (hB:Below w0.heap.size w0 w) (hr0_0: ∀W_,Kept w W_ (fun k_=>P1_ k_)→Kd.C k28 W_ A0_0 l0_0.length l0_0) (hc0_0:l0_0.length≤c0_0) (hr0_3: ∀W_,Kept w W_ (fun k_=>P1_ k_)→Kd.C k28 W_ A0_3 l0_3.length l0_3) (hc0_3:l0_3.length≤c0_3) (ho1:Kd.R k28 28 w w0.heap.size P1_ u9000_ l1) (h:board_sheet_now.f l0_0 a0_1 a0_2 l0_3 l1=some (r1,r2,r3)):
  Calls Try.prog 53 #[.agg #[.slice A0_0 l0_0.length c0_0,.int .i64 a0_1,.int .i64 a0_2,.slice A0_3 l0_3.length c0_3],u9000_] w fun e w'=> ∃v2_:Value,e=.returned (.agg #[.int .i64 r1,.int .i64 r2,v2_])∧Kd.R k28 28 w' w0.heap.size (fun k_=>(P1_ k_∨w.heap.size≤k_)) v2_ r3∧Below w0.heap.size w0 w'∧Kept w w' (fun k_=>P1_ k_):=by
 have hu72:=Try.underlying72
 have hu24:=Try.underlying24
 have HR0_0:=zB hr0_0
 have HC0_0:=zB hc0_0
 clear hr0_0 hc0_0
 have HR0_3:=zB hr0_3
 have HC0_3:=zB hc0_3
 clear hr0_3 hc0_3
 have HO1:=zB (show Kd.R k28 28 w w0.heap.size (fun k_=>(P1_ k_∨w.heap.size≤k_)) u9000_ l1 from Kd.R_mono ho1 (fun k_ hk=>(.inl hk)))
 have HK:=zB (Kept.refl w (fun k_=>P1_ k_))
 have HW0:=zB hB.size
 have HB:=zB hB
 clear hB
 have H:(some (a0_1,a0_2,l1))=some (r1,r2,r3):=h
 clear h
 simp only[zc,Prod.mk.injEq] at H
 obtain⟨rfl,rfl,rfl⟩:=H
 go_enter Try.func53,Try.ntmps53
 go_wp2_with (first|((with_reducible refine gate_dst (N:=2) rfl ?_);refine be_ (N:=2) (cs:=#[.slice A0_0 l0_0.length c0_0,.int .i64 a0_1,.int .i64 a0_2,.slice A0_3 l0_3.length c0_3]) (t:=72) ?_;intro gb343 hg w3 hbox hb;replace HO1:=rb_ HO1 hb;have BK343:=zB hbox;have GW343:=zB ((by rw[hg];exact(by first|exact HK.out.1|exact(show Kept w _ (fun k_=>P1_ k_) from kk_ HK).1):w.heap.size≤gb343));replace HK:=zB (Kept.below (S:=(fun k_=>P1_ k_)) (kk_ HK) hb);have GE343:=zB ((by rw[hg];exact(zN HB.out):w0.heap.size≤gb343));replace HB:=zB (zQ HB.out hb);clear hb hbox hg)|((with_reducible refine gate_dst (N:=4) rfl ?_);refine be_ (N:=4) (cs:=#[.int .i64 0,.int .i64 0,.slice none 0 0]) (t:=24) ?_;intro gb344 hg w4 hbox hb;replace HO1:=rb_ HO1 hb;have BK344:=zB hbox;have GW344:=zB ((by rw[hg];exact(by first|exact HK.out.1|exact(show Kept w _ (fun k_=>P1_ k_) from kk_ HK).1):w.heap.size≤gb344));replace HK:=zB (Kept.below (S:=(fun k_=>P1_ k_)) (kk_ HK) hb);have GE344:=zB ((by rw[hg];exact(zN (hb_ HB)):w0.heap.size≤gb344));replace HB:=zB (zQ (hb_ HB) hb);have NB343_344:=nb_ BK343 hg;have NB344_343:=nc_ BK343 hg;replace BK343:=bl_ BK343 hb;clear hb hbox hg;have hnb5:=NB343_344.out;have hnc5:=NB344_343.out;have hcz6:=zD BK343.out;have hfz6:=zC BK343.out;obtain⟨Ao7,co7,eo7⟩:=Kd.R_slice HO1.out;subst eo7;have hcz8:=zD BK344.out;have hfz8:=zC BK344.out))
 refine bodyPost_ret (results_cell_row rfl _ _ gb344 24 #[.int .i64 a0_1,.int .i64 a0_2,.slice Ao7 l1.length co7] (0,0) _ rfl (by refine zZ (cs:=#[.int .i64 a0_1,.int .i64 a0_2,.slice none 0 0]) ?_ 2 _ rfl;refine zZ (cs:=#[.int .i64 a0_1,.int .i64 0,.slice none 0 0]) ?_ 1 _ rfl;refine zZ (cs:=#[.int .i64 0,.int .i64 0,.slice none 0 0]) ?_ 0 _ rfl;exact BK344.out) Try.underlying24 rfl (by kernel_rfl)) rfl ?_
 exact⟨_,ew_,by(with_reducible repeat(first|apply Kd.R_alloc|apply Kd.R_drewN|apply Kd.R_drew));exact Kd.R_mono (rf3 (Kd.R_types HO1.out BK344.out (by decide)) (fun _ hk=>hk.2) (.int .i64 a0_1) (.int .i64 a0_2) (.slice Ao7 l1.length co7)) (fun _ hk=>hk.1),hb_ HB,kk_ HK⟩
def api_Alarm_100.f (l0:List S28) (a1:Int):Option (List S28):=if 0≤a1 then if a1<2199023255552 then some [] else none else none
set_option maxHeartbeats 8000000 in
set_option maxRecDepth 100000 in
theorem api_Alarm_100.calls (a1:Int) (r:List S28) (w:World) (h:api_Alarm_100.f [] a1=some r):
    Calls Try.prog 100 #[.slice none 0 0,.int .i64 a1] w fun e w'=> ∃v0_:Value,e=.returned (v0_)∧Kd.R k28 28 w' w.heap.size (fun _=>True) v0_ r∧Below w.heap.size w w':=by
  unfold api_Alarm_100.f at h
  by_cases c1:0≤a1
  · rw[if_pos c1] at h
    by_cases c2:a1<2199023255552
    · rw[if_pos c2] at h
      obtain rfl:=zW h
      have b1:decide (a1<0)=false:=zY (by omega)
      by_cases c3:0<a1
      · have b3:decide (0<a1)=true:=zO c3
        go_enter Try.func100,Try.ntmps100
        go_wp2_with ((with_reducible refine gate_builtin (b:=.append) (xs:=#[.tmp 20,.tmp 21]) rfl ?_);at_builtin;refine Kd.R_append_zeros k28 (w0:=w) w.heap.size rfl (.tmp 20) (.tmp 21) 70 3 28 (.agg #[.int .i64 0,.int .i64 0,.int .i64 0,.int .i64 0,.int .i64 0,.int .i64 0]) 48 rfl Try.underlying70 Try.underlying3 info28 rfl (by decide) (by omega) (.slice none 0 0) ([]:List S28) z28 a1 (fun _=>True) rfl rfl (k28_mkM _ _ _ z28) (fun _ _=>trivial) ?aO c1 ?aB ?aS ?aL ?_;(case aB=>exact(by repeat(first|exact Below.refl _ _|apply zF|apply zG)));(case aO=>exact Kd.R_nil _ _ _ _ _);(case aS=>exact za _);(case aL=>simp;omega);intro v157 w3 ho hb hg hat;obtain⟨A,c,rfl⟩:=Kd.R_slice ho;have HB:=zB (hb);have HO:=zB (Kd.R_take (m:=0) ho (Nat.zero_le _));clear ho hb hg hat)
        go_ret
        exact⟨_,rfl,HO.out,HB.out⟩
      · obtain rfl:a1=0:=by omega
        clear h c1 c2 c3 b1
        go_enter Try.func100,Try.ntmps100
        go_wp2
        go_ret
        exact⟨_,rfl,Kd.R_nil _ _ _ _ _,Below.refl _ _⟩
    · rw[if_neg c2] at h
      exact absurd h (by simp)
  · rw[if_neg c1] at h
    exact absurd h (by simp)
mutual
def api_Alarm_85.l0:Nat→List (List (S28))→Int→List (List (S28))→Int→Int→Option ((List (S28)))
 |0,_,_,_,_,_=>none
 |k+1,x0,x3,x9,x10,x11=>if x11<x10 then(if 0≤x11 then(if x11<(x9.length:Int) then(if(wrap64 (x3+((rd_L6 x9 x11).length:Int)))<0 then(none) else(api_Alarm_85.l0 k x0 (wrap64 (x3+((rd_L6 x9 x11).length:Int))) x9 x10 (wrap64 (x11+1)))) else(none)) else(none)) else((api_Alarm_100.f ([]:List (S28)) x3).bind fun t346=>(api_Alarm_85.l1 k t346 x0 (x0.length:Int) 0))
def api_Alarm_85.l1:Nat→List (S28)→List (List (S28))→Int→Int→Option ((List (S28)))
 |0,_,_,_,_=>none
 |k+1,x6,x25,x26,x27=>if x27<x26 then(if 0≤x27 then(if x27<(x25.length:Int) then(if x6.length+(rd_L6 x25 x27).length<2932031007402 then(api_Alarm_85.l1 k (x6++(rd_L6 x25 x27)) x25 x26 (wrap64 (x27+1))) else(none)) else(none)) else(none)) else(some x6)
end
def api_Alarm_85.f (k:Nat) (l0:List (List (S28))):Option ((List (S28))):=api_Alarm_85.l0 k l0 0 l0 (l0.length:Int) 0
theorem api_Alarm_85.mono_l: ∀k,(∀y0 y1 y2 y3 y4,LeO (api_Alarm_85.l0 k y0 y1 y2 y3 y4) (api_Alarm_85.l0 (k+1) y0 y1 y2 y3 y4))∧(∀y0 y1 y2 y3,LeO (api_Alarm_85.l1 k y0 y1 y2 y3) (api_Alarm_85.l1 (k+1) y0 y1 y2 y3))
 |0=>⟨fun _ _ _ _ _ r h=>by simp[api_Alarm_85.l0] at h,fun _ _ _ _ r h=>by simp[api_Alarm_85.l1] at h⟩
 |k+1=>by
  obtain⟨ih0,ih1⟩:=api_Alarm_85.mono_l k
  refine⟨?_,?_⟩
  all_goals (intros;first|unfold api_Alarm_85.l0|unfold api_Alarm_85.l1)
  all_goals (repeat' first
   |(with_reducible exact ih0 _ _ _ _ _)
   |(with_reducible exact ih1 _ _ _ _)
   |(with_reducible exact LeO.refl _)
   |(with_reducible exact zf _)
   |(with_reducible refine zg ?_ ?_)
   |(with_reducible refine ze ?_ (fun _=>?_)))
theorem api_Alarm_85.mono: ∀a0 k,LeO (api_Alarm_85.f k a0) (api_Alarm_85.f (k+1) a0):=by
 intro a0 k
 obtain⟨ih0,ih1⟩:=api_Alarm_85.mono_l k
 unfold api_Alarm_85.f
 repeat' first
   |(with_reducible exact ih0 _ _ _ _ _)
   |(with_reducible exact ih1 _ _ _ _)
   |(with_reducible exact LeO.refl _)
   |(with_reducible exact zf _)
   |(with_reducible refine zg ?_ ?_)
   |(with_reducible refine ze ?_ (fun _=>?_))
set_option maxHeartbeats 8000000 in
set_option maxRecDepth 100000 in
theorem api_Alarm_85.calls (k:Nat) (A0:Option Addr) (c0:Nat) (l0:List (List (S28))) (r:List (S28)) (w:World) (hr0:Kd.C (Kd.slice 28 k28) w A0 l0.length l0) (hc0:l0.length≤c0) (h:api_Alarm_85.f k l0=some r):
  Calls Try.prog 85 #[.slice A0 l0.length c0] w fun e w'=> ∃v0_:Value,e=.returned (v0_)∧Kd.R k28 28 w' w.heap.size (fun _=>True) v0_ r∧Below w.heap.size w w':=by
 have HR0:=zB hr0
 have HC0:=zB hc0
 clear hr0 hc0
 have HB:=zB (Below.refl w.heap.size w)
 have H:(api_Alarm_85.l0 k l0 0 l0 (l0.length:Int) 0)=some r:=h
 clear h
 have H':=zB H
 clear H
 go_enter Try.func85,Try.ntmps85
 go_wp2
 go_loopg [3,11] k (fun kq v3 v11 w'=> ∃(x3_1:Int) (x11_1:Int),v3=.int .i64 x3_1∧v11=.int .i64 x11_1∧Aside0 (api_Alarm_85.l0 kq l0 x3_1 l0 (l0.length:Int) x11_1=some r)∧Aside0 (kq≤k)∧Aside0 (Below w.heap.size w w'))
 case atStart=>exact⟨(0),(0),rs_,rs_,H',⟨za _⟩,⟨hb_ HB⟩⟩
 case round=>
  clear H'
  obtain⟨x3_1,x11_1,rfl,rfl,HA,HK1,HB⟩:=hrel
  cases gk with
  |zero=>exact absurd HA.out (by simp[api_Alarm_85.l0])
  |succ k1=>
   have H:=HA.out
   clear HA
   simp only[api_Alarm_85.l0] at H
   by_cases c2:x11_1<(l0.length:Int)
   ·rw[if_pos c2] at H
    have c2b0:=zO c2
    clear c2
    obtain⟨c3,H⟩:=gd_ H
    have c3b0:=zO c3
    clear c3
    obtain⟨c4,H⟩:=gd_ H
    have c4b0:=zO c4
    clear c4
    by_cases c5:(wrap64 (x3_1+((rd_L6 l0 x11_1).length:Int)))<0
    ·rw[if_pos c5] at H
     exact absurd H (by simp)
    ·rw[if_neg c5] at H
     have c5b0:=zY c5
     clear c5
     have H':=zB H
     clear H
     have p345:0≤(x11_1:Int):=zJ as_
     have q345:x11_1<(l0.length:Int):=zJ as_
     obtain⟨ad345,A345_0,c345_0,e345,hx345_0,hl345_0,hi345_0⟩:=at_L6 HR0.out x11_1 p345 q345
     cases e345
     replace hx345_0:=cb_ HB hx345_0
     have HR345_0:=zB hi345_0
     have HC345_0:=zB hl345_0
     clear hi345_0 hl345_0
     replace p345:=eq_true p345
     replace q345:=eq_true q345
     go_wp2
     go_roundg k1
     case measure=>have:=HK1.out;omega
     case rel=>exact⟨(wrap64 (x3_1+((rd_L6 l0 x11_1).length:Int))),(wrap64 (x11_1+1)),rs_,rs_,H',⟨za_ HK1⟩,⟨hb_ HB⟩⟩
   ·rw[if_neg c2] at H
    have c2b0:=zY c2
    clear c2
    replace H:=zL H
    obtain⟨t346,A60,H⟩:=H
    try dsimp only at H
    have A6:=zB A60
    clear A60
    have H':=zB H
    clear H
    go_wp2_with (first|((with_reducible refine gate_callee (f:=100) rfl ?_);refine gl_ (some 24) Try.func100 #[.slice none 0 0,.int .i64 x3_1] rfl ?_;(refine(api_Alarm_100.calls x3_1 t346 _ A6.out).mono ?_);rintro e w7 ⟨v347,rfl,ho0,hb⟩;refine⟨_,rfl,?_⟩;have HO348:=zB (Kd.R_lower ho0 (zN HB.out));replace HB:=zB (zQ HB.out hb);(try clear hb);(try clear hb2);(try clear hk);(try clear hi);(try clear ho0)))
    (try simp only[Act.put,zE,zH,zI])
    go_loopg [6,27] k1 (fun kq v6 v27 w'=> ∃(x6_2:List (S28)) (x27_2:Int),v27=.int .i64 x27_2∧Aside0 (api_Alarm_85.l1 kq x6_2 l0 (l0.length:Int) x27_2=some r)∧Aside0 (kq≤k1)∧Aside0 (Kd.R k28 28 w' w.heap.size (fun _=>True) v6 x6_2)∧Aside0 (Below w.heap.size w w'))
    case atStart=>exact⟨(t346),(0),rs_,H',⟨za _⟩,⟨kr_ HO348⟩,⟨hb_ HB⟩⟩
    case round=>
     clear H'
     try clear c1;try clear c2;try clear c2b0;try clear p2;try clear c3;try clear c3b0;try clear p3;try clear q3;try clear hx3;try clear c4;try clear c4b0;try clear c5;try clear c5b0;try clear p6;try clear hx345_0;try clear p345;try clear q345
     obtain⟨x6_2,x27_2,rfl,HA,HK2,HO_6,HB⟩:=hrel
     cases gk with
     |zero=>exact absurd HA.out (by simp[api_Alarm_85.l1])
     |succ k2=>
      have H:=HA.out
      clear HA
      simp only[api_Alarm_85.l1] at H
      by_cases c8:x27_2<(l0.length:Int)
      ·rw[if_pos c8] at H
       have c8b0:=zO c8
       clear c8
       obtain⟨c9,H⟩:=gd_ H
       have c9b0:=zO c9
       clear c9
       obtain⟨c10,H⟩:=gd_ H
       have c10b0:=zO c10
       clear c10
       obtain⟨c11,H⟩:=gd_ H
       have LMc11:=zB c11
       clear c11
       obtain⟨y350,hy350⟩: ∃y_:List (S28),y_=(x6_2++(rd_L6 l0 x27_2)):=⟨_,rfl⟩
       replace H:(api_Alarm_85.l1 k2 y350 l0 (l0.length:Int) (wrap64 (x27_2+1)))=some r:=by first|(rw[hy350];with_reducible exact H)|(have H2_:=(Option.bind_some _ _).symm.trans H;rw[hy350];with_reducible exact H2_)|(have H2_:=(Option.bind_some _ _).symm.trans H;with_reducible exact H2_)|with_reducible exact H|(rw[hy350];exact H)|exact H
       have Ny350:=zB hy350
       clear hy350
       have H':=zB H
       clear H
       have p349:0≤(x27_2:Int):=zJ as_
       have q349:x27_2<(l0.length:Int):=zJ as_
       obtain⟨ad349,A349_0,c349_0,e349,hx349_0,hl349_0,hi349_0⟩:=at_L6 HR0.out x27_2 p349 q349
       cases e349
       replace hx349_0:=cb_ HB hx349_0
       have HR349_0:=zB hi349_0
       have HC349_0:=zB hl349_0
       clear hi349_0 hl349_0
       replace p349:=eq_true p349
       replace q349:=eq_true q349
       go_wp2_with (first|((with_reducible refine gate_builtin (b:=.append) (xs:=#[.tmp 31,.tmp 32]) rfl ?_);at_builtin;refine Kd.R_append_rows k28 (w0:=w) w.heap.size rfl (.tmp 31) (.tmp 32) 70 28 (.agg #[(.int .i64 0),(.int .i64 0),(.int .i64 0),(.int .i64 0),(.int .i64 0),(.int .i64 0)]) 48 rfl Try.underlying70 info28 rfl (by decide) (by omega) u6 x6_2 (rd_L6 l0 x27_2) _ _ _ (fun _=>True) (fun _=>False) rfl rfl ?aO ?aR (fun _ _ h=>h) (fun _ h=>h.elim) ?aF ?aB ?aS ?aL ?_;(case aR=>repeat(first|exact(Kd.C_below HR349_0.out HB.out)|(with_reducible refine Kd.C_alloc ?_ _)|(with_reducible refine Kd.C_drewN ?_ _)|(with_reducible refine Kd.C_drew ?_)));(case aB=>exact HB.out);(case aF=>exact(fun _ _=>trivial));(case aO=>exact(HO_6.out));(case aS=>exact(zN HB.out));(case aL=>have:=LMc11.out;omega);intro v351 w12 ho hb hg hat;rw[←Ny350.out] at ho;replace HB:=zB (hb);have HO352:=zB (ho);clear HO_6;clear ho hb hg hat))
       go_roundg k2
       case measure=>have:=HK1.out;have:=HK2.out;omega
       case rel=>exact⟨(y350),(wrap64 (x27_2+1)),rs_,H',⟨by have:=HK1.out;have:=HK2.out;omega⟩,⟨kr_ HO352⟩,⟨hb_ HB⟩⟩
      ·rw[if_neg c8] at H
       have c8b0:=zY c8
       clear c8
       obtain rfl:=zW H
       go_wp2
       go_ret
       exact⟨_,ew_,by(with_reducible repeat(first|apply Kd.R_alloc|apply Kd.R_drewN|apply Kd.R_drew));exact HO_6.out,hb_ HB⟩
end Go.Proofs.Ytcfpbmdndapeaaa.F
