-- Written by a program of this session (xprint.py), out of the translation and of contracts proved by hand.
import Derived.Test.YtcfpbmdndapeaaaF0
import Derived.Test.YtcfpbmdndapeaaaF4
import Derived.Test.YtcfpbmdndapeaaaF5
namespace Go.Proofs.Ytcfpbmdndapeaaa.F
open Go.RowKit Go.Proofs.YtcfpbmdndapeaaaV.PrintWords Go.Proofs.YtcfpbmdndapeaaaV.PrintLast Go.Proofs.YtcfpbmdndapeaaaV.PrintMore
attribute [local go_sem] max2_int min2_int max_two min_two max_three min_three max_four min_four
set_option linter.unusedVariables false
set_option linter.unusedSimpArgs false
def board_Is.f (k:Nat) (a0_0:Int) (a0_1:Int) (l0_2:List (S28)):Option (Bool):=if a0_0≥1 then(if a0_0≤200 then(if a0_1≥0 then(if a0_1≤1000000000 then(if(l0_2.length:Int)≤a0_0 then((board_open.f a0_0 a0_1 l0_2).bind fun bt130=>((board_alarms_rise.f k bt130.1 a0_1).bind fun t138=>(some t138))) else(some false)) else(some false)) else(some false)) else(some false)) else(some false)
theorem board_Is.mono: ∀a0 a1 a2 k,LeO (board_Is.f k a0 a1 a2) (board_Is.f (k+1) a0 a1 a2):=by
 intro a0 a1 a2 k
 unfold board_Is.f
 repeat' first
   |(with_reducible exact board_alarms_rise.mono _ _ _)
   |(with_reducible exact LeO.refl _)
   |(with_reducible exact zf _)
   |(with_reducible refine zg ?_ ?_)
   |(with_reducible refine ze ?_ (fun _=>?_))
def board_Is.T1:Bool×List (List Nat×List Nat):=(true,[([],[]),([0],[0]),([1],[1]),([2],[2]),([3],[3]),([4,3],[3,4]),([5,3],[3,5]),([3,6],[3,6]),([7,3],[7]),([8],[8]),([9,8],[8,9]),([10,8],[8,10]),([8,11],[8,11]),([12,8],[12]),([13],[13]),([14,13],[13,14]),([15,13],[13,15]),([13,16],[13,16]),([17,13],[17]),([18],[18]),([19,18],[18,19]),([20,18],[18,20]),([18],[18]),([22,18],[18,22]),([21,23,18],[18,21,23]),([18,24],[18,24]),([25,18],[25]),([26],[26]),([27,26,26],[26,27]),([28,26],[26,28]),([26],[26]),([30,26],[26,30]),([29,31,28,26],[26,29,31]),([26,32],[26,32]),([33,32,0,1,2,3,4,5,6,7,8,9,10,11,12,13,14,15,16,17,18,19,20,21,22,23,24,25,26,27,28,29,30,31,32,33],[33])])
def board_Is.B1:List Nat:=[0,1,3,7,15,31,63,127,255,511,1023,2047,4095,8191,16383,32767,65535,131071,262143,524287,1048575,2097151,524287,4718591,16777215,33554431,67108863,134217727,268435455,536870911,134217727,1207959551,4294967295,8589934591,17179869183]
theorem board_Is.tab1:rtab .any (opsOf Try.f32 1)=board_Is.T1:=by kernel_rfl
theorem board_Is.bits1:waitsOk board_Is.T1.2 board_Is.B1=true:=by kernel_rfl
set_option maxHeartbeats 8000000 in
set_option maxRecDepth 100000 in
theorem board_Is.calls (k:Nat) (a0_0:Int) (a0_1:Int) (A0_2:Option Addr) (c0_2:Nat) (l0_2:List (S28)) (r:Bool) (w:World) (hr0_2:Kd.C k28 w A0_2 l0_2.length l0_2) (hc0_2:l0_2.length≤c0_2) (h:board_Is.f k a0_0 a0_1 l0_2=some r):
  Calls Try.prog 32 #[.agg #[.int .i64 a0_0,.int .i64 a0_1,.slice A0_2 l0_2.length c0_2]] w fun e w'=>e=.returned (.bool r)∧Below w.heap.size w w':=by
 have hu24:=Try.underlying24
 have HR0_2:=zB hr0_2
 have HC0_2:=zB hc0_2
 clear hr0_2 hc0_2
 have HB:=zB (Below.refl w.heap.size w)
 have H:(if a0_0≥1 then(if a0_0≤200 then(if a0_1≥0 then(if a0_1≤1000000000 then(if(l0_2.length:Int)≤a0_0 then((board_open.f a0_0 a0_1 l0_2).bind fun bt130=>((board_alarms_rise.f k bt130.1 a0_1).bind fun t138=>(some t138))) else(some false)) else(some false)) else(some false)) else(some false)) else(some false))=some r:=h
 clear h
 by_cases c2:a0_0≥1
 ·rw[if_pos c2] at H
  have c2b0:=zO c2
  clear c2
  by_cases c3:a0_0≤200
  ·rw[if_pos c3] at H
   have c3b0:=zO c3
   clear c3
   by_cases c4:a0_1≥0
   ·rw[if_pos c4] at H
    have c4b0:=zO c4
    clear c4
    by_cases c5:a0_1≤1000000000
    ·rw[if_pos c5] at H
     have c5b0:=zO c5
     clear c5
     by_cases c6:(l0_2.length:Int)≤a0_0
     ·rw[if_pos c6] at H
      have c6b0:=zO c6
      clear c6
      replace H:=zL H
      obtain⟨⟨t130,t133,t134,t135⟩,A70,H⟩:=H
      try dsimp only at H
      have A7:=zB A70
      clear A70
      replace H:=zL H
      obtain⟨t138,A80,H⟩:=H
      try dsimp only at H
      have A8:=zB A80
      clear A80
      obtain rfl:=zW H
      go_enter Try.func32,Try.ntmps32
      try go_wp2_with (first|((with_reducible refine gate_dst (N:=1) rfl ?_);(try(refine gate_guard (by rfl) ?_;dsimp only));refine be_ (N:=1) (cs:=#[.int .i64 a0_0,.int .i64 a0_1,.slice A0_2 l0_2.length c0_2]) (t:=24) ?_;intro gb129 hg w9 hbox hb;have BK129:=zB hbox;have GW129:=gw_ hg HB;have GE129:=GW129;replace HB:=zB (zQ HB.out hb);clear hb hbox hg))
      replace BK129:=zB (zX BK129.out)
      replace HB:=zB (zG HB.out)
      refine start_ (n:=35) (S:=fun w'=>c_ w' gb129 0 (.int .i64 a0_0)∧c_ w' gb129 1 (.int .i64 a0_1)∧c_ w' gb129 2 (.slice A0_2 l0_2.length c0_2)) (ds:=[]) (bt_ 0 35) (by kernel_rfl) rfl rfl ⟨bc_ BK129 0,bc_ BK129 1,bc_ BK129 2⟩ (fun hHeld=>?_);refine with_tabW board_Is.tab1 board_Is.bits1 (fun HT_ HW_=>?_)
      generalize w9.drew=w10 at BK129 HB hHeld⊢
      have Q_:=Qs.mk (n:=35) [(0,0,3,1),(2,1,4,3),(0,2,5,7),(0,3,6,15),(0,4,7,31),(2,5,8,63),(0,6,9,127),(0,7,10,255),(0,8,11,511),(0,9,12,1023),(2,10,13,2047),(0,11,14,4095),(0,12,15,8191),(0,13,16,16383),(0,14,17,32767),(2,15,18,65535),(0,16,19,131071),(0,17,20,262143),(0,18,21,524287),(0,19,22,1048575),(0,22,25,5242879),(2,20,23,6291455),(0,21,24,8388607),(2,23,26,16777215),(0,24,27,33554431),(0,25,28,67108863),(0,26,29,134217727),(0,30,33,1207959551),(2,27,30,1342177279),(2,31,34,3489660927)]
      iterate 30 (first|(refine pq_ Q_ ?_;replace Q_:=qt_ Q_)|(refine tq_ Q_ hHeld ?_;replace Q_:=qt_ Q_))
      clear Q_
      refine one_ (i:=28) (N:=some 31) (bt_ 3758096383 35) rfl rfl (one_of HT_.out (by kernel_rfl)) (by decide) (fun K hK=>?_)
      refine gs_ Try.func51 #[.agg #[.int .i64 a0_0,.int .i64 a0_1,.slice A0_2 l0_2.length c0_2]] rfl ?_
      with_reducible refine(board_open.calls a0_0 a0_1 (fun k_=>k_<w.heap.size) _ _ l0_2 t130 t133 t134 t135 _ ?side1 A7.out).mono ?_
      (case side1=>exact Kd.V_mk HC0_2.out (Kd.F_below (Kd.C_F k28_heap HR0_2.out) (hb_ HB)))
      rintro e w11 ⟨v131,v136,rfl,ho0,ho1,hb⟩
      refine⟨_,rfl,?_⟩
      have HO132:=zB (Kd.V_lower (Kd.V_mono (ok':=fun k_=>k_≠gb129) ho0 (fun k_ hk_=>Or.elim hk_ (fun hs_=>fun e_=>Nat.not_le.2 hs_ (by rw[e_];exact GW129.out)) (fun hn_=>(Kd.freshB (g:=gb129) (o:=.cells #[.int .i64 a0_0,.int .i64 a0_1,.slice A0_2 l0_2.length c0_2] 24 (0,0)) BK129.out k_ hn_)))) (zN (hb_ HB)))
      have HO137:=zB (Kd.V_lower (Kd.V_mono (ok':=fun k_=>k_≠gb129) ho1 (fun k_ hk_=>Or.elim hk_ (fun hs_=>fun e_=>Nat.not_le.2 hs_ (by rw[e_];exact GW129.out)) (fun hn_=>(Kd.freshB (g:=gb129) (o:=.cells #[.int .i64 a0_0,.int .i64 a0_1,.slice A0_2 l0_2.length c0_2] 24 (0,0)) BK129.out k_ hn_)))) (zN (hb_ HB)))
      replace BK129:=bl_ BK129 hb
      replace HB:=zB (zQ (hb_ HB) hb)
      (try clear hb)
      (try clear hb2)
      (try clear hk)
      (try clear hi)
      (try clear ho0)
      (try clear ho1)
      obtain⟨Ao12,co12,eo12⟩:=Kd.V_slice HO132.out
      (first|subst eo12|(injection eo12 with f1_ f2_ f3_;have f4_:=f1_.symm;have f5_:=f3_.symm;clear f1_ f2_ f3_;subst f4_;subst f5_))
      refine hK.out _ _ ⟨bc_ BK129 0,bc_ BK129 1,bc_ BK129 2⟩ (fun hHeld=>?_)
      clear hK K
      refine norm_ (a':=?_) ?_ ?_
      rotate_left
      ·show Act.put _ (some 31) _=_
       simp only[Act.put,zE,zH,zI,i64_w,i32_w]
       rfl
      refine pure_ (i:=29) (N:=some 32) (v:=?_) (a':=?_) (dn_ 32 35) rfl rfl (any_of HT_.out (by kernel_rfl)) (fun _ _ _ h=>h) (Or.inl ⟨by rfl,?_⟩) ?_ ?_
      rotate_left
      ·intro w'
       go_simp
       first|with_reducible rfl|(unfold Instr.field;simp only[go_sem,run_underlying Try.underlying72];go_simp;rfl)
      rotate_left;(simp only[Act.put,zE,zH,zI,i64_w,i32_w];rfl)
      refine one_ (i:=32) (N:=some 35) (dn_ 33 35) rfl rfl (one_of HT_.out (by kernel_rfl)) (by decide) (fun K hK=>?_)
      refine gs_ Try.func65 #[.slice Ao12 t130.length co12,.int .i64 a0_1] rfl ?_
      with_reducible refine(board_alarms_rise.calls k _ _ t130 a0_1 t138 _ ?side1 ?side2 A8.out).mono ?_
      (case side1=>repeat(first|exact(Kd.V_reads' HO132.out).2.2|(with_reducible refine Kd.C_alloc ?_ _)|(with_reducible refine Kd.C_drewN ?_ _)|(with_reducible refine Kd.C_drew ?_)))
      (case side2=>exact(Kd.V_reads' HO132.out).2.1)
      rintro e w13 ⟨rfl,hb⟩
      refine⟨_,rfl,?_⟩
      replace HO132:=zB (Kd.V_below (HO132.out) hb)
      replace HO137:=zB (Kd.V_below (HO137.out) hb)
      replace BK129:=bl_ BK129 hb
      replace HB:=zB (zQ (hb_ HB) hb)
      (try clear hb)
      (try clear hb2)
      (try clear hk)
      (try clear hi)
      refine hK.out _ _ ⟨bc_ BK129 0,bc_ BK129 1,bc_ BK129 2⟩ (fun hHeld=>?_)
      clear hK K
      refine norm_ (a':=?_) ?_ ?_
      rotate_left
      ·show Act.put _ (some 35) _=_
       simp only[Act.put,zE,zH,zI,i64_w,i32_w]
       rfl
      refine pure_ (i:=33) (N:=some 36) (v:=?_) (a':=?_) (dn_ 34 35) rfl rfl (any_of HT_.out (by kernel_rfl)) (fun _ _ _ h=>h) (Or.inl ⟨by rfl,?_⟩) ?_ ?_
      rotate_left
      ·intro w'
       go_simp
       first|with_reducible rfl|(unfold Instr.field;simp only[go_sem,run_underlying Try.underlying72];go_simp;rfl)
      rotate_left;(simp only[Act.put,zE,zH,zI,i64_w,i32_w];rfl)
      refine pure_ (i:=34) (N:=some 2) (v:=?_) (a':=?_) (bt_ 34359738367 35) rfl rfl (any_of HT_.out (by kernel_rfl)) (fun _ _ _ h=>h) (Or.inl ⟨by rfl,?_⟩) ?_ ?_
      rotate_left
      ·intro w'
       go_simp
       first|with_reducible rfl|(unfold Instr.field;simp only[go_sem,run_underlying Try.underlying72];go_simp;rfl)
      rotate_left;(simp only[Act.put,zE,zH,zI,i64_w,i32_w];rfl)
      refine done_ (done_of HT_.out (by kernel_rfl)) ?_
      try go_wp2
      go_ret
      exact⟨ew_,hb_ HB⟩
     ·rw[if_neg c6] at H
      have c6b0:=zY c6
      clear c6
      obtain rfl:=zW H
      go_enter Try.func32,Try.ntmps32
      try go_wp2_with (first|((with_reducible refine gate_dst (N:=1) rfl ?_);(try(refine gate_guard (by rfl) ?_;dsimp only));refine be_ (N:=1) (cs:=#[.int .i64 a0_0,.int .i64 a0_1,.slice A0_2 l0_2.length c0_2]) (t:=24) ?_;intro gb129 hg w14 hbox hb;have BK129:=zB hbox;have GW129:=gw_ hg HB;have GE129:=GW129;replace HB:=zB (zQ HB.out hb);clear hb hbox hg))
      replace BK129:=zB (zX BK129.out)
      replace HB:=zB (zG HB.out)
      refine start_ (n:=35) (S:=fun w'=>c_ w' gb129 0 (.int .i64 a0_0)∧c_ w' gb129 1 (.int .i64 a0_1)∧c_ w' gb129 2 (.slice A0_2 l0_2.length c0_2)) (ds:=[]) (bt_ 0 35) (by kernel_rfl) rfl rfl ⟨bc_ BK129 0,bc_ BK129 1,bc_ BK129 2⟩ (fun hHeld=>?_);refine with_tabW board_Is.tab1 board_Is.bits1 (fun HT_ HW_=>?_)
      generalize w14.drew=w15 at BK129 HB hHeld⊢
      have Q_:=Qs.mk (n:=35) [(0,0,3,1),(2,1,4,3),(0,2,5,7),(0,3,6,15),(0,4,7,31),(2,5,8,63),(0,6,9,127),(0,7,10,255),(0,8,11,511),(0,9,12,1023),(2,10,13,2047),(0,11,14,4095),(0,12,15,8191),(0,13,16,16383),(0,14,17,32767),(2,15,18,65535),(0,16,19,131071),(0,17,20,262143),(0,18,21,524287),(0,19,22,1048575),(0,22,25,5242879),(2,20,23,6291455),(0,21,24,8388607),(2,23,26,16777215),(0,24,27,33554431),(0,25,28,67108863),(0,26,29,134217727),(1,27,30,268435455),(1,28,31,536870911),(1,29,32,1073741823),(1,30,33,2147483647),(1,31,34,4294967295),(1,32,35,8589934591),(0,33,36,17179869183),(0,34,2,34359738367)]
      iterate 35 (first|(refine pq_ Q_ ?_;replace Q_:=qt_ Q_)|(refine uq_ Q_ ?_;replace Q_:=qt_ Q_)|(refine tq_ Q_ hHeld ?_;replace Q_:=qt_ Q_))
      clear Q_
      refine done_ (done_of HT_.out (by kernel_rfl)) ?_
      try go_wp2
      go_ret
      exact⟨ew_,hb_ HB⟩
    ·rw[if_neg c5] at H
     have c5b0:=zY c5
     clear c5
     obtain rfl:=zW H
     go_enter Try.func32,Try.ntmps32
     try go_wp2_with (first|((with_reducible refine gate_dst (N:=1) rfl ?_);(try(refine gate_guard (by rfl) ?_;dsimp only));refine be_ (N:=1) (cs:=#[.int .i64 a0_0,.int .i64 a0_1,.slice A0_2 l0_2.length c0_2]) (t:=24) ?_;intro gb129 hg w16 hbox hb;have BK129:=zB hbox;have GW129:=gw_ hg HB;have GE129:=GW129;replace HB:=zB (zQ HB.out hb);clear hb hbox hg))
     replace BK129:=zB (zX BK129.out)
     replace HB:=zB (zG HB.out)
     refine start_ (n:=35) (S:=fun w'=>c_ w' gb129 0 (.int .i64 a0_0)∧c_ w' gb129 1 (.int .i64 a0_1)∧c_ w' gb129 2 (.slice A0_2 l0_2.length c0_2)) (ds:=[]) (bt_ 0 35) (by kernel_rfl) rfl rfl ⟨bc_ BK129 0,bc_ BK129 1,bc_ BK129 2⟩ (fun hHeld=>?_);refine with_tabW board_Is.tab1 board_Is.bits1 (fun HT_ HW_=>?_)
     generalize w16.drew=w17 at BK129 HB hHeld⊢
     have Q_:=Qs.mk (n:=35) [(0,0,3,1),(2,1,4,3),(0,2,5,7),(0,3,6,15),(0,4,7,31),(2,5,8,63),(0,6,9,127),(0,7,10,255),(0,8,11,511),(0,9,12,1023),(2,10,13,2047),(0,11,14,4095),(0,12,15,8191),(0,13,16,16383),(0,14,17,32767),(2,15,18,65535),(0,16,19,131071),(0,17,20,262143),(0,18,21,524287),(1,19,22,1048575),(1,20,23,2097151),(1,21,24,4194303),(1,22,25,8388607),(1,23,26,16777215),(1,24,27,33554431),(0,25,28,67108863),(0,26,29,134217727),(1,27,30,268435455),(1,28,31,536870911),(1,29,32,1073741823),(1,30,33,2147483647),(1,31,34,4294967295),(1,32,35,8589934591),(0,33,36,17179869183),(0,34,2,34359738367)]
     iterate 35 (first|(refine pq_ Q_ ?_;replace Q_:=qt_ Q_)|(refine uq_ Q_ ?_;replace Q_:=qt_ Q_)|(refine tq_ Q_ hHeld ?_;replace Q_:=qt_ Q_))
     clear Q_
     refine done_ (done_of HT_.out (by kernel_rfl)) ?_
     try go_wp2
     go_ret
     exact⟨ew_,hb_ HB⟩
   ·rw[if_neg c4] at H
    have c4b0:=zY c4
    clear c4
    obtain rfl:=zW H
    go_enter Try.func32,Try.ntmps32
    try go_wp2_with (first|((with_reducible refine gate_dst (N:=1) rfl ?_);(try(refine gate_guard (by rfl) ?_;dsimp only));refine be_ (N:=1) (cs:=#[.int .i64 a0_0,.int .i64 a0_1,.slice A0_2 l0_2.length c0_2]) (t:=24) ?_;intro gb129 hg w18 hbox hb;have BK129:=zB hbox;have GW129:=gw_ hg HB;have GE129:=GW129;replace HB:=zB (zQ HB.out hb);clear hb hbox hg))
    replace BK129:=zB (zX BK129.out)
    replace HB:=zB (zG HB.out)
    refine start_ (n:=35) (S:=fun w'=>c_ w' gb129 0 (.int .i64 a0_0)∧c_ w' gb129 1 (.int .i64 a0_1)∧c_ w' gb129 2 (.slice A0_2 l0_2.length c0_2)) (ds:=[]) (bt_ 0 35) (by kernel_rfl) rfl rfl ⟨bc_ BK129 0,bc_ BK129 1,bc_ BK129 2⟩ (fun hHeld=>?_);refine with_tabW board_Is.tab1 board_Is.bits1 (fun HT_ HW_=>?_)
    generalize w18.drew=w19 at BK129 HB hHeld⊢
    have Q_:=Qs.mk (n:=35) [(0,0,3,1),(2,1,4,3),(0,2,5,7),(0,3,6,15),(0,4,7,31),(2,5,8,63),(0,6,9,127),(0,7,10,255),(0,8,11,511),(0,9,12,1023),(2,10,13,2047),(0,11,14,4095),(0,12,15,8191),(0,13,16,16383),(1,14,17,32767),(1,15,18,65535),(1,16,19,131071),(0,17,20,262143),(0,18,21,524287),(1,19,22,1048575),(1,20,23,2097151),(1,21,24,4194303),(1,22,25,8388607),(1,23,26,16777215),(1,24,27,33554431),(0,25,28,67108863),(0,26,29,134217727),(1,27,30,268435455),(1,28,31,536870911),(1,29,32,1073741823),(1,30,33,2147483647),(1,31,34,4294967295),(1,32,35,8589934591),(0,33,36,17179869183),(0,34,2,34359738367)]
    iterate 35 (first|(refine pq_ Q_ ?_;replace Q_:=qt_ Q_)|(refine uq_ Q_ ?_;replace Q_:=qt_ Q_)|(refine tq_ Q_ hHeld ?_;replace Q_:=qt_ Q_))
    clear Q_
    refine done_ (done_of HT_.out (by kernel_rfl)) ?_
    try go_wp2
    go_ret
    exact⟨ew_,hb_ HB⟩
  ·rw[if_neg c3] at H
   have c3b0:=zY c3
   clear c3
   obtain rfl:=zW H
   go_enter Try.func32,Try.ntmps32
   try go_wp2_with (first|((with_reducible refine gate_dst (N:=1) rfl ?_);(try(refine gate_guard (by rfl) ?_;dsimp only));refine be_ (N:=1) (cs:=#[.int .i64 a0_0,.int .i64 a0_1,.slice A0_2 l0_2.length c0_2]) (t:=24) ?_;intro gb129 hg w20 hbox hb;have BK129:=zB hbox;have GW129:=gw_ hg HB;have GE129:=GW129;replace HB:=zB (zQ HB.out hb);clear hb hbox hg))
   replace BK129:=zB (zX BK129.out)
   replace HB:=zB (zG HB.out)
   refine start_ (n:=35) (S:=fun w'=>c_ w' gb129 0 (.int .i64 a0_0)∧c_ w' gb129 1 (.int .i64 a0_1)∧c_ w' gb129 2 (.slice A0_2 l0_2.length c0_2)) (ds:=[]) (bt_ 0 35) (by kernel_rfl) rfl rfl ⟨bc_ BK129 0,bc_ BK129 1,bc_ BK129 2⟩ (fun hHeld=>?_);refine with_tabW board_Is.tab1 board_Is.bits1 (fun HT_ HW_=>?_)
   generalize w20.drew=w21 at BK129 HB hHeld⊢
   have Q_:=Qs.mk (n:=35) [(0,0,3,1),(2,1,4,3),(0,2,5,7),(0,3,6,15),(0,4,7,31),(2,5,8,63),(0,6,9,127),(0,7,10,255),(0,8,11,511),(1,9,12,1023),(1,10,13,2047),(1,11,14,4095),(0,12,15,8191),(0,13,16,16383),(1,14,17,32767),(1,15,18,65535),(1,16,19,131071),(0,17,20,262143),(0,18,21,524287),(1,19,22,1048575),(1,20,23,2097151),(1,21,24,4194303),(1,22,25,8388607),(1,23,26,16777215),(1,24,27,33554431),(0,25,28,67108863),(0,26,29,134217727),(1,27,30,268435455),(1,28,31,536870911),(1,29,32,1073741823),(1,30,33,2147483647),(1,31,34,4294967295),(1,32,35,8589934591),(0,33,36,17179869183),(0,34,2,34359738367)]
   iterate 35 (first|(refine pq_ Q_ ?_;replace Q_:=qt_ Q_)|(refine uq_ Q_ ?_;replace Q_:=qt_ Q_)|(refine tq_ Q_ hHeld ?_;replace Q_:=qt_ Q_))
   clear Q_
   refine done_ (done_of HT_.out (by kernel_rfl)) ?_
   try go_wp2
   go_ret
   exact⟨ew_,hb_ HB⟩
 ·rw[if_neg c2] at H
  have c2b0:=zY c2
  clear c2
  obtain rfl:=zW H
  go_enter Try.func32,Try.ntmps32
  try go_wp2_with (first|((with_reducible refine gate_dst (N:=1) rfl ?_);(try(refine gate_guard (by rfl) ?_;dsimp only));refine be_ (N:=1) (cs:=#[.int .i64 a0_0,.int .i64 a0_1,.slice A0_2 l0_2.length c0_2]) (t:=24) ?_;intro gb129 hg w22 hbox hb;have BK129:=zB hbox;have GW129:=gw_ hg HB;have GE129:=GW129;replace HB:=zB (zQ HB.out hb);clear hb hbox hg))
  replace BK129:=zB (zX BK129.out)
  replace HB:=zB (zG HB.out)
  refine start_ (n:=35) (S:=fun w'=>c_ w' gb129 0 (.int .i64 a0_0)∧c_ w' gb129 1 (.int .i64 a0_1)∧c_ w' gb129 2 (.slice A0_2 l0_2.length c0_2)) (ds:=[]) (bt_ 0 35) (by kernel_rfl) rfl rfl ⟨bc_ BK129 0,bc_ BK129 1,bc_ BK129 2⟩ (fun hHeld=>?_);refine with_tabW board_Is.tab1 board_Is.bits1 (fun HT_ HW_=>?_)
  generalize w22.drew=w23 at BK129 HB hHeld⊢
  have Q_:=Qs.mk (n:=35) [(0,0,3,1),(2,1,4,3),(0,2,5,7),(0,3,6,15),(1,4,7,31),(1,5,8,63),(1,6,9,127),(0,7,10,255),(0,8,11,511),(1,9,12,1023),(1,10,13,2047),(1,11,14,4095),(0,12,15,8191),(0,13,16,16383),(1,14,17,32767),(1,15,18,65535),(1,16,19,131071),(0,17,20,262143),(0,18,21,524287),(1,19,22,1048575),(1,20,23,2097151),(1,21,24,4194303),(1,22,25,8388607),(1,23,26,16777215),(1,24,27,33554431),(0,25,28,67108863),(0,26,29,134217727),(1,27,30,268435455),(1,28,31,536870911),(1,29,32,1073741823),(1,30,33,2147483647),(1,31,34,4294967295),(1,32,35,8589934591),(0,33,36,17179869183),(0,34,2,34359738367)]
  iterate 35 (first|(refine pq_ Q_ ?_;replace Q_:=qt_ Q_)|(refine uq_ Q_ ?_;replace Q_:=qt_ Q_)|(refine tq_ Q_ hHeld ?_;replace Q_:=qt_ Q_))
  clear Q_
  refine done_ (done_of HT_.out (by kernel_rfl)) ?_
  try go_wp2
  go_ret
  exact⟨ew_,hb_ HB⟩
structure KpV (m B:Nat) (W W':World):Prop where
  bel:Below m W W'
  one: ∀o,W.heap[B]?=some o→W'.heap[B]?=some o
theorem KpV.t {m B:Nat} {X Y Z:World} (h:KpV m B X Y) (k:KpV m B Y Z):KpV m B X Z:=⟨h.bel.trans k.bel,fun o ho=>k.one o (h.one o ho)⟩
theorem KpV.b {m B:Nat} {w:World} (hm:m≤w.heap.size) (hB:B<w.heap.size) (W:World) (l:Nat) (o o':Obj) (hl:w.heap.size≤l) (h:W.heap[l]?=some o) (h1:o.isCells=false) (h2:o.isWalk=false):KpV m B W (W.putObj l o'):=
  ⟨belowK_b hm W l o o' hl h h1 h2,fun x hx=>(World.putObj_heap_other (by omega)).trans hx⟩
theorem take_fin {n:Nat} (k:Nat) (hk:k<n):(List.finRange n).take (k+1)=(List.finRange n).take k++[⟨k,hk⟩]:=by
  rw[List.take_add_one,List.getElem?_eq_getElem (by simpa using hk)];simp
theorem take_fin_lt {n:Nat} (k:Nat) (hk:k<n):((List.finRange n).take k).length<n:=by
  rw[zP,List.length_finRange];omega
theorem values_Turn.calls (A:Option Addr) (n c:Nat) (w:World):
    Calls Try.prog 78 #[.slice A n c] w fun e w'=>e=.returned (.func (.func 98) #[] #[.pointer (some ⟨w.heap.size,0,none⟩)])∧w'=w.alloc (.cells #[.slice A n c] 53):=by
  go_enter Try.func78,Try.ntmps78
  go_wp2
  go_ret
  exact⟨rfl,rfl⟩
section
attribute [local go_sem] Oper.semAt_some
set_option maxRecDepth 100000 in
set_option maxHeartbeats 2000000 in
theorem values1_Turn.stops (n:Nat) (hn:1≤n) (A:Option Addr) (c:Nat) (l:List S65) (w0 w:World) (B:Nat) (hr:Kd.C k65 w0 A l.length l) (hw:Below w0.heap.size w0 w)
    (hB:w.heap[B]?=some (.cells #[.slice A l.length c] 53 (0,0))):
    SeqStopsK Fence.wide n Try.prog 98 #[.pointer (some ⟨B,0,none⟩)] (fun i:Fin l.length=>#[Value.agg #[.int .i64 (rd_T65 l (i.1:Int)).f0,.int .i64 (rd_T65 l (i.1:Int)).f1.f0,.int .i64 (rd_T65 l (i.1:Int)).f1.f1,.int .i64 (rd_T65 l (i.1:Int)).f2]]) (KpV w0.heap.size B) (fun xs=>xs=List.finRange l.length) (fun _=>True) l.length w:=fun y J Jx W hW hJ hJx hY h0=>by
  have hu2:=Try.underlying65
  have hbig:=hr.2.1
  have HR:=zB hr
  have HJ:=zB hJ
  have HY:=zB hY
  have h0':J ((List.finRange l.length).take 0) W:=by rw[List.take_zero];exact h0
  have BKB:=zB (blk_below hB hW)
  have HB:=zB (hw.trans (hW.mono hw.size):Below w0.heap.size w0 W)
  clear hr hJ hY h0 hB hw hW
  have hcB:W.cell? ⟨B,0,none⟩=some (.slice A l.length c):=(zD BKB.out 0).trans rfl
  refine callsIn_of_wp Try.func98 rfl trivial ?_ rfl
  simp only[Try.ntmps98,List.size_toArray,List.length_cons,List.length_nil,Nat.reduceAdd,Nat.reduceSub,Array.replicate_succ,Array.replicate_zero,List.push_toArray,List.append_toArray,List.nil_append,List.cons_append]
  gi_wp2
  gi_loopw [7] (fun i wr=> ∃k:Nat,k≤l.length∧i=.int .i64 k∧Aside0 (J ((List.finRange l.length).take k) wr)∧Aside0 (Below w0.heap.size w0 wr)∧Aside0 (W.heap.size≤wr.heap.size)∧Aside0 (wr.heap[B]?=some (.cells #[.slice A l.length c] 53 (0,0)))) (fun i _=>l.length-(intOf i).toNat)
  case atStart=>exact⟨0,Nat.zero_le _,rfl,⟨h0'⟩,HB,⟨za _⟩,BKB⟩
  case round=>
    clear hcB HB BKB h0'
    obtain⟨k,hk,rfl,HJr,HB,HS,BKB⟩:=hrel
    by_cases hlt:k<l.length
    · have hltz:(k:Int)<(l.length:Int):=by omega
      obtain⟨ad,e0,hx0,hx1,hx2,hx3⟩:=at_T65 (Kd.C_below HR.out HB.out) (k:Int) (by omega) hltz
      cases e0
      simp only[Int.toNat_natCast] at hx0 hx1 hx2 hx3
      have PS:=zB (take_fin k hlt)
      obtain⟨x0,h0_⟩: ∃z,(rd_T65 l (k:Int)).f0=z:=⟨_,rfl⟩
      obtain⟨x1,h1_⟩: ∃z,(rd_T65 l (k:Int)).f1.f0=z:=⟨_,rfl⟩
      obtain⟨x2,h2_⟩: ∃z,(rd_T65 l (k:Int)).f1.f1=z:=⟨_,rfl⟩
      obtain⟨x3,h3_⟩: ∃z,(rd_T65 l (k:Int)).f2=z:=⟨_,rfl⟩
      rw[h0_] at hx0
      rw[h1_] at hx1
      rw[h2_] at hx2
      rw[h3_] at hx3
      have hJ2:=HJ.out _ _ (wr.alloc (.cells #[.int .i64 x0,.int .i64 x1,.int .i64 x2,.int .i64 x3] 65)) none HJr.out (World.grownBy_alloc wr _ none) (fun r e=>by cases e)
      have hbl:=below_alloc (Below.refl _ wr) (.cells #[.int .i64 x0,.int .i64 x1,.int .i64 x2,.int .i64 x3] 65)
      obtain⟨fn,tmps,assign,body,hy,hR⟩:=HY.out _ ⟨k,hlt⟩ _ hJ2 (take_fin_lt _ hlt)
      dsimp only at hy
      rw[h0_,h1_,h2_,h3_] at hy
      have HR2:=zB hR
      have HB2:=zB (below_then HB.out HB.out.size hbl)
      have BB2:=zB (blk_below BKB.out hbl)
      have HS2:=zB (Nat.le_trans HS.out hbl.size)
      clear hJ2 hbl hR h0_ h1_ h2_ h3_
      gi_wp2
      refine HR2.out.mono ?_
      rintro e W3 (⟨rfl,hJ3,hk3⟩|⟨rfl,hJx3⟩)
      · have N1:=zB hJ3
        have N2:=zB (HB2.out.trans hk3.bel)
        have N3:=zB (hk3.one _ BB2.out)
        have N5:=zB (Nat.le_trans HS2.out hk3.bel.size)
        clear hJ3 hk3
        gi_wp2
        go_roundw
        case rel=>exact⟨k+1,by omega,by go_num,⟨by rw[PS.out];exact N1.out⟩,N2,N5,N3⟩
        case measure=>simp[intOf];omega
      · gi_wp2
        refine bodyPost_ret (results_none rfl _ _ _) rfl ?_
        exact⟨⟨_,rfl⟩,.inr ⟨_,trivial,hJx3⟩⟩
    · gi_wp2
      go_end0
      obtain rfl:k=l.length:=by omega
      exact⟨⟨_,rfl⟩,.inl ⟨_,by rw[List.take_of_length_le (by rw[List.length_finRange];exact za _)],HJr.out⟩⟩
end
def wtP (x:S28):Bool:=x.f1==1||x.f1==4
def wplaces (l:List S28) (k:Nat):List (Fin l.length):=((List.finRange l.length).take k).filter (fun i=>wtP l[i])
theorem wplaces_zero (l:List S28):wplaces l 0=[]:=rfl
theorem wplaces_succ (l:List S28) (k:Nat) (hk:k<l.length):wplaces l (k+1)=wplaces l k++(if wtP l[k]=true then[⟨k,hk⟩] else[]):=by
  unfold wplaces
  rw[List.take_add_one,List.filter_append]
  congr 1
  rw[List.getElem?_eq_getElem (by simpa using hk)]
  simp[List.filter_cons]
theorem wplaces_lt (l:List S28) (k:Nat) (hk:k<l.length):(wplaces l k).length<l.length:=by
  unfold wplaces
  refine Nat.lt_of_le_of_lt (List.length_filter_le _ _) ?_
  rw[zP,List.length_finRange];omega
theorem wplaces_all (l:List S28):(wplaces l l.length).map (fun i=>l[i])=l.filter wtP:=by
  have key: ∀k,k≤l.length→(wplaces l k).map (fun i=>l[i])=(l.take k).filter wtP:=by
    intro k
    induction k with
    |zero=>intro _;rw[wplaces_zero];rfl
    | succ k ih=>
      intro hk
      rw[wplaces_succ l k (by omega),List.map_append,ih (by omega),List.take_succ_eq_append_getElem (by omega),List.filter_append]
      congr 1
      by_cases h:wtP l[k]=true
      · rw[if_pos h];simp[List.filter_cons,h]
      · rw[if_neg h];simp[List.filter_cons,h]
  rw[key _ (za _),List.take_length]
theorem ringing_waits.calls (x0 x1 x2 x3 x4 x5:Int) (w:World):
    Calls Try.prog 125 #[.agg #[.int .i64 x0,.int .i64 x1,.int .i64 x2,.int .i64 x3,.int .i64 x4,.int .i64 x5]] w fun e w'=>e=.returned (.bool (x2==1||x2==4))∧w'=w.alloc (.cells #[.int .i64 x0,.int .i64 x1,.int .i64 x2,.int .i64 x3,.int .i64 x4,.int .i64 x5] 110):=by
  have hu:=Try.underlying110
  by_cases h1:x2=1
  · subst h1
    go_enter Try.func125,Try.ntmps125
    go_wp2
    go_ret
    exact⟨rfl,rfl⟩
  · have h1b:(x2==1)=false:=beq_eq_false_iff_ne.2 h1
    have h1d:decide (x2=1)=false:=zY h1
    go_enter Try.func125,Try.ntmps125
    go_wp2
    go_ret
    exact⟨by simp[h1b],rfl⟩
theorem waits_method (x:Value) (W:World):(method 250 110 x "watchman/due.waits").run Try.prog W=.ok (125,x) W:=by kernel_rfl
theorem due_waiting.calls (A:Option Addr) (n c:Nat) (w:World):
    Calls Try.prog 69 #[.slice A n c] w fun e w'=>e=.returned (.func (.func 91) #[] #[.pointer (some ⟨w.heap.size,0,none⟩)])∧w'=w.alloc (.cells #[.slice A n c] 22):=by
  go_enter Try.func69,Try.ntmps69
  go_wp2
  go_ret
  exact⟨rfl,rfl⟩
section
attribute [local go_sem] Oper.semAt_some
set_option maxRecDepth 100000 in
set_option maxHeartbeats 4000000 in
theorem waiting1.stops (n:Nat) (hn:1≤n) (A:Option Addr) (c:Nat) (l:List S28) (w0 w:World) (B:Nat) (hr:Kd.C k28 w0 A l.length l) (hw:Below w0.heap.size w0 w)
    (hB:w.heap[B]?=some (.cells #[.slice A l.length c] 22 (0,0))):
    SeqStopsK Fence.wide n Try.prog 91 #[.pointer (some ⟨B,0,none⟩)] (fun i:Fin l.length=>#[Value.agg #[.int .i64 (rd_T28 l (i.1:Int)).f0.f0,.int .i64 (rd_T28 l (i.1:Int)).f0.f1,.int .i64 (rd_T28 l (i.1:Int)).f1,.int .i64 (rd_T28 l (i.1:Int)).f2,.int .i64 (rd_T28 l (i.1:Int)).f3,.int .i64 (rd_T28 l (i.1:Int)).f4]]) (KpV w0.heap.size B) (fun xs=>xs=wplaces l l.length) (fun _=>True) l.length w:=fun y J Jx W hW hJ hJx hY h0=>by
  have hu:=Try.underlying110
  have hu2:=Try.underlying28
  have hbig:=hr.2.1
  have HR:=zB hr
  have HJ:=zB hJ
  have HY:=zB hY
  have h0':J (wplaces l 0) W:=h0
  have BKB:=zB (blk_below hB hW)
  have HB:=zB (hw.trans (hW.mono hw.size):Below w0.heap.size w0 W)
  clear hr hJ hY h0 hB hw hW
  have hcB:W.cell? ⟨B,0,none⟩=some (.slice A l.length c):=(zD BKB.out 0).trans rfl
  refine callsIn_of_wp Try.func91 rfl trivial ?_ rfl
  simp only[Try.ntmps91,List.size_toArray,List.length_cons,List.length_nil,Nat.reduceAdd,Nat.reduceSub,Array.replicate_succ,Array.replicate_zero,List.push_toArray,List.append_toArray,List.nil_append,List.cons_append]
  gi_wp2
  gi_loopw [8] (fun i wr=> ∃k:Nat,k≤l.length∧i=.int .i64 k∧Aside0 (J (wplaces l k) wr)∧Aside0 (Below w0.heap.size w0 wr)∧Aside0 (W.heap.size≤wr.heap.size)∧Aside0 (wr.heap[B]?=some (.cells #[.slice A l.length c] 22 (0,0)))) (fun i _=>l.length-(intOf i).toNat)
  case atStart=>exact⟨0,Nat.zero_le _,rfl,⟨h0'⟩,HB,⟨za _⟩,BKB⟩
  case round=>
    clear hcB HB BKB h0'
    obtain⟨k,hk,rfl,HJr,HB,HS,BKB⟩:=hrel
    by_cases hlt:k<l.length
    · have hltz:(k:Int)<(l.length:Int):=by omega
      obtain⟨ad,e0,hx0,hx1,hx2,hx3,hx4,hx5⟩:=at_T28 (Kd.C_below HR.out HB.out) (k:Int) (by omega) hltz
      cases e0
      simp only[Int.toNat_natCast] at hx0 hx1 hx2 hx3 hx4 hx5
      have hrd:rd_T28 l (k:Int)=l[k]:=by simp[rd_T28,List.getD_eq_getElem?_getD,List.getElem?_eq_getElem hlt]
      have hps:=wplaces_succ l k hlt
      rw[←hrd] at hps
      obtain⟨y_,hy_⟩: ∃y_,rd_T28 l (k:Int)=y_:=⟨_,rfl⟩
      rw[hy_] at hx0 hx1 hx2 hx3 hx4 hx5 hps
      obtain⟨⟨x0,x1⟩,x2,x3,x4,x5⟩:=y_
      dsimp only at hx0 hx1 hx2 hx3 hx4 hx5
      have HY_:=zB hy_
      clear hrd hy_
      obtain⟨W2,hW2⟩: ∃W2,(wr.alloc (.cells #[.int .i64 x0,.int .i64 x1,.int .i64 x2,.int .i64 x3,.int .i64 x4,.int .i64 x5] 28)).alloc (.cells #[.int .i64 x0,.int .i64 x1,.int .i64 x2,.int .i64 x3,.int .i64 x4,.int .i64 x5] 110)=W2:=⟨_,rfl⟩
      have hg2:Below wr.heap.size wr W2:=by rw[←hW2];exact below_alloc (below_alloc (Below.refl _ _) _) _
      have hJ2:J (wplaces l k) W2:=by
        rw[←hW2]
        exact HJ.out _ _ _ none (HJ.out _ _ (wr.alloc (.cells #[.int .i64 x0,.int .i64 x1,.int .i64 x2,.int .i64 x3,.int .i64 x4,.int .i64 x5] 28)) none HJr.out (World.grownBy_alloc wr _ none) (fun r e=>by cases e)) (World.grownBy_alloc _ _ none) (fun r e=>by cases e)
      have hb4:W2.heap[wr.heap.size]?=some (.cells #[.int .i64 x0,.int .i64 x1,.int .i64 x2,.int .i64 x3,.int .i64 x4,.int .i64 x5] 28 (0,0)):=by rw[←hW2];exact blk_below (blk_new wr _) (below_alloc (Below.refl _ _) _)
      have HJ2:=zB hJ2
      have HB2:=zB (below_then HB.out HB.out.size hg2)
      have BB2:=zB (blk_below BKB.out hg2)
      have HS2:=zB (Nat.le_trans HS.out hg2.size)
      have B4:=zB hb4
      have PS:=zB hps
      clear hJ2 hg2 hb4 hps
      have hm:=waits_method (.agg #[.int .i64 x0,.int .i64 x1,.int .i64 x2,.int .i64 x3,.int .i64 x4,.int .i64 x5])
      have hfa: ∀f,Fence.wide.fn f:=fun _=>trivial
      by_cases ht:(x2==1||x2==4)=true
      · have HT_:=zB ht
        have e1:wtP (⟨⟨x0,x1⟩,x2,x3,x4,x5⟩:S28)=true:=ht
        have PS2:=zB (PS.out.trans (by rw[if_pos e1]))
        obtain⟨fn,tmps,assign,body,hy,hR⟩:=HY.out _ ⟨k,hlt⟩ _ HJ2.out (wplaces_lt _ _ hlt)
        dsimp only at hy
        rw[HY_.out] at hy
        have HR2:=zB hR
        have hc0:=(zD B4.out 0).trans rfl;have hc1:=(zD B4.out 1).trans rfl;have hc2:=(zD B4.out 2).trans rfl;have hc3:=(zD B4.out 3).trans rfl;have hc4:=(zD B4.out 4).trans rfl;have hc5:=(zD B4.out 5).trans rfl
        clear hR ht e1
        gi_wp2_with (gi_at_call 125;refine(callsIn_wide.2 (ringing_waits.calls x0 x1 x2 x3 x4 x5 _)).mono ?_;rintro e w' ⟨rfl,rfl⟩;rw[hW2,HT_.out])
        refine HR2.out.mono ?_
        rintro e W3 (⟨rfl,hJ3,hk3⟩|⟨rfl,hJx3⟩)
        · have N1:=zB hJ3
          have N2:=zB (HB2.out.trans hk3.bel)
          have N3:=zB (hk3.one _ BB2.out)
          have N5:=zB (Nat.le_trans HS2.out hk3.bel.size)
          clear hJ3 hk3
          gi_wp2
          go_roundw
          case rel=>exact⟨k+1,by omega,by go_num,⟨by rw[PS2.out];exact N1.out⟩,N2,N5,N3⟩
          case measure=>simp[intOf];omega
        · gi_wp2
          refine bodyPost_ret (results_none rfl _ _ _) rfl ?_
          exact⟨⟨_,rfl⟩,.inr ⟨_,trivial,hJx3⟩⟩
      · replace ht:=zb ht
        have HT_:=zB ht
        have e1: ¬wtP (⟨⟨x0,x1⟩,x2,x3,x4,x5⟩:S28)=true:=fun h=>by rw[show wtP (⟨⟨x0,x1⟩,x2,x3,x4,x5⟩:S28)=(x2==1||x2==4) from rfl,ht] at h;cases h
        have PS2:=zB (PS.out.trans (by rw[if_neg e1,List.append_nil]))
        clear ht e1
        gi_wp2_with (gi_at_call 125;refine(callsIn_wide.2 (ringing_waits.calls x0 x1 x2 x3 x4 x5 _)).mono ?_;rintro e w' ⟨rfl,rfl⟩;rw[hW2,HT_.out])
        go_roundw
        case rel=>exact⟨k+1,by omega,by go_num,⟨by rw[PS2.out];exact HJ2.out⟩,HB2,HS2,BB2⟩
        case measure=>simp[intOf];omega
    · gi_wp2
      go_end0
      obtain rfl:k=l.length:=by omega
      exact⟨⟨_,rfl⟩,.inl ⟨_,rfl,HJr.out⟩⟩
end
def alarm_timed_due.f (a0_0:Int) (a0_1:Int) (a0_2:Int) (a0_3:Int) (a0_4:Int) (a0_5:Int) (a1:Int):Option (Bool):=if a0_2=1 then(some (decide (a0_5≤a1))) else(if a0_2=4 then(some (decide (a0_5≤a1))) else(some false))
set_option maxHeartbeats 8000000 in
set_option maxRecDepth 100000 in
theorem alarm_timed_due.calls (a0_0:Int) (a0_1:Int) (a0_2:Int) (a0_3:Int) (a0_4:Int) (a0_5:Int) (a1:Int) (r:Bool) (w:World) (h:alarm_timed_due.f a0_0 a0_1 a0_2 a0_3 a0_4 a0_5 a1=some r):
  Calls Try.prog 66 #[.agg #[.int .i64 a0_0,.int .i64 a0_1,.int .i64 a0_2,.int .i64 a0_3,.int .i64 a0_4,.int .i64 a0_5],.int .i64 a1] w fun e w'=>e=.returned (.bool r)∧Below w.heap.size w w':=by
 have hu87:=Try.underlying87
 have HB:=zB (Below.refl w.heap.size w)
 have H:(if a0_2=1 then(some (decide (a0_5≤a1))) else(if a0_2=4 then(some (decide (a0_5≤a1))) else(some false)))=some r:=h
 clear h
 by_cases c3:a0_2=1
 ·rw[if_pos c3] at H
  have c3b0:=beq_iff_eq.mpr c3
  have c3b1:=bne_eq_false_iff_eq.mpr c3
  clear c3
  obtain rfl:=zW H
  go_enter Try.func66,Try.ntmps66
  go_wp2_with (first|((with_reducible refine gate_dst (N:=2) rfl ?_);refine be_ (N:=2) (cs:=#[.int .i64 a0_0,.int .i64 a0_1,.int .i64 a0_2,.int .i64 a0_3,.int .i64 a0_4,.int .i64 a0_5]) (t:=87) ?_;intro gb139 hg w4 hbox hb;have BK139:=zB hbox;have GW139:=gw_ hg HB;have GE139:=GW139;replace HB:=zB (zQ HB.out hb);clear hb hbox hg;have hcz5:=zD BK139.out;have hfz5:=zC BK139.out))
  go_ret
  exact⟨ew_,hb_ HB⟩
 ·rw[if_neg c3] at H
  have c3b0:=beq_eq_false_iff_ne.mpr c3
  have c3b1:=bne_iff_ne.mpr c3
  by_cases c6:a0_2=4
  ·rw[if_pos c6] at H
   have c6b0:=beq_iff_eq.mpr c6
   have c6b1:=bne_eq_false_iff_eq.mpr c6
   clear c6
   obtain rfl:=zW H
   go_enter Try.func66,Try.ntmps66
   go_wp2_with (first|((with_reducible refine gate_dst (N:=2) rfl ?_);refine be_ (N:=2) (cs:=#[.int .i64 a0_0,.int .i64 a0_1,.int .i64 a0_2,.int .i64 a0_3,.int .i64 a0_4,.int .i64 a0_5]) (t:=87) ?_;intro gb139 hg w7 hbox hb;have BK139:=zB hbox;have GW139:=gw_ hg HB;have GE139:=GW139;replace HB:=zB (zQ HB.out hb);clear hb hbox hg;have hcz8:=zD BK139.out;have hfz8:=zC BK139.out))
   go_ret
   exact⟨ew_,hb_ HB⟩
  ·rw[if_neg c6] at H
   have c6b0:=beq_eq_false_iff_ne.mpr c6
   have c6b1:=bne_iff_ne.mpr c6
   obtain rfl:=zW H
   go_enter Try.func66,Try.ntmps66
   go_wp2_with (first|((with_reducible refine gate_dst (N:=2) rfl ?_);refine be_ (N:=2) (cs:=#[.int .i64 a0_0,.int .i64 a0_1,.int .i64 a0_2,.int .i64 a0_3,.int .i64 a0_4,.int .i64 a0_5]) (t:=87) ?_;intro gb139 hg w9 hbox hb;have BK139:=zB hbox;have GW139:=gw_ hg HB;have GE139:=GW139;replace HB:=zB (zQ HB.out hb);clear hb hbox hg;have hcz10:=zD BK139.out;have hfz10:=zC BK139.out))
   go_ret
   exact⟨ew_,hb_ HB⟩
end Go.Proofs.Ytcfpbmdndapeaaa.F
