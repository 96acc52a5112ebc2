-- Written by a program of this session (xprint.py), out of the translation and of contracts proved by hand.
import Derived.Test.YtcfpbmdndapeaaaF0
import Derived.Test.YtcfpbmdndapeaaaF15
namespace Go.Proofs.Ytcfpbmdndapeaaa.F
open Go.RowKit Go.Proofs.YtcfpbmdndapeaaaV.PrintWords Go.Proofs.YtcfpbmdndapeaaaV.PrintLast Go.Proofs.YtcfpbmdndapeaaaV.PrintMore
attribute [local go_sem] max2_int min2_int max_two min_two max_three min_three max_four min_four
set_option linter.unusedVariables false
set_option linter.unusedSimpArgs false
def watchmanref06_Is.f (a0_0:Int) (a0_1:Int) (a0_2:Int) (a0_3:Int) (a0_4:Int) (a0_5:Int):Option (Bool):=(watchmanref04_Is.f a0_0 a0_1).bind fun t235=>(if t235=true then(if a0_2≥1 then(if a0_2≤4 then(if a0_3≥1 then(if a0_3≤3 then((watchmanref06_time.f a0_4).bind fun t236=>(if t236=true then(if a0_5≥a0_4 then(some (decide (a0_5≤1000002000))) else(some false)) else(some false))) else(some false)) else(some false)) else(some false)) else(some false)) else(some false))
set_option maxHeartbeats 8000000 in
set_option maxRecDepth 100000 in
theorem watchmanref06_Is.calls (a0_0:Int) (a0_1:Int) (a0_2:Int) (a0_3:Int) (a0_4:Int) (a0_5:Int) (r:Bool) (w:World) (h:watchmanref06_Is.f a0_0 a0_1 a0_2 a0_3 a0_4 a0_5=some r):
  Calls Try.prog 55 #[.agg #[.int .i64 a0_0,.int .i64 a0_1,.int .i64 a0_2,.int .i64 a0_3,.int .i64 a0_4,.int .i64 a0_5]] w fun e w'=>e=.returned (.bool r)∧Below w.heap.size w w':=by
 have hu28:=Try.underlying28
 have hu26:=Try.underlying26
 have HB:=zB (Below.refl w.heap.size w)
 have H:((watchmanref04_Is.f a0_0 a0_1).bind fun t235=>(if t235=true then(if a0_2≥1 then(if a0_2≤4 then(if a0_3≥1 then(if a0_3≤3 then((watchmanref06_time.f a0_4).bind fun t236=>(if t236=true then(if a0_5≥a0_4 then(some (decide (a0_5≤1000002000))) else(some false)) else(some false))) else(some false)) else(some false)) else(some false)) else(some false)) else(some false)))=some r:=h
 clear h
 replace H:=zL H
 obtain⟨t235,A20,H⟩:=H
 try dsimp only at H
 have A2:=zB A20
 clear A20
 by_cases c3:t235=true
 ·subst c3
  rw[if_pos rfl] at H;try dsimp only at H
  by_cases c4:a0_2≥1
  ·rw[if_pos c4] at H
   have c4b0:=zO c4
   clear c4
   by_cases c5:a0_2≤4
   ·rw[if_pos c5] at H
    have c5b0:=zO c5
    clear c5
    by_cases c6:a0_3≥1
    ·rw[if_pos c6] at H
     have c6b0:=zO c6
     clear c6
     by_cases c7:a0_3≤3
     ·rw[if_pos c7] at H
      have c7b0:=zO c7
      clear c7
      replace H:=zL H
      obtain⟨t236,A80,H⟩:=H
      try dsimp only at H
      have A8:=zB A80
      clear A80
      by_cases c9:t236=true
      ·subst c9
       rw[if_pos rfl] at H;try dsimp only at H
       by_cases c10:a0_5≥a0_4
       ·rw[if_pos c10] at H
        have c10b0:=zO c10
        clear c10
        obtain rfl:=zW H
        go_enter Try.func55,Try.ntmps55
        go_wp2_with (first|((with_reducible refine gate_dst (N:=1) rfl ?_);refine be_ (N:=1) (cs:=#[.int .i64 a0_0,.int .i64 a0_1,.int .i64 a0_2,.int .i64 a0_3,.int .i64 a0_4,.int .i64 a0_5]) (t:=28) ?_;intro gb234 hg w11 hbox hb;have BK234:=zB hbox;have GW234:=gw_ hg HB;have GE234:=GW234;replace HB:=zB (zQ HB.out hb);clear hb hbox hg;have hcz12:=zD BK234.out;have hfz12:=zC BK234.out)|((with_reducible refine gate_callee (f:=86) rfl ?_);refine gl_ (some 5) Try.func86 #[.agg #[.int .i64 a0_0,.int .i64 a0_1]] rfl ?_;(with_reducible refine(watchmanref04_Is.calls a0_0 a0_1 true _ A2.out).mono ?_);rintro e w13 ⟨rfl,hb⟩;refine⟨_,rfl,?_⟩;replace BK234:=bl_ BK234 hb;replace HB:=zB (zQ (hb_ HB) hb);(try clear hb);(try clear hb2);(try clear hk);(try clear hi);have hcz14:=zD BK234.out;have hfz14:=zC BK234.out)|(go_at_call 87;(with_reducible refine(watchmanref06_time.calls a0_4 true _ A8.out).mono ?_);rintro e w' ⟨rfl,⟨nd,rfl⟩⟩))
        go_ret
        exact⟨ew_,hb_ HB⟩
       ·rw[if_neg c10] at H
        have c10b0:=zY c10
        clear c10
        obtain rfl:=zW H
        go_enter Try.func55,Try.ntmps55
        go_wp2_with (first|((with_reducible refine gate_dst (N:=1) rfl ?_);refine be_ (N:=1) (cs:=#[.int .i64 a0_0,.int .i64 a0_1,.int .i64 a0_2,.int .i64 a0_3,.int .i64 a0_4,.int .i64 a0_5]) (t:=28) ?_;intro gb234 hg w15 hbox hb;have BK234:=zB hbox;have GW234:=gw_ hg HB;have GE234:=GW234;replace HB:=zB (zQ HB.out hb);clear hb hbox hg;have hcz16:=zD BK234.out;have hfz16:=zC BK234.out)|((with_reducible refine gate_callee (f:=86) rfl ?_);refine gl_ (some 5) Try.func86 #[.agg #[.int .i64 a0_0,.int .i64 a0_1]] rfl ?_;(with_reducible refine(watchmanref04_Is.calls a0_0 a0_1 true _ A2.out).mono ?_);rintro e w17 ⟨rfl,hb⟩;refine⟨_,rfl,?_⟩;replace BK234:=bl_ BK234 hb;replace HB:=zB (zQ (hb_ HB) hb);(try clear hb);(try clear hb2);(try clear hk);(try clear hi);have hcz18:=zD BK234.out;have hfz18:=zC BK234.out)|(go_at_call 87;(with_reducible refine(watchmanref06_time.calls a0_4 true _ A8.out).mono ?_);rintro e w' ⟨rfl,⟨nd,rfl⟩⟩))
        go_ret
        exact⟨ew_,hb_ HB⟩
      ·replace c9:=zb c9
       subst c9
       rw[if_neg (show ¬(false=true) by decide)] at H;try dsimp only at H
       obtain rfl:=zW H
       go_enter Try.func55,Try.ntmps55
       go_wp2_with (first|((with_reducible refine gate_dst (N:=1) rfl ?_);refine be_ (N:=1) (cs:=#[.int .i64 a0_0,.int .i64 a0_1,.int .i64 a0_2,.int .i64 a0_3,.int .i64 a0_4,.int .i64 a0_5]) (t:=28) ?_;intro gb234 hg w19 hbox hb;have BK234:=zB hbox;have GW234:=gw_ hg HB;have GE234:=GW234;replace HB:=zB (zQ HB.out hb);clear hb hbox hg;have hcz20:=zD BK234.out;have hfz20:=zC BK234.out)|((with_reducible refine gate_callee (f:=86) rfl ?_);refine gl_ (some 5) Try.func86 #[.agg #[.int .i64 a0_0,.int .i64 a0_1]] rfl ?_;(with_reducible refine(watchmanref04_Is.calls a0_0 a0_1 true _ A2.out).mono ?_);rintro e w21 ⟨rfl,hb⟩;refine⟨_,rfl,?_⟩;replace BK234:=bl_ BK234 hb;replace HB:=zB (zQ (hb_ HB) hb);(try clear hb);(try clear hb2);(try clear hk);(try clear hi);have hcz22:=zD BK234.out;have hfz22:=zC BK234.out)|(go_at_call 87;(with_reducible refine(watchmanref06_time.calls a0_4 false _ A8.out).mono ?_);rintro e w' ⟨rfl,⟨nd,rfl⟩⟩))
       go_ret
       exact⟨ew_,hb_ HB⟩
     ·rw[if_neg c7] at H
      have c7b0:=zY c7
      clear c7
      obtain rfl:=zW H
      go_enter Try.func55,Try.ntmps55
      go_wp2_with (first|((with_reducible refine gate_dst (N:=1) rfl ?_);refine be_ (N:=1) (cs:=#[.int .i64 a0_0,.int .i64 a0_1,.int .i64 a0_2,.int .i64 a0_3,.int .i64 a0_4,.int .i64 a0_5]) (t:=28) ?_;intro gb234 hg w23 hbox hb;have BK234:=zB hbox;have GW234:=gw_ hg HB;have GE234:=GW234;replace HB:=zB (zQ HB.out hb);clear hb hbox hg;have hcz24:=zD BK234.out;have hfz24:=zC BK234.out)|((with_reducible refine gate_callee (f:=86) rfl ?_);refine gl_ (some 5) Try.func86 #[.agg #[.int .i64 a0_0,.int .i64 a0_1]] rfl ?_;(with_reducible refine(watchmanref04_Is.calls a0_0 a0_1 true _ A2.out).mono ?_);rintro e w25 ⟨rfl,hb⟩;refine⟨_,rfl,?_⟩;replace BK234:=bl_ BK234 hb;replace HB:=zB (zQ (hb_ HB) hb);(try clear hb);(try clear hb2);(try clear hk);(try clear hi);have hcz26:=zD BK234.out;have hfz26:=zC BK234.out))
      go_ret
      exact⟨ew_,hb_ HB⟩
    ·rw[if_neg c6] at H
     have c6b0:=zY c6
     clear c6
     obtain rfl:=zW H
     go_enter Try.func55,Try.ntmps55
     go_wp2_with (first|((with_reducible refine gate_dst (N:=1) rfl ?_);refine be_ (N:=1) (cs:=#[.int .i64 a0_0,.int .i64 a0_1,.int .i64 a0_2,.int .i64 a0_3,.int .i64 a0_4,.int .i64 a0_5]) (t:=28) ?_;intro gb234 hg w27 hbox hb;have BK234:=zB hbox;have GW234:=gw_ hg HB;have GE234:=GW234;replace HB:=zB (zQ HB.out hb);clear hb hbox hg;have hcz28:=zD BK234.out;have hfz28:=zC BK234.out)|((with_reducible refine gate_callee (f:=86) rfl ?_);refine gl_ (some 5) Try.func86 #[.agg #[.int .i64 a0_0,.int .i64 a0_1]] rfl ?_;(with_reducible refine(watchmanref04_Is.calls a0_0 a0_1 true _ A2.out).mono ?_);rintro e w29 ⟨rfl,hb⟩;refine⟨_,rfl,?_⟩;replace BK234:=bl_ BK234 hb;replace HB:=zB (zQ (hb_ HB) hb);(try clear hb);(try clear hb2);(try clear hk);(try clear hi);have hcz30:=zD BK234.out;have hfz30:=zC BK234.out))
     go_ret
     exact⟨ew_,hb_ HB⟩
   ·rw[if_neg c5] at H
    have c5b0:=zY c5
    clear c5
    obtain rfl:=zW H
    go_enter Try.func55,Try.ntmps55
    go_wp2_with (first|((with_reducible refine gate_dst (N:=1) rfl ?_);refine be_ (N:=1) (cs:=#[.int .i64 a0_0,.int .i64 a0_1,.int .i64 a0_2,.int .i64 a0_3,.int .i64 a0_4,.int .i64 a0_5]) (t:=28) ?_;intro gb234 hg w31 hbox hb;have BK234:=zB hbox;have GW234:=gw_ hg HB;have GE234:=GW234;replace HB:=zB (zQ HB.out hb);clear hb hbox hg;have hcz32:=zD BK234.out;have hfz32:=zC BK234.out)|((with_reducible refine gate_callee (f:=86) rfl ?_);refine gl_ (some 5) Try.func86 #[.agg #[.int .i64 a0_0,.int .i64 a0_1]] rfl ?_;(with_reducible refine(watchmanref04_Is.calls a0_0 a0_1 true _ A2.out).mono ?_);rintro e w33 ⟨rfl,hb⟩;refine⟨_,rfl,?_⟩;replace BK234:=bl_ BK234 hb;replace HB:=zB (zQ (hb_ HB) hb);(try clear hb);(try clear hb2);(try clear hk);(try clear hi);have hcz34:=zD BK234.out;have hfz34:=zC BK234.out))
    go_ret
    exact⟨ew_,hb_ HB⟩
  ·rw[if_neg c4] at H
   have c4b0:=zY c4
   clear c4
   obtain rfl:=zW H
   go_enter Try.func55,Try.ntmps55
   go_wp2_with (first|((with_reducible refine gate_dst (N:=1) rfl ?_);refine be_ (N:=1) (cs:=#[.int .i64 a0_0,.int .i64 a0_1,.int .i64 a0_2,.int .i64 a0_3,.int .i64 a0_4,.int .i64 a0_5]) (t:=28) ?_;intro gb234 hg w35 hbox hb;have BK234:=zB hbox;have GW234:=gw_ hg HB;have GE234:=GW234;replace HB:=zB (zQ HB.out hb);clear hb hbox hg;have hcz36:=zD BK234.out;have hfz36:=zC BK234.out)|((with_reducible refine gate_callee (f:=86) rfl ?_);refine gl_ (some 5) Try.func86 #[.agg #[.int .i64 a0_0,.int .i64 a0_1]] rfl ?_;(with_reducible refine(watchmanref04_Is.calls a0_0 a0_1 true _ A2.out).mono ?_);rintro e w37 ⟨rfl,hb⟩;refine⟨_,rfl,?_⟩;replace BK234:=bl_ BK234 hb;replace HB:=zB (zQ (hb_ HB) hb);(try clear hb);(try clear hb2);(try clear hk);(try clear hi);have hcz38:=zD BK234.out;have hfz38:=zC BK234.out))
   go_ret
   exact⟨ew_,hb_ HB⟩
 ·replace c3:=zb c3
  subst c3
  rw[if_neg (show ¬(false=true) by decide)] at H;try dsimp only at H
  obtain rfl:=zW H
  go_enter Try.func55,Try.ntmps55
  go_wp2_with (first|((with_reducible refine gate_dst (N:=1) rfl ?_);refine be_ (N:=1) (cs:=#[.int .i64 a0_0,.int .i64 a0_1,.int .i64 a0_2,.int .i64 a0_3,.int .i64 a0_4,.int .i64 a0_5]) (t:=28) ?_;intro gb234 hg w39 hbox hb;have BK234:=zB hbox;have GW234:=gw_ hg HB;have GE234:=GW234;replace HB:=zB (zQ HB.out hb);clear hb hbox hg;have hcz40:=zD BK234.out;have hfz40:=zC BK234.out)|((with_reducible refine gate_callee (f:=86) rfl ?_);refine gl_ (some 5) Try.func86 #[.agg #[.int .i64 a0_0,.int .i64 a0_1]] rfl ?_;(with_reducible refine(watchmanref04_Is.calls a0_0 a0_1 false _ A2.out).mono ?_);rintro e w41 ⟨rfl,hb⟩;refine⟨_,rfl,?_⟩;replace BK234:=bl_ BK234 hb;replace HB:=zB (zQ (hb_ HB) hb);(try clear hb);(try clear hb2);(try clear hk);(try clear hi)))
  go_ret
  exact⟨ew_,hb_ HB⟩
def watchmanref04_Less.f (a0_0:Int) (a0_1:Int) (a1_0:Int) (a1_1:Int):Option (Bool):=if a0_0<a1_0 then(some true) else(if a0_0=a1_0 then(some (decide (a0_1<a1_1))) else(some false))
set_option maxHeartbeats 8000000 in
set_option maxRecDepth 100000 in
theorem watchmanref04_Less.calls (a0_0:Int) (a0_1:Int) (a1_0:Int) (a1_1:Int) (r:Bool) (w:World) (h:watchmanref04_Less.f a0_0 a0_1 a1_0 a1_1=some r):
  Calls Try.prog 56 #[.agg #[.int .i64 a0_0,.int .i64 a0_1],.agg #[.int .i64 a1_0,.int .i64 a1_1]] w fun e w'=>e=.returned (.bool r)∧Below w.heap.size w w':=by
 have hu26:=Try.underlying26
 have HB:=zB (Below.refl w.heap.size w)
 have H:(if a0_0<a1_0 then(some true) else(if a0_0=a1_0 then(some (decide (a0_1<a1_1))) else(some false)))=some r:=h
 clear h
 by_cases c3:a0_0<a1_0
 ·rw[if_pos c3] at H
  have c3b0:=zO c3
  clear c3
  obtain rfl:=zW H
  go_enter Try.func56,Try.ntmps56
  go_wp2_with (first|((with_reducible refine gate_dst (N:=2) rfl ?_);refine be_ (N:=2) (cs:=#[.int .i64 a0_0,.int .i64 a0_1]) (t:=26) ?_;intro gb237 hg w4 hbox hb;have BK237:=zB hbox;have GW237:=gw_ hg HB;have GE237:=GW237;replace HB:=zB (zQ HB.out hb);clear hb hbox hg)|((with_reducible refine gate_dst (N:=3) rfl ?_);refine be_ (N:=3) (cs:=#[.int .i64 a1_0,.int .i64 a1_1]) (t:=26) ?_;intro gb238 hg w5 hbox hb;have BK238:=zB hbox;have GE238:=gx_ hg (show Below w.heap.size w _ from hb_ HB);have GW238:=GE238;replace HB:=zB (zQ (hb_ HB) hb);have NB237_238:=nb_ BK237 hg;have NB238_237:=nc_ BK237 hg;replace BK237:=bl_ BK237 hb;clear hb hbox hg;have hnb6:=NB237_238.out;have hnc6:=NB238_237.out;have hcz7:=zD BK237.out;have hfz7:=zC BK237.out;have hcz8:=zD BK238.out))
  go_ret
  exact⟨ew_,hb_ HB⟩
 ·rw[if_neg c3] at H
  have c3b0:=zY c3
  clear c3
  by_cases c9:a0_0=a1_0
  ·rw[if_pos c9] at H
   have c9b0:=beq_iff_eq.mpr c9
   have c9b1:=bne_eq_false_iff_eq.mpr c9
   clear c9
   obtain rfl:=zW H
   go_enter Try.func56,Try.ntmps56
   go_wp2_with (first|((with_reducible refine gate_dst (N:=2) rfl ?_);refine be_ (N:=2) (cs:=#[.int .i64 a0_0,.int .i64 a0_1]) (t:=26) ?_;intro gb237 hg w10 hbox hb;have BK237:=zB hbox;have GW237:=gw_ hg HB;have GE237:=GW237;replace HB:=zB (zQ HB.out hb);clear hb hbox hg)|((with_reducible refine gate_dst (N:=3) rfl ?_);refine be_ (N:=3) (cs:=#[.int .i64 a1_0,.int .i64 a1_1]) (t:=26) ?_;intro gb238 hg w11 hbox hb;have BK238:=zB hbox;have GE238:=gx_ hg (show Below w.heap.size w _ from hb_ HB);have GW238:=GE238;replace HB:=zB (zQ (hb_ HB) hb);have NB237_238:=nb_ BK237 hg;have NB238_237:=nc_ BK237 hg;replace BK237:=bl_ BK237 hb;clear hb hbox hg;have hnb12:=NB237_238.out;have hnc12:=NB238_237.out;have hcz13:=zD BK237.out;have hfz13:=zC BK237.out;have hcz14:=zD BK238.out))
   go_ret
   exact⟨ew_,hb_ HB⟩
  ·rw[if_neg c9] at H
   have c9b0:=beq_eq_false_iff_ne.mpr c9
   have c9b1:=bne_iff_ne.mpr c9
   obtain rfl:=zW H
   go_enter Try.func56,Try.ntmps56
   go_wp2_with (first|((with_reducible refine gate_dst (N:=2) rfl ?_);refine be_ (N:=2) (cs:=#[.int .i64 a0_0,.int .i64 a0_1]) (t:=26) ?_;intro gb237 hg w15 hbox hb;have BK237:=zB hbox;have GW237:=gw_ hg HB;have GE237:=GW237;replace HB:=zB (zQ HB.out hb);clear hb hbox hg)|((with_reducible refine gate_dst (N:=3) rfl ?_);refine be_ (N:=3) (cs:=#[.int .i64 a1_0,.int .i64 a1_1]) (t:=26) ?_;intro gb238 hg w16 hbox hb;have BK238:=zB hbox;have GE238:=gx_ hg (show Below w.heap.size w _ from hb_ HB);have GW238:=GE238;replace HB:=zB (zQ (hb_ HB) hb);have NB237_238:=nb_ BK237 hg;have NB238_237:=nc_ BK237 hg;replace BK237:=bl_ BK237 hb;clear hb hbox hg;have hnb17:=NB237_238.out;have hnc17:=NB238_237.out;have hcz18:=zD BK237.out;have hfz18:=zC BK237.out;have hcz19:=zD BK238.out))
   go_ret
   exact⟨ew_,hb_ HB⟩
end Go.Proofs.Ytcfpbmdndapeaaa.F
