-- Written by a program of this session (xprint.py), out of the translation and of contracts proved by hand.
import Derived.Test.YtcfpbmdndapeaaaF0
import Derived.Test.YtcfpbmdndapeaaaF1
import Derived.Test.YtcfpbmdndapeaaaF16
namespace Go.Proofs.Ytcfpbmdndapeaaa.F
open Go.RowKit Go.Proofs.YtcfpbmdndapeaaaV.PrintWords Go.Proofs.YtcfpbmdndapeaaaV.PrintLast Go.Proofs.YtcfpbmdndapeaaaV.PrintMore
attribute [local go_sem] max2_int min2_int max_two min_two max_three min_three max_four min_four
set_option linter.unusedVariables false
set_option linter.unusedSimpArgs false
attribute [local go_sem high] eqA26
def watchmanref09_ahead.f (a0_0:Int) (a0_1:Int) (a0_2:Int) (a0_3:Int) (a1_0:Int) (a1_1:Int) (a1_2:Int) (a1_3:Int):Option (Bool):=if a0_0=a1_0 then(if(!(a0_1==a1_1)||(!(a0_2==a1_2)))=true then((watchmanref04_Less.f a0_1 a0_2 a1_1 a1_2).bind fun t248=>(some t248)) else(some (decide (a0_3<a1_3)))) else(some (decide (a0_0<a1_0)))
set_option maxHeartbeats 8000000 in
set_option maxRecDepth 100000 in
theorem watchmanref09_ahead.calls (a0_0:Int) (a0_1:Int) (a0_2:Int) (a0_3:Int) (a1_0:Int) (a1_1:Int) (a1_2:Int) (a1_3:Int) (r:Bool) (w:World) (h:watchmanref09_ahead.f a0_0 a0_1 a0_2 a0_3 a1_0 a1_1 a1_2 a1_3=some r):
  Calls Try.prog 80 #[.agg #[.int .i64 a0_0,.int .i64 a0_1,.int .i64 a0_2,.int .i64 a0_3],.agg #[.int .i64 a1_0,.int .i64 a1_1,.int .i64 a1_2,.int .i64 a1_3]] w fun e w'=>e=.returned (.bool r)∧Below w.heap.size w w':=by
 have hu65:=Try.underlying65
 have hu26:=Try.underlying26
 have HB:=zB (Below.refl w.heap.size w)
 have H:(if a0_0=a1_0 then(if(!(a0_1==a1_1)||(!(a0_2==a1_2)))=true then((watchmanref04_Less.f a0_1 a0_2 a1_1 a1_2).bind fun t248=>(some t248)) else(some (decide (a0_3<a1_3)))) else(some (decide (a0_0<a1_0))))=some r:=h
 clear h
 by_cases c3:a0_0=a1_0
 ·rw[if_pos c3] at H
  have c3b0:=beq_iff_eq.mpr c3
  have c3b1:=bne_eq_false_iff_eq.mpr c3
  clear c3
  by_cases c4:(!(a0_1==a1_1)||(!(a0_2==a1_2)))=true
  ·rw[if_pos c4] at H
   have c4b0:(!(a0_1==a1_1)||(!(a0_2==a1_2)))=true:=c4
   clear c4
   replace H:=zL H
   obtain⟨t248,A50,H⟩:=H
   try dsimp only at H
   have A5:=zB A50
   clear A50
   obtain rfl:=zW H
   go_enter Try.func80,Try.ntmps80
   go_wp2_with (first|((with_reducible refine gate_dst (N:=2) rfl ?_);refine be_ (N:=2) (cs:=#[.int .i64 a0_0,.int .i64 a0_1,.int .i64 a0_2,.int .i64 a0_3]) (t:=65) ?_;intro gb246 hg w6 hbox hb;have BK246:=zB hbox;have GW246:=gw_ hg HB;have GE246:=GW246;replace HB:=zB (zQ HB.out hb);clear hb hbox hg)|((with_reducible refine gate_dst (N:=3) rfl ?_);refine be_ (N:=3) (cs:=#[.int .i64 a1_0,.int .i64 a1_1,.int .i64 a1_2,.int .i64 a1_3]) (t:=65) ?_;intro gb247 hg w7 hbox hb;have BK247:=zB hbox;have GE247:=gx_ hg (show Below w.heap.size w _ from hb_ HB);have GW247:=GE247;replace HB:=zB (zQ (hb_ HB) hb);have NB246_247:=nb_ BK246 hg;have NB247_246:=nc_ BK246 hg;replace BK246:=bl_ BK246 hb;clear hb hbox hg;have hnb8:=NB246_247.out;have hnc8:=NB247_246.out;have hcz9:=zD BK246.out;have hfz9:=zC BK246.out;have hcz10:=zD BK247.out)|((with_reducible refine gate_callee (f:=56) rfl ?_);refine gl_ (some 24) Try.func56 #[.agg #[.int .i64 a0_1,.int .i64 a0_2],.agg #[.int .i64 a1_1,.int .i64 a1_2]] rfl ?_;(with_reducible refine(watchmanref04_Less.calls a0_1 a0_2 a1_1 a1_2 t248 _ A5.out).mono ?_);rintro e w11 ⟨rfl,hb⟩;refine⟨_,rfl,?_⟩;replace BK246:=bl_ BK246 hb;replace BK247:=bl_ BK247 hb;replace HB:=zB (zQ (hb_ HB) hb);(try clear hb);(try clear hb2);(try clear hk);(try clear hi)))
   go_ret
   exact⟨ew_,hb_ HB⟩
  ·rw[if_neg c4] at H
   have c4b0:(!(a0_1==a1_1)||(!(a0_2==a1_2)))=false:=by simpa using c4
   clear c4
   obtain rfl:=zW H
   go_enter Try.func80,Try.ntmps80
   go_wp2_with (first|((with_reducible refine gate_dst (N:=2) rfl ?_);refine be_ (N:=2) (cs:=#[.int .i64 a0_0,.int .i64 a0_1,.int .i64 a0_2,.int .i64 a0_3]) (t:=65) ?_;intro gb246 hg w12 hbox hb;have BK246:=zB hbox;have GW246:=gw_ hg HB;have GE246:=GW246;replace HB:=zB (zQ HB.out hb);clear hb hbox hg)|((with_reducible refine gate_dst (N:=3) rfl ?_);refine be_ (N:=3) (cs:=#[.int .i64 a1_0,.int .i64 a1_1,.int .i64 a1_2,.int .i64 a1_3]) (t:=65) ?_;intro gb247 hg w13 hbox hb;have BK247:=zB hbox;have GE247:=gx_ hg (show Below w.heap.size w _ from hb_ HB);have GW247:=GE247;replace HB:=zB (zQ (hb_ HB) hb);have NB246_247:=nb_ BK246 hg;have NB247_246:=nc_ BK246 hg;replace BK246:=bl_ BK246 hb;clear hb hbox hg;have hnb14:=NB246_247.out;have hnc14:=NB247_246.out;have hcz15:=zD BK246.out;have hfz15:=zC BK246.out;have hcz16:=zD BK247.out))
   go_ret
   exact⟨ew_,hb_ HB⟩
 ·rw[if_neg c3] at H
  have c3b0:=beq_eq_false_iff_ne.mpr c3
  have c3b1:=bne_iff_ne.mpr c3
  obtain rfl:=zW H
  go_enter Try.func80,Try.ntmps80
  go_wp2_with (first|((with_reducible refine gate_dst (N:=2) rfl ?_);refine be_ (N:=2) (cs:=#[.int .i64 a0_0,.int .i64 a0_1,.int .i64 a0_2,.int .i64 a0_3]) (t:=65) ?_;intro gb246 hg w17 hbox hb;have BK246:=zB hbox;have GW246:=gw_ hg HB;have GE246:=GW246;replace HB:=zB (zQ HB.out hb);clear hb hbox hg)|((with_reducible refine gate_dst (N:=3) rfl ?_);refine be_ (N:=3) (cs:=#[.int .i64 a1_0,.int .i64 a1_1,.int .i64 a1_2,.int .i64 a1_3]) (t:=65) ?_;intro gb247 hg w18 hbox hb;have BK247:=zB hbox;have GE247:=gx_ hg (show Below w.heap.size w _ from hb_ HB);have GW247:=GE247;replace HB:=zB (zQ (hb_ HB) hb);have NB246_247:=nb_ BK246 hg;have NB247_246:=nc_ BK246 hg;replace BK246:=bl_ BK246 hb;clear hb hbox hg;have hnb19:=NB246_247.out;have hnc19:=NB247_246.out;have hcz20:=zD BK246.out;have hfz20:=zC BK246.out;have hcz21:=zD BK247.out))
  go_ret
  exact⟨ew_,hb_ HB⟩
end Go.Proofs.Ytcfpbmdndapeaaa.F
