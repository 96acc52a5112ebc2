-- Written by a program of this session (xprint.py), out of the translation and of contracts proved by hand.
import Derived.Test.YtcfpbmdndapeaaaF0
namespace Go.Proofs.Ytcfpbmdndapeaaa.F
open Go.RowKit Go.Proofs.YtcfpbmdndapeaaaV.PrintWords Go.Proofs.YtcfpbmdndapeaaaV.PrintLast Go.Proofs.YtcfpbmdndapeaaaV.PrintMore
attribute [local go_sem] max2_int min2_int max_two min_two max_three min_three max_four min_four
set_option linter.unusedVariables false
set_option linter.unusedSimpArgs false
def watchmanref06_Wait.f (a0:Int):Option (Int):=if a0=1 then(some 10) else(if a0=2 then(some 30) else(if a0=3 then(some 90) else(some 0)))
set_option maxHeartbeats 8000000 in
set_option maxRecDepth 100000 in
theorem watchmanref06_Wait.calls (a0:Int) (r:Int) (w:World) (h:watchmanref06_Wait.f a0=some r):
  Calls Try.prog 71 #[.int .i64 a0] w fun e w'=>e=.returned (.int .i64 r)∧Drawn0 w w':=by
 have H:(if a0=1 then(some 10) else(if a0=2 then(some 30) else(if a0=3 then(some 90) else(some 0))))=some r:=h
 clear h
 by_cases c2:a0=1
 ·rw[if_pos c2] at H
  have c2b0:=beq_iff_eq.mpr c2
  have c2b1:=bne_eq_false_iff_eq.mpr c2
  clear c2
  obtain rfl:=zW H
  go_enter Try.func71,Try.ntmps71
  go_wp2
  go_ret
  exact⟨rs_,dr_⟩
 ·rw[if_neg c2] at H
  have c2b0:=beq_eq_false_iff_ne.mpr c2
  have c2b1:=bne_iff_ne.mpr c2
  by_cases c3:a0=2
  ·rw[if_pos c3] at H
   have c3b0:=beq_iff_eq.mpr c3
   have c3b1:=bne_eq_false_iff_eq.mpr c3
   clear c3
   obtain rfl:=zW H
   go_enter Try.func71,Try.ntmps71
   go_wp2
   go_ret
   exact⟨rs_,dr_⟩
  ·rw[if_neg c3] at H
   have c3b0:=beq_eq_false_iff_ne.mpr c3
   have c3b1:=bne_iff_ne.mpr c3
   by_cases c4:a0=3
   ·rw[if_pos c4] at H
    have c4b0:=beq_iff_eq.mpr c4
    have c4b1:=bne_eq_false_iff_eq.mpr c4
    clear c4
    obtain rfl:=zW H
    go_enter Try.func71,Try.ntmps71
    go_wp2
    go_ret
    exact⟨rs_,dr_⟩
   ·rw[if_neg c4] at H
    have c4b0:=beq_eq_false_iff_ne.mpr c4
    have c4b1:=bne_iff_ne.mpr c4
    obtain rfl:=zW H
    go_enter Try.func71,Try.ntmps71
    go_wp2
    go_ret
    exact⟨rs_,dr_⟩
end Go.Proofs.Ytcfpbmdndapeaaa.F
