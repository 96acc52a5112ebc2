-- Written by a program of this session (xprint.py), out of the translation and of contracts proved by hand.
import Derived.Test.YtcfpbmdndapeaaaF0
import Derived.Test.YtcfpbmdndapeaaaF4
import Derived.Test.YtcfpbmdndapeaaaF6
namespace Go.Proofs.Ytcfpbmdndapeaaa.F
open Go.RowKit Go.Proofs.YtcfpbmdndapeaaaV.PrintWords Go.Proofs.YtcfpbmdndapeaaaV.PrintLast Go.Proofs.YtcfpbmdndapeaaaV.PrintMore
attribute [local go_sem] max2_int min2_int max_two min_two max_three min_three max_four min_four
set_option linter.unusedVariables false
set_option linter.unusedSimpArgs false
def life_is.f (a0:Int):Option (Bool):=if a0≥0 then(some (decide (a0<5))) else(some false)
set_option maxHeartbeats 8000000 in
set_option maxRecDepth 100000 in
theorem life_is.calls (a0:Int) (r:Bool) (w:World) (h:life_is.f a0=some r):
  Calls Try.prog 102 #[.int .i64 a0] w fun e w'=>e=.returned (.bool r)∧Drawn0 w w':=by
 have H:(if a0≥0 then(some (decide (a0<5))) else(some false))=some r:=h
 clear h
 by_cases c2:a0≥0
 ·rw[if_pos c2] at H
  have c2b0:=zO c2
  clear c2
  obtain rfl:=zW H
  go_enter Try.func102,Try.ntmps102
  go_wp2
  go_ret
  exact⟨rs_,dr_⟩
 ·rw[if_neg c2] at H
  have c2b0:=zY c2
  clear c2
  obtain rfl:=zW H
  go_enter Try.func102,Try.ntmps102
  go_wp2
  go_ret
  exact⟨rs_,dr_⟩
def life_rows:List (List Int):=[[-1,1,-1,-1,-1,-1,-1],[-1,1,2,3,4,0,-1],[-1,2,-1,3,4,0,-1],[-1,1,-1,-1,4,0,-1],[-1,4,-1,3,-1,0,1]]
def life_tab (p d:Int):Int:=(life_rows.getD p.toNat []).getD d.toNat (-1)
def life_row (p:Int):Value:=.agg ((life_rows.getD p.toNat []).map (Value.int .i64)).toArray
def life_all:Value:=.agg #[.int .i64 (-1),.int .i64 1,.int .i64 (-1),.int .i64 (-1),.int .i64 (-1),.int .i64 (-1),.int .i64 (-1),.int .i64 (-1),.int .i64 1,.int .i64 2,.int .i64 3,.int .i64 4,.int .i64 0,.int .i64 (-1),.int .i64 (-1),.int .i64 2,.int .i64 (-1),.int .i64 3,.int .i64 4,.int .i64 0,.int .i64 (-1),.int .i64 (-1),.int .i64 1,.int .i64 (-1),.int .i64 (-1),.int .i64 4,.int .i64 0,.int .i64 (-1),.int .i64 (-1),.int .i64 4,.int .i64 (-1),.int .i64 3,.int .i64 (-1),.int .i64 0,.int .i64 1]
theorem life_idx (p:Int) (h0:0≤p) (h1:p<5) (w:World):(Instr.index 126 life_all (.int .i64 p)).run Try.prog w=.ok (life_row p) w:=by
  have hc:p=0∨p=1∨p=2∨p=3∨p=4:=by omega
  clear h0 h1
  rcases hc with rfl|rfl|rfl|rfl|rfl<;>(show(Instr.index _ _ _).run _ _=_;kernel_rfl)
theorem life_idx2 (p d:Int) (h0:0≤p) (h1:p<5) (h2:1≤d) (h3:d<7) (w:World):(Instr.index 125 (life_row p) (.int .i64 d)).run Try.prog w=.ok (.int .i64 (life_tab p d)) w:=by
  have hc:p=0∨p=1∨p=2∨p=3∨p=4:=by omega
  have hd:d=1∨d=2∨d=3∨d=4∨d=5∨d=6:=by omega
  rcases hc with rfl|rfl|rfl|rfl|rfl<;>rcases hd with rfl|rfl|rfl|rfl|rfl|rfl<;>(show(Instr.index _ _ _).run _ _=_;kernel_rfl)
def life_zero:Array Value:=#[.int .i64 0,.int .i64 0,.int .i64 0,.int .i64 0,.int .i64 0,.int .i64 0,.int .i64 0,.int .i64 0,.int .i64 0,.int .i64 0,.int .i64 0,.int .i64 0,.int .i64 0,.int .i64 0,.int .i64 0,.int .i64 0,.int .i64 0,.int .i64 0,.int .i64 0,.int .i64 0,.int .i64 0,.int .i64 0,.int .i64 0,.int .i64 0,.int .i64 0,.int .i64 0,.int .i64 0,.int .i64 0,.int .i64 0,.int .i64 0,.int .i64 0,.int .i64 0,.int .i64 0,.int .i64 0,.int .i64 0]
set_option maxHeartbeats 8000000 in
set_option maxRecDepth 100000 in
theorem life_table.calls (w:World):
    Calls Try.prog 103 #[] w fun e w'=>e=.returned life_all∧Below w.heap.size w w':=by
  go_enter Try.func103,Try.ntmps103
  go_wp2_with (refine wpList_store_row rfl 126 _ _ rfl w.heap.size life_all.cells rfl rfl 126 life_zero (heap_alloc_last w _) (by kernel_rfl) (by kernel_rfl) (by kernel_rfl) ?_)
  rw[World.setRow_alloc_new]
  go_wp2
  exact bodyPost_ret (v:=life_all) (results_cell_row rfl _ _ w.heap.size 126 life_all.cells (0,0) _ rfl (heap_alloc_last w _) Try.underlying126 rfl (by kernel_rfl)) rfl ⟨rfl,(Below.refl _ _).alloc (za _) _⟩
def life_Next.f (a0:Int) (a1:Int):Option (Int×Bool):=if 0≤a0 then if a0<5 then if a1<1 then some (0,false) else if a1≥7 then some (0,false) else if life_tab a0 a1= -1 then some (0,false) else some (life_tab a0 a1,true) else some (0,false) else some (0,false)
theorem life_is_any (a0:Int) (w:World):Calls Try.prog 102 #[.int .i64 a0] w fun e w'=>e=.returned (.bool (decide (0≤a0∧a0<5)))∧Drawn0 w w':=by
  refine life_is.calls a0 _ w ?_
  unfold life_is.f
  by_cases h:0≤a0
  · rw[if_pos h];simp[h]
  · rw[if_neg h];simp[h]
set_option maxHeartbeats 8000000 in
set_option maxRecDepth 100000 in
theorem life_Next.calls (a0:Int) (a1:Int) (r1:Int) (r2:Bool) (w:World) (h:life_Next.f a0 a1=some (r1,r2)):
    Calls Try.prog 95 #[.int .i64 a0,.int .i64 a1] w fun e w'=>e=.returned (.tuple #[.int .i64 r1,.bool r2])∧Below w.heap.size w w':=by
  unfold life_Next.f at h
  by_cases hp:0≤a0∧a0<5
  · rw[if_pos hp.1,if_pos hp.2] at h
    have hi: ∀w,Calls Try.prog 102 #[.int .i64 a0] w fun e w'=>e=.returned (.bool true)∧Drawn0 w w':=fun w=>by
      have:=life_is_any a0 w;rw[zO hp] at this;exact this
    have Hi:=zB hi;clear hi
    by_cases c1:a1<1
    · rw[if_pos c1] at h;cases h
      have b1:decide (a1<1)=true:=zO c1
      clear c1 hp
      go_enter Try.func95,Try.ntmps95
      go_wp2_with (go_at_call 102;refine(Hi.out _).mono ?_;rintro e w' ⟨rfl,⟨n,rfl⟩⟩)
      go_ret2
      exact⟨rfl,by repeat(first|exact Below.refl _ _|apply zF)⟩
    · rw[if_neg c1] at h
      have b1:decide (a1<1)=false:=zY c1
      by_cases c2:a1≥7
      · rw[if_pos c2] at h;cases h
        have b2:decide (7≤a1)=true:=zO c2
        clear c1 c2 hp
        go_enter Try.func95,Try.ntmps95
        go_wp2_with (go_at_call 102;refine(Hi.out _).mono ?_;rintro e w' ⟨rfl,⟨n,rfl⟩⟩)
        go_ret2
        exact⟨rfl,by repeat(first|exact Below.refl _ _|apply zF)⟩
      · rw[if_neg c2] at h
        have b2:decide (7≤a1)=false:=zY c2
        have x1:=life_idx a0 hp.1 hp.2
        have x2:=life_idx2 a0 a1 hp.1 hp.2 (by omega) (by omega)
        have ht:=fun w=>life_table.calls w
        have Ht:=zB ht;clear ht
        generalize life_row a0=row at x1 x2
        generalize life_tab a0 a1=t at x2 h
        by_cases c3:t= -1
        · rw[if_pos c3] at h;cases h
          have b3:(t != -1)=false:=by simp[c3]
          subst c3
          clear c1 c2 hp
          go_enter Try.func95,Try.ntmps95
          go_wp2_with (first|(go_at_call 102;refine(Hi.out _).mono ?_;rintro e w' ⟨rfl,⟨n,rfl⟩⟩)|(go_at_call 103;refine(Ht.out _).mono ?_;rintro e w' ⟨rfl,hb⟩))
          go_ret2
          exact⟨rfl,below_then (zF (Below.refl _ _) _) (za _) hb⟩
        · rw[if_neg c3] at h;cases h
          have b3:(r1 != -1)=true:=by simp[c3]
          clear c1 c2 c3 hp
          go_enter Try.func95,Try.ntmps95
          go_wp2_with (first|(go_at_call 102;refine(Hi.out _).mono ?_;rintro e w' ⟨rfl,⟨n,rfl⟩⟩)|(go_at_call 103;refine(Ht.out _).mono ?_;rintro e w' ⟨rfl,hb⟩))
          go_ret2
          exact⟨rfl,below_then (zF (Below.refl _ _) _) (za _) hb⟩
  · have h':(if 0≤a0 then if a0<5 then if a1<1 then some ((0:Int),false) else if a1≥7 then some (0,false) else if life_tab a0 a1= -1 then some (0,false) else some (life_tab a0 a1,true) else some (0,false) else some (0,false))=some (0,false):=by
      by_cases q:0≤a0
      · rw[if_pos q,if_neg (fun q2=>hp ⟨q,q2⟩)]
      · rw[if_neg q]
    rw[h'] at h;cases h
    have hi: ∀w,Calls Try.prog 102 #[.int .i64 a0] w fun e w'=>e=.returned (.bool false)∧Drawn0 w w':=fun w=>by
      have:=life_is_any a0 w;rw[zY hp] at this;exact this
    have Hi:=zB hi;clear hi hp h'
    go_enter Try.func95,Try.ntmps95
    go_wp2_with (go_at_call 102;refine(Hi.out _).mono ?_;rintro e w' ⟨rfl,⟨n,rfl⟩⟩)
    go_ret2
    exact⟨rfl,by repeat(first|exact Below.refl _ _|apply zF)⟩
def alarm_clock_turned.f (a0_0:Int) (a0_1:Int) (a0_2:Int) (a0_3:Int) (a0_4:Int) (a0_5:Int) (a1:Int) (a2:Int) (a3:Int):Option (Int×Int×Int×Int×Int×Int):=(life_Next.f a0_2 a1).bind fun bt142=>(some (a0_0,a0_1,bt142.1,a0_3,a0_4,wrap64 (a2+a3)))
set_option maxHeartbeats 8000000 in
set_option maxRecDepth 100000 in
theorem alarm_clock_turned.calls (a0_0:Int) (a0_1:Int) (a0_2:Int) (a0_3:Int) (a0_4:Int) (a0_5:Int) (a1:Int) (a2:Int) (a3:Int) (r1:Int) (r2:Int) (r3:Int) (r4:Int) (r5:Int) (r6:Int) (w:World) (h:alarm_clock_turned.f a0_0 a0_1 a0_2 a0_3 a0_4 a0_5 a1 a2 a3=some (r1,r2,r3,r4,r5,r6)):
  Calls Try.prog 90 #[.agg #[.int .i64 a0_0,.int .i64 a0_1,.int .i64 a0_2,.int .i64 a0_3,.int .i64 a0_4,.int .i64 a0_5],.int .i64 a1,.int .i64 a2,.int .i64 a3] w fun e w'=>e=.returned (.agg #[.int .i64 r1,.int .i64 r2,.int .i64 r3,.int .i64 r4,.int .i64 r5,.int .i64 r6])∧Below w.heap.size w w':=by
 have hu85:=Try.underlying85
 have HB:=zB (Below.refl w.heap.size w)
 have H:((life_Next.f a0_2 a1).bind fun bt142=>(some (a0_0,a0_1,bt142.1,a0_3,a0_4,wrap64 (a2+a3))))=some (r1,r2,r3,r4,r5,r6):=h
 clear h
 replace H:=zL H
 obtain⟨⟨t142,t143⟩,A50,H⟩:=H
 try dsimp only at H
 have A5:=zB A50
 clear A50
 simp only[zc,Prod.mk.injEq] at H
 obtain⟨rfl,rfl,rfl,rfl,rfl,rfl⟩:=H
 go_enter Try.func90,Try.ntmps90
 go_wp2_with (first|((with_reducible refine gate_dst (N:=4) rfl ?_);refine be_ (N:=4) (cs:=#[.int .i64 a0_0,.int .i64 a0_1,.int .i64 a0_2,.int .i64 a0_3,.int .i64 a0_4,.int .i64 a0_5]) (t:=85) ?_;intro gb140 hg w6 hbox hb;have BK140:=zB hbox;have GW140:=gw_ hg HB;have GE140:=GW140;replace HB:=zB (zQ HB.out hb);clear hb hbox hg)|((with_reducible refine gate_dst (N:=8) rfl ?_);refine be_ (N:=8) (cs:=#[.int .i64 0,.int .i64 0,.int .i64 0,.int .i64 0,.int .i64 0,.int .i64 0]) (t:=85) ?_;intro gb141 hg w7 hbox hb;have BK141:=zB hbox;have GE141:=gx_ hg (show Below w.heap.size w _ from hb_ HB);have GW141:=GE141;replace HB:=zB (zQ (hb_ HB) hb);have NB140_141:=nb_ BK140 hg;have NB141_140:=nc_ BK140 hg;replace BK140:=bl_ BK140 hb;clear hb hbox hg;have hnb8:=NB140_141.out;have hnc8:=NB141_140.out;have hcz9:=zD BK140.out;have hfz9:=zC BK140.out)|((with_reducible refine gate_callee (f:=95) rfl ?_);refine gl_ (some 14) Try.func95 #[.int .i64 a0_2,.int .i64 a1] rfl ?_;(with_reducible refine(life_Next.calls a0_2 a1 t142 t143 _ A5.out).mono ?_);rintro e w10 ⟨rfl,hb⟩;refine⟨_,rfl,?_⟩;replace BK140:=bl_ BK140 hb;replace BK141:=bl_ BK141 hb;replace HB:=zB (zQ (hb_ HB) hb);(try clear hb);(try clear hb2);(try clear hk);(try clear hi);have hcz11:=zD BK140.out;have hfz11:=zC BK140.out;have hcz12:=zD BK141.out;have hfz12:=zC BK141.out))
 refine bodyPost_ret (results_cell_row rfl _ _ gb141 85 #[.int .i64 a0_0,.int .i64 a0_1,.int .i64 t142,.int .i64 a0_3,.int .i64 a0_4,.int .i64 (wrap64 (a2+a3))] (0,0) _ rfl (by refine zZ (cs:=#[.int .i64 a0_0,.int .i64 a0_1,.int .i64 t142,.int .i64 a0_3,.int .i64 a0_4,.int .i64 0]) ?_ 5 _ rfl;refine zZ (cs:=#[.int .i64 a0_0,.int .i64 a0_1,.int .i64 t142,.int .i64 a0_3,.int .i64 0,.int .i64 0]) ?_ 4 _ rfl;refine zZ (cs:=#[.int .i64 a0_0,.int .i64 a0_1,.int .i64 t142,.int .i64 0,.int .i64 0,.int .i64 0]) ?_ 3 _ rfl;refine zZ (cs:=#[.int .i64 a0_0,.int .i64 a0_1,.int .i64 0,.int .i64 0,.int .i64 0,.int .i64 0]) ?_ 2 _ rfl;refine zZ (cs:=#[.int .i64 a0_0,.int .i64 0,.int .i64 0,.int .i64 0,.int .i64 0,.int .i64 0]) ?_ 1 _ rfl;refine zZ (cs:=#[.int .i64 0,.int .i64 0,.int .i64 0,.int .i64 0,.int .i64 0,.int .i64 0]) ?_ 0 _ rfl;refine blk_far ?_ NB141_140.out _;refine blk_far ?_ NB141_140.out _;exact BK141.out) Try.underlying85 rfl (by kernel_rfl)) rfl ?_
 exact⟨ew_,hb_ HB⟩
def alarm_clock_woken.f (a0_0:Int) (a0_1:Int) (a0_2:Int) (a0_3:Int) (a0_4:Int) (a0_5:Int) (a1:Int) (a2:Int):Option (Int×Int×Int×Int×Int×Int):=(alarm_Wait.f a0_3).bind fun t146=>((alarm_clock_turned.f a0_0 a0_1 a0_2 a0_3 a0_4 a0_5 6 a1 t146).bind fun bt147=>(some (bt147.1,bt147.2.1,bt147.2.2.1,bt147.2.2.2.1,bt147.2.2.2.2.1,bt147.2.2.2.2.2)))
def alarm_clock_woken.T1:Bool×List (List Nat×List Nat):=(true,[([],[]),([],[]),([],[]),([2],[2]),([3],[3]),([4],[4]),([0,1,5,5],[0,1,5]),([6,6,0,1,2,3,4,5,6],[6])])
def alarm_clock_woken.B1:List Nat:=[0,0,0,4,12,28,63,127]
theorem alarm_clock_woken.tab1:rtab .any (opsOf Try.f67 1)=alarm_clock_woken.T1:=by kernel_rfl
theorem alarm_clock_woken.bits1:waitsOk alarm_clock_woken.T1.2 alarm_clock_woken.B1=true:=by kernel_rfl
set_option maxHeartbeats 8000000 in
set_option maxRecDepth 100000 in
theorem alarm_clock_woken.calls (a0_0:Int) (a0_1:Int) (a0_2:Int) (a0_3:Int) (a0_4:Int) (a0_5:Int) (a1:Int) (a2:Int) (r1:Int) (r2:Int) (r3:Int) (r4:Int) (r5:Int) (r6:Int) (w:World) (h:alarm_clock_woken.f a0_0 a0_1 a0_2 a0_3 a0_4 a0_5 a1 a2=some (r1,r2,r3,r4,r5,r6)):
  Calls Try.prog 67 #[.agg #[.int .i64 a0_0,.int .i64 a0_1,.int .i64 a0_2,.int .i64 a0_3,.int .i64 a0_4,.int .i64 a0_5],.int .i64 a1,.int .i64 a2] w fun e w'=>e=.returned (.agg #[.int .i64 r1,.int .i64 r2,.int .i64 r3,.int .i64 r4,.int .i64 r5,.int .i64 r6])∧Below w.heap.size w w':=by
 have hu85:=Try.underlying85
 have HB:=zB (Below.refl w.heap.size w)
 have H:((alarm_Wait.f a0_3).bind fun t146=>((alarm_clock_turned.f a0_0 a0_1 a0_2 a0_3 a0_4 a0_5 6 a1 t146).bind fun bt147=>(some (bt147.1,bt147.2.1,bt147.2.2.1,bt147.2.2.2.1,bt147.2.2.2.2.1,bt147.2.2.2.2.2))))=some (r1,r2,r3,r4,r5,r6):=h
 clear h
 replace H:=zL H
 obtain⟨t146,A40,H⟩:=H
 try dsimp only at H
 have A4:=zB A40
 clear A40
 replace H:=zL H
 obtain⟨⟨t147,t148,t149,t150,t151,t152⟩,A50,H⟩:=H
 try dsimp only at H
 have A5:=zB A50
 clear A50
 simp only[zc,Prod.mk.injEq] at H
 obtain⟨rfl,rfl,rfl,rfl,rfl,rfl⟩:=H
 go_enter Try.func67,Try.ntmps67
 try go_wp2_with (first|((with_reducible refine gate_dst (N:=3) rfl ?_);refine be_ (N:=3) (cs:=#[.int .i64 a0_0,.int .i64 a0_1,.int .i64 a0_2,.int .i64 a0_3,.int .i64 a0_4,.int .i64 a0_5]) (t:=85) ?_;intro gb144 hg w6 hbox hb;have BK144:=zB hbox;have GE144:=gx_ hg (show Below w.heap.size w _ from hb_ HB);have GW144:=GE144;replace HB:=zB (zQ (hb_ HB) hb);clear hb hbox hg)|((with_reducible refine gate_dst (N:=6) rfl ?_);refine be_ (N:=6) (cs:=#[.int .i64 0,.int .i64 0,.int .i64 0,.int .i64 0,.int .i64 0,.int .i64 0]) (t:=85) ?_;intro gb145 hg w7 hbox hb;have BK145:=zB hbox;have GE145:=gx_ hg (show Below w.heap.size w _ from hb_ HB);have GW145:=GE145;replace HB:=zB (zQ (hb_ HB) hb);have NB144_145:=zB ((by rw[hg];exact Nat.ne_of_lt (blk_lt (g:=gb144) (o:=.cells #[.int .i64 a0_0,.int .i64 a0_1,.int .i64 a0_2,.int .i64 a0_3,.int .i64 a0_4,.int .i64 a0_5] 85 (0,0)) (bk_ BK144)):gb144≠gb145));have NB145_144:=zB ((by rw[hg];exact Nat.ne_of_gt (blk_lt (g:=gb144) (o:=.cells #[.int .i64 a0_0,.int .i64 a0_1,.int .i64 a0_2,.int .i64 a0_3,.int .i64 a0_4,.int .i64 a0_5] 85 (0,0)) (bk_ BK144)):gb145≠gb144));replace BK144:=zB (blk_below (g:=gb144) (o:=.cells #[.int .i64 a0_0,.int .i64 a0_1,.int .i64 a0_2,.int .i64 a0_3,.int .i64 a0_4,.int .i64 a0_5] 85 (0,0)) (bk_ BK144) hb);clear hb hbox hg))
 replace BK144:=zB (zX BK144.out)
 replace BK145:=zB (zX BK145.out)
 replace HB:=zB (zG HB.out)
 refine start_ (n:=8) (S:=fun w'=>c_ w' gb144 0 (.int .i64 a0_0)∧c_ w' gb144 1 (.int .i64 a0_1)∧c_ w' gb144 2 (.int .i64 a0_2)∧c_ w' gb144 3 (.int .i64 a0_3)∧c_ w' gb144 4 (.int .i64 a0_4)∧c_ w' gb144 5 (.int .i64 a0_5)) (ds:=[]) (bt_ 0 8) (by kernel_rfl) rfl rfl ⟨bc_ BK144 0,bc_ BK144 1,bc_ BK144 2,bc_ BK144 3,bc_ BK144 4,bc_ BK144 5⟩ (fun hHeld=>?_);refine with_tabW alarm_clock_woken.tab1 alarm_clock_woken.bits1 (fun HT_ HW_=>?_)
 generalize w7.drew=w8 at BK144 BK145 HB hHeld⊢
 have Q_:=Qs.mk (n:=8) [(0,1,8,2),(0,2,9,6),(0,3,10,14),(2,0,7,15),(2,4,11,31)]
 iterate 5 (first|(refine pq_ Q_ ?_;replace Q_:=qt_ Q_)|(refine tq_ Q_ hHeld ?_;replace Q_:=qt_ Q_))
 clear Q_
 refine one_ (i:=5) (N:=some 12) (dn_ 6 8) rfl rfl (one_of HT_.out (by kernel_rfl)) (by decide) (fun K hK=>?_)
 refine gs_ Try.func82 #[.int .i64 a0_3] rfl ?_
 with_reducible refine(alarm_Wait.calls a0_3 t146 _ A4.out).mono ?_
 rintro e w' ⟨rfl,⟨nd,rfl⟩⟩
 refine⟨_,rfl,?_⟩
 refine hK.out _ _ ⟨bc_ BK144 0,bc_ BK144 1,bc_ BK144 2,bc_ BK144 3,bc_ BK144 4,bc_ BK144 5⟩ (fun hHeld=>?_)
 clear hK K
 refine norm_ (a':=?_) ?_ ?_
 rotate_left
 ·show Act.put _ (some 12) _=_
  simp only[Act.put,zE,zH,zI,i64_w,i32_w]
  rfl
 refine one_ (i:=6) (N:=some 13) (dn_ 7 8) rfl rfl (one_of HT_.out (by kernel_rfl)) (by decide) (fun K hK=>?_)
 refine gs_ Try.func90 #[.agg #[.int .i64 a0_0,.int .i64 a0_1,.int .i64 a0_2,.int .i64 a0_3,.int .i64 a0_4,.int .i64 a0_5],.int .i64 6,.int .i64 a1,.int .i64 t146] rfl ?_
 with_reducible refine(alarm_clock_turned.calls a0_0 a0_1 a0_2 a0_3 a0_4 a0_5 6 a1 t146 t147 t148 t149 t150 t151 t152 _ A5.out).mono ?_
 rintro e w9 ⟨rfl,hb⟩
 refine⟨_,rfl,?_⟩
 replace BK144:=zB (blk_below (g:=gb144) (o:=.cells #[.int .i64 a0_0,.int .i64 a0_1,.int .i64 a0_2,.int .i64 a0_3,.int .i64 a0_4,.int .i64 a0_5] 85 (0,0)) (bk_ BK144) hb)
 replace BK145:=zB (blk_below (g:=gb145) (o:=.cells #[.int .i64 0,.int .i64 0,.int .i64 0,.int .i64 0,.int .i64 0,.int .i64 0] 85 (0,0)) (bk_ BK145) hb)
 replace HB:=zB (zQ (hb_ HB) hb)
 (try clear hb)
 (try clear hb2)
 (try clear hk)
 (try clear hi)
 refine hK.out _ _ ⟨bc_ BK144 0,bc_ BK144 1,bc_ BK144 2,bc_ BK144 3,bc_ BK144 4,bc_ BK144 5⟩ (fun hHeld=>?_)
 clear hK K
 refine norm_ (a':=?_) ?_ ?_
 rotate_left
 ·show Act.put _ (some 13) _=_
  simp only[Act.put,zE,zH,zI,i64_w,i32_w]
  rfl
 refine one_ (i:=7) (N:=none) (bt_ 255 8) rfl rfl (one_of HT_.out (by kernel_rfl)) (by decide) (fun K hK=>?_)
 have hs10:c_ w9 gb145 0 (.int .i64 0):=bc_ BK145 0
 have hfs10:=zC BK145.out 0
 have hns10_0:=NB144_145.out
 have hms10_0:=NB145_144.out
 have hs11:c_ w9 gb145 1 (.int .i64 0):=bc_ BK145 1
 have hfs11:=zC BK145.out 1
 have hns11_0:=NB144_145.out
 have hms11_0:=NB145_144.out
 have hs12:c_ w9 gb145 2 (.int .i64 0):=bc_ BK145 2
 have hfs12:=zC BK145.out 2
 have hns12_0:=NB144_145.out
 have hms12_0:=NB145_144.out
 have hs13:c_ w9 gb145 3 (.int .i64 0):=bc_ BK145 3
 have hfs13:=zC BK145.out 3
 have hns13_0:=NB144_145.out
 have hms13_0:=NB145_144.out
 have hs14:c_ w9 gb145 4 (.int .i64 0):=bc_ BK145 4
 have hfs14:=zC BK145.out 4
 have hns14_0:=NB144_145.out
 have hms14_0:=NB145_144.out
 have hs15:c_ w9 gb145 5 (.int .i64 0):=bc_ BK145 5
 have hfs15:=zC BK145.out 5
 have hns15_0:=NB144_145.out
 have hms15_0:=NB145_144.out
 refine skip_ (w1:=?_) (by rfl) rfl ?_ ?_
 rotate_left
 ·go_simp
  rfl
 refine hK.out _ _ ⟨((cell_far (p:=⟨gb145,_,none⟩) NB144_145.out _).trans (((cell_far (p:=⟨gb145,_,none⟩) NB144_145.out _).trans (((cell_far (p:=⟨gb145,_,none⟩) NB144_145.out _).trans (((cell_far (p:=⟨gb145,_,none⟩) NB144_145.out _).trans (((cell_far (p:=⟨gb145,_,none⟩) NB144_145.out _).trans (((cell_far (p:=⟨gb145,_,none⟩) NB144_145.out _).trans (hHeld.1)))))))))))),((cell_far (p:=⟨gb145,_,none⟩) NB144_145.out _).trans (((cell_far (p:=⟨gb145,_,none⟩) NB144_145.out _).trans (((cell_far (p:=⟨gb145,_,none⟩) NB144_145.out _).trans (((cell_far (p:=⟨gb145,_,none⟩) NB144_145.out _).trans (((cell_far (p:=⟨gb145,_,none⟩) NB144_145.out _).trans (((cell_far (p:=⟨gb145,_,none⟩) NB144_145.out _).trans (hHeld.2.1)))))))))))),((cell_far (p:=⟨gb145,_,none⟩) NB144_145.out _).trans (((cell_far (p:=⟨gb145,_,none⟩) NB144_145.out _).trans (((cell_far (p:=⟨gb145,_,none⟩) NB144_145.out _).trans (((cell_far (p:=⟨gb145,_,none⟩) NB144_145.out _).trans (((cell_far (p:=⟨gb145,_,none⟩) NB144_145.out _).trans (((cell_far (p:=⟨gb145,_,none⟩) NB144_145.out _).trans (hHeld.2.2.1)))))))))))),((cell_far (p:=⟨gb145,_,none⟩) NB144_145.out _).trans (((cell_far (p:=⟨gb145,_,none⟩) NB144_145.out _).trans (((cell_far (p:=⟨gb145,_,none⟩) NB144_145.out _).trans (((cell_far (p:=⟨gb145,_,none⟩) NB144_145.out _).trans (((cell_far (p:=⟨gb145,_,none⟩) NB144_145.out _).trans (((cell_far (p:=⟨gb145,_,none⟩) NB144_145.out _).trans (hHeld.2.2.2.1)))))))))))),((cell_far (p:=⟨gb145,_,none⟩) NB144_145.out _).trans (((cell_far (p:=⟨gb145,_,none⟩) NB144_145.out _).trans (((cell_far (p:=⟨gb145,_,none⟩) NB144_145.out _).trans (((cell_far (p:=⟨gb145,_,none⟩) NB144_145.out _).trans (((cell_far (p:=⟨gb145,_,none⟩) NB144_145.out _).trans (((cell_far (p:=⟨gb145,_,none⟩) NB144_145.out _).trans (hHeld.2.2.2.2.1)))))))))))),((cell_far (p:=⟨gb145,_,none⟩) NB144_145.out _).trans (((cell_far (p:=⟨gb145,_,none⟩) NB144_145.out _).trans (((cell_far (p:=⟨gb145,_,none⟩) NB144_145.out _).trans (((cell_far (p:=⟨gb145,_,none⟩) NB144_145.out _).trans (((cell_far (p:=⟨gb145,_,none⟩) NB144_145.out _).trans (((cell_far (p:=⟨gb145,_,none⟩) NB144_145.out _).trans (hHeld.2.2.2.2.2))))))))))))⟩ (fun hHeld=>?_)
 clear hK K
 refine done_ (done_of HT_.out (by kernel_rfl)) ?_
 try go_wp2
 refine bodyPost_ret (results_cell_row rfl _ _ gb145 85 #[.int .i64 t147,.int .i64 t148,.int .i64 t149,.int .i64 t150,.int .i64 t151,.int .i64 t152] (0,0) _ rfl (by(with_reducible repeat(first|refine zU ?_ _|refine zX ?_|refine zT ?_ _));refine zZ (cs:=#[.int .i64 t147,.int .i64 t148,.int .i64 t149,.int .i64 t150,.int .i64 t151,.int .i64 0]) ?_ 5 _ rfl;(with_reducible repeat(first|refine zU ?_ _|refine zX ?_|refine zT ?_ _));refine zZ (cs:=#[.int .i64 t147,.int .i64 t148,.int .i64 t149,.int .i64 t150,.int .i64 0,.int .i64 0]) ?_ 4 _ rfl;(with_reducible repeat(first|refine zU ?_ _|refine zX ?_|refine zT ?_ _));refine zZ (cs:=#[.int .i64 t147,.int .i64 t148,.int .i64 t149,.int .i64 0,.int .i64 0,.int .i64 0]) ?_ 3 _ rfl;(with_reducible repeat(first|refine zU ?_ _|refine zX ?_|refine zT ?_ _));refine zZ (cs:=#[.int .i64 t147,.int .i64 t148,.int .i64 0,.int .i64 0,.int .i64 0,.int .i64 0]) ?_ 2 _ rfl;(with_reducible repeat(first|refine zU ?_ _|refine zX ?_|refine zT ?_ _));refine zZ (cs:=#[.int .i64 t147,.int .i64 0,.int .i64 0,.int .i64 0,.int .i64 0,.int .i64 0]) ?_ 1 _ rfl;(with_reducible repeat(first|refine zU ?_ _|refine zX ?_|refine zT ?_ _));refine zZ (cs:=#[.int .i64 0,.int .i64 0,.int .i64 0,.int .i64 0,.int .i64 0,.int .i64 0]) ?_ 0 _ rfl;(with_reducible repeat(first|refine zU ?_ _|refine zX ?_|refine zT ?_ _));exact BK145.out) Try.underlying85 rfl (by kernel_rfl)) rfl ?_
 exact⟨ew_,hb_ HB⟩
def alarm_clock_escalated.f (a0_0:Int) (a0_1:Int) (a0_2:Int) (a0_3:Int) (a0_4:Int) (a0_5:Int) (a1:Int) (a2:Int):Option (Int×Int×Int×Int×Int×Int):=(alarm_clock_turned.f a0_0 a0_1 a0_2 a0_3 a0_4 a0_5 2 a1 0).bind fun bt155=>(some (bt155.1,bt155.2.1,bt155.2.2.1,bt155.2.2.2.1,bt155.2.2.2.2.1,bt155.2.2.2.2.2))
set_option maxHeartbeats 8000000 in
set_option maxRecDepth 100000 in
theorem alarm_clock_escalated.calls (a0_0:Int) (a0_1:Int) (a0_2:Int) (a0_3:Int) (a0_4:Int) (a0_5:Int) (a1:Int) (a2:Int) (r1:Int) (r2:Int) (r3:Int) (r4:Int) (r5:Int) (r6:Int) (w:World) (h:alarm_clock_escalated.f a0_0 a0_1 a0_2 a0_3 a0_4 a0_5 a1 a2=some (r1,r2,r3,r4,r5,r6)):
  Calls Try.prog 68 #[.agg #[.int .i64 a0_0,.int .i64 a0_1,.int .i64 a0_2,.int .i64 a0_3,.int .i64 a0_4,.int .i64 a0_5],.int .i64 a1,.int .i64 a2] w fun e w'=>e=.returned (.agg #[.int .i64 r1,.int .i64 r2,.int .i64 r3,.int .i64 r4,.int .i64 r5,.int .i64 r6])∧Below w.heap.size w w':=by
 have hu85:=Try.underlying85
 have HB:=zB (Below.refl w.heap.size w)
 have H:((alarm_clock_turned.f a0_0 a0_1 a0_2 a0_3 a0_4 a0_5 2 a1 0).bind fun bt155=>(some (bt155.1,bt155.2.1,bt155.2.2.1,bt155.2.2.2.1,bt155.2.2.2.2.1,bt155.2.2.2.2.2)))=some (r1,r2,r3,r4,r5,r6):=h
 clear h
 replace H:=zL H
 obtain⟨⟨t155,t156,t157,t158,t159,t160⟩,A40,H⟩:=H
 try dsimp only at H
 have A4:=zB A40
 clear A40
 simp only[zc,Prod.mk.injEq] at H
 obtain⟨rfl,rfl,rfl,rfl,rfl,rfl⟩:=H
 go_enter Try.func68,Try.ntmps68
 go_wp2_with (first|((with_reducible refine gate_dst (N:=3) rfl ?_);refine be_ (N:=3) (cs:=#[.int .i64 a0_0,.int .i64 a0_1,.int .i64 a0_2,.int .i64 a0_3,.int .i64 a0_4,.int .i64 a0_5]) (t:=85) ?_;intro gb153 hg w5 hbox hb;have BK153:=zB hbox;have GW153:=gw_ hg HB;have GE153:=GW153;replace HB:=zB (zQ HB.out hb);clear hb hbox hg)|((with_reducible refine gate_dst (N:=6) rfl ?_);refine be_ (N:=6) (cs:=#[.int .i64 0,.int .i64 0,.int .i64 0,.int .i64 0,.int .i64 0,.int .i64 0]) (t:=85) ?_;intro gb154 hg w6 hbox hb;have BK154:=zB hbox;have GE154:=gx_ hg (show Below w.heap.size w _ from hb_ HB);have GW154:=GE154;replace HB:=zB (zQ (hb_ HB) hb);have NB153_154:=nb_ BK153 hg;have NB154_153:=nc_ BK153 hg;replace BK153:=bl_ BK153 hb;clear hb hbox hg;have hnb7:=NB153_154.out;have hnc7:=NB154_153.out;have hcz8:=zD BK153.out;have hfz8:=zC BK153.out)|((with_reducible refine gate_callee (f:=90) rfl ?_);refine gl_ (some 9) Try.func90 #[.agg #[.int .i64 a0_0,.int .i64 a0_1,.int .i64 a0_2,.int .i64 a0_3,.int .i64 a0_4,.int .i64 a0_5],.int .i64 2,.int .i64 a1,.int .i64 0] rfl ?_;(with_reducible refine(alarm_clock_turned.calls a0_0 a0_1 a0_2 a0_3 a0_4 a0_5 2 a1 0 t155 t156 t157 t158 t159 t160 _ A4.out).mono ?_);rintro e w9 ⟨rfl,hb⟩;refine⟨_,rfl,?_⟩;replace BK153:=bl_ BK153 hb;replace BK154:=bl_ BK154 hb;replace HB:=zB (zQ (hb_ HB) hb);(try clear hb);(try clear hb2);(try clear hk);(try clear hi);have hcz10:=zD BK154.out;have hfz10:=zC BK154.out))
 refine bodyPost_ret (results_cell_row rfl _ _ gb154 85 #[.int .i64 t155,.int .i64 t156,.int .i64 t157,.int .i64 t158,.int .i64 t159,.int .i64 t160] (0,0) _ rfl (by refine zZ (cs:=#[.int .i64 t155,.int .i64 t156,.int .i64 t157,.int .i64 t158,.int .i64 t159,.int .i64 0]) ?_ 5 _ rfl;refine zZ (cs:=#[.int .i64 t155,.int .i64 t156,.int .i64 t157,.int .i64 t158,.int .i64 0,.int .i64 0]) ?_ 4 _ rfl;refine zZ (cs:=#[.int .i64 t155,.int .i64 t156,.int .i64 t157,.int .i64 0,.int .i64 0,.int .i64 0]) ?_ 3 _ rfl;refine zZ (cs:=#[.int .i64 t155,.int .i64 t156,.int .i64 0,.int .i64 0,.int .i64 0,.int .i64 0]) ?_ 2 _ rfl;refine zZ (cs:=#[.int .i64 t155,.int .i64 0,.int .i64 0,.int .i64 0,.int .i64 0,.int .i64 0]) ?_ 1 _ rfl;refine zZ (cs:=#[.int .i64 0,.int .i64 0,.int .i64 0,.int .i64 0,.int .i64 0,.int .i64 0]) ?_ 0 _ rfl;exact BK154.out) Try.underlying85 rfl (by kernel_rfl)) rfl ?_
 exact⟨ew_,hb_ HB⟩
def alarm_Pass.l0:Nat→Int→Int→Int→Int→Int→Int→Int→Option (Int×Int×Int×Int×Int×Int)
 |0,_,_,_,_,_,_,_=>none
 |k+1,x1,x165000,x165001,x165002,x165003,x165004,x165005=>(alarm_timed_due.f x165000 x165001 x165002 x165003 x165004 x165005 x1).bind fun t165=>(if t165=true then(if x165002=4 then((alarm_clock_woken.f x165000 x165001 x165002 x165003 x165004 x165005 x165005 0).bind fun bt166=>(alarm_Pass.l0 k x1 bt166.1 bt166.2.1 bt166.2.2.1 bt166.2.2.2.1 bt166.2.2.2.2.1 bt166.2.2.2.2.2)) else((alarm_clock_escalated.f x165000 x165001 x165002 x165003 x165004 x165005 x165005 0).bind fun bt172=>(alarm_Pass.l0 k x1 bt172.1 bt172.2.1 bt172.2.2.1 bt172.2.2.2.1 bt172.2.2.2.2.1 bt172.2.2.2.2.2))) else(some (x165000,x165001,x165002,x165003,x165004,x165005)))
def alarm_Pass.f (k:Nat) (a0_0:Int) (a0_1:Int) (a0_2:Int) (a0_3:Int) (a0_4:Int) (a0_5:Int) (a1:Int):Option (Int×Int×Int×Int×Int×Int):=(alarm_Is.f a0_0 a0_1 a0_2 a0_3 a0_4 a0_5).bind fun t163=>(if t163=true then(alarm_Pass.l0 k a1 a0_0 a0_1 a0_2 a0_3 a0_4 a0_5) else(some (a0_0,a0_1,a0_2,a0_3,a0_4,a0_5)))
theorem alarm_Pass.mono_l: ∀k,(∀y0 y1 y2 y3 y4 y5 y6,LeO (alarm_Pass.l0 k y0 y1 y2 y3 y4 y5 y6) (alarm_Pass.l0 (k+1) y0 y1 y2 y3 y4 y5 y6))
 |0=>fun _ _ _ _ _ _ _ r h=>by simp[alarm_Pass.l0] at h
 |k+1=>by
  have ih0:=alarm_Pass.mono_l k
  ·intro y0 y1 y2 y3 y4 y5 y6
   unfold alarm_Pass.l0
   repeat' first
   |(with_reducible exact ih0 _ _ _ _ _ _ _)
   |(with_reducible exact LeO.refl _)
   |(with_reducible exact zf _)
   |(with_reducible refine zg ?_ ?_)
   |(with_reducible refine ze ?_ (fun _=>?_))
theorem alarm_Pass.mono: ∀a0 a1 a2 a3 a4 a5 a6 k,LeO (alarm_Pass.f k a0 a1 a2 a3 a4 a5 a6) (alarm_Pass.f (k+1) a0 a1 a2 a3 a4 a5 a6):=by
 intro a0 a1 a2 a3 a4 a5 a6 k
 have ih0:=alarm_Pass.mono_l k
 unfold alarm_Pass.f
 repeat' first
   |(with_reducible exact ih0 _ _ _ _ _ _ _)
   |(with_reducible exact LeO.refl _)
   |(with_reducible exact zf _)
   |(with_reducible refine zg ?_ ?_)
   |(with_reducible refine ze ?_ (fun _=>?_))
set_option maxHeartbeats 8000000 in
set_option maxRecDepth 100000 in
theorem alarm_Pass.calls (k:Nat) (a0_0:Int) (a0_1:Int) (a0_2:Int) (a0_3:Int) (a0_4:Int) (a0_5:Int) (a1:Int) (r1:Int) (r2:Int) (r3:Int) (r4:Int) (r5:Int) (r6:Int) (w:World) (h:alarm_Pass.f k a0_0 a0_1 a0_2 a0_3 a0_4 a0_5 a1=some (r1,r2,r3,r4,r5,r6)):
  Calls Try.prog 34 #[.agg #[.int .i64 a0_0,.int .i64 a0_1,.int .i64 a0_2,.int .i64 a0_3,.int .i64 a0_4,.int .i64 a0_5],.int .i64 a1] w fun e w'=>e=.returned (.agg #[.int .i64 r1,.int .i64 r2,.int .i64 r3,.int .i64 r4,.int .i64 r5,.int .i64 r6])∧Below w.heap.size w w':=by
 have hu28:=Try.underlying28
 have hu85:=Try.underlying85
 have hu87:=Try.underlying87
 have HB:=zB (Below.refl w.heap.size w)
 have H:((alarm_Is.f a0_0 a0_1 a0_2 a0_3 a0_4 a0_5).bind fun t163=>(if t163=true then(alarm_Pass.l0 k a1 a0_0 a0_1 a0_2 a0_3 a0_4 a0_5) else(some (a0_0,a0_1,a0_2,a0_3,a0_4,a0_5))))=some (r1,r2,r3,r4,r5,r6):=h
 clear h
 replace H:=zL H
 obtain⟨t163,A30,H⟩:=H
 try dsimp only at H
 have A3:=zB A30
 clear A30
 by_cases c4:t163=true
 ·subst c4
  rw[if_pos rfl] at H;try dsimp only at H
  have H':=zB H
  clear H
  go_enter Try.func34,Try.ntmps34
  go_wp2_with (first|((with_reducible refine gate_dst (N:=2) rfl ?_);refine be_ (N:=2) (cs:=#[.int .i64 a0_0,.int .i64 a0_1,.int .i64 a0_2,.int .i64 a0_3,.int .i64 a0_4,.int .i64 a0_5]) (t:=28) ?_;intro gb161 hg w5 hbox hb;have BK161:=zB hbox;have GW161:=gw_ hg HB;have GE161:=GW161;replace HB:=zB (zQ HB.out hb);clear hb hbox hg)|((with_reducible refine gate_dst (N:=4) rfl ?_);refine be_ (N:=4) (cs:=#[.int .i64 0,.int .i64 0,.int .i64 0,.int .i64 0,.int .i64 0,.int .i64 0]) (t:=28) ?_;intro gb162 hg w6 hbox hb;have BK162:=zB hbox;have GE162:=gx_ hg (show Below w.heap.size w _ from hb_ HB);have GW162:=GE162;replace HB:=zB (zQ (hb_ HB) hb);have NB161_162:=nb_ BK161 hg;have NB162_161:=nc_ BK161 hg;replace BK161:=bl_ BK161 hb;clear hb hbox hg;have hnb7:=NB161_162.out;have hnc7:=NB162_161.out;have hcz8:=zD BK161.out;have hfz8:=zC BK161.out)|((with_reducible refine gate_callee (f:=50) rfl ?_);refine gl_ (some 7) Try.func50 #[.agg #[.int .i64 a0_0,.int .i64 a0_1,.int .i64 a0_2,.int .i64 a0_3,.int .i64 a0_4,.int .i64 a0_5]] rfl ?_;(with_reducible refine(alarm_Is.calls a0_0 a0_1 a0_2 a0_3 a0_4 a0_5 true _ A3.out).mono ?_);rintro e w9 ⟨rfl,hb⟩;refine⟨_,rfl,?_⟩;replace BK161:=bl_ BK161 hb;replace BK162:=bl_ BK162 hb;replace HB:=zB (zQ (hb_ HB) hb);(try clear hb);(try clear hb2);(try clear hk);(try clear hi);have hcz10:=zD BK161.out;have hfz10:=zC BK161.out)|((with_reducible refine gate_dst (N:=5) rfl ?_);refine be_ (N:=5) (cs:=#[.int .i64 0,.int .i64 0,.int .i64 0,.int .i64 0,.int .i64 0,.int .i64 0]) (t:=87) ?_;intro gb164 hg w11 hbox hb;have BK164:=zB hbox;have GE164:=gx_ hg (show Below w.heap.size w _ from hb_ HB);have GW164:=GE164;replace HB:=zB (zQ (hb_ HB) hb);have NB161_164:=nb_ BK161 hg;have NB164_161:=nc_ BK161 hg;replace BK161:=bl_ BK161 hb;have NB162_164:=nb_ BK162 hg;have NB164_162:=nc_ BK162 hg;replace BK162:=bl_ BK162 hb;clear hb hbox hg;have hnb12:=NB164_161.out;have hnc12:=NB161_164.out;have hnb13:=NB164_162.out;have hnc13:=NB162_164.out;have hcz14:=zD BK164.out;have hfz14:=zC BK164.out))
  (try simp only[Act.put,zE,zH,zI])
  go_loopg [] k (fun kq w'=> ∃(x165000_1:Int) (x165001_1:Int) (x165002_1:Int) (x165003_1:Int) (x165004_1:Int) (x165005_1:Int),Aside0 (alarm_Pass.l0 kq a1 x165000_1 x165001_1 x165002_1 x165003_1 x165004_1 x165005_1=some (r1,r2,r3,r4,r5,r6))∧Aside0 (kq≤k)∧Aside0 (w'.heap[gb161]?=some (.cells #[.int .i64 a0_0,.int .i64 a0_1,.int .i64 a0_2,.int .i64 a0_3,.int .i64 a0_4,.int .i64 a0_5] 28 (0,0)))∧Aside0 (w'.heap[gb162]?=some (.cells #[.int .i64 0,.int .i64 0,.int .i64 0,.int .i64 0,.int .i64 0,.int .i64 0] 28 (0,0)))∧Aside0 (w'.heap[gb164]?=some (.cells #[.int .i64 x165000_1,.int .i64 x165001_1,.int .i64 x165002_1,.int .i64 x165003_1,.int .i64 x165004_1,.int .i64 x165005_1] 87 (0,0)))∧Aside0 (Below w.heap.size w w'))
  case atStart=>exact⟨(a0_0),(a0_1),(a0_2),(a0_3),(a0_4),(a0_5),H',⟨za _⟩,⟨bk_ BK161⟩,⟨bk_ BK162⟩,⟨by(with_reducible repeat(first|refine zU ?_ _|refine zX ?_|refine zT ?_ _));refine zZ (cs:=#[.int .i64 a0_0,.int .i64 a0_1,.int .i64 a0_2,.int .i64 a0_3,.int .i64 a0_4,.int .i64 0]) ?_ 5 _ rfl;(with_reducible repeat(first|refine zU ?_ _|refine zX ?_|refine zT ?_ _));refine zZ (cs:=#[.int .i64 a0_0,.int .i64 a0_1,.int .i64 a0_2,.int .i64 a0_3,.int .i64 0,.int .i64 0]) ?_ 4 _ rfl;(with_reducible repeat(first|refine zU ?_ _|refine zX ?_|refine zT ?_ _));refine zZ (cs:=#[.int .i64 a0_0,.int .i64 a0_1,.int .i64 a0_2,.int .i64 0,.int .i64 0,.int .i64 0]) ?_ 3 _ rfl;(with_reducible repeat(first|refine zU ?_ _|refine zX ?_|refine zT ?_ _));refine zZ (cs:=#[.int .i64 a0_0,.int .i64 a0_1,.int .i64 0,.int .i64 0,.int .i64 0,.int .i64 0]) ?_ 2 _ rfl;(with_reducible repeat(first|refine zU ?_ _|refine zX ?_|refine zT ?_ _));refine zZ (cs:=#[.int .i64 a0_0,.int .i64 0,.int .i64 0,.int .i64 0,.int .i64 0,.int .i64 0]) ?_ 1 _ rfl;(with_reducible repeat(first|refine zU ?_ _|refine zX ?_|refine zT ?_ _));refine zZ (cs:=#[.int .i64 0,.int .i64 0,.int .i64 0,.int .i64 0,.int .i64 0,.int .i64 0]) ?_ 0 _ rfl;(with_reducible repeat(first|refine zU ?_ _|refine zX ?_|refine zT ?_ _));exact BK164.out⟩,⟨hb_ HB⟩⟩
  case round=>
   clear H'
   try clear c1;try clear p2;try clear c3;try clear c4;try clear c5;try clear c7;try clear c12;try clear c13;try clear hcz10;try clear hcz14;try clear hcz8;try clear hfz10;try clear hfz14;try clear hfz8
   obtain⟨x165000_1,x165001_1,x165002_1,x165003_1,x165004_1,x165005_1,HA,HK1,BK161,BK162,BK164,HB⟩:=hrel
   cases gk with
   |zero=>exact absurd HA.out (by simp[alarm_Pass.l0])
   |succ k1=>
    have H:=HA.out
    clear HA
    simp only[alarm_Pass.l0] at H
    replace H:=zL H
    obtain⟨t165,A150,H⟩:=H
    try dsimp only at H
    have A15:=zB A150
    clear A150
    by_cases c16:t165=true
    ·subst c16
     rw[if_pos rfl] at H;try dsimp only at H
     by_cases c17:x165002_1=4
     ·rw[if_pos c17] at H
      have c17b0:=beq_iff_eq.mpr c17
      have c17b1:=bne_eq_false_iff_eq.mpr c17
      clear c17
      replace H:=zL H
      obtain⟨⟨t166,t167,t168,t169,t170,t171⟩,A180,H⟩:=H
      try dsimp only at H
      have A18:=zB A180
      clear A180
      have H':=zB H
      clear H
      have hnb19:=NB164_161.out
      have hnc19:=NB161_164.out
      have hnb20:=NB164_162.out
      have hnc20:=NB162_164.out
      have hcz21:=zD BK164.out
      have hfz21:=zC BK164.out
      go_wp2_with (first|((with_reducible refine gate_callee (f:=66) rfl ?_);refine gl_ (some 15) Try.func66 #[.agg #[.int .i64 x165000_1,.int .i64 x165001_1,.int .i64 x165002_1,.int .i64 x165003_1,.int .i64 x165004_1,.int .i64 x165005_1],.int .i64 a1] rfl ?_;(with_reducible refine(alarm_timed_due.calls x165000_1 x165001_1 x165002_1 x165003_1 x165004_1 x165005_1 a1 true _ A15.out).mono ?_);rintro e w22 ⟨rfl,hb⟩;refine⟨_,rfl,?_⟩;replace BK161:=bl_ BK161 hb;replace BK162:=bl_ BK162 hb;replace BK164:=bl_ BK164 hb;replace HB:=zB (zQ (hb_ HB) hb);(try clear hb);(try clear hb2);(try clear hk);(try clear hi);have hcz23:=zD BK164.out;have hfz23:=zC BK164.out)|((with_reducible refine gate_callee (f:=67) rfl ?_);refine gl_ (some 27) Try.func67 #[.agg #[.int .i64 x165000_1,.int .i64 x165001_1,.int .i64 x165002_1,.int .i64 x165003_1,.int .i64 x165004_1,.int .i64 x165005_1],.int .i64 x165005_1,.int .i64 0] rfl ?_;(with_reducible refine(alarm_clock_woken.calls x165000_1 x165001_1 x165002_1 x165003_1 x165004_1 x165005_1 x165005_1 0 t166 t167 t168 t169 t170 t171 _ A18.out).mono ?_);rintro e w24 ⟨rfl,hb⟩;refine⟨_,rfl,?_⟩;replace BK161:=bl_ BK161 hb;replace BK162:=bl_ BK162 hb;replace BK164:=bl_ BK164 hb;replace HB:=zB (zQ (hb_ HB) hb);(try clear hb);(try clear hb2);(try clear hk);(try clear hi);have hcz25:=zD BK164.out;have hfz25:=zC BK164.out))
      go_roundg k1
      case measure=>have:=HK1.out;omega
      case rel=>exact⟨(t166),(t167),(t168),(t169),(t170),(t171),H',⟨za_ HK1⟩,⟨bk_ BK161⟩,⟨bk_ BK162⟩,⟨by(with_reducible repeat(first|refine zU ?_ _|refine zX ?_|refine zT ?_ _));refine zZ (cs:=#[.int .i64 t166,.int .i64 t167,.int .i64 t168,.int .i64 t169,.int .i64 t170,.int .i64 x165005_1]) ?_ 5 _ rfl;(with_reducible repeat(first|refine zU ?_ _|refine zX ?_|refine zT ?_ _));refine zZ (cs:=#[.int .i64 t166,.int .i64 t167,.int .i64 t168,.int .i64 t169,.int .i64 x165004_1,.int .i64 x165005_1]) ?_ 4 _ rfl;(with_reducible repeat(first|refine zU ?_ _|refine zX ?_|refine zT ?_ _));refine zZ (cs:=#[.int .i64 t166,.int .i64 t167,.int .i64 t168,.int .i64 x165003_1,.int .i64 x165004_1,.int .i64 x165005_1]) ?_ 3 _ rfl;(with_reducible repeat(first|refine zU ?_ _|refine zX ?_|refine zT ?_ _));refine zZ (cs:=#[.int .i64 t166,.int .i64 t167,.int .i64 x165002_1,.int .i64 x165003_1,.int .i64 x165004_1,.int .i64 x165005_1]) ?_ 2 _ rfl;(with_reducible repeat(first|refine zU ?_ _|refine zX ?_|refine zT ?_ _));refine zZ (cs:=#[.int .i64 t166,.int .i64 x165001_1,.int .i64 x165002_1,.int .i64 x165003_1,.int .i64 x165004_1,.int .i64 x165005_1]) ?_ 1 _ rfl;(with_reducible repeat(first|refine zU ?_ _|refine zX ?_|refine zT ?_ _));refine zZ (cs:=#[.int .i64 x165000_1,.int .i64 x165001_1,.int .i64 x165002_1,.int .i64 x165003_1,.int .i64 x165004_1,.int .i64 x165005_1]) ?_ 0 _ rfl;(with_reducible repeat(first|refine zU ?_ _|refine zX ?_|refine zT ?_ _));exact BK164.out⟩,⟨hb_ HB⟩⟩
     ·rw[if_neg c17] at H
      have c17b0:=beq_eq_false_iff_ne.mpr c17
      have c17b1:=bne_iff_ne.mpr c17
      replace H:=zL H
      obtain⟨⟨t172,t173,t174,t175,t176,t177⟩,A260,H⟩:=H
      try dsimp only at H
      have A26:=zB A260
      clear A260
      have H':=zB H
      clear H
      have hnb27:=NB164_161.out
      have hnc27:=NB161_164.out
      have hnb28:=NB164_162.out
      have hnc28:=NB162_164.out
      have hcz29:=zD BK164.out
      have hfz29:=zC BK164.out
      go_wp2_with (first|((with_reducible refine gate_callee (f:=66) rfl ?_);refine gl_ (some 15) Try.func66 #[.agg #[.int .i64 x165000_1,.int .i64 x165001_1,.int .i64 x165002_1,.int .i64 x165003_1,.int .i64 x165004_1,.int .i64 x165005_1],.int .i64 a1] rfl ?_;(with_reducible refine(alarm_timed_due.calls x165000_1 x165001_1 x165002_1 x165003_1 x165004_1 x165005_1 a1 true _ A15.out).mono ?_);rintro e w30 ⟨rfl,hb⟩;refine⟨_,rfl,?_⟩;replace BK161:=bl_ BK161 hb;replace BK162:=bl_ BK162 hb;replace BK164:=bl_ BK164 hb;replace HB:=zB (zQ (hb_ HB) hb);(try clear hb);(try clear hb2);(try clear hk);(try clear hi);have hcz31:=zD BK164.out;have hfz31:=zC BK164.out)|((with_reducible refine gate_callee (f:=68) rfl ?_);refine gl_ (some 35) Try.func68 #[.agg #[.int .i64 x165000_1,.int .i64 x165001_1,.int .i64 x165002_1,.int .i64 x165003_1,.int .i64 x165004_1,.int .i64 x165005_1],.int .i64 x165005_1,.int .i64 0] rfl ?_;(with_reducible refine(alarm_clock_escalated.calls x165000_1 x165001_1 x165002_1 x165003_1 x165004_1 x165005_1 x165005_1 0 t172 t173 t174 t175 t176 t177 _ A26.out).mono ?_);rintro e w32 ⟨rfl,hb⟩;refine⟨_,rfl,?_⟩;replace BK161:=bl_ BK161 hb;replace BK162:=bl_ BK162 hb;replace BK164:=bl_ BK164 hb;replace HB:=zB (zQ (hb_ HB) hb);(try clear hb);(try clear hb2);(try clear hk);(try clear hi);have hcz33:=zD BK164.out;have hfz33:=zC BK164.out))
      go_roundg k1
      case measure=>have:=HK1.out;omega
      case rel=>exact⟨(t172),(t173),(t174),(t175),(t176),(t177),H',⟨za_ HK1⟩,⟨bk_ BK161⟩,⟨bk_ BK162⟩,⟨by(with_reducible repeat(first|refine zU ?_ _|refine zX ?_|refine zT ?_ _));refine zZ (cs:=#[.int .i64 t172,.int .i64 t173,.int .i64 t174,.int .i64 t175,.int .i64 t176,.int .i64 x165005_1]) ?_ 5 _ rfl;(with_reducible repeat(first|refine zU ?_ _|refine zX ?_|refine zT ?_ _));refine zZ (cs:=#[.int .i64 t172,.int .i64 t173,.int .i64 t174,.int .i64 t175,.int .i64 x165004_1,.int .i64 x165005_1]) ?_ 4 _ rfl;(with_reducible repeat(first|refine zU ?_ _|refine zX ?_|refine zT ?_ _));refine zZ (cs:=#[.int .i64 t172,.int .i64 t173,.int .i64 t174,.int .i64 x165003_1,.int .i64 x165004_1,.int .i64 x165005_1]) ?_ 3 _ rfl;(with_reducible repeat(first|refine zU ?_ _|refine zX ?_|refine zT ?_ _));refine zZ (cs:=#[.int .i64 t172,.int .i64 t173,.int .i64 x165002_1,.int .i64 x165003_1,.int .i64 x165004_1,.int .i64 x165005_1]) ?_ 2 _ rfl;(with_reducible repeat(first|refine zU ?_ _|refine zX ?_|refine zT ?_ _));refine zZ (cs:=#[.int .i64 t172,.int .i64 x165001_1,.int .i64 x165002_1,.int .i64 x165003_1,.int .i64 x165004_1,.int .i64 x165005_1]) ?_ 1 _ rfl;(with_reducible repeat(first|refine zU ?_ _|refine zX ?_|refine zT ?_ _));refine zZ (cs:=#[.int .i64 x165000_1,.int .i64 x165001_1,.int .i64 x165002_1,.int .i64 x165003_1,.int .i64 x165004_1,.int .i64 x165005_1]) ?_ 0 _ rfl;(with_reducible repeat(first|refine zU ?_ _|refine zX ?_|refine zT ?_ _));exact BK164.out⟩,⟨hb_ HB⟩⟩
    ·replace c16:=zb c16
     subst c16
     rw[if_neg (show ¬(false=true) by decide)] at H;try dsimp only at H
     simp only[zc,Prod.mk.injEq] at H
     obtain⟨rfl,rfl,rfl,rfl,rfl,rfl⟩:=H
     have hnb34:=NB164_161.out
     have hnc34:=NB161_164.out
     have hnb35:=NB164_162.out
     have hnc35:=NB162_164.out
     have hcz36:=zD BK164.out
     have hfz36:=zC BK164.out
     go_wp2_with (first|((with_reducible refine gate_callee (f:=66) rfl ?_);refine gl_ (some 15) Try.func66 #[.agg #[.int .i64 x165000_1,.int .i64 x165001_1,.int .i64 x165002_1,.int .i64 x165003_1,.int .i64 x165004_1,.int .i64 x165005_1],.int .i64 a1] rfl ?_;(with_reducible refine(alarm_timed_due.calls x165000_1 x165001_1 x165002_1 x165003_1 x165004_1 x165005_1 a1 false _ A15.out).mono ?_);rintro e w37 ⟨rfl,hb⟩;refine⟨_,rfl,?_⟩;replace BK161:=bl_ BK161 hb;replace BK162:=bl_ BK162 hb;replace BK164:=bl_ BK164 hb;replace HB:=zB (zQ (hb_ HB) hb);(try clear hb);(try clear hb2);(try clear hk);(try clear hi);have hcz38:=zD BK164.out;have hfz38:=zC BK164.out;have hnb39:=NB162_161.out;have hnc39:=NB161_162.out;have hcz40:=zD BK162.out;have hfz40:=zC BK162.out))
     refine bodyPost_ret (results_cell_row rfl _ _ gb162 28 #[.int .i64 x165000_1,.int .i64 x165001_1,.int .i64 x165002_1,.int .i64 x165003_1,.int .i64 x165004_1,.int .i64 x165005_1] (0,0) _ rfl (by refine zZ (cs:=#[.int .i64 x165000_1,.int .i64 x165001_1,.int .i64 x165002_1,.int .i64 x165003_1,.int .i64 x165004_1,.int .i64 0]) ?_ 5 _ rfl;refine zZ (cs:=#[.int .i64 x165000_1,.int .i64 x165001_1,.int .i64 x165002_1,.int .i64 x165003_1,.int .i64 0,.int .i64 0]) ?_ 4 _ rfl;refine zZ (cs:=#[.int .i64 x165000_1,.int .i64 x165001_1,.int .i64 x165002_1,.int .i64 0,.int .i64 0,.int .i64 0]) ?_ 3 _ rfl;refine zZ (cs:=#[.int .i64 x165000_1,.int .i64 x165001_1,.int .i64 0,.int .i64 0,.int .i64 0,.int .i64 0]) ?_ 2 _ rfl;refine zZ (cs:=#[.int .i64 x165000_1,.int .i64 0,.int .i64 0,.int .i64 0,.int .i64 0,.int .i64 0]) ?_ 1 _ rfl;refine zZ (cs:=#[.int .i64 0,.int .i64 0,.int .i64 0,.int .i64 0,.int .i64 0,.int .i64 0]) ?_ 0 _ rfl;exact BK162.out) Try.underlying28 rfl (by kernel_rfl)) rfl ?_
     exact⟨ew_,hb_ HB⟩
 ·replace c4:=zb c4
  subst c4
  rw[if_neg (show ¬(false=true) by decide)] at H;try dsimp only at H
  simp only[zc,Prod.mk.injEq] at H
  obtain⟨rfl,rfl,rfl,rfl,rfl,rfl⟩:=H
  go_enter Try.func34,Try.ntmps34
  go_wp2_with (first|((with_reducible refine gate_dst (N:=2) rfl ?_);refine be_ (N:=2) (cs:=#[.int .i64 a0_0,.int .i64 a0_1,.int .i64 a0_2,.int .i64 a0_3,.int .i64 a0_4,.int .i64 a0_5]) (t:=28) ?_;intro gb161 hg w41 hbox hb;have BK161:=zB hbox;have GW161:=gw_ hg HB;have GE161:=GW161;replace HB:=zB (zQ HB.out hb);clear hb hbox hg)|((with_reducible refine gate_dst (N:=4) rfl ?_);refine be_ (N:=4) (cs:=#[.int .i64 0,.int .i64 0,.int .i64 0,.int .i64 0,.int .i64 0,.int .i64 0]) (t:=28) ?_;intro gb162 hg w42 hbox hb;have BK162:=zB hbox;have GE162:=gx_ hg (show Below w.heap.size w _ from hb_ HB);have GW162:=GE162;replace HB:=zB (zQ (hb_ HB) hb);have NB161_162:=nb_ BK161 hg;have NB162_161:=nc_ BK161 hg;replace BK161:=bl_ BK161 hb;clear hb hbox hg;have hnb43:=NB161_162.out;have hnc43:=NB162_161.out;have hcz44:=zD BK161.out;have hfz44:=zC BK161.out)|((with_reducible refine gate_callee (f:=50) rfl ?_);refine gl_ (some 7) Try.func50 #[.agg #[.int .i64 a0_0,.int .i64 a0_1,.int .i64 a0_2,.int .i64 a0_3,.int .i64 a0_4,.int .i64 a0_5]] rfl ?_;(with_reducible refine(alarm_Is.calls a0_0 a0_1 a0_2 a0_3 a0_4 a0_5 false _ A3.out).mono ?_);rintro e w45 ⟨rfl,hb⟩;refine⟨_,rfl,?_⟩;replace BK161:=bl_ BK161 hb;replace BK162:=bl_ BK162 hb;replace HB:=zB (zQ (hb_ HB) hb);(try clear hb);(try clear hb2);(try clear hk);(try clear hi);have hcz46:=zD BK161.out;have hfz46:=zC BK161.out;have hcz47:=zD BK162.out;have hfz47:=zC BK162.out))
  refine bodyPost_ret (results_cell_row rfl _ _ gb162 28 #[.int .i64 a0_0,.int .i64 a0_1,.int .i64 a0_2,.int .i64 a0_3,.int .i64 a0_4,.int .i64 a0_5] (0,0) _ rfl (by refine zZ (cs:=#[.int .i64 a0_0,.int .i64 a0_1,.int .i64 a0_2,.int .i64 a0_3,.int .i64 a0_4,.int .i64 0]) ?_ 5 _ rfl;refine zZ (cs:=#[.int .i64 a0_0,.int .i64 a0_1,.int .i64 a0_2,.int .i64 a0_3,.int .i64 0,.int .i64 0]) ?_ 4 _ rfl;refine zZ (cs:=#[.int .i64 a0_0,.int .i64 a0_1,.int .i64 a0_2,.int .i64 0,.int .i64 0,.int .i64 0]) ?_ 3 _ rfl;refine zZ (cs:=#[.int .i64 a0_0,.int .i64 a0_1,.int .i64 0,.int .i64 0,.int .i64 0,.int .i64 0]) ?_ 2 _ rfl;refine zZ (cs:=#[.int .i64 a0_0,.int .i64 0,.int .i64 0,.int .i64 0,.int .i64 0,.int .i64 0]) ?_ 1 _ rfl;refine zZ (cs:=#[.int .i64 0,.int .i64 0,.int .i64 0,.int .i64 0,.int .i64 0,.int .i64 0]) ?_ 0 _ rfl;exact BK162.out) Try.underlying28 rfl (by kernel_rfl)) rfl ?_
  exact⟨ew_,hb_ HB⟩
end Go.Proofs.Ytcfpbmdndapeaaa.F
