-- Written by a program of this session (xprint.py), out of the translation and of contracts proved by hand.
import Derived.Test.YtcfpbmdndapeaaaF0
import Derived.Test.YtcfpbmdndapeaaaF4
import Derived.Test.YtcfpbmdndapeaaaF6
import Derived.Test.YtcfpbmdndapeaaaF27
namespace Go.Proofs.Ytcfpbmdndapeaaa.F
open Go.RowKit Go.Proofs.YtcfpbmdndapeaaaV.PrintWords Go.Proofs.YtcfpbmdndapeaaaV.PrintLast Go.Proofs.YtcfpbmdndapeaaaV.PrintMore
attribute [local go_sem] max2_int min2_int max_two min_two max_three min_three max_four min_four
set_option linter.unusedVariables false
set_option linter.unusedSimpArgs false
def board_alarms_with.f (k:Nat) (l0:List (S28)) (a1:Int) (a2:Int) (l3:List (S28)):Option ((List (S28))):=if 0≤a1 then(if a1≤(l0.length:Int) then(if 0≤(wrap64 (a1+a2)) then(if(wrap64 (a1+a2))≤(l0.length:Int) then((api_Alarm_85.f k (([(l0.take (a1:Int).toNat),l3,(l0.drop ((wrap64 (a1+a2)):Int).toNat)]:List (List (S28))))).bind fun t366=>(some t366)) else(none)) else(none)) else(none)) else(none)
theorem board_alarms_with.mono: ∀a0 a1 a2 a3 k,LeO (board_alarms_with.f k a0 a1 a2 a3) (board_alarms_with.f (k+1) a0 a1 a2 a3):=by
 intro a0 a1 a2 a3 k
 unfold board_alarms_with.f
 repeat' first
   |(with_reducible exact api_Alarm_85.mono _ _)
   |(with_reducible exact LeO.refl _)
   |(with_reducible exact zf _)
   |(with_reducible refine zg ?_ ?_)
   |(with_reducible refine ze ?_ (fun _=>?_))
def board_alarms_with.T1:Bool×List (List Nat×List Nat):=(true,[([],[]),([],[]),([0,1],[0,1]),([],[]),([],[]),([],[]),([],[]),([5,6],[5,6]),([4,7],[4,7]),([2,3,8],[2,3,8]),([9],[9]),([10,10,0,1,2,3,4,5,6,7,8,9,10],[10])])
def board_alarms_with.B1:List Nat:=[0,0,3,0,0,0,0,96,240,511,1023,2047]
theorem board_alarms_with.tab1:rtab .any (opsOf Try.f54 1)=board_alarms_with.T1:=by kernel_rfl
theorem board_alarms_with.bits1:waitsOk board_alarms_with.T1.2 board_alarms_with.B1=true:=by kernel_rfl
set_option maxHeartbeats 8000000 in
set_option maxRecDepth 100000 in
theorem board_alarms_with.calls (k:Nat) (P0_:Nat→Prop) (A0:Option Addr) (c0:Nat) (l0:List (S28)) (a1:Int) (a2:Int) (P3_:Nat→Prop) (A3:Option Addr) (c3:Nat) (l3:List (S28)) (r:List (S28)) (w:World) (hs0:Kd.V k28 28 w w.heap.size (fun k_=>P0_ k_) (.slice A0 l0.length c0) l0) (hs3:Kd.V k28 28 w w.heap.size (fun k_=>P3_ k_) (.slice A3 l3.length c3) l3) (h:board_alarms_with.f k l0 a1 a2 l3=some r):
  Calls Try.prog 54 #[.slice A0 l0.length c0,.int .i64 a1,.int .i64 a2,.slice A3 l3.length c3] w fun e w'=> ∃v0_:Value,e=.returned (v0_)∧Kd.R k28 28 w' w.heap.size (fun k_=>(w.heap.size≤k_)) v0_ r∧Below w.heap.size w w':=by
 have HO0:=zB (show Kd.V k28 28 w w.heap.size (fun k_=>((P0_ k_∨P3_ k_)∨w.heap.size≤k_)) (.slice A0 l0.length c0) l0 from Kd.V_mono hs0 (fun k_ hk=> .inl (.inl hk)))
 have HO3:=zB (show Kd.V k28 28 w w.heap.size (fun k_=>((P0_ k_∨P3_ k_)∨w.heap.size≤k_)) (.slice A3 l3.length c3) l3 from Kd.V_mono hs3 (fun k_ hk=> .inl (.inr hk)))
 have HB:=zB (Below.refl w.heap.size w)
 have H:(if 0≤a1 then(if a1≤(l0.length:Int) then(if 0≤(wrap64 (a1+a2)) then(if(wrap64 (a1+a2))≤(l0.length:Int) then((api_Alarm_85.f k (([(l0.take (a1:Int).toNat),l3,(l0.drop ((wrap64 (a1+a2)):Int).toNat)]:List (List (S28))))).bind fun t366=>(some t366)) else(none)) else(none)) else(none)) else(none))=some r:=h
 clear h
 obtain⟨c5,H⟩:=gd_ H
 have c5b0:=eq_true c5
 have c5b1:=zO c5
 clear c5
 obtain⟨c6,H⟩:=gd_ H
 have c6b0:=eq_true c6
 have c6b1:=zO c6
 clear c6
 obtain⟨y353,hy353⟩: ∃y_:List (S28),y_=(l0.take (a1:Int).toNat):=⟨_,rfl⟩
 replace H:(if 0≤(wrap64 (a1+a2)) then(if(wrap64 (a1+a2))≤(l0.length:Int) then((api_Alarm_85.f k (([y353,l3,(l0.drop ((wrap64 (a1+a2)):Int).toNat)]:List (List (S28))))).bind fun t366=>(some t366)) else(none)) else(none))=some r:=by first|(rw[hy353];with_reducible exact H)|(have H2_:=(Option.bind_some _ _).symm.trans H;rw[hy353];with_reducible exact H2_)|(have H2_:=(Option.bind_some _ _).symm.trans H;with_reducible exact H2_)|with_reducible exact H|(rw[hy353];exact H)|exact H
 have Ny353:=zB hy353
 clear hy353
 obtain⟨ji7,hji7⟩: ∃j_:Int,(wrap64 (a1+a2))=j_:=⟨_,rfl⟩
 replace H:(if 0≤(ji7) then(if(ji7)≤(l0.length:Int) then((api_Alarm_85.f k (([y353,l3,(l0.drop ((ji7):Int).toNat)]:List (List (S28))))).bind fun t366=>(some t366)) else(none)) else(none))=some r:=by first|(rw[hji7] at H;exact H)|(simp only[hji7] at H⊢;exact H)
 have hji7w:(IntKind.i64.wrap (a1+a2))=ji7:=(i64_w _).trans hji7
 obtain⟨c8,H⟩:=gd_ H
 have c8b0:=eq_true c8
 have c8b1:=zO c8
 clear c8
 obtain⟨c9,H⟩:=gd_ H
 have c9b0:=eq_true c9
 have c9b1:=zO c9
 clear c9
 obtain⟨y358,hy358⟩: ∃y_:List (S28),y_=(l0.drop ((ji7):Int).toNat):=⟨_,rfl⟩
 replace H:((api_Alarm_85.f k (([y353,l3,y358]:List (List (S28))))).bind fun t366=>(some t366))=some r:=by first|(rw[hy358];with_reducible exact H)|(have H2_:=(Option.bind_some _ _).symm.trans H;rw[hy358];with_reducible exact H2_)|(have H2_:=(Option.bind_some _ _).symm.trans H;with_reducible exact H2_)|with_reducible exact H|(rw[hy358];exact H)|exact H
 have Ny358:=zB hy358
 clear hy358
 obtain⟨y363,hy363⟩: ∃y_:List (List (S28)),y_=(([y353,l3,y358]:List (List (S28)))):=⟨_,rfl⟩
 replace H:((api_Alarm_85.f k y363).bind fun t366=>(some t366))=some r:=by first|(rw[hy363];with_reducible exact H)|(have H2_:=(Option.bind_some _ _).symm.trans H;rw[hy363];with_reducible exact H2_)|(have H2_:=(Option.bind_some _ _).symm.trans H;with_reducible exact H2_)|with_reducible exact H|(rw[hy363];exact H)|exact H
 have Ny363:=zB hy363
 clear hy363
 replace H:=zL H
 obtain⟨t366,A100,H⟩:=H
 try dsimp only at H
 have A10:=zB A100
 clear A100
 obtain rfl:=zW H
 go_enter Try.func54,Try.ntmps54
 try go_wp2
 replace HO0:=zB (Kd.V_drew HO0.out)
 replace HO3:=zB (Kd.V_drew HO3.out)
 replace HB:=zB (zG HB.out)
 have q12:(a1:Int)≤((l0.length:Int):Int):=zJ as_
 obtain⟨i012,hi012,_,hsz12,_⟩:=info_parts info28
 have hroom12:l0.length≤c0:=(Kd.V_reads' HO0.out).2.1
 have hC12:Kd.F k28 _ _ A0 l0.length l0:=(Kd.V_at (base:=w.heap.size) HO0.out).2.2
 have hcut12:=cut_to (P:=Try.prog) 70 28 .i64 Try.underlying70 hi012 A0 l0.length c0 a1 (zJ as_) q12 hroom12
 have hr12:=Kd.F_take (m:=(a1:Int).toNat) hC12 (by omega)
 have hy12:y353.length=(a1:Int).toNat:=(by rw[Ny353.out,zP];omega)
 rw[←Ny353.out] at hr12
 rw[←hy12] at hcut12
 have HO357:=zB (show Kd.V k28 28 _ w.heap.size _ (.slice A0 y353.length c0) y353 from Kd.V_mk (by omega) hr12)
 have HC357:=zB (show y353.length≤c0 from by omega)
 clear hr12 hC12 hroom12 hi012 hsz12
 have KY12:=zB hy12
 clear hy12
 replace q12:=eq_true q12
 have q13:((ji7):Int)≤((l0.length:Int):Int):=zJ as_
 obtain⟨i013,hi013,_,hsz13,_⟩:=info_parts info28
 have hroom13:l0.length≤c0:=(Kd.V_reads' HO0.out).2.1
 have hC13:Kd.F k28 _ _ A0 l0.length l0:=(Kd.V_at (base:=w.heap.size) HO0.out).2.2
 have q013:(0:Int)≤((ji7):Int):=zJ as_
 have hcut13:=cut_from (P:=Try.prog) 70 28 .i64 Try.underlying70 hi013 6 hsz13 A0 l0.length c0 (ji7) q013 q13
 have hr13:=Kd.F_cut (m:=((ji7):Int).toNat) (c:=c0) hC13 (by omega) hroom13
 obtain⟨A13,hA13⟩: ∃A1,A1=(if c0=((ji7):Int).toNat then A0 else(A0:Option Addr).map (·.add (((ji7):Int).toNat*6))):=⟨_,rfl⟩
 obtain⟨c13,hc13⟩: ∃c1,c1=c0-((ji7):Int).toNat:=⟨_,rfl⟩
 have hy13:y358.length=l0.length-((ji7):Int).toNat:=(by rw[Ny358.out,zR]<;>omega)
 rw[show(l0).drop ((ji7):Int).toNat=y358 from Ny358.out.symm] at hr13
 replace hr13:Kd.F k28 _ _ A13 y358.length y358:=(by rw[hA13];exact hr13)
 rw[←hy13,←hA13,←hc13] at hcut13
 have HO362:=zB (show Kd.V k28 28 _ w.heap.size _ (.slice A13 y358.length c13) y358 from Kd.V_mk (by rw[hy13,hc13];exact Nat.sub_le_sub_right hroom13 _) hr13)
 have HC362:=zB (show y358.length≤c13 from by rw[hy13,hc13];exact Nat.sub_le_sub_right hroom13 _)
 clear hr13 hC13 hroom13 hi013 hsz13 hc13
 have KY13:=zB hy13
 have KA13:=zB hA13
 clear hy13 hA13
 replace q13:=eq_true q13
 refine start_ (n:=12) (S:=fun w'=>True) (ds:=[]) (bt_ 0 12) (by kernel_rfl) rfl rfl trivial (fun hHeld=>?_);refine with_tabW board_alarms_with.tab1 board_alarms_with.bits1 (fun HT_ HW_=>?_)
 generalize w.drew=w11 at HO0 HO3 HB HO357 HO362 hHeld⊢
 have Q_:=Qs.mk (n:=12) [(0,0,9,1),(0,1,10,3),(0,2,11,7),(0,3,12,15),(0,4,13,31),(0,5,14,63),(0,6,15,127),(0,7,16,255),(0,8,17,511)]
 iterate 9 (refine pq_ Q_ ?_;replace Q_:=qt_ Q_)
 clear Q_
 refine one_ (i:=9) (N:=some 18) (dn_ 10 12) rfl rfl (one_of HT_.out (by kernel_rfl)) (by decide) (fun K hK=>?_)
 refine Kd.N_lit_step (Kd.slice 28 k28) _ 70 ?hg (N':=18) ?hd (xs:=([y353,l3,y358]:List (List (S28)))) (inner:=[.slice A0 y353.length c0,.slice A3 l3.length c3,.slice A13 y358.length c13]) (ok:=(fun k_=>((P0_ k_∨P3_ k_)∨w.heap.size≤k_))) (okp:=(fun k_=>((P0_ k_∨P3_ k_)∨w.heap.size≤k_))) ?hr ?hp (fun _ hk=>hk) ((show ∀k_,w11.heap.size≤k_→(fun k_=>((P0_ k_∨P3_ k_)∨w.heap.size≤k_)) k_ from fun k_ hk=>(.inr (Nat.le_trans (zN HB.out) hk))) _ (za _)) (Below.refl _ _) (za _) (by simp) ?_;(case hd=>rfl);(case hg=>rfl);(case hr=>first|(go_simp;done)|(go_simp;rfl));(case hp=>exact(Reps.one (show Kd.FK (Kd.slice 28 k28) _ _ y353 [.slice A0 y353.length c0] from(Kd.FK_slice_mk (Kd.V_reads' (Kd.V_mono (ok':=(fun k_=>((P0_ k_∨P3_ k_)∨w.heap.size≤k_))) (HO357.out) (fun k_ hk=>hk))).2.1 (Kd.V_F (Kd.V_mono (ok':=(fun k_=>((P0_ k_∨P3_ k_)∨w.heap.size≤k_))) (HO357.out) (fun k_ hk=>hk))))) (Reps.one (show Kd.FK (Kd.slice 28 k28) _ _ l3 [.slice A3 l3.length c3] from(Kd.FK_slice_mk (Kd.V_reads' (Kd.V_mono (ok':=(fun k_=>((P0_ k_∨P3_ k_)∨w.heap.size≤k_))) (HO3.out) (fun k_ hk=>hk))).2.1 (Kd.V_F (Kd.V_mono (ok':=(fun k_=>((P0_ k_∨P3_ k_)∨w.heap.size≤k_))) (HO3.out) (fun k_ hk=>hk))))) (Reps.one (show Kd.FK (Kd.slice 28 k28) _ _ y358 [.slice A13 y358.length c13] from(Kd.FK_slice_mk (Kd.V_reads' (Kd.V_mono (ok':=(fun k_=>((P0_ k_∨P3_ k_)∨w.heap.size≤k_))) (HO362.out) (fun k_ hk=>hk))).2.1 (Kd.V_F (Kd.V_mono (ok':=(fun k_=>((P0_ k_∨P3_ k_)∨w.heap.size≤k_))) (HO362.out) (fun k_ hk=>hk))))) (Reps.none _ _)))))
 intro v364 w14 ho15 hb hg_ hnew_
 clear hg_ hnew_
 (first|rw[←Ny363.out] at ho15|(simp only[Int.reduceToNat] at ho15;rw[←Ny363.out] at ho15))
 replace HO0:=zB (Kd.V_elder' (HO0.out) (Kd.N_base ho15) hb)
 replace HO3:=zB (Kd.V_elder' (HO3.out) (Kd.N_base ho15) hb)
 replace HO357:=zB (Kd.V_elder' (HO357.out) (Kd.N_base ho15) hb)
 replace HO362:=zB (Kd.V_elder' (HO362.out) (Kd.N_base ho15) hb)
 have HO365:=zB (Kd.N_lower ho15 (zN HB.out))
 replace HB:=zB (zQ HB.out hb)
 clear hb ho15
 obtain⟨Ao16,co16,eo16⟩:=Kd.N_slice HO365.out
 (first|subst eo16|(injection eo16 with f1_ f2_ f3_;have f4_:=f1_.symm;have f5_:=f3_.symm;clear f1_ f2_ f3_;subst f4_;subst f5_))
 refine hK.out _ _ trivial (fun hHeld=>?_)
 clear hK K
 refine norm_ (a':=?_) ?_ ?_
 rotate_left
 ·show Act.put _ (some 18) _=_
  simp only[Act.put,zE,zH,zI,i64_w,i32_w]
  rfl
 refine one_ (i:=10) (N:=some 19) (dn_ 11 12) rfl rfl (one_of HT_.out (by kernel_rfl)) (by decide) (fun K hK=>?_)
 refine gs_ Try.func85 #[.slice Ao16 y363.length co16] rfl ?_
 with_reducible refine(api_Alarm_85.calls k _ _ y363 t366 _ ?side1 ?side2 A10.out).mono ?_
 (case side1=>repeat(first|exact(Kd.N_reads' HO365.out).2.2|(with_reducible refine Kd.C_alloc ?_ _)|(with_reducible refine Kd.C_drewN ?_ _)|(with_reducible refine Kd.C_drew ?_)))
 (case side2=>exact(Kd.N_reads' HO365.out).2.1)
 rintro e w17 ⟨v367,rfl,ho0,hb⟩
 refine⟨_,rfl,?_⟩
 replace HO0:=zB (Kd.V_elder' (HO0.out) (Kd.R_base ho0) hb)
 replace HO3:=zB (Kd.V_elder' (HO3.out) (Kd.R_base ho0) hb)
 replace HO357:=zB (Kd.V_elder' (HO357.out) (Kd.R_base ho0) hb)
 replace HO362:=zB (Kd.V_elder' (HO362.out) (Kd.R_base ho0) hb)
 replace HO365:=zB (Kd.N_elder' (HO365.out) (Kd.R_base ho0) hb)
 have HO368:=zB (Kd.R_lower (Kd.R_newM (M:=fun k_=>(w.heap.size≤k_)) ho0 (zN HB.out) (fun k_ h_=>h_)) (zN HB.out))
 replace HB:=zB (zQ HB.out hb)
 (try clear hb)
 (try clear hb2)
 (try clear hk)
 (try clear hi)
 (try clear ho0)
 refine hK.out _ _ trivial (fun hHeld=>?_)
 clear hK K
 refine norm_ (a':=?_) ?_ ?_
 rotate_left
 ·show Act.put _ (some 19) _=_
  simp only[Act.put,zE,zH,zI,i64_w,i32_w]
  rfl
 refine pure_ (i:=11) (N:=some 8) (v:=?_) (a':=?_) (bt_ 4095 12) rfl rfl (any_of HT_.out (by kernel_rfl)) (fun _ _ _ h=>h) (Or.inl ⟨by rfl,?_⟩) ?_ ?_
 rotate_left
 ·intro w'
  go_simp
  with_reducible rfl
 rotate_left;(simp only[Act.put,zE,zH,zI,i64_w,i32_w];rfl)
 refine done_ (done_of HT_.out (by kernel_rfl)) ?_
 try go_wp2
 go_ret
 exact⟨_,by first|rfl|(simp[errW_none,errW_some]<;>rfl)|(simp only[←hji7];first|rfl|(simp[errW_none,errW_some]<;>rfl))|(simp[*,errW_none,errW_some]<;>rfl),by(with_reducible repeat(first|apply Kd.R_alloc|apply Kd.R_drewN|apply Kd.R_drew));exact Kd.R_mono HO368.out (fun _ hk=>hk.1),hb_ HB⟩
def board_Put.f (k:Nat) (a0_0:Int) (a0_1:Int) (l0_2:List (S28)) (a1_0:Int) (a1_1:Int) (a1_2:Int) (a1_3:Int) (a1_4:Int) (a1_5:Int):Option (Int×Int×(List (S28))×Int):=(board_Is.f k a0_0 a0_1 l0_2).bind fun t372=>(if t372=true then((alarm_Is.f a1_0 a1_1 a1_2 a1_3 a1_4 a1_5).bind fun t373=>(if t373=true then(if a1_4>a0_1 then(none) else((board_open.f a0_0 a0_1 l0_2).bind fun bt374=>((board_alarms_find.f k bt374.1 a1_0 a1_1).bind fun bt383=>(if bt383.2=true then(none) else(if(l0_2.length:Int)=a0_0 then(none) else((board_alarms_with.f k bt374.1 bt383.1 0 (([(⟨(⟨a1_0,a1_1⟩:S26),a1_2,a1_3,a1_4,a1_5⟩:S28)]:List (S28)))).bind fun t388=>((board_sheet_now.f bt374.1 bt374.2.1 bt374.2.2.1 bt374.2.2.2 t388).bind fun bt391=>(some (bt391.1,bt391.2.1,bt391.2.2,0))))))))) else(none))) else(none))
theorem board_Put.mono: ∀a0 a1 a2 a3 a4 a5 a6 a7 a8 k,LeO (board_Put.f k a0 a1 a2 a3 a4 a5 a6 a7 a8) (board_Put.f (k+1) a0 a1 a2 a3 a4 a5 a6 a7 a8):=by
 intro a0 a1 a2 a3 a4 a5 a6 a7 a8 k
 unfold board_Put.f
 repeat' first
   |(with_reducible exact board_Is.mono _ _ _ _)
   |(with_reducible exact board_alarms_find.mono _ _ _ _)
   |(with_reducible exact board_alarms_with.mono _ _ _ _ _)
   |(with_reducible exact LeO.refl _)
   |(with_reducible exact zf _)
   |(with_reducible refine zg ?_ ?_)
   |(with_reducible refine ze ?_ (fun _=>?_))
def board_Put.T9:Bool×List (List Nat×List Nat):=(true,[([],[]),([],[]),([1],[1]),([],[]),([],[]),([4],[4]),([2,3,5],[2,3,5]),([0,6,6],[0,6]),([7,7,0,1,2,3,4,5,6,7],[7]),([8,0,1,2,3,4,5,6,7,8],[])])
def board_Put.B9:List Nat:=[0,0,2,0,0,16,62,127,255,511]
theorem board_Put.tab9:rtab .any (opsOf Try.f15 9)=board_Put.T9:=by kernel_rfl
theorem board_Put.bits9:waitsOk board_Put.T9.2 board_Put.B9=true:=by kernel_rfl
set_option maxHeartbeats 8000000 in
set_option maxRecDepth 100000 in
theorem board_Put.calls (k:Nat) (a0_0:Int) (a0_1:Int) (A0_2:Option Addr) (c0_2:Nat) (l0_2:List (S28)) (a1_0:Int) (a1_1:Int) (a1_2:Int) (a1_3:Int) (a1_4:Int) (a1_5:Int) (r1:Int) (r2:Int) (r3:List (S28)) (r4:Int) (w:World) (hr0_2:Kd.C k28 w A0_2 l0_2.length l0_2) (hc0_2:l0_2.length≤c0_2) (h:board_Put.f k a0_0 a0_1 l0_2 a1_0 a1_1 a1_2 a1_3 a1_4 a1_5=some (r1,r2,r3,r4)):
  Calls Try.prog 15 #[.agg #[.int .i64 a0_0,.int .i64 a0_1,.slice A0_2 l0_2.length c0_2],.agg #[.int .i64 a1_0,.int .i64 a1_1,.int .i64 a1_2,.int .i64 a1_3,.int .i64 a1_4,.int .i64 a1_5]] w fun e w'=> ∃v2_:Value,e=.returned (.tuple #[.agg #[.int .i64 r1,.int .i64 r2,v2_],.int .i64 r4])∧Kd.R k28 28 w' w.heap.size (fun _=>True) v2_ r3∧Below w.heap.size w w':=by
 have hu24:=Try.underlying24
 have hu28:=Try.underlying28
 have hu72:=Try.underlying72
 have hu26:=Try.underlying26
 have HR0_2:=zB hr0_2
 have HC0_2:=zB hc0_2
 clear hr0_2 hc0_2
 have HB:=zB (Below.refl w.heap.size w)
 have H:((board_Is.f k a0_0 a0_1 l0_2).bind fun t372=>(if t372=true then((alarm_Is.f a1_0 a1_1 a1_2 a1_3 a1_4 a1_5).bind fun t373=>(if t373=true then(if a1_4>a0_1 then(none) else((board_open.f a0_0 a0_1 l0_2).bind fun bt374=>((board_alarms_find.f k bt374.1 a1_0 a1_1).bind fun bt383=>(if bt383.2=true then(none) else(if(l0_2.length:Int)=a0_0 then(none) else((board_alarms_with.f k bt374.1 bt383.1 0 (([(⟨(⟨a1_0,a1_1⟩:S26),a1_2,a1_3,a1_4,a1_5⟩:S28)]:List (S28)))).bind fun t388=>((board_sheet_now.f bt374.1 bt374.2.1 bt374.2.2.1 bt374.2.2.2 t388).bind fun bt391=>(some (bt391.1,bt391.2.1,bt391.2.2,0))))))))) else(none))) else(none)))=some (r1,r2,r3,r4):=h
 clear h
 replace H:=zL H
 obtain⟨t372,A30,H⟩:=H
 try dsimp only at H
 have A3:=zB A30
 clear A30
 by_cases c4:t372=true
 ·subst c4
  rw[if_pos rfl] at H;try dsimp only at H
  replace H:=zL H
  obtain⟨t373,A50,H⟩:=H
  try dsimp only at H
  have A5:=zB A50
  clear A50
  by_cases c6:t373=true
  ·subst c6
   rw[if_pos rfl] at H;try dsimp only at H
   by_cases c7:a1_4>a0_1
   ·rw[if_pos c7] at H
    exact absurd H (by simp)
   ·rw[if_neg c7] at H
    have c7b0:=zY c7
    clear c7
    replace H:=zL H
    obtain⟨⟨t374,t377,t378,t379⟩,A80,H⟩:=H
    try dsimp only at H
    have A8:=zB A80
    clear A80
    replace H:=zL H
    obtain⟨⟨t383,t384⟩,A90,H⟩:=H
    try dsimp only at H
    have A9:=zB A90
    clear A90
    by_cases c10:t384=true
    ·subst c10
     rw[if_pos rfl] at H;try dsimp only at H
     exact absurd H (by simp)
    ·replace c10:=zb c10
     subst c10
     rw[if_neg (show ¬(false=true) by decide)] at H;try dsimp only at H
     by_cases c11:(l0_2.length:Int)=a0_0
     ·rw[if_pos c11] at H
      exact absurd H (by simp)
     ·rw[if_neg c11] at H
      have c11b0:=beq_eq_false_iff_ne.mpr c11
      have c11b1:=bne_iff_ne.mpr c11
      obtain⟨y385,hy385⟩: ∃y_:List (S28),y_=(([(⟨(⟨a1_0,a1_1⟩:S26),a1_2,a1_3,a1_4,a1_5⟩:S28)]:List (S28))):=⟨_,rfl⟩
      replace H:((board_alarms_with.f k t374 t383 0 y385).bind fun t388=>((board_sheet_now.f t374 t377 t378 t379 t388).bind fun bt391=>(some (bt391.1,bt391.2.1,bt391.2.2,0))))=some (r1,r2,r3,r4):=by first|(rw[hy385];with_reducible exact H)|(have H2_:=(Option.bind_some _ _).symm.trans H;rw[hy385];with_reducible exact H2_)|(have H2_:=(Option.bind_some _ _).symm.trans H;with_reducible exact H2_)|with_reducible exact H|(rw[hy385];exact H)|exact H
      have Ny385:=zB hy385
      clear hy385
      replace H:=zL H
      obtain⟨t388,A120,H⟩:=H
      try dsimp only at H
      have A12:=zB A120
      clear A120
      replace H:=zL H
      obtain⟨⟨t391,t392,t393⟩,A130,H⟩:=H
      try dsimp only at H
      have A13:=zB A130
      clear A130
      simp only[zc,Prod.mk.injEq] at H
      obtain⟨rfl,rfl,rfl,rfl⟩:=H
      go_enter Try.func15,Try.ntmps15
      try go_wp2_with (first|((with_reducible refine gate_dst (N:=2) rfl ?_);refine be_ (N:=2) (cs:=#[.int .i64 a0_0,.int .i64 a0_1,.slice A0_2 l0_2.length c0_2]) (t:=24) ?_;intro gb369 hg w14 hbox hb;have BK369:=zB hbox;have GW369:=gw_ hg HB;have GE369:=GW369;replace HB:=zB (zQ HB.out hb);clear hb hbox hg)|((with_reducible refine gate_dst (N:=3) rfl ?_);refine be_ (N:=3) (cs:=#[.int .i64 a1_0,.int .i64 a1_1,.int .i64 a1_2,.int .i64 a1_3,.int .i64 a1_4,.int .i64 a1_5]) (t:=28) ?_;intro gb370 hg w15 hbox hb;have BK370:=zB hbox;have GE370:=gx_ hg (show Below w.heap.size w _ from hb_ HB);have GW370:=GE370;replace HB:=zB (zQ (hb_ HB) hb);have NB369_370:=nb_ BK369 hg;have NB370_369:=nc_ BK369 hg;replace BK369:=bl_ BK369 hb;clear hb hbox hg)|((with_reducible refine gate_dst (N:=4) rfl ?_);refine be_ (N:=4) (cs:=#[.int .i64 0,.int .i64 0,.slice none 0 0]) (t:=24) ?_;intro gb371 hg w16 hbox hb;have BK371:=zB hbox;have GE371:=gx_ hg (show Below w.heap.size w _ from hb_ HB);have GW371:=GE371;replace HB:=zB (zQ (hb_ HB) hb);have NB369_371:=nb_ BK369 hg;have NB371_369:=nc_ BK369 hg;replace BK369:=bl_ BK369 hb;have NB370_371:=nb_ BK370 hg;have NB371_370:=nc_ BK370 hg;replace BK370:=bl_ BK370 hb;clear hb hbox hg;have hnb17:=NB369_370.out;have hnc17:=NB370_369.out;have hnb18:=NB369_371.out;have hnc18:=NB371_369.out;have hcz19:=zD BK369.out;have hfz19:=zC BK369.out)|((with_reducible refine gate_callee (f:=32) rfl ?_);refine gl_ (some 10) Try.func32 #[.agg #[.int .i64 a0_0,.int .i64 a0_1,.slice A0_2 l0_2.length c0_2]] rfl ?_;(with_reducible refine(board_Is.calls k a0_0 a0_1 _ _ l0_2 true _ ?side1 ?side2 A3.out).mono ?_);(case side1=>exact(Kd.C_below HR0_2.out HB.out));(case side2=>exact HC0_2.out);rintro e w20 ⟨rfl,hb⟩;refine⟨_,rfl,?_⟩;replace BK369:=bl_ BK369 hb;replace BK370:=bl_ BK370 hb;replace BK371:=bl_ BK371 hb;replace HB:=zB (zQ (hb_ HB) hb);(try clear hb);(try clear hb2);(try clear hk);(try clear hi);have hnb21:=NB370_371.out;have hnc21:=NB371_370.out;have hcz22:=zD BK370.out;have hfz22:=zC BK370.out)|(go_at_call 50;(with_reducible refine(alarm_Is.calls a1_0 a1_1 a1_2 a1_3 a1_4 a1_5 true _ A5.out).mono ?_);rintro e w23 ⟨rfl,hb⟩;replace BK369:=bl_ BK369 hb;replace BK370:=bl_ BK370 hb;replace BK371:=bl_ BK371 hb;replace HB:=zB (zQ (hb_ HB) hb);(try clear hb);(try clear hb2);(try clear hk);(try clear hi);have hcz24:=zD BK370.out;have hfz24:=zC BK370.out;have hcz25:=zD BK369.out;have hfz25:=zC BK369.out)|((with_reducible refine gate_callee (f:=51) rfl ?_);refine gl_ (some 26) Try.func51 #[.agg #[.int .i64 a0_0,.int .i64 a0_1,.slice A0_2 l0_2.length c0_2]] rfl ?_;(with_reducible refine(board_open.calls a0_0 a0_1 (fun k_=>k_<w.heap.size) _ _ l0_2 t374 t377 t378 t379 _ ?side1 A8.out).mono ?_);(case side1=>exact Kd.V_mk HC0_2.out (Kd.F_below (Kd.C_F k28_heap HR0_2.out) (hb_ HB)));rintro e w26 ⟨v375,v380,rfl,ho0,ho1,hb⟩;refine⟨_,rfl,?_⟩;have HO376:=zB (Kd.V_lower (Kd.V_mono (ok':=fun k_=>k_≠gb369∧k_≠gb370∧k_≠gb371) ho0 (fun k_ hk_=>⟨Or.elim hk_ (fun hs_=>fun e_=>Nat.not_le.2 hs_ (by rw[e_];exact GW369.out)) (fun hn_=>(Kd.freshB (g:=gb369) (o:=.cells #[.int .i64 a0_0,.int .i64 a0_1,.slice A0_2 l0_2.length c0_2] 24 (0,0)) BK369.out k_ hn_)),Or.elim hk_ (fun hs_=>fun e_=>Nat.not_le.2 hs_ (by rw[e_];exact GW370.out)) (fun hn_=>(Kd.freshB (g:=gb370) (o:=.cells #[.int .i64 a1_0,.int .i64 a1_1,.int .i64 a1_2,.int .i64 a1_3,.int .i64 a1_4,.int .i64 a1_5] 28 (0,0)) BK370.out k_ hn_)),Or.elim hk_ (fun hs_=>fun e_=>Nat.not_le.2 hs_ (by rw[e_];exact GW371.out)) (fun hn_=>(Kd.freshB (g:=gb371) (o:=.cells #[.int .i64 0,.int .i64 0,.slice none 0 0] 24 (0,0)) BK371.out k_ hn_))⟩)) (zN (hb_ HB)));have HO381:=zB (Kd.V_lower (Kd.V_mono (ok':=fun k_=>k_≠gb369∧k_≠gb370∧k_≠gb371) ho1 (fun k_ hk_=>⟨Or.elim hk_ (fun hs_=>fun e_=>Nat.not_le.2 hs_ (by rw[e_];exact GW369.out)) (fun hn_=>(Kd.freshB (g:=gb369) (o:=.cells #[.int .i64 a0_0,.int .i64 a0_1,.slice A0_2 l0_2.length c0_2] 24 (0,0)) BK369.out k_ hn_)),Or.elim hk_ (fun hs_=>fun e_=>Nat.not_le.2 hs_ (by rw[e_];exact GW370.out)) (fun hn_=>(Kd.freshB (g:=gb370) (o:=.cells #[.int .i64 a1_0,.int .i64 a1_1,.int .i64 a1_2,.int .i64 a1_3,.int .i64 a1_4,.int .i64 a1_5] 28 (0,0)) BK370.out k_ hn_)),Or.elim hk_ (fun hs_=>fun e_=>Nat.not_le.2 hs_ (by rw[e_];exact GW371.out)) (fun hn_=>(Kd.freshB (g:=gb371) (o:=.cells #[.int .i64 0,.int .i64 0,.slice none 0 0] 24 (0,0)) BK371.out k_ hn_))⟩)) (zN (hb_ HB)));replace BK369:=bl_ BK369 hb;replace BK370:=bl_ BK370 hb;replace BK371:=bl_ BK371 hb;replace HB:=zB (zQ (hb_ HB) hb);(try clear hb);(try clear hb2);(try clear hk);(try clear hi);(try clear ho0);(try clear ho1))|((with_reducible refine gate_dst (N:=6) rfl ?_);refine be_ (N:=6) (cs:=#[.slice none 0 0,.int .i64 0,.int .i64 0,.slice none 0 0]) (t:=72) ?_;intro gb382 hg w27 hbox hb;replace HO376:=zB (Kd.V_below (Kd.V_elderB (HO376.out) gb382 (Nat.le_of_eq hg.symm)) hb);replace HO381:=zB (Kd.V_below (Kd.V_elderB (HO381.out) gb382 (Nat.le_of_eq hg.symm)) hb);have BK382:=zB hbox;have GE382:=gx_ hg (show Below w.heap.size w _ from hb_ HB);have GW382:=GE382;replace HB:=zB (zQ (hb_ HB) hb);have NB369_382:=nb_ BK369 hg;have NB382_369:=nc_ BK369 hg;replace BK369:=bl_ BK369 hb;have NB370_382:=nb_ BK370 hg;have NB382_370:=nc_ BK370 hg;replace BK370:=bl_ BK370 hb;have NB371_382:=nb_ BK371 hg;have NB382_371:=nc_ BK371 hg;replace BK371:=bl_ BK371 hb;clear hb hbox hg;obtain⟨Ao28,co28,eo28⟩:=Kd.V_slice HO376.out;subst eo28;have hnb29:=NB382_369.out;have hnc29:=NB369_382.out;have hnb30:=NB382_370.out;have hnc30:=NB370_382.out;have hnb31:=NB382_371.out;have hnc31:=NB371_382.out;have hcz32:=zD BK382.out;have hfz32:=zC BK382.out;obtain⟨Ao33,co33,eo33⟩:=Kd.V_slice HO381.out;subst eo33;have hcz34:=zD BK370.out;have hfz34:=zC BK370.out)|((with_reducible refine gate_callee (f:=52) rfl ?_);refine gl_ (some 32) Try.func52 #[.slice Ao28 t374.length co28,.agg #[.int .i64 a1_0,.int .i64 a1_1]] rfl ?_;(with_reducible refine(board_alarms_find.calls k _ _ t374 a1_0 a1_1 t383 false _ ?side1 ?side2 A9.out).mono ?_);(case side1=>refine(Kd.V_reads' (e:=28) (base:=w.heap.size) (ok:=fun k_=>((k_≠gb369∧(k_≠gb370∧k_≠gb371))∧k_≠gb382)) (n:=t374.length) (c:=co28) ?_).2.2;exact(by(with_reducible repeat(first|apply Kd.V_alloc|apply Kd.V_drewN|apply Kd.V_drew));exact(Kd.V_mono (Kd.V_far (p:=⟨gb382,3,none⟩) (Kd.V_far (p:=⟨gb382,2,none⟩) (Kd.V_far (p:=⟨gb382,1,none⟩) (Kd.V_far (p:=⟨gb382,0,none⟩) (Kd.V_mono HO376.out (fun k_ hk=>(⟨hk,hk.2⟩:_∧k_≠gb382))) (fun _ hk=>hk.2) (.slice Ao28 t374.length co28)) (fun _ hk=>hk.2) (.int .i64 t377)) (fun _ hk=>hk.2) (.int .i64 t378)) (fun _ hk=>hk.2) (.slice Ao33 t379.length co33)) (fun _ h_=>h_.1))));(case side2=>exact(Kd.V_reads' HO376.out).2.1);rintro e w35 ⟨rfl,hb⟩;refine⟨_,rfl,?_⟩;replace HO376:=zB (Kd.V_below (by(with_reducible repeat(first|apply Kd.V_alloc|apply Kd.V_drewN|apply Kd.V_drew));exact(Kd.V_mono (Kd.V_far (p:=⟨gb382,3,none⟩) (Kd.V_far (p:=⟨gb382,2,none⟩) (Kd.V_far (p:=⟨gb382,1,none⟩) (Kd.V_far (p:=⟨gb382,0,none⟩) (Kd.V_mono HO376.out (fun k_ hk=>(⟨hk,hk.2⟩:_∧k_≠gb382))) (fun _ hk=>hk.2) (.slice Ao28 t374.length co28)) (fun _ hk=>hk.2) (.int .i64 t377)) (fun _ hk=>hk.2) (.int .i64 t378)) (fun _ hk=>hk.2) (.slice Ao33 t379.length co33)) (fun _ h_=>h_.1))) hb);replace HO381:=zB (Kd.V_below (by(with_reducible repeat(first|apply Kd.V_alloc|apply Kd.V_drewN|apply Kd.V_drew));exact(Kd.V_mono (Kd.V_far (p:=⟨gb382,3,none⟩) (Kd.V_far (p:=⟨gb382,2,none⟩) (Kd.V_far (p:=⟨gb382,1,none⟩) (Kd.V_far (p:=⟨gb382,0,none⟩) (Kd.V_mono HO381.out (fun k_ hk=>(⟨hk,hk.2⟩:_∧k_≠gb382))) (fun _ hk=>hk.2) (.slice Ao28 t374.length co28)) (fun _ hk=>hk.2) (.int .i64 t377)) (fun _ hk=>hk.2) (.int .i64 t378)) (fun _ hk=>hk.2) (.slice Ao33 t379.length co33)) (fun _ h_=>h_.1))) hb);replace BK369:=zB (blk_below (g:=gb369) (o:=.cells #[.int .i64 a0_0,.int .i64 a0_1,.slice A0_2 l0_2.length c0_2] 24 (0,0)) (bk_ BK369) hb);replace BK370:=zB (blk_below (g:=gb370) (o:=.cells #[.int .i64 a1_0,.int .i64 a1_1,.int .i64 a1_2,.int .i64 a1_3,.int .i64 a1_4,.int .i64 a1_5] 28 (0,0)) (bk_ BK370) hb);replace BK371:=zB (blk_below (g:=gb371) (o:=.cells #[.int .i64 0,.int .i64 0,.slice none 0 0] 24 (0,0)) (bk_ BK371) hb);replace BK382:=zB (blk_below (g:=gb382) (o:=.cells #[.slice Ao28 t374.length co28,.int .i64 t377,.int .i64 t378,.slice Ao33 t379.length co33] 72 (0,0)) (by refine zZ (cs:=#[.slice Ao28 t374.length co28,.int .i64 t377,.int .i64 t378,.slice none 0 0]) ?_ 3 _ rfl;refine zZ (cs:=#[.slice Ao28 t374.length co28,.int .i64 t377,.int .i64 0,.slice none 0 0]) ?_ 2 _ rfl;refine zZ (cs:=#[.slice Ao28 t374.length co28,.int .i64 0,.int .i64 0,.slice none 0 0]) ?_ 1 _ rfl;refine zZ (cs:=#[.slice none 0 0,.int .i64 0,.int .i64 0,.slice none 0 0]) ?_ 0 _ rfl;exact BK382.out) hb);replace HB:=zB (zQ (hb_ HB) hb);(try clear hb);(try clear hb2);(try clear hk);(try clear hi);have hcz36:=zD BK369.out;have hfz36:=zC BK369.out))
      replace HO376:=zB (Kd.V_drew HO376.out)
      replace HO381:=zB (Kd.V_drew HO381.out)
      replace BK369:=zB (zX BK369.out)
      replace BK370:=zB (zX BK370.out)
      replace BK371:=zB (zX BK371.out)
      replace BK382:=zB (zX BK382.out)
      replace HB:=zB (zG HB.out)
      refine start_ (n:=10) (S:=fun w'=>c_ w' gb382 0 (.slice Ao28 t374.length co28)∧c_ w' gb382 1 (.int .i64 t377)∧c_ w' gb382 2 (.int .i64 t378)∧c_ w' gb382 3 (.slice Ao33 t379.length co33)∧c_ w' gb370 0 (.int .i64 a1_0)∧c_ w' gb370 1 (.int .i64 a1_1)∧c_ w' gb370 2 (.int .i64 a1_2)∧c_ w' gb370 3 (.int .i64 a1_3)∧c_ w' gb370 4 (.int .i64 a1_4)∧c_ w' gb370 5 (.int .i64 a1_5)) (ds:=[]) (bt_ 0 10) (by kernel_rfl) rfl rfl ⟨bc_ BK382 0,bc_ BK382 1,bc_ BK382 2,bc_ BK382 3,bc_ BK370 0,bc_ BK370 1,bc_ BK370 2,bc_ BK370 3,bc_ BK370 4,bc_ BK370 5⟩ (fun hHeld=>?_);refine with_tabW board_Put.tab9 board_Put.bits9 (fun HT_ HW_=>?_)
      generalize w35.drew=w37 at HO376 HO381 BK369 BK370 BK371 BK382 HB hHeld⊢
      have Q_:=Qs.mk (n:=10) [(0,1,54,2),(0,3,56,10),(2,0,53,11),(2,2,55,15),(2,4,57,31)]
      iterate 5 (first|(refine pq_ Q_ ?_;replace Q_:=qt_ Q_)|(refine tq_ Q_ hHeld ?_;replace Q_:=qt_ Q_))
      clear Q_
      refine one_ (i:=5) (N:=some 58) (dn_ 6 10) rfl rfl (one_of HT_.out (by kernel_rfl)) (by decide) (fun K hK=>?_)
      refine Kd.R_lit_step k28 _ 28 ?hg (N:=58) ?hd (xs:=([(⟨(⟨a1_0,a1_1⟩:S26),a1_2,a1_3,a1_4,a1_5⟩:S28)]:List (S28))) (inner:=[.int .i64 a1_0,.int .i64 a1_1,.int .i64 a1_2,.int .i64 a1_3,.int .i64 a1_4,.int .i64 a1_5]) (ok:=fun _=>True) (okp:=fun _=>True) ?hr ?hp (fun _ hk=>hk) trivial (Below.refl _ _) (za _) (by simp) ?_;(case hd=>rfl);(case hg=>rfl);(case hr=>first|(go_simp;done)|(go_simp;rfl));(case hp=>exact(Reps.c6 (show Kd.M k28 _ _ _ (⟨(⟨a1_0,a1_1⟩:S26),a1_2,a1_3,a1_4,a1_5⟩:S28) [.int .i64 a1_0,.int .i64 a1_1,.int .i64 a1_2,.int .i64 a1_3,.int .i64 a1_4,.int .i64 a1_5] from(k28_mkM _ _ _ (⟨(⟨a1_0,a1_1⟩:S26),a1_2,a1_3,a1_4,a1_5⟩:S28))) (Reps.none _ _)))
      intro v386 w38 ho39 hb hg_ hnew_
      clear hg_ hnew_
      (first|rw[←Ny385.out] at ho39|(simp only[Int.reduceToNat] at ho39;rw[←Ny385.out] at ho39))
      replace HO376:=zB (Kd.V_elder' (HO376.out) (Kd.R_base ho39) hb)
      replace HO381:=zB (Kd.V_elder' (HO381.out) (Kd.R_base ho39) hb)
      have HO387:=zB (Kd.R_lower (Kd.R_newB ho39 (g:=gb370) (o:=.cells #[.int .i64 a1_0,.int .i64 a1_1,.int .i64 a1_2,.int .i64 a1_3,.int .i64 a1_4,.int .i64 a1_5] 28 (0,0)) BK370.out) (zN (hb_ HB)))
      replace BK369:=bl_ BK369 hb
      replace BK370:=bl_ BK370 hb
      replace BK371:=bl_ BK371 hb
      replace BK382:=bl_ BK382 hb
      replace HB:=zB (zQ (hb_ HB) hb)
      clear hb ho39
      obtain⟨Ao40,co40,eo40⟩:=Kd.R_slice HO387.out
      (first|subst eo40|(injection eo40 with f1_ f2_ f3_;have f4_:=f1_.symm;have f5_:=f3_.symm;clear f1_ f2_ f3_;subst f4_;subst f5_))
      refine hK.out _ _ ⟨bc_ BK382 0,bc_ BK382 1,bc_ BK382 2,bc_ BK382 3,bc_ BK370 0,bc_ BK370 1,bc_ BK370 2,bc_ BK370 3,bc_ BK370 4,bc_ BK370 5⟩ (fun hHeld=>?_)
      clear hK K
      refine norm_ (a':=?_) ?_ ?_
      rotate_left
      ·show Act.put _ (some 58) _=_
       simp only[Act.put,zE,zH,zI,i64_w,i32_w]
       rfl
      refine one_ (i:=6) (N:=some 59) (dn_ 7 10) rfl rfl (one_of HT_.out (by kernel_rfl)) (by decide) (fun K hK=>?_)
      refine gs_ Try.func54 #[.slice Ao28 t374.length co28,.int .i64 t383,.int .i64 0,.slice Ao40 y385.length co40] rfl ?_
      with_reducible refine(board_alarms_with.calls k (fun k_=>(((k_≠gb369∧(k_≠gb370∧k_≠gb371))∧k_≠gb382)∧some k_≠(.slice Ao40 y385.length co40:Value).ownBlock)) _ _ t374 t383 0 (fun k_=>some k_=(.slice Ao40 y385.length co40:Value).ownBlock) _ _ y385 t388 _ ?side1 ?side2 A12.out).mono ?_
      (case side1=>exact HO376.out)
      (case side2=>exact Kd.R_V (Kd.R_tight rfl (Kd.R_types (Kd.R_types (Kd.R_types (HO387.out) BK369.out (by decide)) BK371.out (by decide)) BK382.out (by decide))))
      rintro e w41 ⟨v389,rfl,ho0,hb⟩
      refine⟨_,rfl,?_⟩
      replace HO376:=zB (Kd.V_elder' (HO376.out) (Kd.R_base ho0) hb)
      replace HO381:=zB (Kd.V_elder' (HO381.out) (Kd.R_base ho0) hb)
      have HO390:=zB (Kd.R_lower (Kd.R_newB (Kd.R_new' (Kd.R_mono (ok':=fun k_=>True) ho0 (fun _ hk_=>trivial)) (Kd.R_lt (HO387.out))) (g:=gb370) (o:=.cells #[.int .i64 a1_0,.int .i64 a1_1,.int .i64 a1_2,.int .i64 a1_3,.int .i64 a1_4,.int .i64 a1_5] 28 (0,0)) BK370.out) (zN (hb_ HB)))
      replace HO387:=zB (Kd.R_elder' (HO387.out) (Kd.R_base ho0) hb)
      replace BK369:=bl_ BK369 hb
      replace BK370:=bl_ BK370 hb
      replace BK371:=bl_ BK371 hb
      replace BK382:=bl_ BK382 hb
      replace HB:=zB (zQ (hb_ HB) hb)
      (try clear hb)
      (try clear hb2)
      (try clear hk)
      (try clear hi)
      (try clear ho0)
      obtain⟨Ao42,co42,eo42⟩:=Kd.R_slice HO390.out
      (first|subst eo42|(injection eo42 with f1_ f2_ f3_;have f4_:=f1_.symm;have f5_:=f3_.symm;clear f1_ f2_ f3_;subst f4_;subst f5_))
      refine hK.out _ _ ⟨bc_ BK382 0,bc_ BK382 1,bc_ BK382 2,bc_ BK382 3,bc_ BK370 0,bc_ BK370 1,bc_ BK370 2,bc_ BK370 3,bc_ BK370 4,bc_ BK370 5⟩ (fun hHeld=>?_)
      clear hK K
      refine norm_ (a':=?_) ?_ ?_
      rotate_left
      ·show Act.put _ (some 59) _=_
       simp only[Act.put,zE,zH,zI,i64_w,i32_w]
       rfl
      refine one_ (i:=7) (N:=some 60) (dn_ 8 10) rfl rfl (one_of HT_.out (by kernel_rfl)) (by decide) (fun K hK=>?_)
      refine gs_ Try.func53 #[.agg #[.slice Ao28 t374.length co28,.int .i64 t377,.int .i64 t378,.slice Ao33 t379.length co33],.slice Ao42 t388.length co42] rfl ?_
      with_reducible refine(board_sheet_now.calls _ _ t374 t377 t378 _ _ t379 (fun k_=>some k_=(.slice Ao42 t388.length co42:Value).ownBlock) (.slice Ao42 t388.length co42) t388 t391 t392 t393 w _ ?side1 ?side2 ?side3 ?side4 ?side5 ?side6 A13.out).mono ?_
      (case side1=>repeat(first|(with_reducible first|exact HB.out|apply below_alloc|apply zF|apply zG|refine zK ?_ GE369.out|refine zK ?_ GE370.out|refine zK ?_ GE371.out|refine zK ?_ GE382.out)|exact HB.out))
      (case side2=>exact Kd.C_kept_ownV (HO376.out) (fun k_ hk_ hs_=>(hk_.2) hs_))
      (case side3=>exact(Kd.V_reads' HO376.out).2.1)
      (case side4=>exact Kd.C_kept_ownV (HO381.out) (fun k_ hk_ hs_=>(hk_.2) hs_))
      (case side5=>exact(Kd.V_reads' HO381.out).2.1)
      (case side6=>exact Kd.R_tight rfl HO390.out)
      rintro e w43 ⟨v394,rfl,ho0,hb,hkp⟩
      refine⟨_,rfl,?_⟩
      replace BK369:=zB (blk_kept BK369.out hkp (fun hs_=>(fun e_=>(Kd.R_ne HO390.out BK369.out (by decide)) e_) hs_))
      replace BK371:=zB (blk_kept BK371.out hkp (fun hs_=>(fun e_=>(Kd.R_ne HO390.out BK371.out (by decide)) e_) hs_))
      replace HO376:=zB (Kd.V_mono (ok':=fun k_=>some k_≠(.slice Ao40 y385.length co40:Value).ownBlock∧k_≠gb369∧k_≠gb370∧k_≠gb371∧k_≠gb382∧some k_≠(v394:Value).ownBlock) (Kd.V_keptB (HO376.out) hkp (fun k_ hk_ hs_=>(hk_.2) hs_)) (fun k_ hk_=>⟨hk_.1.1.2,hk_.1.1.1.1.1,hk_.1.1.1.1.2.1,hk_.1.1.1.1.2.2,hk_.1.1.1.2,fun e_=>Or.elim (ho0.1 k_ e_.symm) (fun hs_=>hk_.2.1 hs_) (fun hn_=>Nat.not_le.2 hk_.2.2 hn_)⟩))
      replace HO381:=zB (Kd.V_mono (ok':=fun k_=>some k_≠(.slice Ao40 y385.length co40:Value).ownBlock∧k_≠gb369∧k_≠gb370∧k_≠gb371∧k_≠gb382∧some k_≠(v394:Value).ownBlock) (Kd.V_keptB (HO381.out) hkp (fun k_ hk_ hs_=>(hk_.2) hs_)) (fun k_ hk_=>⟨hk_.1.1.2,hk_.1.1.1.1.1,hk_.1.1.1.1.2.1,hk_.1.1.1.1.2.2,hk_.1.1.1.2,fun e_=>Or.elim (ho0.1 k_ e_.symm) (fun hs_=>hk_.2.1 hs_) (fun hn_=>Nat.not_le.2 hk_.2.2 hn_)⟩))
      replace BK382:=zB (blk_kept BK382.out hkp (fun hs_=>(fun e_=>(Kd.R_ne HO390.out BK382.out (by decide)) e_) hs_))
      have HO395:=zB (Kd.R_mono (ok':=fun k_=>some k_≠(.slice Ao40 y385.length co40:Value).ownBlock∧k_≠gb370) ho0 (fun k_ hk_=>⟨Or.elim hk_ (fun hs_=>fun e_=>(((HO387.out).1 k_ e_.symm).2) hs_) (fun hn_=>(Kd.fresh' (Kd.R_lt (HO387.out)) k_ hn_)),Or.elim hk_ (fun hs_=>fun e_=>(Kd.R_away HO390.out (fun _ hk=>hk.2)) (by rw[←e_];exact hs_)) (fun hn_=>(Kd.freshB (g:=gb370) (o:=.cells #[.int .i64 a1_0,.int .i64 a1_1,.int .i64 a1_2,.int .i64 a1_3,.int .i64 a1_4,.int .i64 a1_5] 28 (0,0)) BK370.out k_ hn_))⟩))
      replace BK370:=zB (blk_kept BK370.out hkp (fun hs_=>(fun e_=>(Kd.R_away HO390.out (fun _ hk=>hk.2)) e_) hs_))
      replace HO387:=zB (Kd.R_mono (ok':=fun k_=>k_≠gb370∧some k_≠(v394:Value).ownBlock) (Kd.R_keptB (HO387.out) hkp (fun k_ hk_ hs_=>(hk_.2) hs_)) (fun k_ hk_=>⟨hk_.1.1.2,fun e_=>Or.elim (ho0.1 k_ e_.symm) (fun hs_=>hk_.2.1 hs_) (fun hn_=>Nat.not_le.2 hk_.2.2 hn_)⟩))
      replace HB:=zB (hb)
      clear HO390
      (try clear hb)
      (try clear hkp)
      (try clear ho0)
      obtain⟨Ao46,co46,eo46⟩:=Kd.R_slice HO395.out
      (first|subst eo46|(injection eo46 with f1_ f2_ f3_;have f4_:=f1_.symm;have f5_:=f3_.symm;clear f1_ f2_ f3_;subst f4_;subst f5_))
      refine hK.out _ _ ⟨bc_ BK382 0,bc_ BK382 1,bc_ BK382 2,bc_ BK382 3,bc_ BK370 0,bc_ BK370 1,bc_ BK370 2,bc_ BK370 3,bc_ BK370 4,bc_ BK370 5⟩ (fun hHeld=>?_)
      clear hK K
      refine norm_ (a':=?_) ?_ ?_
      rotate_left
      ·show Act.put _ (some 60) _=_
       simp only[Act.put,zE,zH,zI,i64_w,i32_w]
       rfl
      refine one_ (i:=8) (N:=none) (dn_ 9 10) rfl rfl (one_of HT_.out (by kernel_rfl)) (by decide) (fun K hK=>?_)
      have hs44:c_ w43 gb371 0 (.int .i64 0):=bc_ BK371 0
      have hfs44:=zC BK371.out 0
      have hns44_0:=NB369_371.out
      have hns44_1:=NB370_371.out
      have hns44_3:=NB382_371.out
      have hms44_0:=NB371_369.out
      have hms44_1:=NB371_370.out
      have hms44_3:=NB371_382.out
      have hs45:c_ w43 gb371 1 (.int .i64 0):=bc_ BK371 1
      have hfs45:=zC BK371.out 1
      have hns45_0:=NB369_371.out
      have hns45_1:=NB370_371.out
      have hns45_3:=NB382_371.out
      have hms45_0:=NB371_369.out
      have hms45_1:=NB371_370.out
      have hms45_3:=NB371_382.out
      have hs47:c_ w43 gb371 2 (.slice none 0 0):=bc_ BK371 2
      have hfs47:=zC BK371.out 2
      have hns47_0:=NB369_371.out
      have hns47_1:=NB370_371.out
      have hns47_3:=NB382_371.out
      have hms47_0:=NB371_369.out
      have hms47_1:=NB371_370.out
      have hms47_3:=NB371_382.out
      refine skip_ (w1:=?_) (by rfl) rfl ?_ ?_
      rotate_left
      ·go_simp
       rfl
      refine hK.out _ _ ⟨((cell_far (p:=⟨gb371,_,none⟩) NB382_371.out _).trans (((cell_far (p:=⟨gb371,_,none⟩) NB382_371.out _).trans (((cell_far (p:=⟨gb371,_,none⟩) NB382_371.out _).trans (hHeld.1)))))),((cell_far (p:=⟨gb371,_,none⟩) NB382_371.out _).trans (((cell_far (p:=⟨gb371,_,none⟩) NB382_371.out _).trans (((cell_far (p:=⟨gb371,_,none⟩) NB382_371.out _).trans (hHeld.2.1)))))),((cell_far (p:=⟨gb371,_,none⟩) NB382_371.out _).trans (((cell_far (p:=⟨gb371,_,none⟩) NB382_371.out _).trans (((cell_far (p:=⟨gb371,_,none⟩) NB382_371.out _).trans (hHeld.2.2.1)))))),((cell_far (p:=⟨gb371,_,none⟩) NB382_371.out _).trans (((cell_far (p:=⟨gb371,_,none⟩) NB382_371.out _).trans (((cell_far (p:=⟨gb371,_,none⟩) NB382_371.out _).trans (hHeld.2.2.2.1)))))),((cell_far (p:=⟨gb371,_,none⟩) NB370_371.out _).trans (((cell_far (p:=⟨gb371,_,none⟩) NB370_371.out _).trans (((cell_far (p:=⟨gb371,_,none⟩) NB370_371.out _).trans (hHeld.2.2.2.2.1)))))),((cell_far (p:=⟨gb371,_,none⟩) NB370_371.out _).trans (((cell_far (p:=⟨gb371,_,none⟩) NB370_371.out _).trans (((cell_far (p:=⟨gb371,_,none⟩) NB370_371.out _).trans (hHeld.2.2.2.2.2.1)))))),((cell_far (p:=⟨gb371,_,none⟩) NB370_371.out _).trans (((cell_far (p:=⟨gb371,_,none⟩) NB370_371.out _).trans (((cell_far (p:=⟨gb371,_,none⟩) NB370_371.out _).trans (hHeld.2.2.2.2.2.2.1)))))),((cell_far (p:=⟨gb371,_,none⟩) NB370_371.out _).trans (((cell_far (p:=⟨gb371,_,none⟩) NB370_371.out _).trans (((cell_far (p:=⟨gb371,_,none⟩) NB370_371.out _).trans (hHeld.2.2.2.2.2.2.2.1)))))),((cell_far (p:=⟨gb371,_,none⟩) NB370_371.out _).trans (((cell_far (p:=⟨gb371,_,none⟩) NB370_371.out _).trans (((cell_far (p:=⟨gb371,_,none⟩) NB370_371.out _).trans (hHeld.2.2.2.2.2.2.2.2.1)))))),((cell_far (p:=⟨gb371,_,none⟩) NB370_371.out _).trans (((cell_far (p:=⟨gb371,_,none⟩) NB370_371.out _).trans (((cell_far (p:=⟨gb371,_,none⟩) NB370_371.out _).trans (hHeld.2.2.2.2.2.2.2.2.2))))))⟩ (fun hHeld=>?_)
      clear hK K
      refine pure_ (i:=9) (N:=some 5) (v:=?_) (a':=?_) (bt_ 1023 10) rfl rfl (any_of HT_.out (by kernel_rfl)) (fun _ _ _ h=>h) (Or.inl ⟨by rfl,?_⟩) ?_ ?_
      rotate_left
      ·intro w'
       go_simp
       with_reducible rfl
      rotate_left;(simp only[Act.put,zE,zH,zI,i64_w,i32_w];rfl)
      refine done_ (done_of HT_.out (by kernel_rfl)) ?_
      try go_wp2
      refine bodyPost_ret (results_ct rfl _ _ gb371 24 #[.int .i64 t391,.int .i64 t392,.slice Ao46 t393.length co46] (0,0) _ rfl (by refine zZ (cs:=#[.int .i64 t391,.int .i64 t392,.slice none 0 0]) ?_ 2 _ rfl;refine zZ (cs:=#[.int .i64 t391,.int .i64 0,.slice none 0 0]) ?_ 1 _ rfl;refine zZ (cs:=#[.int .i64 0,.int .i64 0,.slice none 0 0]) ?_ 0 _ rfl;exact BK371.out) Try.underlying24 rfl (by kernel_rfl)) rfl ?_
      exact⟨_,ew_,by(with_reducible repeat(first|apply Kd.R_alloc|apply Kd.R_drewN|apply Kd.R_drew));exact Kd.R_mono (rf3 (Kd.R_types HO395.out BK371.out (by decide)) (fun _ hk=>hk.2) (.int .i64 t391) (.int .i64 t392) (.slice Ao46 t393.length co46)) (fun _ hk=>trivial),hb_ HB⟩
  ·replace c6:=zb c6
   subst c6
   rw[if_neg (show ¬(false=true) by decide)] at H;try dsimp only at H
   exact absurd H (by simp)
 ·replace c4:=zb c4
  subst c4
  rw[if_neg (show ¬(false=true) by decide)] at H;try dsimp only at H
  exact absurd H (by simp)
end Go.Proofs.Ytcfpbmdndapeaaa.F
