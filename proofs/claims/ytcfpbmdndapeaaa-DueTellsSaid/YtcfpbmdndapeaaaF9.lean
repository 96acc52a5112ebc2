-- Written by a program of this session (xprint.py), out of the translation and of contracts proved by hand.
import Derived.Test.YtcfpbmdndapeaaaF0
import Derived.Test.YtcfpbmdndapeaaaF8
namespace Go.Proofs.Ytcfpbmdndapeaaa.F
open Go.RowKit Go.Proofs.YtcfpbmdndapeaaaV.PrintWords Go.Proofs.YtcfpbmdndapeaaaV.PrintLast Go.Proofs.YtcfpbmdndapeaaaV.PrintMore
attribute [local go_sem] max2_int min2_int max_two min_two max_three min_three max_four min_four
set_option linter.unusedVariables false
set_option linter.unusedSimpArgs false
def due_Order_1.f (k:Nat) (a0_0:Int) (a0_1:Int) (a0_2:Int) (a0_3:Int) (a1_0:Int) (a1_1:Int) (a1_2:Int) (a1_3:Int):Option (Int):=(cmp_Compare_int.f a0_0 a1_0).bind fun t187=>((due_by.f a0_1 a0_2 a1_1 a1_2).bind fun t188=>((cmp_Compare_int.f a0_3 a1_3).bind fun t189=>((cmp_Or_int.f k (([t187,t188,t189]:List Int))).bind fun t193=>(some t193))))
theorem due_Order_1.mono: ∀a0 a1 a2 a3 a4 a5 a6 a7 k,LeO (due_Order_1.f k a0 a1 a2 a3 a4 a5 a6 a7) (due_Order_1.f (k+1) a0 a1 a2 a3 a4 a5 a6 a7):=by
 intro a0 a1 a2 a3 a4 a5 a6 a7 k
 unfold due_Order_1.f
 repeat' first
   |(with_reducible exact cmp_Or_int.mono _ _)
   |(with_reducible exact LeO.refl _)
   |(with_reducible exact zf _)
   |(with_reducible refine zg ?_ ?_)
   |(with_reducible refine ze ?_ (fun _=>?_))
def due_Order_1.T1:Bool×List (List Nat×List Nat):=(true,[([],[]),([0],[0]),([],[]),([2],[2]),([1,3],[1,3]),([],[]),([5],[5]),([],[]),([7],[7]),([6,8,4],[6,8]),([],[]),([10],[10]),([],[]),([12],[12]),([11,13,9],[11,13]),([4,9,14],[4,9,14]),([15,14],[15]),([16,16,0,1,2,3,4,5,6,7,8,9,10,11,12,13,14,15,16],[16])])
def due_Order_1.B1:List Nat:=[0,1,0,4,15,0,32,0,128,511,0,1024,0,4096,16383,32767,65535,131071]
theorem due_Order_1.tab1:rtab .any (opsOf Try.f79 1)=due_Order_1.T1:=by kernel_rfl
theorem due_Order_1.bits1:waitsOk due_Order_1.T1.2 due_Order_1.B1=true:=by kernel_rfl
set_option maxHeartbeats 8000000 in
set_option maxRecDepth 100000 in
theorem due_Order_1.calls (k:Nat) (a0_0:Int) (a0_1:Int) (a0_2:Int) (a0_3:Int) (a1_0:Int) (a1_1:Int) (a1_2:Int) (a1_3:Int) (r:Int) (w:World) (h:due_Order_1.f k a0_0 a0_1 a0_2 a0_3 a1_0 a1_1 a1_2 a1_3=some r):
  Calls Try.prog 79 #[.agg #[.int .i64 a0_0,.int .i64 a0_1,.int .i64 a0_2,.int .i64 a0_3],.agg #[.int .i64 a1_0,.int .i64 a1_1,.int .i64 a1_2,.int .i64 a1_3]] w fun e w'=>e=.returned (.int .i64 r)∧Below w.heap.size w w':=by
 have hu65:=Try.underlying65
 have hu26:=Try.underlying26
 have HB:=zB (Below.refl w.heap.size w)
 have H:((cmp_Compare_int.f a0_0 a1_0).bind fun t187=>((due_by.f a0_1 a0_2 a1_1 a1_2).bind fun t188=>((cmp_Compare_int.f a0_3 a1_3).bind fun t189=>((cmp_Or_int.f k (([t187,t188,t189]:List Int))).bind fun t193=>(some t193)))))=some r:=h
 clear h
 replace H:=zL H
 obtain⟨t187,A30,H⟩:=H
 try dsimp only at H
 have A3:=zB A30
 clear A30
 replace H:=zL H
 obtain⟨t188,A40,H⟩:=H
 try dsimp only at H
 have A4:=zB A40
 clear A40
 replace H:=zL H
 obtain⟨t189,A50,H⟩:=H
 try dsimp only at H
 have A5:=zB A50
 clear A50
 obtain⟨y190,hy190⟩: ∃y_:List Int,y_=(([t187,t188,t189]:List Int)):=⟨_,rfl⟩
 replace H:((cmp_Or_int.f k y190).bind fun t193=>(some t193))=some r:=by first|(rw[hy190];with_reducible exact H)|(have H2_:=(Option.bind_some _ _).symm.trans H;rw[hy190];with_reducible exact H2_)|(have H2_:=(Option.bind_some _ _).symm.trans H;with_reducible exact H2_)|with_reducible exact H|(rw[hy190];exact H)|exact H
 have Ny190:=zB hy190
 clear hy190
 replace H:=zL H
 obtain⟨t193,A60,H⟩:=H
 try dsimp only at H
 have A6:=zB A60
 clear A60
 obtain rfl:=zW H
 go_enter Try.func79,Try.ntmps79
 try go_wp2_with (first|((with_reducible refine gate_dst (N:=2) rfl ?_);refine be_ (N:=2) (cs:=#[.int .i64 a0_0,.int .i64 a0_1,.int .i64 a0_2,.int .i64 a0_3]) (t:=65) ?_;intro gb185 hg w7 hbox hb;have BK185:=zB hbox;have GE185:=gx_ hg (show Below w.heap.size w _ from hb_ HB);have GW185:=GE185;replace HB:=zB (zQ (hb_ HB) hb);clear hb hbox hg)|((with_reducible refine gate_dst (N:=3) rfl ?_);refine be_ (N:=3) (cs:=#[.int .i64 a1_0,.int .i64 a1_1,.int .i64 a1_2,.int .i64 a1_3]) (t:=65) ?_;intro gb186 hg w8 hbox hb;have BK186:=zB hbox;have GE186:=gx_ hg (show Below w.heap.size w _ from hb_ HB);have GW186:=GE186;replace HB:=zB (zQ (hb_ HB) hb);have NB185_186:=zB ((by rw[hg];exact Nat.ne_of_lt (blk_lt (g:=gb185) (o:=.cells #[.int .i64 a0_0,.int .i64 a0_1,.int .i64 a0_2,.int .i64 a0_3] 65 (0,0)) (bk_ BK185)):gb185≠gb186));have NB186_185:=zB ((by rw[hg];exact Nat.ne_of_gt (blk_lt (g:=gb185) (o:=.cells #[.int .i64 a0_0,.int .i64 a0_1,.int .i64 a0_2,.int .i64 a0_3] 65 (0,0)) (bk_ BK185)):gb186≠gb185));replace BK185:=zB (blk_below (g:=gb185) (o:=.cells #[.int .i64 a0_0,.int .i64 a0_1,.int .i64 a0_2,.int .i64 a0_3] 65 (0,0)) (bk_ BK185) hb);clear hb hbox hg))
 replace BK185:=zB (zX BK185.out)
 replace BK186:=zB (zX BK186.out)
 replace HB:=zB (zG HB.out)
 refine start_ (n:=18) (S:=fun w'=>c_ w' gb185 0 (.int .i64 a0_0)∧c_ w' gb185 1 (.int .i64 a0_1)∧c_ w' gb185 2 (.int .i64 a0_2)∧c_ w' gb185 3 (.int .i64 a0_3)∧c_ w' gb186 0 (.int .i64 a1_0)∧c_ w' gb186 1 (.int .i64 a1_1)∧c_ w' gb186 2 (.int .i64 a1_2)∧c_ w' gb186 3 (.int .i64 a1_3)) (ds:=[]) (bt_ 0 18) (by kernel_rfl) rfl rfl ⟨bc_ BK185 0,bc_ BK185 1,bc_ BK185 2,bc_ BK185 3,bc_ BK186 0,bc_ BK186 1,bc_ BK186 2,bc_ BK186 3⟩ (fun hHeld=>?_);refine with_tabW due_Order_1.tab1 due_Order_1.bits1 (fun HT_ HW_=>?_)
 generalize w8.drew=w9 at BK185 BK186 HB hHeld⊢
 have Q_:=Qs.mk (n:=18) [(0,0,5,1),(0,2,7,5),(0,5,10,37),(0,7,12,165),(0,10,15,1189),(0,12,17,5285),(2,1,6,5287),(2,3,8,5295),(2,6,11,5359),(2,8,13,5615),(2,11,16,7663),(2,13,18,15855)]
 iterate 12 (first|(refine pq_ Q_ ?_;replace Q_:=qt_ Q_)|(refine tq_ Q_ hHeld ?_;replace Q_:=qt_ Q_))
 clear Q_
 refine one_ (i:=4) (N:=some 9) (bt_ 15871 18) rfl rfl (one_of HT_.out (by kernel_rfl)) (by decide) (fun K hK=>?_)
 refine gs_ Try.func73 #[.int .i64 a0_0,.int .i64 a1_0] rfl ?_
 with_reducible refine(cmp_Compare_int.calls a0_0 a1_0 t187 _ A3.out).mono ?_
 rintro e w' ⟨rfl,⟨nd,rfl⟩⟩
 refine⟨_,rfl,?_⟩
 refine hK.out _ _ ⟨bc_ BK185 0,bc_ BK185 1,bc_ BK185 2,bc_ BK185 3,bc_ BK186 0,bc_ BK186 1,bc_ BK186 2,bc_ BK186 3⟩ (fun hHeld=>?_)
 clear hK K
 refine norm_ (a':=?_) ?_ ?_
 rotate_left
 ·show Act.put _ (some 9) _=_
  simp only[Act.put,zE,zH,zI,i64_w,i32_w]
  rfl
 refine one_ (i:=9) (N:=some 14) (dn_ 14 18) rfl rfl (one_of HT_.out (by kernel_rfl)) (by decide) (fun K hK=>?_)
 refine gs_ Try.func74 #[.agg #[.int .i64 a0_1,.int .i64 a0_2],.agg #[.int .i64 a1_1,.int .i64 a1_2]] rfl ?_
 with_reducible refine(due_by.calls a0_1 a0_2 a1_1 a1_2 t188 _ A4.out).mono ?_
 rintro e w10 ⟨rfl,hb⟩
 refine⟨_,rfl,?_⟩
 replace BK185:=zB (blk_below (g:=gb185) (o:=.cells #[.int .i64 a0_0,.int .i64 a0_1,.int .i64 a0_2,.int .i64 a0_3] 65 (0,0)) (bk_ BK185) hb)
 replace BK186:=zB (blk_below (g:=gb186) (o:=.cells #[.int .i64 a1_0,.int .i64 a1_1,.int .i64 a1_2,.int .i64 a1_3] 65 (0,0)) (bk_ BK186) hb)
 replace HB:=zB (zQ (hb_ HB) hb)
 (try clear hb)
 (try clear hb2)
 (try clear hk)
 (try clear hi)
 refine hK.out _ _ ⟨bc_ BK185 0,bc_ BK185 1,bc_ BK185 2,bc_ BK185 3,bc_ BK186 0,bc_ BK186 1,bc_ BK186 2,bc_ BK186 3⟩ (fun hHeld=>?_)
 clear hK K
 refine norm_ (a':=?_) ?_ ?_
 rotate_left
 ·show Act.put _ (some 14) _=_
  simp only[Act.put,zE,zH,zI,i64_w,i32_w]
  rfl
 refine one_ (i:=14) (N:=some 19) (dn_ 15 18) rfl rfl (one_of HT_.out (by kernel_rfl)) (by decide) (fun K hK=>?_)
 refine gs_ Try.func73 #[.int .i64 a0_3,.int .i64 a1_3] rfl ?_
 with_reducible refine(cmp_Compare_int.calls a0_3 a1_3 t189 _ A5.out).mono ?_
 rintro e w' ⟨rfl,⟨nd,rfl⟩⟩
 refine⟨_,rfl,?_⟩
 refine hK.out _ _ ⟨bc_ BK185 0,bc_ BK185 1,bc_ BK185 2,bc_ BK185 3,bc_ BK186 0,bc_ BK186 1,bc_ BK186 2,bc_ BK186 3⟩ (fun hHeld=>?_)
 clear hK K
 refine norm_ (a':=?_) ?_ ?_
 rotate_left
 ·show Act.put _ (some 19) _=_
  simp only[Act.put,zE,zH,zI,i64_w,i32_w]
  rfl
 refine one_ (i:=15) (N:=some 20) (dn_ 16 18) rfl rfl (one_of HT_.out (by kernel_rfl)) (by decide) (fun K hK=>?_)
 refine Kd.R_lit_step (Kd.int .i64) _ 3 ?hg (N:=20) ?hd (xs:=([t187,t188,t189]:List Int)) (inner:=[.int .i64 t187,.int .i64 t188,.int .i64 t189]) (ok:=fun _=>True) (okp:=fun _=>True) ?hr ?hp (fun _ hk=>hk) trivial (Below.refl _ _) (za _) (by simp) ?_;(case hd=>rfl);(case hg=>rfl);(case hr=>first|(go_simp;done)|(go_simp;rfl));(case hp=>exact(Reps.one (show Kd.M (Kd.int .i64) _ _ _ t187 [.int .i64 t187] from rfl) (Reps.one (show Kd.M (Kd.int .i64) _ _ _ t188 [.int .i64 t188] from rfl) (Reps.one (show Kd.M (Kd.int .i64) _ _ _ t189 [.int .i64 t189] from rfl) (Reps.none _ _)))))
 intro v191 w11 ho12 hb hg_ hnew_
 clear hg_ hnew_
 (first|rw[←Ny190.out] at ho12|(simp only[Int.reduceToNat] at ho12;rw[←Ny190.out] at ho12))
 have HO192:=zB (Kd.R_lower ho12 (zN (hb_ HB)))
 replace BK185:=zB (blk_below (g:=gb185) (o:=.cells #[.int .i64 a0_0,.int .i64 a0_1,.int .i64 a0_2,.int .i64 a0_3] 65 (0,0)) (bk_ BK185) hb)
 replace BK186:=zB (blk_below (g:=gb186) (o:=.cells #[.int .i64 a1_0,.int .i64 a1_1,.int .i64 a1_2,.int .i64 a1_3] 65 (0,0)) (bk_ BK186) hb)
 replace HB:=zB (zQ (hb_ HB) hb)
 clear hb ho12
 obtain⟨Ao13,co13,eo13⟩:=Kd.R_slice HO192.out
 (first|subst eo13|(injection eo13 with f1_ f2_ f3_;have f4_:=f1_.symm;have f5_:=f3_.symm;clear f1_ f2_ f3_;subst f4_;subst f5_))
 refine hK.out _ _ ⟨bc_ BK185 0,bc_ BK185 1,bc_ BK185 2,bc_ BK185 3,bc_ BK186 0,bc_ BK186 1,bc_ BK186 2,bc_ BK186 3⟩ (fun hHeld=>?_)
 clear hK K
 refine norm_ (a':=?_) ?_ ?_
 rotate_left
 ·show Act.put _ (some 20) _=_
  simp only[Act.put,zE,zH,zI,i64_w,i32_w]
  rfl
 refine one_ (i:=16) (N:=some 21) (dn_ 17 18) rfl rfl (one_of HT_.out (by kernel_rfl)) (by decide) (fun K hK=>?_)
 refine gs_ Try.func72 #[.slice Ao13 y190.length co13] rfl ?_
 with_reducible refine(cmp_Or_int.calls k _ _ y190 t193 _ ?side1 ?side2 A6.out).mono ?_
 (case side1=>repeat(first|exact(zd HO192.out).2.2|(with_reducible refine Kd.C_alloc ?_ _)|(with_reducible refine Kd.C_drewN ?_ _)|(with_reducible refine Kd.C_drew ?_)))
 (case side2=>exact(zd HO192.out).2.1)
 rintro e w' ⟨rfl,⟨nd,rfl⟩⟩
 refine⟨_,rfl,?_⟩
 refine hK.out _ _ ⟨bc_ BK185 0,bc_ BK185 1,bc_ BK185 2,bc_ BK185 3,bc_ BK186 0,bc_ BK186 1,bc_ BK186 2,bc_ BK186 3⟩ (fun hHeld=>?_)
 clear hK K
 refine norm_ (a':=?_) ?_ ?_
 rotate_left
 ·show Act.put _ (some 21) _=_
  simp only[Act.put,zE,zH,zI,i64_w,i32_w]
  rfl
 refine pure_ (i:=17) (N:=some 4) (v:=?_) (a':=?_) (bt_ 262143 18) rfl rfl (any_of HT_.out (by kernel_rfl)) (fun _ _ _ h=>h) (Or.inl ⟨by rfl,?_⟩) ?_ ?_
 rotate_left
 ·intro w'
  go_simp
  with_reducible rfl
 rotate_left;(simp only[Act.put,zE,zH,zI,i64_w,i32_w];rfl)
 refine done_ (done_of HT_.out (by kernel_rfl)) ?_
 try go_wp2
 go_ret
 exact⟨ew_,hb_ HB⟩
end Go.Proofs.Ytcfpbmdndapeaaa.F
