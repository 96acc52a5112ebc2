-- Written by a program of this session (xprint.py), out of the translation and of contracts proved by hand.
import Derived.Test.YtcfpbmdndapeaaaF0
namespace Go.Proofs.Ytcfpbmdndapeaaa.F
open Go.RowKit Go.Proofs.YtcfpbmdndapeaaaV.PrintWords Go.Proofs.YtcfpbmdndapeaaaV.PrintLast Go.Proofs.YtcfpbmdndapeaaaV.PrintMore
attribute [local go_sem] max2_int min2_int max_two min_two max_three min_three max_four min_four
set_option linter.unusedVariables false
set_option linter.unusedSimpArgs false
def api_Turn_109.l0:Nat→List (S65)→Int→Int→Int→Int→Option ((List (S65)))
 |0,_,_,_,_,_=>none
 |k+1,x0,x1,x2,x3,x10=>if x10<x3 then(if 0≤(wrap64 (x2+x10)) then(if(wrap64 (x2+x10))<(x0.length:Int) then(if 0≤(wrap64 (x1+x10)) then(if(wrap64 (x1+x10))<(x0.length:Int) then(api_Turn_109.l0 k ((x0.set ((wrap64 (x1+x10)):Int).toNat (⟨(rd_T65 x0 (wrap64 (x2+x10))).f0,(⟨(rd_T65 x0 (wrap64 (x2+x10))).f1.f0,(rd_T65 x0 (wrap64 (x2+x10))).f1.f1⟩:S26),(rd_T65 x0 (wrap64 (x2+x10))).f2⟩:S65)).set ((wrap64 (x2+x10)):Int).toNat (⟨(rd_T65 x0 (wrap64 (x1+x10))).f0,(⟨(rd_T65 x0 (wrap64 (x1+x10))).f1.f0,(rd_T65 x0 (wrap64 (x1+x10))).f1.f1⟩:S26),(rd_T65 x0 (wrap64 (x1+x10))).f2⟩:S65)) x1 x2 x3 (wrap64 (x10+1))) else(none)) else(none)) else(none)) else(none)) else(some x0)
def api_Turn_109.f (k:Nat) (l0:List (S65)) (a1:Int) (a2:Int) (a3:Int) (a4:Int):Option ((List (S65))):=api_Turn_109.l0 k l0 a1 a2 a3 0
theorem api_Turn_109.mono_l: ∀k,(∀y0 y1 y2 y3 y4,LeO (api_Turn_109.l0 k y0 y1 y2 y3 y4) (api_Turn_109.l0 (k+1) y0 y1 y2 y3 y4))
 |0=>fun _ _ _ _ _ r h=>by simp[api_Turn_109.l0] at h
 |k+1=>by
  have ih0:=api_Turn_109.mono_l k
  ·intro y0 y1 y2 y3 y4
   unfold api_Turn_109.l0
   repeat' first
   |(with_reducible exact ih0 _ _ _ _ _)
   |(with_reducible exact LeO.refl _)
   |(with_reducible exact zf _)
   |(with_reducible refine zg ?_ ?_)
   |(with_reducible refine ze ?_ (fun _=>?_))
theorem api_Turn_109.mono: ∀a0 a1 a2 a3 a4 k,LeO (api_Turn_109.f k a0 a1 a2 a3 a4) (api_Turn_109.f (k+1) a0 a1 a2 a3 a4):=by
 intro a0 a1 a2 a3 a4 k
 have ih0:=api_Turn_109.mono_l k
 unfold api_Turn_109.f
 repeat' first
   |(with_reducible exact ih0 _ _ _ _ _)
   |(with_reducible exact LeO.refl _)
   |(with_reducible exact zf _)
   |(with_reducible refine zg ?_ ?_)
   |(with_reducible refine ze ?_ (fun _=>?_))
def api_Turn_109.T3:Bool×List (List Nat×List Nat):=(true,[([],[]),([],[]),([],[]),([1,2],[1,2]),([],[]),([],[]),([],[]),([5,6],[5,6]),([],[]),([],[]),([],[]),([9,10],[9,10]),([8,11],[8,11]),([12],[12]),([],[]),([],[]),([],[]),([15,16],[15,16]),([14,17],[14,17]),([18],[18]),([0,3,0,1,2,3,8,9,10,11,12,13,19],[0,3]),([20,13,0,1,2,3,8,9,10,11,12,13,19],[13,20]),([4,7,0,1,2,3,4,5,6,7,8,9,10,11,12,13,14,15,16,17,18,19,20,21],[4,7]),([22,19,21,0,1,2,3,4,5,6,7,8,9,10,11,12,13,14,15,16,17,18,19,20,21],[19,22])])
def api_Turn_109.B3:List Nat:=[0,0,0,6,0,0,0,96,0,0,0,1536,3840,7936,0,0,0,98304,245760,507904,1048335,2096911,4194303,8388607]
theorem api_Turn_109.tab3:rtab .any (opsOf Try.f109 3)=api_Turn_109.T3:=by kernel_rfl
theorem api_Turn_109.bits3:waitsOk api_Turn_109.T3.2 api_Turn_109.B3=true:=by kernel_rfl
set_option maxHeartbeats 8000000 in
set_option maxRecDepth 100000 in
theorem api_Turn_109.calls (k:Nat) (P0_:Nat→Prop) (u9000_:Value) (l0:List (S65)) (a1:Int) (a2:Int) (a3:Int) (a4:Int) (r:List (S65)) (w0 w:World) (hB:Below w0.heap.size w0 w) (ho0:Kd.R k65 65 w w0.heap.size P0_ u9000_ l0) (h:api_Turn_109.f k l0 a1 a2 a3 a4=some r):
  Calls Try.prog 109 #[u9000_,.int .i64 a1,.int .i64 a2,.int .i64 a3,.func (.func 79) #[] #[]] w fun e w'=>e=.returned (.tuple #[])∧Kd.R k65 65 w' w0.heap.size (fun k_=>(P0_ k_∨w.heap.size≤k_)) u9000_ r∧Below w0.heap.size w0 w'∧Kept w w' (fun k_=>P0_ k_):=by
 have hu65:=Try.underlying65
 have HO0:=zB (show Kd.R k65 65 w w0.heap.size (fun k_=>(P0_ k_∨w.heap.size≤k_)) u9000_ l0 from Kd.R_mono ho0 (fun k_ hk=>(.inl hk)))
 have HK:=zB (Kept.refl w (fun k_=>P0_ k_))
 have HW0:=zB hB.size
 have HB:=zB hB
 clear hB
 have H:(api_Turn_109.l0 k l0 a1 a2 a3 0)=some r:=h
 clear h
 have H':=zB H
 clear H
 go_enter Try.func109,Try.ntmps109
 go_wp2
 go_loopg [10] k (fun kq v10 w'=> ∃(x0_1:List (S65)) (x10_1:Int),v10=.int .i64 x10_1∧Aside0 (api_Turn_109.l0 kq x0_1 a1 a2 a3 x10_1=some r)∧Aside0 (kq≤k)∧Aside0 (Kd.R k65 65 w' w0.heap.size (fun k_=>(P0_ k_∨w.heap.size≤k_)) u9000_ x0_1)∧Aside0 (Kept w w' (fun k_=>P0_ k_))∧Aside0 (Below w0.heap.size w0 w'))
 case atStart=>exact⟨(l0),(0),rs_,H',⟨za _⟩,⟨kr_ HO0⟩,⟨kk_ HK⟩,⟨hb_ HB⟩⟩
 case round=>
  clear H'
  try clear c1;try clear p2
  obtain⟨x0_1,x10_1,rfl,HA,HK1,HO_0,HK,HB⟩:=hrel
  cases gk with
  |zero=>exact absurd HA.out (by simp[api_Turn_109.l0])
  |succ k1=>
   have H:=HA.out
   clear HA
   simp only[api_Turn_109.l0] at H
   by_cases c6:x10_1<a3
   ·rw[if_pos c6] at H
    have c6b0:=zO c6
    clear c6
    obtain⟨ji7,hji7⟩: ∃j_:Int,(wrap64 (a2+x10_1))=j_:=⟨_,rfl⟩
    replace H:(if 0≤(ji7) then(if(ji7)<(x0_1.length:Int) then(if 0≤(wrap64 (a1+x10_1)) then(if(wrap64 (a1+x10_1))<(x0_1.length:Int) then(api_Turn_109.l0 k1 ((x0_1.set ((wrap64 (a1+x10_1)):Int).toNat (⟨(rd_T65 x0_1 (ji7)).f0,(⟨(rd_T65 x0_1 (ji7)).f1.f0,(rd_T65 x0_1 (ji7)).f1.f1⟩:S26),(rd_T65 x0_1 (ji7)).f2⟩:S65)).set ((ji7):Int).toNat (⟨(rd_T65 x0_1 (wrap64 (a1+x10_1))).f0,(⟨(rd_T65 x0_1 (wrap64 (a1+x10_1))).f1.f0,(rd_T65 x0_1 (wrap64 (a1+x10_1))).f1.f1⟩:S26),(rd_T65 x0_1 (wrap64 (a1+x10_1))).f2⟩:S65)) a1 a2 a3 (wrap64 (x10_1+1))) else(none)) else(none)) else(none)) else(none))=some r:=by first|(rw[hji7] at H;exact H)|(simp only[hji7] at H⊢;exact H)
    have hji7w:(IntKind.i64.wrap (a2+x10_1))=ji7:=(i64_w _).trans hji7
    obtain⟨c8,H⟩:=gd_ H
    have c8b0:=zO c8
    clear c8
    obtain⟨c9,H⟩:=gd_ H
    have c9b0:=zO c9
    clear c9
    obtain⟨ji10,hji10⟩: ∃j_:Int,(wrap64 (a1+x10_1))=j_:=⟨_,rfl⟩
    replace H:(if 0≤(ji10) then(if(ji10)<(x0_1.length:Int) then(api_Turn_109.l0 k1 ((x0_1.set ((ji10):Int).toNat (⟨(rd_T65 x0_1 (ji7)).f0,(⟨(rd_T65 x0_1 (ji7)).f1.f0,(rd_T65 x0_1 (ji7)).f1.f1⟩:S26),(rd_T65 x0_1 (ji7)).f2⟩:S65)).set ((ji7):Int).toNat (⟨(rd_T65 x0_1 (ji10)).f0,(⟨(rd_T65 x0_1 (ji10)).f1.f0,(rd_T65 x0_1 (ji10)).f1.f1⟩:S26),(rd_T65 x0_1 (ji10)).f2⟩:S65)) a1 a2 a3 (wrap64 (x10_1+1))) else(none)) else(none))=some r:=by first|(rw[hji10] at H;exact H)|(simp only[hji10] at H⊢;exact H)
    have hji10w:(IntKind.i64.wrap (a1+x10_1))=ji10:=(i64_w _).trans hji10
    obtain⟨c11,H⟩:=gd_ H
    have c11b0:=zO c11
    clear c11
    obtain⟨c12,H⟩:=gd_ H
    have c12b0:=zO c12
    clear c12
    obtain⟨y203,hy203⟩: ∃y_:List (S65),y_=(x0_1.set ((ji10):Int).toNat (⟨(rd_T65 x0_1 (ji7)).f0,(⟨(rd_T65 x0_1 (ji7)).f1.f0,(rd_T65 x0_1 (ji7)).f1.f1⟩:S26),(rd_T65 x0_1 (ji7)).f2⟩:S65)):=⟨_,rfl⟩
    replace H:(api_Turn_109.l0 k1 (y203.set ((ji7):Int).toNat (⟨(rd_T65 x0_1 (ji10)).f0,(⟨(rd_T65 x0_1 (ji10)).f1.f0,(rd_T65 x0_1 (ji10)).f1.f1⟩:S26),(rd_T65 x0_1 (ji10)).f2⟩:S65)) a1 a2 a3 (wrap64 (x10_1+1)))=some r:=by first|(rw[hy203];with_reducible exact H)|(have H2_:=(Option.bind_some _ _).symm.trans H;rw[hy203];with_reducible exact H2_)|(have H2_:=(Option.bind_some _ _).symm.trans H;with_reducible exact H2_)|with_reducible exact H|(rw[hy203];exact H)|exact H
    have Ny203:=zB hy203
    clear hy203
    obtain⟨y204,hy204⟩: ∃y_:List (S65),y_=(y203.set ((ji7):Int).toNat (⟨(rd_T65 x0_1 (ji10)).f0,(⟨(rd_T65 x0_1 (ji10)).f1.f0,(rd_T65 x0_1 (ji10)).f1.f1⟩:S26),(rd_T65 x0_1 (ji10)).f2⟩:S65)):=⟨_,rfl⟩
    replace H:(api_Turn_109.l0 k1 y204 a1 a2 a3 (wrap64 (x10_1+1)))=some r:=by first|(rw[hy204];with_reducible exact H)|(have H2_:=(Option.bind_some _ _).symm.trans H;rw[hy204];with_reducible exact H2_)|(have H2_:=(Option.bind_some _ _).symm.trans H;with_reducible exact H2_)|with_reducible exact H|(rw[hy204];exact H)|exact H
    have Ny204:=zB hy204
    clear hy204
    have H':=zB H
    clear H
    try go_wp2
    replace HO_0:=zB (Kd.R_drew HO_0.out)
    replace HK:=zB (Kept.drew HK.out)
    replace HB:=zB (zG HB.out)
    obtain⟨Ao16,co16,eo16⟩:=Kd.R_slice HO_0.out
    (first|subst eo16|(injection eo16 with f1_ f2_ f3_;have f4_:=f1_.symm;have f5_:=f3_.symm;clear f1_ f2_ f3_;subst f4_;subst f5_))
    have p201:0≤((ji7):Int):=zJ as_
    have q201:(ji7)<(x0_1.length:Int):=zJ as_
    obtain⟨ad201,e201,hx201_0,hx201_1,hx201_2,hx201_3⟩:=at_T65 (zd HO_0.out).2.2 (ji7) p201 q201
    cases e201
    replace p201:=eq_true p201
    replace q201:=eq_true q201
    have p202:0≤((ji10):Int):=zJ as_
    have q202:(ji10)<(x0_1.length:Int):=zJ as_
    obtain⟨ad202,e202,hx202_0,hx202_1,hx202_2,hx202_3⟩:=at_T65 (zd HO_0.out).2.2 (ji10) p202 q202
    obtain rfl:ad201=ad202:=(by injection e202)
    replace p202:=eq_true p202
    replace q202:=eq_true q202
    have p13:0≤((ji10):Int):=zJ as_
    have q13:((ji10):Int)<((x0_1.length:Int):Int):=zJ as_
    obtain⟨go13,co13,eo13,gb13,gl13,cl13,HG13⟩:=Kd.R_form HO_0.out (by omega)
    (first|cases eo13|(injection eo13 with ea_ en_ ec_;(first|subst ea_|(injection ea_ with ea_;subst ea_));subst ec_;clear en_))
    have GB13:=zB gb13
    have GG13:=zB HG13
    clear gb13 gl13 HG13
    have HMgo13:=zB (show(P0_ go13∨w.heap.size≤go13) from(HO_0.out.1 _ rfl))
    (first|simp only[add_plain] at hx201_0|skip)
    (first|simp only[add_plain] at hx201_1|skip)
    (first|simp only[add_plain] at hx201_2|skip)
    (first|simp only[add_plain] at hx201_3|skip)
    (first|simp only[add_plain] at hx202_0|skip)
    (first|simp only[add_plain] at hx202_1|skip)
    (first|simp only[add_plain] at hx202_2|skip)
    (first|simp only[add_plain] at hx202_3|skip)
    obtain⟨ce13,hcl13,hM13,hcc13,hfr13⟩:=Kd.R_elem HO_0.out z65 ((ji10):Int) p13 q13
    obtain rfl:=k65_openM hM13
    have hx13_0:World.cell? _ ⟨go13,((ji10):Int).toNat*4,none⟩=some (.int .i64 ((rd_T65 x0_1 (ji10)).f0)):=hcc13 0 _ rfl
    have hx13_1:World.cell? _ ⟨go13,((ji10):Int).toNat*4+1,none⟩=some (.int .i64 ((rd_T65 x0_1 (ji10)).f1.f0)):=hcc13 1 _ rfl
    have hx13_2:World.cell? _ ⟨go13,((ji10):Int).toNat*4+2,none⟩=some (.int .i64 ((rd_T65 x0_1 (ji10)).f1.f1)):=hcc13 2 _ rfl
    have hx13_3:World.cell? _ ⟨go13,((ji10):Int).toNat*4+3,none⟩=some (.int .i64 ((rd_T65 x0_1 (ji10)).f2)):=hcc13 3 _ rfl
    have hf13_0:World.frozen? _ ⟨go13,((ji10):Int).toNat*4,none⟩=false:=hfr13 0
    have hf13_1:World.frozen? _ ⟨go13,((ji10):Int).toNat*4+1,none⟩=false:=hfr13 1
    have hf13_2:World.frozen? _ ⟨go13,((ji10):Int).toNat*4+2,none⟩=false:=hfr13 2
    have hf13_3:World.frozen? _ ⟨go13,((ji10):Int).toNat*4+3,none⟩=false:=hfr13 3
    clear hcl13 hcc13 hfr13 hM13
    replace p13:=eq_true p13
    replace q13:=eq_true q13
    obtain⟨ce17,hcl17,hM17,hcc17,hfr17⟩:=Kd.R_elem HO_0.out z65 ((ji10):Int) (zJ as_) (by have h_:((ji10):Int)<((x0_1.length:Int):Int):=zJ as_;first|exact h_|(have e_:=(zd HO_0.out).1;omega)|simpa using h_)
    obtain rfl:=k65_openM hM17
    have HP17:=(Kd.R_seg HO_0.out ((ji10):Int) (zJ as_) (by have h_:((ji10):Int)<((x0_1.length:Int):Int):=zJ as_;first|exact h_|(have e_:=(zd HO_0.out).1;omega)|simpa using h_) (seg:=[.int .i64 ((rd_T65 x0_1 (ji7)).f0),.int .i64 ((rd_T65 x0_1 (ji7)).f1.f0),.int .i64 ((rd_T65 x0_1 (ji7)).f1.f1),.int .i64 ((rd_T65 x0_1 (ji7)).f2)]) (j:=0) hcl17 hcc17 (show 4≤4 from by decide) (x':=(⟨(rd_T65 x0_1 (ji7)).f0,(⟨(rd_T65 x0_1 (ji7)).f1.f0,(rd_T65 x0_1 (ji7)).f1.f1⟩:S26),(rd_T65 x0_1 (ji7)).f2⟩:S65)) (k65_mkM _ _ _ (⟨(rd_T65 x0_1 (ji7)).f0,(⟨(rd_T65 x0_1 (ji7)).f1.f0,(rd_T65 x0_1 (ji7)).f1.f1⟩:S26),(rd_T65 x0_1 (ji7)).f2⟩:S65)) (fun _ hk=>hk)).1
    rw[←Ny203.out] at HP17
    have HQ17:=zB HP17
    clear hcl17 hcc17 hfr17 hM17 HP17
    have p14:0≤((ji7):Int):=zJ as_
    have q14:((ji7):Int)<((x0_1.length:Int):Int):=zJ as_
    obtain⟨ce14,hcl14,hM14,hcc14,hfr14⟩:=Kd.R_elem HQ17.out z65 ((ji7):Int) p14 q14
    obtain rfl:=k65_openM hM14
    have hx14_0:World.cell? _ ⟨go13,((ji7):Int).toNat*4,none⟩=some (.int .i64 ((rd_T65 y203 (ji7)).f0)):=hcc14 0 _ rfl
    have hx14_1:World.cell? _ ⟨go13,((ji7):Int).toNat*4+1,none⟩=some (.int .i64 ((rd_T65 y203 (ji7)).f1.f0)):=hcc14 1 _ rfl
    have hx14_2:World.cell? _ ⟨go13,((ji7):Int).toNat*4+2,none⟩=some (.int .i64 ((rd_T65 y203 (ji7)).f1.f1)):=hcc14 2 _ rfl
    have hx14_3:World.cell? _ ⟨go13,((ji7):Int).toNat*4+3,none⟩=some (.int .i64 ((rd_T65 y203 (ji7)).f2)):=hcc14 3 _ rfl
    have hf14_0:World.frozen? _ ⟨go13,((ji7):Int).toNat*4,none⟩=false:=hfr14 0
    have hf14_1:World.frozen? _ ⟨go13,((ji7):Int).toNat*4+1,none⟩=false:=hfr14 1
    have hf14_2:World.frozen? _ ⟨go13,((ji7):Int).toNat*4+2,none⟩=false:=hfr14 2
    have hf14_3:World.frozen? _ ⟨go13,((ji7):Int).toNat*4+3,none⟩=false:=hfr14 3
    clear hcl14 hcc14 hfr14 hM14
    replace p14:=eq_true p14
    replace q14:=eq_true q14
    obtain⟨ce18,hcl18,hM18,hcc18,hfr18⟩:=Kd.R_elem HQ17.out z65 ((ji7):Int) (zJ as_) (by have h_:((ji7):Int)<((x0_1.length:Int):Int):=zJ as_;first|exact h_|(have e_:=(zd HO_0.out).1;omega)|simpa using h_)
    obtain rfl:=k65_openM hM18
    have HP18:=(Kd.R_seg HQ17.out ((ji7):Int) (zJ as_) (by have h_:((ji7):Int)<((x0_1.length:Int):Int):=zJ as_;first|exact h_|(have e_:=(zd HO_0.out).1;omega)|simpa using h_) (seg:=[.int .i64 ((rd_T65 x0_1 (ji10)).f0),.int .i64 ((rd_T65 x0_1 (ji10)).f1.f0),.int .i64 ((rd_T65 x0_1 (ji10)).f1.f1),.int .i64 ((rd_T65 x0_1 (ji10)).f2)]) (j:=0) hcl18 hcc18 (show 4≤4 from by decide) (x':=(⟨(rd_T65 x0_1 (ji10)).f0,(⟨(rd_T65 x0_1 (ji10)).f1.f0,(rd_T65 x0_1 (ji10)).f1.f1⟩:S26),(rd_T65 x0_1 (ji10)).f2⟩:S65)) (k65_mkM _ _ _ (⟨(rd_T65 x0_1 (ji10)).f0,(⟨(rd_T65 x0_1 (ji10)).f1.f0,(rd_T65 x0_1 (ji10)).f1.f1⟩:S26),(rd_T65 x0_1 (ji10)).f2⟩:S65)) (fun _ hk=>hk)).1
    rw[←Ny204.out] at HP18
    have HQ18:=zB HP18
    clear hcl18 hcc18 hfr18 hM18 HP18
    refine start_ (n:=24) (S:=fun w'=>w'.cell? ⟨go13,(((ji7)).toNat*4),none⟩=some (.int .i64 ((rd_T65 x0_1 (ji7)).f0))∧w'.cell? ⟨go13,(((ji7)).toNat*4)+1,none⟩=some (.int .i64 ((rd_T65 x0_1 (ji7)).f1.f0))∧w'.cell? ⟨go13,(((ji7)).toNat*4)+2,none⟩=some (.int .i64 ((rd_T65 x0_1 (ji7)).f1.f1))∧w'.cell? ⟨go13,(((ji7)).toNat*4)+3,none⟩=some (.int .i64 ((rd_T65 x0_1 (ji7)).f2))∧w'.cell? ⟨go13,(((ji10)).toNat*4),none⟩=some (.int .i64 ((rd_T65 x0_1 (ji10)).f0))∧w'.cell? ⟨go13,(((ji10)).toNat*4)+1,none⟩=some (.int .i64 ((rd_T65 x0_1 (ji10)).f1.f0))∧w'.cell? ⟨go13,(((ji10)).toNat*4)+2,none⟩=some (.int .i64 ((rd_T65 x0_1 (ji10)).f1.f1))∧w'.cell? ⟨go13,(((ji10)).toNat*4)+3,none⟩=some (.int .i64 ((rd_T65 x0_1 (ji10)).f2))) (ds:=[21,23]) (bt_ 0 24) (by kernel_rfl) rfl rfl ⟨hx201_0,hx201_1,hx201_2,hx201_3,hx202_0,hx202_1,hx202_2,hx202_3⟩ (fun hHeld=>?_);refine with_tabW api_Turn_109.tab3 api_Turn_109.bits3 (fun HT_ HW_=>?_)
    generalize wr.drew=w15 at HO_0 HK HB GG13 HQ17 HQ18 hf13_0 hf13_1 hf13_2 hf13_3 hf14_0 hf14_1 hf14_2 hf14_3 hx13_0 hx13_1 hx13_2 hx13_3 hx14_0 hx14_1 hx14_2 hx14_3 hx201_0 hx201_1 hx201_2 hx201_3 hx202_0 hx202_1 hx202_2 hx202_3 hHeld⊢
    have Q_:=Qs.mk (n:=24) [(0,0,16,1),(0,1,17,3),(0,2,18,7),(0,3,19,15),(0,4,20,31),(0,5,21,63),(0,6,22,127),(0,7,23,255),(0,8,24,511),(0,9,25,1023),(0,10,26,2047),(0,11,27,4095),(0,12,28,8191),(0,14,30,24575),(0,15,31,57343),(0,16,32,122879),(0,17,33,253951),(0,18,34,516095),(2,13,29,524287),(2,19,35,1048575),(0,20,36,2097151)]
    iterate 21 (first|(refine pq_ Q_ ?_;replace Q_:=qt_ Q_)|(refine tq_ Q_ hHeld ?_;replace Q_:=qt_ Q_))
    clear Q_
    refine last_ (i:=21) (N:=none) (dn_ 22 24) rfl rfl (one_of HT_.out (by kernel_rfl)) (by decide) (fun K hK=>?_)
    refine skip_ (w1:=?_) (by rfl) rfl ?_ ?_
    rotate_left
    ·(try simp[go_sem,World.setCells,show k65.sz=4 from rfl] at hx14_0);(try simp[go_sem,World.setCells,show k65.sz=4 from rfl] at hx14_1);(try simp[go_sem,World.setCells,show k65.sz=4 from rfl] at hx14_2);(try simp[go_sem,World.setCells,show k65.sz=4 from rfl] at hx14_3);(try simp[go_sem,World.setCells,show k65.sz=4 from rfl] at hf14_0);(try simp[go_sem,World.setCells,show k65.sz=4 from rfl] at hf14_1);(try simp[go_sem,World.setCells,show k65.sz=4 from rfl] at hf14_2);(try simp[go_sem,World.setCells,show k65.sz=4 from rfl] at hf14_3)
     go_simp
     rfl
    refine hK.out _ _ ?_
    clear hK K
    refine pure_ (i:=22) (N:=some 37) (v:=?_) (a':=?_) (dn_ 23 24) rfl rfl (any_of HT_.out (by kernel_rfl)) (fun _ _ _ h=>h) (Or.inl ⟨by rfl,?_⟩) ?_ ?_
    rotate_left
    ·intro w'
     go_simp
     with_reducible rfl
    rotate_left;(simp only[Act.put,zE,zH,zI,i64_w,i32_w];rfl)
    refine last_ (i:=23) (N:=none) (bt_ 16777215 24) rfl rfl (one_of HT_.out (by kernel_rfl)) (by decide) (fun K hK=>?_)
    refine skip_ (w1:=?_) (by rfl) rfl ?_ ?_
    rotate_left
    ·(try simp[go_sem,World.setCells,show k65.sz=4 from rfl] at hx14_0);(try simp[go_sem,World.setCells,show k65.sz=4 from rfl] at hx14_1);(try simp[go_sem,World.setCells,show k65.sz=4 from rfl] at hx14_2);(try simp[go_sem,World.setCells,show k65.sz=4 from rfl] at hx14_3);(try simp[go_sem,World.setCells,show k65.sz=4 from rfl] at hf14_0);(try simp[go_sem,World.setCells,show k65.sz=4 from rfl] at hf14_1);(try simp[go_sem,World.setCells,show k65.sz=4 from rfl] at hf14_2);(try simp[go_sem,World.setCells,show k65.sz=4 from rfl] at hf14_3)
     go_simp
     rfl
    refine hK.out _ _ ?_
    clear hK K
    refine done_ (done_of HT_.out (by kernel_rfl)) ?_
    try go_wp2
    go_roundg k1
    case measure=>have:=HK1.out;omega
    case rel=>exact⟨(y204),(wrap64 (x10_1+1)),rs_,H',⟨za_ HK1⟩,⟨kr_ HQ18⟩,⟨kk_ HK⟩,⟨hb_ HB⟩⟩
   ·rw[if_neg c6] at H
    have c6b0:=zY c6
    clear c6
    obtain rfl:=zW H
    go_wp2
    first|go_end0|((try simp only[Exit.inBlock,Exit.then]);refine bodyPost_ret (results_none rfl _ _ _) rfl ?_)
    exact⟨ew_,by(with_reducible repeat(first|apply Kd.R_alloc|apply Kd.R_drewN|apply Kd.R_drew));exact HO_0.out,hb_ HB,kk_ HK⟩
def api_Turn_108.l0:Nat→List (S65)→Int→Int→Int→Int→Option ((List (S65)))
 |0,_,_,_,_,_=>none
 |k+1,x0,x2,x4,x10,x11=>if x10=x11 then((api_Turn_109.f k x0 (wrap64 (x2-x10)) x2 x10 x4).bind fun t205=>(some t205)) else(if x10>x11 then((api_Turn_109.f k x0 (wrap64 (x2-x10)) x2 x11 x4).bind fun t206=>(api_Turn_108.l0 k t206 x2 x4 (wrap64 (x10-x11)) x11)) else((api_Turn_109.f k x0 (wrap64 (x2-x10)) (wrap64 ((wrap64 (x2+x11))-x10)) x10 x4).bind fun t207=>(api_Turn_108.l0 k t207 x2 x4 x10 (wrap64 (x11-x10)))))
def api_Turn_108.f (k:Nat) (l0:List (S65)) (a1:Int) (a2:Int) (a3:Int) (a4:Int):Option ((List (S65))):=api_Turn_108.l0 k l0 a2 a4 (wrap64 (a2-a1)) (wrap64 (a3-a2))
theorem api_Turn_108.mono_l: ∀k,(∀y0 y1 y2 y3 y4,LeO (api_Turn_108.l0 k y0 y1 y2 y3 y4) (api_Turn_108.l0 (k+1) y0 y1 y2 y3 y4))
 |0=>fun _ _ _ _ _ r h=>by simp[api_Turn_108.l0] at h
 |k+1=>by
  have ih0:=api_Turn_108.mono_l k
  ·intro y0 y1 y2 y3 y4
   unfold api_Turn_108.l0
   repeat' first
   |(with_reducible exact ih0 _ _ _ _ _)
   |(with_reducible exact api_Turn_109.mono _ _ _ _ _ _)
   |(with_reducible exact LeO.refl _)
   |(with_reducible exact zf _)
   |(with_reducible refine zg ?_ ?_)
   |(with_reducible refine ze ?_ (fun _=>?_))
theorem api_Turn_108.mono: ∀a0 a1 a2 a3 a4 k,LeO (api_Turn_108.f k a0 a1 a2 a3 a4) (api_Turn_108.f (k+1) a0 a1 a2 a3 a4):=by
 intro a0 a1 a2 a3 a4 k
 have ih0:=api_Turn_108.mono_l k
 unfold api_Turn_108.f
 repeat' first
   |(with_reducible exact ih0 _ _ _ _ _)
   |(with_reducible exact api_Turn_109.mono _ _ _ _ _ _)
   |(with_reducible exact LeO.refl _)
   |(with_reducible exact zf _)
   |(with_reducible refine zg ?_ ?_)
   |(with_reducible refine ze ?_ (fun _=>?_))
set_option maxHeartbeats 8000000 in
set_option maxRecDepth 100000 in
theorem api_Turn_108.calls (k:Nat) (P0_:Nat→Prop) (u9000_:Value) (l0:List (S65)) (a1:Int) (a2:Int) (a3:Int) (a4:Int) (r:List (S65)) (w0 w:World) (hB:Below w0.heap.size w0 w) (ho0:Kd.R k65 65 w w0.heap.size P0_ u9000_ l0) (h:api_Turn_108.f k l0 a1 a2 a3 a4=some r):
  Calls Try.prog 108 #[u9000_,.int .i64 a1,.int .i64 a2,.int .i64 a3,.func (.func 79) #[] #[]] w fun e w'=>e=.returned (.tuple #[])∧Kd.R k65 65 w' w0.heap.size (fun k_=>(P0_ k_∨w.heap.size≤k_)) u9000_ r∧Below w0.heap.size w0 w'∧Kept w w' (fun k_=>P0_ k_):=by
 have HO0:=zB (show Kd.R k65 65 w w0.heap.size (fun k_=>(P0_ k_∨w.heap.size≤k_)) u9000_ l0 from Kd.R_mono ho0 (fun k_ hk=>(.inl hk)))
 have HK:=zB (Kept.refl w (fun k_=>P0_ k_))
 have HW0:=zB hB.size
 have HB:=zB hB
 clear hB
 have H:(api_Turn_108.l0 k l0 a2 a4 (wrap64 (a2-a1)) (wrap64 (a3-a2)))=some r:=h
 clear h
 have H':=zB H
 clear H
 go_enter Try.func108,Try.ntmps108
 go_wp2
 go_loopg [10,11] k (fun kq v10 v11 w'=> ∃(x0_1:List (S65)) (x10_1:Int) (x11_1:Int),v10=.int .i64 x10_1∧v11=.int .i64 x11_1∧Aside0 (api_Turn_108.l0 kq x0_1 a2 a4 x10_1 x11_1=some r)∧Aside0 (kq≤k)∧Aside0 (Kd.R k65 65 w' w0.heap.size (fun k_=>(P0_ k_∨w.heap.size≤k_)) u9000_ x0_1)∧Aside0 (Kept w w' (fun k_=>P0_ k_))∧Aside0 (Below w0.heap.size w0 w'))
 case atStart=>exact⟨(l0),(wrap64 (a2-a1)),(wrap64 (a3-a2)),rs_,rs_,H',⟨za _⟩,⟨kr_ HO0⟩,⟨kk_ HK⟩,⟨hb_ HB⟩⟩
 case round=>
  clear H'
  try clear c1;try clear p2
  obtain⟨x0_1,x10_1,x11_1,rfl,rfl,HA,HK1,HO_0,HK,HB⟩:=hrel
  cases gk with
  |zero=>exact absurd HA.out (by simp[api_Turn_108.l0])
  |succ k1=>
   have H:=HA.out
   clear HA
   simp only[api_Turn_108.l0] at H
   by_cases c6:x10_1=x11_1
   ·rw[if_pos c6] at H
    have c6b0:=beq_iff_eq.mpr c6
    have c6b1:=bne_eq_false_iff_eq.mpr c6
    clear c6
    replace H:=zL H
    obtain⟨t205,A70,H⟩:=H
    try dsimp only at H
    have A7:=zB A70
    clear A70
    obtain rfl:=zW H
    obtain⟨Ao8,co8,eo8⟩:=Kd.R_slice HO_0.out
    subst eo8
    go_wp2_with (first|((with_reducible refine gate_callee (f:=109) rfl ?_);refine gl_ (some 57) Try.func109 #[.slice Ao8 x0_1.length co8,.int .i64 (wrap64 (a2-x10_1)),.int .i64 a2,.int .i64 x10_1,.func (.func 79) #[] #[]] rfl ?_;(with_reducible refine(api_Turn_109.calls k1 (fun k_=>some k_=(.slice Ao8 x0_1.length co8:Value).ownBlock) (.slice Ao8 x0_1.length co8) x0_1 (wrap64 (a2-x10_1)) a2 x10_1 a4 t205 w0 _ ?side1 ?side2 A7.out).mono ?_);(case side1=>repeat(first|(with_reducible first|exact HB.out|apply below_alloc|apply zF|apply zG)|exact HB.out));(case side2=>exact Kd.R_tight rfl HO_0.out);rintro e w9 ⟨rfl,hy0,hb,hkp⟩;refine⟨_,rfl,?_⟩;replace HK:=zB (Kept.then_ (S:=(fun k_=>P0_ k_)) (kk_ HK) hkp (fun k_ hs_=>(fun e_=>(HO_0.out.1 k_ e_.symm)) hs_));replace HO_0:=zB (Kd.R_reok rfl hy0 (fun k_ e_=>HO_0.out.1 k_ e_));replace HB:=zB (hb);(try clear hb);(try clear hkp);(try clear hy0)))
    first|go_end0|((try simp only[Exit.inBlock,Exit.then]);refine bodyPost_ret (results_none rfl _ _ _) rfl ?_)
    exact⟨ew_,by(with_reducible repeat(first|apply Kd.R_alloc|apply Kd.R_drewN|apply Kd.R_drew));exact HO_0.out,hb_ HB,kk_ HK⟩
   ·rw[if_neg c6] at H
    have c6b0:=beq_eq_false_iff_ne.mpr c6
    have c6b1:=bne_iff_ne.mpr c6
    by_cases c10:x10_1>x11_1
    ·rw[if_pos c10] at H
     have c10b0:=zO c10
     clear c10
     replace H:=zL H
     obtain⟨t206,A110,H⟩:=H
     try dsimp only at H
     have A11:=zB A110
     clear A110
     have H':=zB H
     clear H
     obtain⟨Ao12,co12,eo12⟩:=Kd.R_slice HO_0.out
     subst eo12
     go_wp2_with (first|((with_reducible refine gate_callee (f:=109) rfl ?_);refine gl_ (some 31) Try.func109 #[.slice Ao12 x0_1.length co12,.int .i64 (wrap64 (a2-x10_1)),.int .i64 a2,.int .i64 x11_1,.func (.func 79) #[] #[]] rfl ?_;(with_reducible refine(api_Turn_109.calls k1 (fun k_=>some k_=(.slice Ao12 x0_1.length co12:Value).ownBlock) (.slice Ao12 x0_1.length co12) x0_1 (wrap64 (a2-x10_1)) a2 x11_1 a4 t206 w0 _ ?side1 ?side2 A11.out).mono ?_);(case side1=>repeat(first|(with_reducible first|exact HB.out|apply below_alloc|apply zF|apply zG)|exact HB.out));(case side2=>exact Kd.R_tight rfl HO_0.out);rintro e w13 ⟨rfl,hy0,hb,hkp⟩;refine⟨_,rfl,?_⟩;replace HK:=zB (Kept.then_ (S:=(fun k_=>P0_ k_)) (kk_ HK) hkp (fun k_ hs_=>(fun e_=>(HO_0.out.1 k_ e_.symm)) hs_));replace HO_0:=zB (Kd.R_reok rfl hy0 (fun k_ e_=>HO_0.out.1 k_ e_));replace HB:=zB (hb);(try clear hb);(try clear hkp);(try clear hy0)))
     go_roundg k1
     case measure=>have:=HK1.out;omega
     case rel=>exact⟨(t206),(wrap64 (x10_1-x11_1)),(x11_1),rs_,rs_,H',⟨za_ HK1⟩,⟨kr_ HO_0⟩,⟨kk_ HK⟩,⟨hb_ HB⟩⟩
    ·rw[if_neg c10] at H
     have c10b0:=zY c10
     clear c10
     replace H:=zL H
     obtain⟨t207,A140,H⟩:=H
     try dsimp only at H
     have A14:=zB A140
     clear A140
     have H':=zB H
     clear H
     obtain⟨Ao15,co15,eo15⟩:=Kd.R_slice HO_0.out
     subst eo15
     go_wp2_with (first|((with_reducible refine gate_callee (f:=109) rfl ?_);refine gl_ (some 46) Try.func109 #[.slice Ao15 x0_1.length co15,.int .i64 (wrap64 (a2-x10_1)),.int .i64 (wrap64 ((wrap64 (a2+x11_1))-x10_1)),.int .i64 x10_1,.func (.func 79) #[] #[]] rfl ?_;(with_reducible refine(api_Turn_109.calls k1 (fun k_=>some k_=(.slice Ao15 x0_1.length co15:Value).ownBlock) (.slice Ao15 x0_1.length co15) x0_1 (wrap64 (a2-x10_1)) (wrap64 ((wrap64 (a2+x11_1))-x10_1)) x10_1 a4 t207 w0 _ ?side1 ?side2 A14.out).mono ?_);(case side1=>repeat(first|(with_reducible first|exact HB.out|apply below_alloc|apply zF|apply zG)|exact HB.out));(case side2=>exact Kd.R_tight rfl HO_0.out);rintro e w16 ⟨rfl,hy0,hb,hkp⟩;refine⟨_,rfl,?_⟩;replace HK:=zB (Kept.then_ (S:=(fun k_=>P0_ k_)) (kk_ HK) hkp (fun k_ hs_=>(fun e_=>(HO_0.out.1 k_ e_.symm)) hs_));replace HO_0:=zB (Kd.R_reok rfl hy0 (fun k_ e_=>HO_0.out.1 k_ e_));replace HB:=zB (hb);(try clear hb);(try clear hkp);(try clear hy0)))
     go_roundg k1
     case measure=>have:=HK1.out;omega
     case rel=>exact⟨(t207),(x10_1),(wrap64 (x11_1-x10_1)),rs_,rs_,H',⟨za_ HK1⟩,⟨kr_ HO_0⟩,⟨kk_ HK⟩,⟨hb_ HB⟩⟩
end Go.Proofs.Ytcfpbmdndapeaaa.F
