-- Written by a program of this session (xprint.py), out of the translation and of contracts proved by hand.
import Derived.Test.YtcfpbmdndapeaaaF0
import Derived.Test.YtcfpbmdndapeaaaF6
import Derived.Test.YtcfpbmdndapeaaaF8
import Derived.Test.YtcfpbmdndapeaaaF10
import Derived.Test.YtcfpbmdndapeaaaF12
namespace Go.Proofs.Ytcfpbmdndapeaaa.F
open Go.RowKit Go.Proofs.YtcfpbmdndapeaaaV.PrintWords Go.Proofs.YtcfpbmdndapeaaaV.PrintLast Go.Proofs.YtcfpbmdndapeaaaV.PrintMore
attribute [local go_sem] max2_int min2_int max_two min_two max_three min_three max_four min_four
set_option linter.unusedVariables false
set_option linter.unusedSimpArgs false
mutual
def api_Turn_105.l0:Nat→List (S65)→Int→Int→Int→Int→Int→Option ((List (S65)))
 |0,_,_,_,_,_,_=>none
 |k+1,x0,x1,x2,x6,x7,x8=>if x8≤x1 then((api_Turn_106.f k x0 x7 x8 x2).bind fun t228=>(api_Turn_105.l0 k t228 x1 x2 x6 x8 (wrap64 (x8+x6)))) else((api_Turn_106.f k x0 x7 x1 x2).bind fun t229=>(api_Turn_105.l1 k t229 x1 x2 x6))
def api_Turn_105.l1:Nat→List (S65)→Int→Int→Int→Option ((List (S65)))
 |0,_,_,_,_=>none
 |k+1,x0,x1,x2,x6=>if x6<x1 then(api_Turn_105.l2 k x0 x1 x2 x6 0 (wrap64 (2*x6))) else(some x0)
def api_Turn_105.l2:Nat→List (S65)→Int→Int→Int→Int→Int→Option ((List (S65)))
 |0,_,_,_,_,_,_=>none
 |k+1,x0,x1,x2,x6,x7,x8=>if x8≤x1 then((api_Turn_107.f k x0 x7 (wrap64 (x7+x6)) x8 x2).bind fun t230=>(api_Turn_105.l2 k t230 x1 x2 x6 x8 (wrap64 (x8+(wrap64 (2*x6)))))) else(if(wrap64 (x7+x6))<x1 then((api_Turn_107.f k x0 x7 (wrap64 (x7+x6)) x1 x2).bind fun t231=>(api_Turn_105.l1 k t231 x1 x2 (wrap64 (x6*2)))) else(api_Turn_105.l1 k x0 x1 x2 (wrap64 (x6*2))))
end
def api_Turn_105.f (k:Nat) (l0:List (S65)) (a1:Int) (a2:Int):Option ((List (S65))):=api_Turn_105.l0 k l0 a1 a2 20 0 20
theorem api_Turn_105.mono_l: ∀k,(∀y0 y1 y2 y3 y4 y5,LeO (api_Turn_105.l0 k y0 y1 y2 y3 y4 y5) (api_Turn_105.l0 (k+1) y0 y1 y2 y3 y4 y5))∧(∀y0 y1 y2 y3,LeO (api_Turn_105.l1 k y0 y1 y2 y3) (api_Turn_105.l1 (k+1) y0 y1 y2 y3))∧(∀y0 y1 y2 y3 y4 y5,LeO (api_Turn_105.l2 k y0 y1 y2 y3 y4 y5) (api_Turn_105.l2 (k+1) y0 y1 y2 y3 y4 y5))
 |0=>⟨fun _ _ _ _ _ _ r h=>by simp[api_Turn_105.l0] at h,fun _ _ _ _ r h=>by simp[api_Turn_105.l1] at h,fun _ _ _ _ _ _ r h=>by simp[api_Turn_105.l2] at h⟩
 |k+1=>by
  obtain⟨ih0,ih1,ih2⟩:=api_Turn_105.mono_l k
  refine⟨?_,?_,?_⟩
  all_goals (intros;first|unfold api_Turn_105.l0|unfold api_Turn_105.l1|unfold api_Turn_105.l2)
  all_goals (repeat' first
   |(with_reducible exact ih0 _ _ _ _ _ _)
   |(with_reducible exact ih1 _ _ _ _)
   |(with_reducible exact ih2 _ _ _ _ _ _)
   |(with_reducible exact api_Turn_106.mono _ _ _ _ _)
   |(with_reducible exact api_Turn_107.mono _ _ _ _ _ _)
   |(with_reducible exact LeO.refl _)
   |(with_reducible exact zf _)
   |(with_reducible refine zg ?_ ?_)
   |(with_reducible refine ze ?_ (fun _=>?_)))
theorem api_Turn_105.mono: ∀a0 a1 a2 k,LeO (api_Turn_105.f k a0 a1 a2) (api_Turn_105.f (k+1) a0 a1 a2):=by
 intro a0 a1 a2 k
 obtain⟨ih0,ih1,ih2⟩:=api_Turn_105.mono_l k
 unfold api_Turn_105.f
 repeat' first
   |(with_reducible exact ih0 _ _ _ _ _ _)
   |(with_reducible exact ih1 _ _ _ _)
   |(with_reducible exact ih2 _ _ _ _ _ _)
   |(with_reducible exact api_Turn_106.mono _ _ _ _ _)
   |(with_reducible exact api_Turn_107.mono _ _ _ _ _ _)
   |(with_reducible exact LeO.refl _)
   |(with_reducible exact zf _)
   |(with_reducible refine zg ?_ ?_)
   |(with_reducible refine ze ?_ (fun _=>?_))
set_option maxHeartbeats 8000000 in
set_option maxRecDepth 100000 in
theorem api_Turn_105.calls (k:Nat) (P0_:Nat→Prop) (u9000_:Value) (l0:List (S65)) (a1:Int) (a2:Int) (r:List (S65)) (w0 w:World) (hB:Below w0.heap.size w0 w) (ho0:Kd.R k65 65 w w0.heap.size P0_ u9000_ l0) (h:api_Turn_105.f k l0 a1 a2=some r):
  Calls Try.prog 105 #[u9000_,.int .i64 a1,.func (.func 79) #[] #[]] w fun e w'=>e=.returned (.tuple #[])∧Kd.R k65 65 w' w0.heap.size (fun k_=>(P0_ k_∨w.heap.size≤k_)) u9000_ r∧Below w0.heap.size w0 w'∧Kept w w' (fun k_=>P0_ k_):=by
 have HO0:=zB (show Kd.R k65 65 w w0.heap.size (fun k_=>(P0_ k_∨w.heap.size≤k_)) u9000_ l0 from Kd.R_mono ho0 (fun k_ hk=>(.inl hk)))
 have HK:=zB (Kept.refl w (fun k_=>P0_ k_))
 have HW0:=zB hB.size
 have HB:=zB hB
 clear hB
 have H:(api_Turn_105.l0 k l0 a1 a2 20 0 20)=some r:=h
 clear h
 have H':=zB H
 clear H
 go_enter Try.func105,Try.ntmps105
 go_wp2
 go_loopg [7,8] k (fun kq v7 v8 w'=> ∃(x0_1:List (S65)) (x7_1:Int) (x8_1:Int),v7=.int .i64 x7_1∧v8=.int .i64 x8_1∧Aside0 (api_Turn_105.l0 kq x0_1 a1 a2 20 x7_1 x8_1=some r)∧Aside0 (kq≤k)∧Aside0 (Kd.R k65 65 w' w0.heap.size (fun k_=>(P0_ k_∨w.heap.size≤k_)) u9000_ x0_1)∧Aside0 (Kept w w' (fun k_=>P0_ k_))∧Aside0 (Below w0.heap.size w0 w'))
 case atStart=>exact⟨(l0),(0),(20),rs_,rs_,H',⟨za _⟩,⟨kr_ HO0⟩,⟨kk_ HK⟩,⟨hb_ HB⟩⟩
 case round=>
  clear H'
  try clear c1;try clear p2
  obtain⟨x0_1,x7_1,x8_1,rfl,rfl,HA,HK1,HO_0,HK,HB⟩:=hrel
  cases gk with
  |zero=>exact absurd HA.out (by simp[api_Turn_105.l0])
  |succ k1=>
   have H:=HA.out
   clear HA
   simp only[api_Turn_105.l0] at H
   by_cases c4:x8_1≤a1
   ·rw[if_pos c4] at H
    have c4b0:=zO c4
    clear c4
    replace H:=zL H
    obtain⟨t228,A50,H⟩:=H
    try dsimp only at H
    have A5:=zB A50
    clear A50
    have H':=zB H
    clear H
    obtain⟨Ao6,co6,eo6⟩:=Kd.R_slice HO_0.out
    subst eo6
    go_wp2_with (first|((with_reducible refine gate_callee (f:=106) rfl ?_);refine gl_ (some 18) Try.func106 #[.slice Ao6 x0_1.length co6,.int .i64 x7_1,.int .i64 x8_1,.func (.func 79) #[] #[]] rfl ?_;(with_reducible refine(api_Turn_106.calls k1 (fun k_=>some k_=(.slice Ao6 x0_1.length co6:Value).ownBlock) (.slice Ao6 x0_1.length co6) x0_1 x7_1 x8_1 a2 t228 w0 _ ?side1 ?side2 A5.out).mono ?_);(case side1=>repeat(first|(with_reducible first|exact HB.out|apply below_alloc|apply zF|apply zG)|exact HB.out));(case side2=>exact Kd.R_tight rfl HO_0.out);rintro e w7 ⟨rfl,hy0,hb,hkp⟩;refine⟨_,rfl,?_⟩;replace HK:=zB (Kept.then_ (S:=(fun k_=>P0_ k_)) (kk_ HK) hkp (fun k_ hs_=>(fun e_=>(HO_0.out.1 k_ e_.symm)) hs_));replace HO_0:=zB (Kd.R_reok rfl hy0 (fun k_ e_=>HO_0.out.1 k_ e_));replace HB:=zB (hb);(try clear hb);(try clear hkp);(try clear hy0)))
    go_roundg k1
    case measure=>have:=HK1.out;omega
    case rel=>exact⟨(t228),(x8_1),(wrap64 (x8_1+20)),rs_,rs_,H',⟨za_ HK1⟩,⟨kr_ HO_0⟩,⟨kk_ HK⟩,⟨hb_ HB⟩⟩
   ·rw[if_neg c4] at H
    have c4b0:=zY c4
    clear c4
    replace H:=zL H
    obtain⟨t229,A80,H⟩:=H
    try dsimp only at H
    have A8:=zB A80
    clear A80
    have H':=zB H
    clear H
    obtain⟨Ao9,co9,eo9⟩:=Kd.R_slice HO_0.out
    subst eo9
    go_wp2_with (first|((with_reducible refine gate_callee (f:=106) rfl ?_);refine gl_ (some 27) Try.func106 #[.slice Ao9 x0_1.length co9,.int .i64 x7_1,.int .i64 a1,.func (.func 79) #[] #[]] rfl ?_;(with_reducible refine(api_Turn_106.calls k1 (fun k_=>some k_=(.slice Ao9 x0_1.length co9:Value).ownBlock) (.slice Ao9 x0_1.length co9) x0_1 x7_1 a1 a2 t229 w0 _ ?side1 ?side2 A8.out).mono ?_);(case side1=>repeat(first|(with_reducible first|exact HB.out|apply below_alloc|apply zF|apply zG)|exact HB.out));(case side2=>exact Kd.R_tight rfl HO_0.out);rintro e w10 ⟨rfl,hy0,hb,hkp⟩;refine⟨_,rfl,?_⟩;replace HK:=zB (Kept.then_ (S:=(fun k_=>P0_ k_)) (kk_ HK) hkp (fun k_ hs_=>(fun e_=>(HO_0.out.1 k_ e_.symm)) hs_));replace HO_0:=zB (Kd.R_reok rfl hy0 (fun k_ e_=>HO_0.out.1 k_ e_));replace HB:=zB (hb);(try clear hb);(try clear hkp);(try clear hy0)))
    (try simp only[Act.put,zE,zH,zI])
    go_loopg [6] k1 (fun kq v6 w'=> ∃(x0_2:List (S65)) (x6_2:Int),v6=.int .i64 x6_2∧Aside0 (api_Turn_105.l1 kq x0_2 a1 a2 x6_2=some r)∧Aside0 (kq≤k1)∧Aside0 (Kd.R k65 65 w' w0.heap.size (fun k_=>(P0_ k_∨w.heap.size≤k_)) (.slice Ao9 x0_1.length co9) x0_2)∧Aside0 (Kept w w' (fun k_=>P0_ k_))∧Aside0 (Below w0.heap.size w0 w'))
    case atStart=>exact⟨(t229),(20),rs_,H',⟨za _⟩,⟨kr_ HO_0⟩,⟨kk_ HK⟩,⟨hb_ HB⟩⟩
    case round=>
     clear H'
     try clear c1;try clear p2;try clear c4;try clear c4b0;try clear p6;try clear c10
     obtain⟨x0_2,x6_2,rfl,HA,HK2,HO_0,HK,HB⟩:=hrel
     have hl0_2:=(zd HO_0.out).1
     rw[hl0_2] at HO_0
     (try simp only[hl0_2])
     cases gk with
     |zero=>exact absurd HA.out (by simp[api_Turn_105.l1])
     |succ k2=>
      have H:=HA.out
      clear HA
      simp only[api_Turn_105.l1] at H
      by_cases c11:x6_2<a1
      ·rw[if_pos c11] at H
       have c11b0:=zO c11
       clear c11
       have H':=zB H
       clear H
       go_wp2
       go_loopg [7,8] k2 (fun kq v7 v8 w'=> ∃(x0_3:List (S65)) (x7_3:Int) (x8_3:Int),v7=.int .i64 x7_3∧v8=.int .i64 x8_3∧Aside0 (api_Turn_105.l2 kq x0_3 a1 a2 x6_2 x7_3 x8_3=some r)∧Aside0 (kq≤k2)∧Aside0 (Kd.R k65 65 w' w0.heap.size (fun k_=>(P0_ k_∨w.heap.size≤k_)) (.slice Ao9 x0_2.length co9) x0_3)∧Aside0 (Kept w w' (fun k_=>P0_ k_))∧Aside0 (Below w0.heap.size w0 w'))
       case atStart=>exact⟨(x0_2),(0),(wrap64 (2*x6_2)),rs_,rs_,H',⟨za _⟩,⟨by(try simp only[hl0_2]);(with_reducible repeat(first|apply Kd.R_alloc|apply Kd.R_drewN|apply Kd.R_drew));exact HO_0.out⟩,⟨kk_ HK⟩,⟨hb_ HB⟩⟩
       case round=>
        clear H'
        try clear c1;try clear p2;try clear c4;try clear c4b0;try clear p6;try clear c10;try clear c11;try clear c11b0
        obtain⟨x0_3,x7_3,x8_3,rfl,rfl,HA,HK3,HO_0,HK,HB⟩:=hrel
        have hl0_3:=(zd HO_0.out).1
        rw[hl0_3] at HO_0
        (try simp only[hl0_3])
        cases gk with
        |zero=>exact absurd HA.out (by simp[api_Turn_105.l2])
        |succ k3=>
         have H:=HA.out
         clear HA
         simp only[api_Turn_105.l2] at H
         by_cases c12:x8_3≤a1
         ·rw[if_pos c12] at H
          have c12b0:=zO c12
          clear c12
          replace H:=zL H
          obtain⟨t230,A130,H⟩:=H
          try dsimp only at H
          have A13:=zB A130
          clear A130
          have H':=zB H
          clear H
          go_wp2_with (first|((with_reducible refine gate_callee (f:=107) rfl ?_);refine gl_ (some 43) Try.func107 #[.slice Ao9 x0_3.length co9,.int .i64 x7_3,.int .i64 (wrap64 (x7_3+x6_2)),.int .i64 x8_3,.func (.func 79) #[] #[]] rfl ?_;(with_reducible refine(api_Turn_107.calls k3 (fun k_=>some k_=(.slice Ao9 x0_3.length co9:Value).ownBlock) (.slice Ao9 x0_3.length co9) x0_3 x7_3 (wrap64 (x7_3+x6_2)) x8_3 a2 t230 w0 _ ?side1 ?side2 A13.out).mono ?_);(case side1=>repeat(first|(with_reducible first|exact HB.out|apply below_alloc|apply zF|apply zG)|exact HB.out));(case side2=>exact Kd.R_tight rfl HO_0.out);rintro e w14 ⟨rfl,hy0,hb,hkp⟩;refine⟨_,rfl,?_⟩;replace HK:=zB (Kept.then_ (S:=(fun k_=>P0_ k_)) (kk_ HK) hkp (fun k_ hs_=>(fun e_=>(HO_0.out.1 k_ e_.symm)) hs_));replace HO_0:=zB (Kd.R_reok rfl hy0 (fun k_ e_=>HO_0.out.1 k_ e_));replace HB:=zB (hb);(try clear hb);(try clear hkp);(try clear hy0)))
          (try simp only[←hl0_3])
          go_roundg k3
          case measure=>have:=HK1.out;have:=HK2.out;have:=HK3.out;omega
          case rel=>exact⟨(t230),(x8_3),(wrap64 (x8_3+(wrap64 (2*x6_2)))),rs_,rs_,H',⟨by have:=HK1.out;have:=HK2.out;have:=HK3.out;omega⟩,⟨by(try simp only[hl0_2]);(try simp only[hl0_3]);(with_reducible repeat(first|apply Kd.R_alloc|apply Kd.R_drewN|apply Kd.R_drew));exact HO_0.out⟩,⟨kk_ HK⟩,⟨hb_ HB⟩⟩
         ·rw[if_neg c12] at H
          have c12b0:=zY c12
          clear c12
          by_cases c15:(wrap64 (x7_3+x6_2))<a1
          ·rw[if_pos c15] at H
           have c15b0:=zO c15
           clear c15
           replace H:=zL H
           obtain⟨t231,A160,H⟩:=H
           try dsimp only at H
           have A16:=zB A160
           clear A160
           have H':=zB H
           clear H
           go_wp2_with (first|((with_reducible refine gate_callee (f:=107) rfl ?_);refine gl_ (some 60) Try.func107 #[.slice Ao9 x0_3.length co9,.int .i64 x7_3,.int .i64 (wrap64 (x7_3+x6_2)),.int .i64 a1,.func (.func 79) #[] #[]] rfl ?_;(with_reducible refine(api_Turn_107.calls k3 (fun k_=>some k_=(.slice Ao9 x0_3.length co9:Value).ownBlock) (.slice Ao9 x0_3.length co9) x0_3 x7_3 (wrap64 (x7_3+x6_2)) a1 a2 t231 w0 _ ?side1 ?side2 A16.out).mono ?_);(case side1=>repeat(first|(with_reducible first|exact HB.out|apply below_alloc|apply zF|apply zG)|exact HB.out));(case side2=>exact Kd.R_tight rfl HO_0.out);rintro e w17 ⟨rfl,hy0,hb,hkp⟩;refine⟨_,rfl,?_⟩;replace HK:=zB (Kept.then_ (S:=(fun k_=>P0_ k_)) (kk_ HK) hkp (fun k_ hs_=>(fun e_=>(HO_0.out.1 k_ e_.symm)) hs_));replace HO_0:=zB (Kd.R_reok rfl hy0 (fun k_ e_=>HO_0.out.1 k_ e_));replace HB:=zB (hb);(try clear hb);(try clear hkp);(try clear hy0)))
           (try simp only[←hl0_2,←hl0_3])
           go_roundg k3
           case measure=>have:=HK1.out;have:=HK2.out;have:=HK3.out;omega
           case rel=>exact⟨(t231),(wrap64 (x6_2*2)),rs_,H',⟨by have:=HK1.out;have:=HK2.out;have:=HK3.out;omega⟩,⟨by(try simp only[hl0_2]);(try simp only[hl0_3]);(with_reducible repeat(first|apply Kd.R_alloc|apply Kd.R_drewN|apply Kd.R_drew));exact HO_0.out⟩,⟨kk_ HK⟩,⟨hb_ HB⟩⟩
          ·rw[if_neg c15] at H
           have c15b0:=zY c15
           clear c15
           have H':=zB H
           clear H
           go_wp2
           (try simp only[←hl0_2,←hl0_3])
           go_roundg k3
           case measure=>have:=HK1.out;have:=HK2.out;have:=HK3.out;omega
           case rel=>exact⟨(x0_3),(wrap64 (x6_2*2)),rs_,H',⟨by have:=HK1.out;have:=HK2.out;have:=HK3.out;omega⟩,⟨by(try simp only[hl0_2]);(try simp only[hl0_3]);(with_reducible repeat(first|apply Kd.R_alloc|apply Kd.R_drewN|apply Kd.R_drew));exact HO_0.out⟩,⟨kk_ HK⟩,⟨hb_ HB⟩⟩
      ·rw[if_neg c11] at H
       have c11b0:=zY c11
       clear c11
       obtain rfl:=zW H
       go_wp2
       first|go_end0|((try simp only[Exit.inBlock,Exit.then]);refine bodyPost_ret (results_none rfl _ _ _) rfl ?_)
       exact⟨ew_,(by first|exact(kr_ HO_0)|(simp only[hl0_2];exact(kr_ HO_0))),hb_ HB,kk_ HK⟩
def api_Turn_97.f (k:Nat) (l0:List (S65)) (a1:Int):Option ((List (S65))):=(api_Turn_105.f k l0 (l0.length:Int) a1).bind fun t232=>(some t232)
theorem api_Turn_97.mono: ∀a0 a1 k,LeO (api_Turn_97.f k a0 a1) (api_Turn_97.f (k+1) a0 a1):=by
 intro a0 a1 k
 unfold api_Turn_97.f
 repeat' first
   |(with_reducible exact api_Turn_105.mono _ _ _ _)
   |(with_reducible exact LeO.refl _)
   |(with_reducible exact zf _)
   |(with_reducible refine zg ?_ ?_)
   |(with_reducible refine ze ?_ (fun _=>?_))
set_option maxHeartbeats 8000000 in
set_option maxRecDepth 100000 in
theorem api_Turn_97.calls (k:Nat) (P0_:Nat→Prop) (u9000_:Value) (l0:List (S65)) (a1:Int) (r:List (S65)) (w0 w:World) (hB:Below w0.heap.size w0 w) (ho0:Kd.R k65 65 w w0.heap.size P0_ u9000_ l0) (h:api_Turn_97.f k l0 a1=some r):
  Calls Try.prog 97 #[u9000_,.func (.func 79) #[] #[]] w fun e w'=>e=.returned (.tuple #[])∧Kd.R k65 65 w' w0.heap.size (fun k_=>(P0_ k_∨w.heap.size≤k_)) u9000_ r∧Below w0.heap.size w0 w'∧Kept w w' (fun k_=>P0_ k_):=by
 have HO0:=zB (show Kd.R k65 65 w w0.heap.size (fun k_=>(P0_ k_∨w.heap.size≤k_)) u9000_ l0 from Kd.R_mono ho0 (fun k_ hk=>(.inl hk)))
 have HK:=zB (Kept.refl w (fun k_=>P0_ k_))
 have HW0:=zB hB.size
 have HB:=zB hB
 clear hB
 have H:((api_Turn_105.f k l0 (l0.length:Int) a1).bind fun t232=>(some t232))=some r:=h
 clear h
 replace H:=zL H
 obtain⟨t232,A30,H⟩:=H
 try dsimp only at H
 have A3:=zB A30
 clear A30
 obtain rfl:=zW H
 obtain⟨Ao4,co4,eo4⟩:=Kd.R_slice HO0.out
 subst eo4
 go_enter Try.func97,Try.ntmps97
 go_wp2_with (first|((with_reducible refine gate_callee (f:=105) rfl ?_);refine gl_ (some 8) Try.func105 #[.slice Ao4 l0.length co4,.int .i64 (l0.length:Int),.func (.func 79) #[] #[]] rfl ?_;(with_reducible refine(api_Turn_105.calls k (fun k_=>some k_=(.slice Ao4 l0.length co4:Value).ownBlock) (.slice Ao4 l0.length co4) l0 (l0.length:Int) a1 t232 w0 _ ?side1 ?side2 A3.out).mono ?_);(case side1=>repeat(first|(with_reducible first|exact HB.out|apply below_alloc|apply zF|apply zG)|exact HB.out));(case side2=>exact Kd.R_tight rfl HO0.out);rintro e w5 ⟨rfl,hy0,hb,hkp⟩;refine⟨_,rfl,?_⟩;replace HK:=zB (Kept.then_ (S:=(fun k_=>P0_ k_)) (kk_ HK) hkp (fun k_ hs_=>(fun e_=>(HO0.out.1 k_ e_.symm)) hs_));replace HO0:=zB (Kd.R_reok rfl hy0 (fun k_ e_=>HO0.out.1 k_ e_));replace HB:=zB (hb);(try clear hb);(try clear hkp);(try clear hy0)))
 first|go_end0|((try simp only[Exit.inBlock,Exit.then]);refine bodyPost_ret (results_none rfl _ _ _) rfl ?_)
 exact⟨ew_,by(with_reducible repeat(first|apply Kd.R_alloc|apply Kd.R_drewN|apply Kd.R_drew));exact HO0.out,hb_ HB,kk_ HK⟩
def due_Order.f (k:Nat) (l0:List S65):Option (List S65):=if l0.length<1000000 then api_Turn_97.f k l0 0 else none
theorem due_Order.mono: ∀a0 k,LeO (due_Order.f k a0) (due_Order.f (k+1) a0):=by
  intro a0 k
  unfold due_Order.f
  exact zg (api_Turn_97.mono _ _ _) (LeO.refl _)
theorem collect_Turn.calls (A:Option Addr) (c:Nat) (l:List S65) (w0 w:World) (B:Nat) (hr:Kd.C k65 w0 A l.length l) (hw:Below w0.heap.size w0 w)
    (hB:w.heap[B]?=some (.cells #[.slice A l.length c] 53 (0,0))) (hl:l.length<1000000):
    Calls Try.prog 96 #[.func (.func 98) #[] #[.pointer (some ⟨B,0,none⟩)]] w fun e w'=> ∃v0_:Value,e=.returned (v0_)∧Kd.R k65 65 w' w.heap.size (fun _=>True) v0_ l∧Below w.heap.size w w':=by
  have hq:=appendseq_Turn.calls A c l w0 w B hr hw hB hl
  have HQ:=zB hq
  clear hq hr hw hB
  go_enter Try.func96,Try.ntmps96
  go_wp2_with (first|((with_reducible refine gate_dst (N:=4) rfl ?_);refine gl_ (some 4) Try.func104 #[.slice none 0 0,.func (.func 98) #[] #[.pointer (some ⟨B,0,none⟩)]] rfl ?_;(with_reducible refine(HQ.out).mono ?_);rintro e_ w_4 ⟨v_,rfl,ho,hb⟩;refine⟨_,rfl,?_⟩;have HO:=zB ho;have HB:=zB hb;clear ho hb))
  go_ret
  exact⟨_,rfl,HO.out,HB.out⟩
theorem sorted_Turn.calls (k:Nat) (A:Option Addr) (c:Nat) (l r:List S65) (w0 w:World) (B:Nat) (hr:Kd.C k65 w0 A l.length l) (hw:Below w0.heap.size w0 w)
    (hB:w.heap[B]?=some (.cells #[.slice A l.length c] 53 (0,0))) (hl:l.length<1000000) (h:api_Turn_97.f k l 0=some r):
    Calls Try.prog 77 #[.func (.func 98) #[] #[.pointer (some ⟨B,0,none⟩)],.func (.func 79) #[] #[]] w fun e w'=> ∃v0_:Value,e=.returned (v0_)∧Kd.R k65 65 w' w.heap.size (fun _=>True) v0_ r∧Below w.heap.size w w':=by
  have hq:=collect_Turn.calls A c l w0 w B hr hw hB hl
  have HQ:=zB hq
  have HH:=zB h
  clear hq hr hw hB h
  go_enter Try.func77,Try.ntmps77
  go_wp2_with (first|((with_reducible refine gate_dst (N:=7) rfl ?_);refine gl_ (some 7) Try.func96 #[.func (.func 98) #[] #[.pointer (some ⟨B,0,none⟩)]] rfl ?_;(with_reducible refine(HQ.out).mono ?_);rintro e_ w_7 ⟨v_,rfl,ho,hb⟩;refine⟨_,rfl,?_⟩;have HO:=zB ho;have HB:=zB hb;clear ho hb)|((with_reducible refine gate_dst (N:=10) rfl ?_);refine gl_ (some 10) Try.func97 #[v_,.func (.func 79) #[] #[]] rfl ?_;(with_reducible refine(api_Turn_97.calls k _ v_ l 0 r w _ HB.out HO.out HH.out).mono ?_);rintro e_ w_10 ⟨rfl,ho,hb,hk⟩;refine⟨_,rfl,?_⟩;have HO2:=zB ho;have HB2:=zB hb;clear ho hb hk))
  go_ret
  exact⟨_,rfl,Kd.R_mono HO2.out (fun _ _=>trivial),HB2.out⟩
theorem due_Order.calls (k:Nat) (A0:Option Addr) (c0:Nat) (l0:List S65) (r:List S65) (w:World) (hr0:Kd.C k65 w A0 l0.length l0) (hc0:l0.length≤c0) (h:due_Order.f k l0=some r):
    Calls Try.prog 47 #[.slice A0 l0.length c0] w fun e w'=> ∃v0_:Value,e=.returned (v0_)∧Kd.R k65 65 w' w.heap.size (fun _=>True) v0_ r∧Below w.heap.size w w':=by
  unfold due_Order.f at h
  by_cases hl:l0.length<1000000
  · rw[if_pos hl] at h
    have hs:=sorted_Turn.calls k A0 c0 l0 r w (w.alloc (.cells #[.slice A0 l0.length c0] 53)) w.heap.size hr0 (below_alloc (Below.refl _ _) _) (blk_new w _) hl h
    have HS:=zB hs
    have hb0:=below_alloc (Below.refl w.heap.size w) (.cells #[.slice A0 l0.length c0] 53)
    have HB0:=zB hb0
    clear hs h hr0 hc0 hl hb0
    go_enter Try.func47,Try.ntmps47
    go_wp2_with (first|((with_reducible refine gate_dst (N:=4) rfl ?_);refine gl_ (some 4) Try.func78 #[.slice A0 l0.length c0] rfl ?_;(with_reducible refine(values_Turn.calls A0 l0.length c0 _).mono ?_);rintro e_ w_4 ⟨rfl,rfl⟩;refine⟨_,rfl,?_⟩)|((with_reducible refine gate_dst (N:=5) rfl ?_);refine gl_ (some 5) Try.func77 #[.func (.func 98) #[] #[.pointer (some ⟨w.heap.size,0,none⟩)],.func (.func 79) #[] #[]] rfl ?_;(with_reducible refine(HS.out).mono ?_);rintro e_ w_5 ⟨v_,rfl,ho,hb⟩;refine⟨_,rfl,?_⟩;have HO:=zB ho;have HB:=zB hb;clear ho hb))
    go_ret
    exact⟨_,rfl,Kd.R_lower HO.out HB0.out.size,zQ HB0.out HB.out⟩
  · rw[if_neg hl] at h
    cases h
end Go.Proofs.Ytcfpbmdndapeaaa.F
