-- Written by a program of this session (xprint.py), out of the translation and of contracts proved by hand.
import Derived.Test.YtcfpbmdndapeaaaF0
import Derived.Test.YtcfpbmdndapeaaaF9
import Derived.Test.YtcfpbmdndapeaaaF11
namespace Go.Proofs.Ytcfpbmdndapeaaa.F
open Go.RowKit Go.Proofs.YtcfpbmdndapeaaaV.PrintWords Go.Proofs.YtcfpbmdndapeaaaV.PrintLast Go.Proofs.YtcfpbmdndapeaaaV.PrintMore
attribute [local go_sem] max2_int min2_int max_two min_two max_three min_three max_four min_four
set_option linter.unusedVariables false
set_option linter.unusedSimpArgs false
mutual
def api_Turn_107.l0:Nat→List (S65)→Int→Int→Int→Option ((List (S65)))
 |0,_,_,_,_=>none
 |k+1,x0,x1,x10,x11=>if x10<x11 then(if 0≤(wrap64 ((IntKind.u64.wrap (wrap64 (x10+x11)))/2)) then(if(wrap64 ((IntKind.u64.wrap (wrap64 (x10+x11)))/2))<(x0.length:Int) then(if 0≤x1 then(if x1<(x0.length:Int) then((due_Order_1.f k ((rd_T65 x0 (wrap64 ((IntKind.u64.wrap (wrap64 (x10+x11)))/2))).f0) ((rd_T65 x0 (wrap64 ((IntKind.u64.wrap (wrap64 (x10+x11)))/2))).f1.f0) ((rd_T65 x0 (wrap64 ((IntKind.u64.wrap (wrap64 (x10+x11)))/2))).f1.f1) ((rd_T65 x0 (wrap64 ((IntKind.u64.wrap (wrap64 (x10+x11)))/2))).f2) ((rd_T65 x0 x1).f0) ((rd_T65 x0 x1).f1.f0) ((rd_T65 x0 x1).f1.f1) ((rd_T65 x0 x1).f2)).bind fun t210=>(if t210<0 then(api_Turn_107.l0 k x0 x1 (wrap64 ((wrap64 ((IntKind.u64.wrap (wrap64 (x10+x11)))/2))+1)) x11) else(api_Turn_107.l0 k x0 x1 x10 (wrap64 ((IntKind.u64.wrap (wrap64 (x10+x11)))/2))))) else(none)) else(none)) else(none)) else(none)) else(api_Turn_107.l1 k x0 x10 x1)
def api_Turn_107.l1:Nat→List (S65)→Int→Int→Option ((List (S65)))
 |0,_,_,_=>none
 |k+1,x0,x10,x13=>if x13<(wrap64 (x10-1)) then(if 0≤(wrap64 (x13+1)) then(if(wrap64 (x13+1))<(x0.length:Int) then(if 0≤x13 then(if x13<(x0.length:Int) then(api_Turn_107.l1 k ((x0.set (x13:Int).toNat (⟨(rd_T65 x0 (wrap64 (x13+1))).f0,(⟨(rd_T65 x0 (wrap64 (x13+1))).f1.f0,(rd_T65 x0 (wrap64 (x13+1))).f1.f1⟩:S26),(rd_T65 x0 (wrap64 (x13+1))).f2⟩:S65)).set ((wrap64 (x13+1)):Int).toNat (⟨(rd_T65 x0 x13).f0,(⟨(rd_T65 x0 x13).f1.f0,(rd_T65 x0 x13).f1.f1⟩:S26),(rd_T65 x0 x13).f2⟩:S65)) x10 (wrap64 (x13+1))) else(none)) else(none)) else(none)) else(none)) else(some x0)
def api_Turn_107.l2:Nat→List (S65)→Int→Int→Int→Option ((List (S65)))
 |0,_,_,_,_=>none
 |k+1,x0,x2,x14,x15=>if x14<x15 then(if 0≤x2 then(if x2<(x0.length:Int) then(if 0≤(wrap64 ((IntKind.u64.wrap (wrap64 (x14+x15)))/2)) then(if(wrap64 ((IntKind.u64.wrap (wrap64 (x14+x15)))/2))<(x0.length:Int) then((due_Order_1.f k ((rd_T65 x0 x2).f0) ((rd_T65 x0 x2).f1.f0) ((rd_T65 x0 x2).f1.f1) ((rd_T65 x0 x2).f2) ((rd_T65 x0 (wrap64 ((IntKind.u64.wrap (wrap64 (x14+x15)))/2))).f0) ((rd_T65 x0 (wrap64 ((IntKind.u64.wrap (wrap64 (x14+x15)))/2))).f1.f0) ((rd_T65 x0 (wrap64 ((IntKind.u64.wrap (wrap64 (x14+x15)))/2))).f1.f1) ((rd_T65 x0 (wrap64 ((IntKind.u64.wrap (wrap64 (x14+x15)))/2))).f2)).bind fun t217=>(if t217<0 then(api_Turn_107.l2 k x0 x2 x14 (wrap64 ((IntKind.u64.wrap (wrap64 (x14+x15)))/2))) else(api_Turn_107.l2 k x0 x2 (wrap64 ((wrap64 ((IntKind.u64.wrap (wrap64 (x14+x15)))/2))+1)) x15))) else(none)) else(none)) else(none)) else(none)) else(api_Turn_107.l3 k x0 x14 x2)
def api_Turn_107.l3:Nat→List (S65)→Int→Int→Option ((List (S65)))
 |0,_,_,_=>none
 |k+1,x0,x14,x17=>if x17>x14 then(if 0≤(wrap64 (x17-1)) then(if(wrap64 (x17-1))<(x0.length:Int) then(if 0≤x17 then(if x17<(x0.length:Int) then(api_Turn_107.l3 k ((x0.set (x17:Int).toNat (⟨(rd_T65 x0 (wrap64 (x17-1))).f0,(⟨(rd_T65 x0 (wrap64 (x17-1))).f1.f0,(rd_T65 x0 (wrap64 (x17-1))).f1.f1⟩:S26),(rd_T65 x0 (wrap64 (x17-1))).f2⟩:S65)).set ((wrap64 (x17-1)):Int).toNat (⟨(rd_T65 x0 x17).f0,(⟨(rd_T65 x0 x17).f1.f0,(rd_T65 x0 x17).f1.f1⟩:S26),(rd_T65 x0 x17).f2⟩:S65)) x14 (wrap64 (x17-1))) else(none)) else(none)) else(none)) else(none)) else(some x0)
def api_Turn_107.j4:Nat→List (S65)→Int→Int→Int→Int→Int→Int→Int→Int→Option ((List (S65)))
 |0,_,_,_,_,_,_,_,_,_=>none
 |k+1,x0,x1,x2,x3,x4,x18,x19,x20,x21=>api_Turn_107.l4 k x0 x1 x2 x3 x4 x18 x19 x20 x21 (wrap64 (x19-1))
def api_Turn_107.l4:Nat→List (S65)→Int→Int→Int→Int→Int→Int→Int→Int→Int→Option ((List (S65)))
 |0,_,_,_,_,_,_,_,_,_,_=>none
 |k+1,x0,x1,x2,x3,x4,x18,x19,x20,x21,x22=>if x20<x21 then(if 0≤(wrap64 (x22-(wrap64 ((IntKind.u64.wrap (wrap64 (x20+x21)))/2)))) then(if(wrap64 (x22-(wrap64 ((IntKind.u64.wrap (wrap64 (x20+x21)))/2))))<(x0.length:Int) then(if 0≤(wrap64 ((IntKind.u64.wrap (wrap64 (x20+x21)))/2)) then(if(wrap64 ((IntKind.u64.wrap (wrap64 (x20+x21)))/2))<(x0.length:Int) then((due_Order_1.f k ((rd_T65 x0 (wrap64 (x22-(wrap64 ((IntKind.u64.wrap (wrap64 (x20+x21)))/2))))).f0) ((rd_T65 x0 (wrap64 (x22-(wrap64 ((IntKind.u64.wrap (wrap64 (x20+x21)))/2))))).f1.f0) ((rd_T65 x0 (wrap64 (x22-(wrap64 ((IntKind.u64.wrap (wrap64 (x20+x21)))/2))))).f1.f1) ((rd_T65 x0 (wrap64 (x22-(wrap64 ((IntKind.u64.wrap (wrap64 (x20+x21)))/2))))).f2) ((rd_T65 x0 (wrap64 ((IntKind.u64.wrap (wrap64 (x20+x21)))/2))).f0) ((rd_T65 x0 (wrap64 ((IntKind.u64.wrap (wrap64 (x20+x21)))/2))).f1.f0) ((rd_T65 x0 (wrap64 ((IntKind.u64.wrap (wrap64 (x20+x21)))/2))).f1.f1) ((rd_T65 x0 (wrap64 ((IntKind.u64.wrap (wrap64 (x20+x21)))/2))).f2)).bind fun t224=>(if t224<0 then(api_Turn_107.l4 k x0 x1 x2 x3 x4 x18 x19 x20 (wrap64 ((IntKind.u64.wrap (wrap64 (x20+x21)))/2)) x22) else(api_Turn_107.l4 k x0 x1 x2 x3 x4 x18 x19 (wrap64 ((wrap64 ((IntKind.u64.wrap (wrap64 (x20+x21)))/2))+1)) x21 x22))) else(none)) else(none)) else(none)) else(none)) else(if x20<x2 then(api_Turn_107.j6 k x0 x1 x2 x3 x4 x18 x20 (wrap64 (x19-x20)) (decide (x2<(wrap64 (x19-x20))))) else(api_Turn_107.j6 k x0 x1 x2 x3 x4 x18 x20 (wrap64 (x19-x20)) false))
def api_Turn_107.j6:Nat→List (S65)→Int→Int→Int→Int→Int→Int→Int→Bool→Option ((List (S65)))
 |0,_,_,_,_,_,_,_,_,_=>none
 |k+1,x0,x1,x2,x3,x4,x18,x20,x24,x185=>if x185=true then((api_Turn_108.f k x0 x20 x2 x24 x4).bind fun t225=>(api_Turn_107.j7 k t225 x1 x3 x4 x18 x20 x24)) else(api_Turn_107.j7 k x0 x1 x3 x4 x18 x20 x24)
def api_Turn_107.j7:Nat→List (S65)→Int→Int→Int→Int→Int→Int→Option ((List (S65)))
 |0,_,_,_,_,_,_,_=>none
 |k+1,x0,x1,x3,x4,x18,x20,x24=>if x1<x20 then(api_Turn_107.j8 k x0 x1 x3 x4 x18 x20 x24 (decide (x20<x18))) else(api_Turn_107.j8 k x0 x1 x3 x4 x18 x20 x24 false)
def api_Turn_107.j8:Nat→List (S65)→Int→Int→Int→Int→Int→Int→Bool→Option ((List (S65)))
 |0,_,_,_,_,_,_,_,_=>none
 |k+1,x0,x1,x3,x4,x18,x20,x24,x199=>if x199=true then((api_Turn_107.f k x0 x1 x20 x18 x4).bind fun t226=>(api_Turn_107.j9 k t226 x3 x4 x18 x24)) else(api_Turn_107.j9 k x0 x3 x4 x18 x24)
def api_Turn_107.j9:Nat→List (S65)→Int→Int→Int→Int→Option ((List (S65)))
 |0,_,_,_,_,_=>none
 |k+1,x0,x3,x4,x18,x24=>if x18<x24 then(if x24<x3 then((api_Turn_107.f k x0 x18 x24 x3 x4).bind fun t227=>(some t227)) else(some x0)) else(some x0)
def api_Turn_107.f:Nat→List (S65)→Int→Int→Int→Int→Option ((List (S65)))
 |0,_,_,_,_,_=>none
 |k+1,l0,a1,a2,a3,a4=>if(wrap64 (a2-a1))=1 then(api_Turn_107.l0 k l0 a1 a2 a3) else(if(wrap64 (a3-a2))=1 then(api_Turn_107.l2 k l0 a2 a1 a2) else(if a2>(wrap64 ((IntKind.u64.wrap (wrap64 (a1+a3)))/2)) then(api_Turn_107.j4 k l0 a1 a2 a3 a4 (wrap64 ((IntKind.u64.wrap (wrap64 (a1+a3)))/2)) (wrap64 ((wrap64 ((IntKind.u64.wrap (wrap64 (a1+a3)))/2))+a2)) (wrap64 ((wrap64 ((wrap64 ((IntKind.u64.wrap (wrap64 (a1+a3)))/2))+a2))-a3)) (wrap64 ((IntKind.u64.wrap (wrap64 (a1+a3)))/2))) else(api_Turn_107.j4 k l0 a1 a2 a3 a4 (wrap64 ((IntKind.u64.wrap (wrap64 (a1+a3)))/2)) (wrap64 ((wrap64 ((IntKind.u64.wrap (wrap64 (a1+a3)))/2))+a2)) a1 a2)))
end
theorem api_Turn_107.mono_l: ∀k,(∀y0 y1 y2 y3 y4,LeO (api_Turn_107.f k y0 y1 y2 y3 y4) (api_Turn_107.f (k+1) y0 y1 y2 y3 y4))∧(∀y0 y1 y2 y3,LeO (api_Turn_107.l0 k y0 y1 y2 y3) (api_Turn_107.l0 (k+1) y0 y1 y2 y3))∧(∀y0 y1 y2,LeO (api_Turn_107.l1 k y0 y1 y2) (api_Turn_107.l1 (k+1) y0 y1 y2))∧(∀y0 y1 y2 y3,LeO (api_Turn_107.l2 k y0 y1 y2 y3) (api_Turn_107.l2 (k+1) y0 y1 y2 y3))∧(∀y0 y1 y2,LeO (api_Turn_107.l3 k y0 y1 y2) (api_Turn_107.l3 (k+1) y0 y1 y2))∧(∀y0 y1 y2 y3 y4 y5 y6 y7 y8,LeO (api_Turn_107.j4 k y0 y1 y2 y3 y4 y5 y6 y7 y8) (api_Turn_107.j4 (k+1) y0 y1 y2 y3 y4 y5 y6 y7 y8))∧(∀y0 y1 y2 y3 y4 y5 y6 y7 y8 y9,LeO (api_Turn_107.l4 k y0 y1 y2 y3 y4 y5 y6 y7 y8 y9) (api_Turn_107.l4 (k+1) y0 y1 y2 y3 y4 y5 y6 y7 y8 y9))∧(∀y0 y1 y2 y3 y4 y5 y6 y7 y8,LeO (api_Turn_107.j6 k y0 y1 y2 y3 y4 y5 y6 y7 y8) (api_Turn_107.j6 (k+1) y0 y1 y2 y3 y4 y5 y6 y7 y8))∧(∀y0 y1 y2 y3 y4 y5 y6,LeO (api_Turn_107.j7 k y0 y1 y2 y3 y4 y5 y6) (api_Turn_107.j7 (k+1) y0 y1 y2 y3 y4 y5 y6))∧(∀y0 y1 y2 y3 y4 y5 y6 y7,LeO (api_Turn_107.j8 k y0 y1 y2 y3 y4 y5 y6 y7) (api_Turn_107.j8 (k+1) y0 y1 y2 y3 y4 y5 y6 y7))∧(∀y0 y1 y2 y3 y4,LeO (api_Turn_107.j9 k y0 y1 y2 y3 y4) (api_Turn_107.j9 (k+1) y0 y1 y2 y3 y4))
 |0=>⟨fun _ _ _ _ _ r h=>by simp[api_Turn_107.f] at h,fun _ _ _ _ r h=>by simp[api_Turn_107.l0] at h,fun _ _ _ r h=>by simp[api_Turn_107.l1] at h,fun _ _ _ _ r h=>by simp[api_Turn_107.l2] at h,fun _ _ _ r h=>by simp[api_Turn_107.l3] at h,fun _ _ _ _ _ _ _ _ _ r h=>by simp[api_Turn_107.j4] at h,fun _ _ _ _ _ _ _ _ _ _ r h=>by simp[api_Turn_107.l4] at h,fun _ _ _ _ _ _ _ _ _ r h=>by simp[api_Turn_107.j6] at h,fun _ _ _ _ _ _ _ r h=>by simp[api_Turn_107.j7] at h,fun _ _ _ _ _ _ _ _ r h=>by simp[api_Turn_107.j8] at h,fun _ _ _ _ _ r h=>by simp[api_Turn_107.j9] at h⟩
 |k+1=>by
  obtain⟨ih0,ih1,ih2,ih3,ih4,ih5,ih6,ih7,ih8,ih9,ih10⟩:=api_Turn_107.mono_l k
  refine⟨?_,?_,?_,?_,?_,?_,?_,?_,?_,?_,?_⟩
  all_goals (intros;first|unfold api_Turn_107.f|unfold api_Turn_107.l0|unfold api_Turn_107.l1|unfold api_Turn_107.l2|unfold api_Turn_107.l3|unfold api_Turn_107.j4|unfold api_Turn_107.l4|unfold api_Turn_107.j6|unfold api_Turn_107.j7|unfold api_Turn_107.j8|unfold api_Turn_107.j9)
  all_goals (repeat' first
   |(with_reducible exact ih0 _ _ _ _ _)
   |(with_reducible exact ih1 _ _ _ _)
   |(with_reducible exact ih2 _ _ _)
   |(with_reducible exact ih3 _ _ _ _)
   |(with_reducible exact ih4 _ _ _)
   |(with_reducible exact ih5 _ _ _ _ _ _ _ _ _)
   |(with_reducible exact ih6 _ _ _ _ _ _ _ _ _ _)
   |(with_reducible exact ih7 _ _ _ _ _ _ _ _ _)
   |(with_reducible exact ih8 _ _ _ _ _ _ _)
   |(with_reducible exact ih9 _ _ _ _ _ _ _ _)
   |(with_reducible exact ih10 _ _ _ _ _)
   |(with_reducible exact api_Turn_108.mono _ _ _ _ _ _)
   |(with_reducible exact due_Order_1.mono _ _ _ _ _ _ _ _ _)
   |(with_reducible exact LeO.refl _)
   |(with_reducible exact zf _)
   |(with_reducible refine zg ?_ ?_)
   |(with_reducible refine ze ?_ (fun _=>?_)))
theorem api_Turn_107.mono: ∀a0 a1 a2 a3 a4 k,LeO (api_Turn_107.f k a0 a1 a2 a3 a4) (api_Turn_107.f (k+1) a0 a1 a2 a3 a4):=by
 intro a0 a1 a2 a3 a4 k
 obtain⟨ih0,ih1,ih2,ih3,ih4,ih5,ih6,ih7,ih8,ih9,ih10⟩:=api_Turn_107.mono_l k
 exact ih0 a0 a1 a2 a3 a4
def api_Turn_107.T5:Bool×List (List Nat×List Nat):=(true,[([],[]),([],[]),([],[]),([1,2],[1,2]),([3],[3]),([],[]),([],[]),([5,6],[5,6]),([7],[7]),([0,4,8],[0,4,8]),([9],[9])])
def api_Turn_107.B5:List Nat:=[0,0,0,6,14,0,0,96,224,511,1023]
theorem api_Turn_107.tab5:rtab .any (opsOf Try.f107 5)=api_Turn_107.T5:=by kernel_rfl
theorem api_Turn_107.bits5:waitsOk api_Turn_107.T5.2 api_Turn_107.B5=true:=by kernel_rfl
def api_Turn_107.T11:Bool×List (List Nat×List Nat):=(true,[([],[]),([],[]),([],[]),([],[]),([3],[3]),([],[]),([],[]),([6],[6]),([5,7],[5,7]),([8],[8]),([],[]),([],[]),([10,11],[10,11]),([12],[12]),([0,1,0,1,5,6,7,8,9,13],[0,1]),([14,9,0,1,5,6,7,8,9,13],[9,14]),([2,4,0,1,2,3,4,5,6,7,8,9,10,11,12,13,14,15],[2,4]),([16,13,15,0,1,2,3,4,5,6,7,8,9,10,11,12,13,14,15],[13,16])])
def api_Turn_107.B11:List Nat:=[0,0,0,0,8,0,0,64,224,480,0,0,3072,7168,16355,32739,65535,131071]
theorem api_Turn_107.tab11:rtab .any (opsOf Try.f107 11)=api_Turn_107.T11:=by kernel_rfl
theorem api_Turn_107.bits11:waitsOk api_Turn_107.T11.2 api_Turn_107.B11=true:=by kernel_rfl
def api_Turn_107.T17:Bool×List (List Nat×List Nat):=(true,[([],[]),([],[]),([],[]),([1,2],[1,2]),([3],[3]),([],[]),([],[]),([5,6],[5,6]),([7],[7]),([0,4,8],[0,4,8]),([9],[9]),([10],[10])])
def api_Turn_107.B17:List Nat:=[0,0,0,6,14,0,0,96,224,511,1023,2047]
theorem api_Turn_107.tab17:rtab .any (opsOf Try.f107 17)=api_Turn_107.T17:=by kernel_rfl
theorem api_Turn_107.bits17:waitsOk api_Turn_107.T17.2 api_Turn_107.B17=true:=by kernel_rfl
def api_Turn_107.T23:Bool×List (List Nat×List Nat):=(true,[([],[]),([],[]),([],[]),([],[]),([3],[3]),([],[]),([],[]),([6],[6]),([5,7],[5,7]),([8],[8]),([],[]),([],[]),([10,11],[10,11]),([12],[12]),([0,1,0,1,5,6,7,8,9,13],[0,1]),([14,9,0,1,5,6,7,8,9,13],[9,14]),([2,4,0,1,2,3,4,5,6,7,8,9,10,11,12,13,14,15],[2,4]),([16,13,15,0,1,2,3,4,5,6,7,8,9,10,11,12,13,14,15],[13,16])])
def api_Turn_107.B23:List Nat:=[0,0,0,0,8,0,0,64,224,480,0,0,3072,7168,16355,32739,65535,131071]
theorem api_Turn_107.tab23:rtab .any (opsOf Try.f107 23)=api_Turn_107.T23:=by kernel_rfl
theorem api_Turn_107.bits23:waitsOk api_Turn_107.T23.2 api_Turn_107.B23=true:=by kernel_rfl
def api_Turn_107.T35:Bool×List (List Nat×List Nat):=(true,[([],[]),([],[]),([],[]),([],[]),([2,3],[2,3]),([1,4],[1,4]),([5],[5]),([],[]),([],[]),([7,8],[7,8]),([9],[9]),([0,6,10],[0,6,10]),([11],[11]),([12],[12])])
def api_Turn_107.B35:List Nat:=[0,0,0,0,12,30,62,0,0,384,896,2047,4095,8191]
theorem api_Turn_107.tab35:rtab .any (opsOf Try.f107 35)=api_Turn_107.T35:=by kernel_rfl
theorem api_Turn_107.bits35:waitsOk api_Turn_107.T35.2 api_Turn_107.B35=true:=by kernel_rfl
set_option maxHeartbeats 8000000 in
set_option maxRecDepth 100000 in
theorem api_Turn_107.calls (k:Nat): ∀(P0_:Nat→Prop) (u9000_:Value) (l0:List (S65)) (a1:Int) (a2:Int) (a3:Int) (a4:Int) (r:List (S65)) (w0 w:World) (hB:Below w0.heap.size w0 w) (ho0:Kd.R k65 65 w w0.heap.size P0_ u9000_ l0) (h:api_Turn_107.f k l0 a1 a2 a3 a4=some r),
  Calls Try.prog 107 #[u9000_,.int .i64 a1,.int .i64 a2,.int .i64 a3,.func (.func 79) #[] #[]] w fun e w'=>e=.returned (.tuple #[])∧Kd.R k65 65 w' w0.heap.size (fun k_=>(P0_ k_∨w.heap.size≤k_)) u9000_ r∧Below w0.heap.size w0 w'∧Kept w w' (fun k_=>P0_ k_):=by
 induction k using Nat.strongRecOn with
 |_ k ih=>
 intro P0_ u9000_ l0 a1 a2 a3 a4 r w0 w hB ho0 h
 cases k with
 |zero=>exact absurd h (by simp[api_Turn_107.f])
 |succ k=>
 simp only[api_Turn_107.f] at h
 have hu65:=Try.underlying65
 have HO0:=zB (show Kd.R k65 65 w w0.heap.size (fun k_=>(P0_ k_∨w.heap.size≤k_)) u9000_ l0 from Kd.R_mono ho0 (fun k_ hk=>(.inl hk)))
 have HK:=zB (Kept.refl w (fun k_=>P0_ k_))
 have HW0:=zB hB.size
 have HB:=zB hB
 clear hB
 have H:(if(wrap64 (a2-a1))=1 then(api_Turn_107.l0 k l0 a1 a2 a3) else(if(wrap64 (a3-a2))=1 then(api_Turn_107.l2 k l0 a2 a1 a2) else(if a2>(wrap64 ((IntKind.u64.wrap (wrap64 (a1+a3)))/2)) then(api_Turn_107.j4 k l0 a1 a2 a3 a4 (wrap64 ((IntKind.u64.wrap (wrap64 (a1+a3)))/2)) (wrap64 ((wrap64 ((IntKind.u64.wrap (wrap64 (a1+a3)))/2))+a2)) (wrap64 ((wrap64 ((wrap64 ((IntKind.u64.wrap (wrap64 (a1+a3)))/2))+a2))-a3)) (wrap64 ((IntKind.u64.wrap (wrap64 (a1+a3)))/2))) else(api_Turn_107.j4 k l0 a1 a2 a3 a4 (wrap64 ((IntKind.u64.wrap (wrap64 (a1+a3)))/2)) (wrap64 ((wrap64 ((IntKind.u64.wrap (wrap64 (a1+a3)))/2))+a2)) a1 a2))))=some r:=h
 clear h
 by_cases c6:(wrap64 (a2-a1))=1
 ·rw[if_pos c6] at H
  have c6b0:=beq_iff_eq.mpr c6
  have c6b1:=bne_eq_false_iff_eq.mpr c6
  clear c6
  have H':=zB H
  clear H
  go_enter Try.func107,Try.ntmps107
  go_wp2
  go_loopg [10,11] k (fun kq v10 v11 w'=> ∃(x10_1:Int) (x11_1:Int),v10=.int .i64 x10_1∧v11=.int .i64 x11_1∧Aside0 (api_Turn_107.l0 kq l0 a1 x10_1 x11_1=some r)∧Aside0 (kq≤k)∧Aside0 (Kd.R k65 65 w' w0.heap.size (fun k_=>(P0_ k_∨w.heap.size≤k_)) u9000_ l0)∧Aside0 (Kept w w' (fun k_=>P0_ k_))∧Aside0 (Below w0.heap.size w0 w'))
  case atStart=>exact⟨(a2),(a3),rs_,rs_,H',⟨za _⟩,⟨kr_ HO0⟩,⟨kk_ HK⟩,⟨hb_ HB⟩⟩
  case round=>
   clear H'
   try clear c1;try clear p2;try clear c6;try clear c6b0;try clear c6b1;try clear p6
   obtain⟨x10_1,x11_1,rfl,rfl,HA,HK1,HO_0,HK,HB⟩:=hrel
   cases gk with
   |zero=>exact absurd HA.out (by simp[api_Turn_107.l0])
   |succ k1=>
    have H:=HA.out
    clear HA
    simp only[api_Turn_107.l0] at H
    by_cases c7:x10_1<x11_1
    ·rw[if_pos c7] at H
     have c7b0:=zO c7
     clear c7
     obtain⟨ji8,hji8⟩: ∃j_:Int,(wrap64 ((IntKind.u64.wrap (wrap64 (x10_1+x11_1)))/2))=j_:=⟨_,rfl⟩
     replace H:(if 0≤(ji8) then(if(ji8)<(l0.length:Int) then(if 0≤a1 then(if a1<(l0.length:Int) then((due_Order_1.f k1 ((rd_T65 l0 (ji8)).f0) ((rd_T65 l0 (ji8)).f1.f0) ((rd_T65 l0 (ji8)).f1.f1) ((rd_T65 l0 (ji8)).f2) ((rd_T65 l0 a1).f0) ((rd_T65 l0 a1).f1.f0) ((rd_T65 l0 a1).f1.f1) ((rd_T65 l0 a1).f2)).bind fun t210=>(if t210<0 then(api_Turn_107.l0 k1 l0 a1 (wrap64 ((ji8)+1)) x11_1) else(api_Turn_107.l0 k1 l0 a1 x10_1 ji8))) else(none)) else(none)) else(none)) else(none))=some r:=by first|(rw[hji8] at H;exact H)|(simp only[hji8] at H⊢;exact H)
     have hji8w:(IntKind.i64.wrap ((IntKind.u64.wrap (wrap64 (x10_1+x11_1)))/2))=ji8:=(i64_w _).trans hji8
     obtain⟨c9,H⟩:=gd_ H
     have c9b0:=zO c9
     clear c9
     obtain⟨c10,H⟩:=gd_ H
     have c10b0:=zO c10
     clear c10
     obtain⟨c11,H⟩:=gd_ H
     have c11b0:=zO c11
     clear c11
     obtain⟨c12,H⟩:=gd_ H
     have c12b0:=zO c12
     clear c12
     replace H:=zL H
     obtain⟨t210,A130,H⟩:=H
     try dsimp only at H
     have A13:=zB A130
     clear A130
     by_cases c14:t210<0
     ·rw[if_pos c14] at H
      have c14b0:=zO c14
      clear c14
      have H':=zB H
      clear H
      try go_wp2
      replace HO_0:=zB (Kd.R_drew HO_0.out)
      replace HK:=zB (Kept.drew HK.out)
      replace HB:=zB (zG HB.out)
      obtain⟨Ao16,co16,eo16⟩:=Kd.R_slice HO_0.out
      (first|subst eo16|(injection eo16 with f1_ f2_ f3_;have f4_:=f1_.symm;have f5_:=f3_.symm;clear f1_ f2_ f3_;subst f4_;subst f5_))
      have p208:0≤((ji8):Int):=zJ as_
      have q208:(ji8)<(l0.length:Int):=zJ as_
      obtain⟨ad208,e208,hx208_0,hx208_1,hx208_2,hx208_3⟩:=at_T65 (zd HO_0.out).2.2 (ji8) p208 q208
      cases e208
      replace p208:=eq_true p208
      replace q208:=eq_true q208
      have p209:0≤(a1:Int):=zJ as_
      have q209:a1<(l0.length:Int):=zJ as_
      obtain⟨ad209,e209,hx209_0,hx209_1,hx209_2,hx209_3⟩:=at_T65 (zd HO_0.out).2.2 a1 p209 q209
      obtain rfl:ad208=ad209:=(by injection e209)
      replace p209:=eq_true p209
      replace q209:=eq_true q209
      refine start_ (n:=11) (S:=fun w'=>w'.cell? (ad208.add (((ji8)).toNat*4))=some (.int .i64 ((rd_T65 l0 (ji8)).f0))∧w'.cell? ⟨(ad208.add (((ji8)).toNat*4)).block,(ad208.add (((ji8)).toNat*4)).off+1,none⟩=some (.int .i64 ((rd_T65 l0 (ji8)).f1.f0))∧w'.cell? ⟨(ad208.add (((ji8)).toNat*4)).block,(ad208.add (((ji8)).toNat*4)).off+2,none⟩=some (.int .i64 ((rd_T65 l0 (ji8)).f1.f1))∧w'.cell? ⟨(ad208.add (((ji8)).toNat*4)).block,(ad208.add (((ji8)).toNat*4)).off+3,none⟩=some (.int .i64 ((rd_T65 l0 (ji8)).f2))∧w'.cell? (ad208.add ((a1).toNat*4))=some (.int .i64 ((rd_T65 l0 a1).f0))∧w'.cell? ⟨(ad208.add ((a1).toNat*4)).block,(ad208.add ((a1).toNat*4)).off+1,none⟩=some (.int .i64 ((rd_T65 l0 a1).f1.f0))∧w'.cell? ⟨(ad208.add ((a1).toNat*4)).block,(ad208.add ((a1).toNat*4)).off+2,none⟩=some (.int .i64 ((rd_T65 l0 a1).f1.f1))∧w'.cell? ⟨(ad208.add ((a1).toNat*4)).block,(ad208.add ((a1).toNat*4)).off+3,none⟩=some (.int .i64 ((rd_T65 l0 a1).f2))) (ds:=[]) (bt_ 0 11) (by kernel_rfl) rfl rfl ⟨hx208_0,hx208_1,hx208_2,hx208_3,hx209_0,hx209_1,hx209_2,hx209_3⟩ (fun hHeld=>?_);refine with_tabW api_Turn_107.tab5 api_Turn_107.bits5 (fun HT_ HW_=>?_)
      generalize wr.drew=w15 at HO_0 HK HB hx208_0 hx208_1 hx208_2 hx208_3 hx209_0 hx209_1 hx209_2 hx209_3 hHeld⊢
      have Q_:=Qs.mk (n:=11) [(0,0,40,1),(0,1,41,3),(0,2,42,7),(0,3,43,15),(0,5,45,47),(0,6,46,111),(0,7,47,239),(2,4,44,255),(2,8,48,511)]
      iterate 9 (first|(refine pq_ Q_ ?_;replace Q_:=qt_ Q_)|(refine tq_ Q_ hHeld ?_;replace Q_:=qt_ Q_))
      clear Q_
      refine one_ (i:=9) (N:=some 49) (dn_ 10 11) rfl rfl (one_of HT_.out (by kernel_rfl)) (by decide) (fun K hK=>?_)
      refine goesV_ Try.func79 (by kernel_rfl) rfl #[.agg #[.int .i64 ((rd_T65 l0 (ji8)).f0),.int .i64 ((rd_T65 l0 (ji8)).f1.f0),.int .i64 ((rd_T65 l0 (ji8)).f1.f1),.int .i64 ((rd_T65 l0 (ji8)).f2)],.agg #[.int .i64 ((rd_T65 l0 a1).f0),.int .i64 ((rd_T65 l0 a1).f1.f0),.int .i64 ((rd_T65 l0 a1).f1.f1),.int .i64 ((rd_T65 l0 a1).f2)]] (by rfl) rfl rfl (by(try simp only[zM,zS,zV]);first|done|(simp only[hji8];rfl)|rfl|(simp only[zR,zP];rfl)) (by rfl) ?_
      with_reducible refine(due_Order_1.calls k1 ((rd_T65 l0 (ji8)).f0) ((rd_T65 l0 (ji8)).f1.f0) ((rd_T65 l0 (ji8)).f1.f1) ((rd_T65 l0 (ji8)).f2) ((rd_T65 l0 a1).f0) ((rd_T65 l0 a1).f1.f0) ((rd_T65 l0 a1).f1.f1) ((rd_T65 l0 a1).f2) t210 _ A13.out).mono ?_
      rintro e w17 ⟨rfl,hb⟩
      have HS0_:=(hb.cell (zA _ _ (hHeld.1))).trans (hHeld.1)
      have HS1_:=(hb.cell (zA _ _ (hHeld.2.1))).trans (hHeld.2.1)
      have HS2_:=(hb.cell (zA _ _ (hHeld.2.2.1))).trans (hHeld.2.2.1)
      have HS3_:=(hb.cell (zA _ _ (hHeld.2.2.2.1))).trans (hHeld.2.2.2.1)
      have HS4_:=(hb.cell (zA _ _ (hHeld.2.2.2.2.1))).trans (hHeld.2.2.2.2.1)
      have HS5_:=(hb.cell (zA _ _ (hHeld.2.2.2.2.2.1))).trans (hHeld.2.2.2.2.2.1)
      have HS6_:=(hb.cell (zA _ _ (hHeld.2.2.2.2.2.2.1))).trans (hHeld.2.2.2.2.2.2.1)
      have HS7_:=(hb.cell (zA _ _ (hHeld.2.2.2.2.2.2.2))).trans (hHeld.2.2.2.2.2.2.2)
      refine⟨_,rfl,?_⟩
      replace HO_0:=rb_ HO_0 hb
      replace HK:=zB (Kept.below (S:=(fun k_=>P0_ k_)) (kk_ HK) hb)
      replace HB:=zB (zQ HB.out hb)
      (try clear hb)
      (try clear hb2)
      (try clear hk)
      (try clear hi)
      refine hK.out _ _ ⟨HS0_,HS1_,HS2_,HS3_,HS4_,HS5_,HS6_,HS7_⟩ (fun hHeld=>?_)
      clear hK K
      refine norm_ (a':=?_) ?_ ?_
      rotate_left
      ·show Act.put _ (some 49) _=_
       simp only[Act.put,zE,zH,zI,i64_w,i32_w]
       rfl
      refine pure_ (i:=10) (N:=some 50) (v:=?_) (a':=?_) (bt_ 2047 11) rfl rfl (any_of HT_.out (by kernel_rfl)) (fun _ _ _ h=>h) (Or.inl ⟨by rfl,?_⟩) ?_ ?_
      rotate_left
      ·intro w'
       go_simp
       with_reducible rfl
      rotate_left;(simp only[Act.put,zE,zH,zI,i64_w,i32_w];rfl)
      refine done_ (done_of HT_.out (by kernel_rfl)) ?_
      try go_wp2
      go_roundg k1
      case measure=>have:=HK1.out;omega
      case rel=>exact⟨(wrap64 ((ji8)+1)),(x11_1),(by first|rfl|(simp;done)|(simp only[←hji8]<;>(first|rfl|simp))|(simp[*];done)),rs_,H',⟨za_ HK1⟩,⟨kr_ HO_0⟩,⟨kk_ HK⟩,⟨hb_ HB⟩⟩
     ·rw[if_neg c14] at H
      have c14b0:=zY c14
      clear c14
      have H':=zB H
      clear H
      try go_wp2
      replace HO_0:=zB (Kd.R_drew HO_0.out)
      replace HK:=zB (Kept.drew HK.out)
      replace HB:=zB (zG HB.out)
      obtain⟨Ao19,co19,eo19⟩:=Kd.R_slice HO_0.out
      (first|subst eo19|(injection eo19 with f1_ f2_ f3_;have f4_:=f1_.symm;have f5_:=f3_.symm;clear f1_ f2_ f3_;subst f4_;subst f5_))
      have p208:0≤((ji8):Int):=zJ as_
      have q208:(ji8)<(l0.length:Int):=zJ as_
      obtain⟨ad208,e208,hx208_0,hx208_1,hx208_2,hx208_3⟩:=at_T65 (zd HO_0.out).2.2 (ji8) p208 q208
      cases e208
      replace p208:=eq_true p208
      replace q208:=eq_true q208
      have p209:0≤(a1:Int):=zJ as_
      have q209:a1<(l0.length:Int):=zJ as_
      obtain⟨ad209,e209,hx209_0,hx209_1,hx209_2,hx209_3⟩:=at_T65 (zd HO_0.out).2.2 a1 p209 q209
      obtain rfl:ad208=ad209:=(by injection e209)
      replace p209:=eq_true p209
      replace q209:=eq_true q209
      refine start_ (n:=11) (S:=fun w'=>w'.cell? (ad208.add (((ji8)).toNat*4))=some (.int .i64 ((rd_T65 l0 (ji8)).f0))∧w'.cell? ⟨(ad208.add (((ji8)).toNat*4)).block,(ad208.add (((ji8)).toNat*4)).off+1,none⟩=some (.int .i64 ((rd_T65 l0 (ji8)).f1.f0))∧w'.cell? ⟨(ad208.add (((ji8)).toNat*4)).block,(ad208.add (((ji8)).toNat*4)).off+2,none⟩=some (.int .i64 ((rd_T65 l0 (ji8)).f1.f1))∧w'.cell? ⟨(ad208.add (((ji8)).toNat*4)).block,(ad208.add (((ji8)).toNat*4)).off+3,none⟩=some (.int .i64 ((rd_T65 l0 (ji8)).f2))∧w'.cell? (ad208.add ((a1).toNat*4))=some (.int .i64 ((rd_T65 l0 a1).f0))∧w'.cell? ⟨(ad208.add ((a1).toNat*4)).block,(ad208.add ((a1).toNat*4)).off+1,none⟩=some (.int .i64 ((rd_T65 l0 a1).f1.f0))∧w'.cell? ⟨(ad208.add ((a1).toNat*4)).block,(ad208.add ((a1).toNat*4)).off+2,none⟩=some (.int .i64 ((rd_T65 l0 a1).f1.f1))∧w'.cell? ⟨(ad208.add ((a1).toNat*4)).block,(ad208.add ((a1).toNat*4)).off+3,none⟩=some (.int .i64 ((rd_T65 l0 a1).f2))) (ds:=[]) (bt_ 0 11) (by kernel_rfl) rfl rfl ⟨hx208_0,hx208_1,hx208_2,hx208_3,hx209_0,hx209_1,hx209_2,hx209_3⟩ (fun hHeld=>?_);refine with_tabW api_Turn_107.tab5 api_Turn_107.bits5 (fun HT_ HW_=>?_)
      generalize wr.drew=w18 at HO_0 HK HB hx208_0 hx208_1 hx208_2 hx208_3 hx209_0 hx209_1 hx209_2 hx209_3 hHeld⊢
      have Q_:=Qs.mk (n:=11) [(0,0,40,1),(0,1,41,3),(0,2,42,7),(0,3,43,15),(0,5,45,47),(0,6,46,111),(0,7,47,239),(2,4,44,255),(2,8,48,511)]
      iterate 9 (first|(refine pq_ Q_ ?_;replace Q_:=qt_ Q_)|(refine tq_ Q_ hHeld ?_;replace Q_:=qt_ Q_))
      clear Q_
      refine one_ (i:=9) (N:=some 49) (dn_ 10 11) rfl rfl (one_of HT_.out (by kernel_rfl)) (by decide) (fun K hK=>?_)
      refine goesV_ Try.func79 (by kernel_rfl) rfl #[.agg #[.int .i64 ((rd_T65 l0 (ji8)).f0),.int .i64 ((rd_T65 l0 (ji8)).f1.f0),.int .i64 ((rd_T65 l0 (ji8)).f1.f1),.int .i64 ((rd_T65 l0 (ji8)).f2)],.agg #[.int .i64 ((rd_T65 l0 a1).f0),.int .i64 ((rd_T65 l0 a1).f1.f0),.int .i64 ((rd_T65 l0 a1).f1.f1),.int .i64 ((rd_T65 l0 a1).f2)]] (by rfl) rfl rfl (by(try simp only[zM,zS,zV]);first|done|(simp only[hji8];rfl)|rfl|(simp only[zR,zP];rfl)) (by rfl) ?_
      with_reducible refine(due_Order_1.calls k1 ((rd_T65 l0 (ji8)).f0) ((rd_T65 l0 (ji8)).f1.f0) ((rd_T65 l0 (ji8)).f1.f1) ((rd_T65 l0 (ji8)).f2) ((rd_T65 l0 a1).f0) ((rd_T65 l0 a1).f1.f0) ((rd_T65 l0 a1).f1.f1) ((rd_T65 l0 a1).f2) t210 _ A13.out).mono ?_
      rintro e w20 ⟨rfl,hb⟩
      have HS0_:=(hb.cell (zA _ _ (hHeld.1))).trans (hHeld.1)
      have HS1_:=(hb.cell (zA _ _ (hHeld.2.1))).trans (hHeld.2.1)
      have HS2_:=(hb.cell (zA _ _ (hHeld.2.2.1))).trans (hHeld.2.2.1)
      have HS3_:=(hb.cell (zA _ _ (hHeld.2.2.2.1))).trans (hHeld.2.2.2.1)
      have HS4_:=(hb.cell (zA _ _ (hHeld.2.2.2.2.1))).trans (hHeld.2.2.2.2.1)
      have HS5_:=(hb.cell (zA _ _ (hHeld.2.2.2.2.2.1))).trans (hHeld.2.2.2.2.2.1)
      have HS6_:=(hb.cell (zA _ _ (hHeld.2.2.2.2.2.2.1))).trans (hHeld.2.2.2.2.2.2.1)
      have HS7_:=(hb.cell (zA _ _ (hHeld.2.2.2.2.2.2.2))).trans (hHeld.2.2.2.2.2.2.2)
      refine⟨_,rfl,?_⟩
      replace HO_0:=rb_ HO_0 hb
      replace HK:=zB (Kept.below (S:=(fun k_=>P0_ k_)) (kk_ HK) hb)
      replace HB:=zB (zQ HB.out hb)
      (try clear hb)
      (try clear hb2)
      (try clear hk)
      (try clear hi)
      refine hK.out _ _ ⟨HS0_,HS1_,HS2_,HS3_,HS4_,HS5_,HS6_,HS7_⟩ (fun hHeld=>?_)
      clear hK K
      refine norm_ (a':=?_) ?_ ?_
      rotate_left
      ·show Act.put _ (some 49) _=_
       simp only[Act.put,zE,zH,zI,i64_w,i32_w]
       rfl
      refine pure_ (i:=10) (N:=some 50) (v:=?_) (a':=?_) (bt_ 2047 11) rfl rfl (any_of HT_.out (by kernel_rfl)) (fun _ _ _ h=>h) (Or.inl ⟨by rfl,?_⟩) ?_ ?_
      rotate_left
      ·intro w'
       go_simp
       with_reducible rfl
      rotate_left;(simp only[Act.put,zE,zH,zI,i64_w,i32_w];rfl)
      refine done_ (done_of HT_.out (by kernel_rfl)) ?_
      try go_wp2
      go_roundg k1
      case measure=>have:=HK1.out;omega
      case rel=>exact⟨(x10_1),(ji8),rs_,(by first|rfl|(simp;done)|(simp only[←hji8]<;>(first|rfl|simp))|(simp[*];done)),H',⟨za_ HK1⟩,⟨kr_ HO_0⟩,⟨kk_ HK⟩,⟨hb_ HB⟩⟩
    ·rw[if_neg c7] at H
     have c7b0:=zY c7
     clear c7
     have H':=zB H
     clear H
     go_wp2
     go_loopg [13] k1 (fun kq v13 w'=> ∃(x0_2:List (S65)) (x13_2:Int),v13=.int .i64 x13_2∧Aside0 (api_Turn_107.l1 kq x0_2 x10_1 x13_2=some r)∧Aside0 (kq≤k1)∧Aside0 (Kd.R k65 65 w' w0.heap.size (fun k_=>(P0_ k_∨w.heap.size≤k_)) u9000_ x0_2)∧Aside0 (Kept w w' (fun k_=>P0_ k_))∧Aside0 (Below w0.heap.size w0 w'))
     case atStart=>exact⟨(l0),(a1),rs_,H',⟨za _⟩,⟨kr_ HO_0⟩,⟨kk_ HK⟩,⟨hb_ HB⟩⟩
     case round=>
      clear H'
      try clear c1;try clear p2;try clear q2;try clear hx2;try clear c6;try clear c6b0;try clear c6b1;try clear p6;try clear c7;try clear c7b0;try clear c9;try clear c9b0;try clear c10;try clear c10b0;try clear c11;try clear c11b0;try clear c12;try clear c12b0;try clear c14;try clear c14b0;try clear p20;try clear q20;try clear hx20;try clear hx208_0;try clear hx208_1;try clear hx208_2;try clear hx208_3;try clear hx209_0;try clear hx209_1;try clear hx209_2;try clear hx209_3;try clear p208;try clear p209;try clear q208;try clear q209
      obtain⟨x0_2,x13_2,rfl,HA,HK2,HO_0,HK,HB⟩:=hrel
      cases gk with
      |zero=>exact absurd HA.out (by simp[api_Turn_107.l1])
      |succ k2=>
       have H:=HA.out
       clear HA
       simp only[api_Turn_107.l1] at H
       by_cases c21:x13_2<(wrap64 (x10_1-1))
       ·rw[if_pos c21] at H
        have c21b0:=zO c21
        clear c21
        obtain⟨ji22,hji22⟩: ∃j_:Int,(wrap64 (x13_2+1))=j_:=⟨_,rfl⟩
        replace H:(if 0≤(ji22) then(if(ji22)<(x0_2.length:Int) then(if 0≤x13_2 then(if x13_2<(x0_2.length:Int) then(api_Turn_107.l1 k2 ((x0_2.set (x13_2:Int).toNat (⟨(rd_T65 x0_2 (ji22)).f0,(⟨(rd_T65 x0_2 (ji22)).f1.f0,(rd_T65 x0_2 (ji22)).f1.f1⟩:S26),(rd_T65 x0_2 (ji22)).f2⟩:S65)).set ((ji22):Int).toNat (⟨(rd_T65 x0_2 x13_2).f0,(⟨(rd_T65 x0_2 x13_2).f1.f0,(rd_T65 x0_2 x13_2).f1.f1⟩:S26),(rd_T65 x0_2 x13_2).f2⟩:S65)) x10_1 ji22) else(none)) else(none)) else(none)) else(none))=some r:=by first|(rw[hji22] at H;exact H)|(simp only[hji22] at H⊢;exact H)
        have hji22w:(IntKind.i64.wrap (x13_2+1))=ji22:=(i64_w _).trans hji22
        obtain⟨c23,H⟩:=gd_ H
        have c23b0:=zO c23
        clear c23
        obtain⟨c24,H⟩:=gd_ H
        have c24b0:=zO c24
        clear c24
        obtain⟨c25,H⟩:=gd_ H
        have c25b0:=zO c25
        clear c25
        obtain⟨c26,H⟩:=gd_ H
        have c26b0:=zO c26
        clear c26
        obtain⟨y213,hy213⟩: ∃y_:List (S65),y_=(x0_2.set (x13_2:Int).toNat (⟨(rd_T65 x0_2 (ji22)).f0,(⟨(rd_T65 x0_2 (ji22)).f1.f0,(rd_T65 x0_2 (ji22)).f1.f1⟩:S26),(rd_T65 x0_2 (ji22)).f2⟩:S65)):=⟨_,rfl⟩
        replace H:(api_Turn_107.l1 k2 (y213.set ((ji22):Int).toNat (⟨(rd_T65 x0_2 x13_2).f0,(⟨(rd_T65 x0_2 x13_2).f1.f0,(rd_T65 x0_2 x13_2).f1.f1⟩:S26),(rd_T65 x0_2 x13_2).f2⟩:S65)) x10_1 ji22)=some r:=by first|(rw[hy213];with_reducible exact H)|(have H2_:=(Option.bind_some _ _).symm.trans H;rw[hy213];with_reducible exact H2_)|(have H2_:=(Option.bind_some _ _).symm.trans H;with_reducible exact H2_)|with_reducible exact H|(rw[hy213];exact H)|exact H
        have Ny213:=zB hy213
        clear hy213
        obtain⟨y214,hy214⟩: ∃y_:List (S65),y_=(y213.set ((ji22):Int).toNat (⟨(rd_T65 x0_2 x13_2).f0,(⟨(rd_T65 x0_2 x13_2).f1.f0,(rd_T65 x0_2 x13_2).f1.f1⟩:S26),(rd_T65 x0_2 x13_2).f2⟩:S65)):=⟨_,rfl⟩
        replace H:(api_Turn_107.l1 k2 y214 x10_1 ji22)=some r:=by first|(rw[hy214];with_reducible exact H)|(have H2_:=(Option.bind_some _ _).symm.trans H;rw[hy214];with_reducible exact H2_)|(have H2_:=(Option.bind_some _ _).symm.trans H;with_reducible exact H2_)|with_reducible exact H|(rw[hy214];exact H)|exact H
        have Ny214:=zB hy214
        clear hy214
        have H':=zB H
        clear H
        try go_wp2
        replace HO_0:=zB (Kd.R_drew HO_0.out)
        replace HK:=zB (Kept.drew HK.out)
        replace HB:=zB (zG HB.out)
        obtain⟨Ao30,co30,eo30⟩:=Kd.R_slice HO_0.out
        (first|subst eo30|(injection eo30 with f1_ f2_ f3_;have f4_:=f1_.symm;have f5_:=f3_.symm;clear f1_ f2_ f3_;subst f4_;subst f5_))
        have p211:0≤((ji22):Int):=zJ as_
        have q211:(ji22)<(x0_2.length:Int):=zJ as_
        obtain⟨ad211,e211,hx211_0,hx211_1,hx211_2,hx211_3⟩:=at_T65 (zd HO_0.out).2.2 (ji22) p211 q211
        cases e211
        replace p211:=eq_true p211
        replace q211:=eq_true q211
        have p212:0≤(x13_2:Int):=zJ as_
        have q212:x13_2<(x0_2.length:Int):=zJ as_
        obtain⟨ad212,e212,hx212_0,hx212_1,hx212_2,hx212_3⟩:=at_T65 (zd HO_0.out).2.2 x13_2 p212 q212
        obtain rfl:ad211=ad212:=(by injection e212)
        replace p212:=eq_true p212
        replace q212:=eq_true q212
        have p27:0≤(x13_2:Int):=zJ as_
        have q27:(x13_2:Int)<((x0_2.length:Int):Int):=zJ as_
        obtain⟨go27,co27,eo27,gb27,gl27,cl27,HG27⟩:=Kd.R_form HO_0.out (by omega)
        (first|cases eo27|(injection eo27 with ea_ en_ ec_;(first|subst ea_|(injection ea_ with ea_;subst ea_));subst ec_;clear en_))
        have GB27:=zB gb27
        have GG27:=zB HG27
        clear gb27 gl27 HG27
        have HMgo27:=zB (show(P0_ go27∨w.heap.size≤go27) from(HO_0.out.1 _ rfl))
        (first|simp only[add_plain] at hx211_0|skip)
        (first|simp only[add_plain] at hx211_1|skip)
        (first|simp only[add_plain] at hx211_2|skip)
        (first|simp only[add_plain] at hx211_3|skip)
        (first|simp only[add_plain] at hx212_0|skip)
        (first|simp only[add_plain] at hx212_1|skip)
        (first|simp only[add_plain] at hx212_2|skip)
        (first|simp only[add_plain] at hx212_3|skip)
        obtain⟨ce27,hcl27,hM27,hcc27,hfr27⟩:=Kd.R_elem HO_0.out z65 (x13_2:Int) p27 q27
        obtain rfl:=k65_openM hM27
        have hx27_0:World.cell? _ ⟨go27,(x13_2:Int).toNat*4,none⟩=some (.int .i64 ((rd_T65 x0_2 x13_2).f0)):=hcc27 0 _ rfl
        have hx27_1:World.cell? _ ⟨go27,(x13_2:Int).toNat*4+1,none⟩=some (.int .i64 ((rd_T65 x0_2 x13_2).f1.f0)):=hcc27 1 _ rfl
        have hx27_2:World.cell? _ ⟨go27,(x13_2:Int).toNat*4+2,none⟩=some (.int .i64 ((rd_T65 x0_2 x13_2).f1.f1)):=hcc27 2 _ rfl
        have hx27_3:World.cell? _ ⟨go27,(x13_2:Int).toNat*4+3,none⟩=some (.int .i64 ((rd_T65 x0_2 x13_2).f2)):=hcc27 3 _ rfl
        have hf27_0:World.frozen? _ ⟨go27,(x13_2:Int).toNat*4,none⟩=false:=hfr27 0
        have hf27_1:World.frozen? _ ⟨go27,(x13_2:Int).toNat*4+1,none⟩=false:=hfr27 1
        have hf27_2:World.frozen? _ ⟨go27,(x13_2:Int).toNat*4+2,none⟩=false:=hfr27 2
        have hf27_3:World.frozen? _ ⟨go27,(x13_2:Int).toNat*4+3,none⟩=false:=hfr27 3
        clear hcl27 hcc27 hfr27 hM27
        replace p27:=eq_true p27
        replace q27:=eq_true q27
        obtain⟨ce31,hcl31,hM31,hcc31,hfr31⟩:=Kd.R_elem HO_0.out z65 (x13_2:Int) (zJ as_) (by have h_:(x13_2:Int)<((x0_2.length:Int):Int):=zJ as_;first|exact h_|(have e_:=(zd HO_0.out).1;omega)|simpa using h_)
        obtain rfl:=k65_openM hM31
        have HP31:=(Kd.R_seg HO_0.out (x13_2:Int) (zJ as_) (by have h_:(x13_2:Int)<((x0_2.length:Int):Int):=zJ as_;first|exact h_|(have e_:=(zd HO_0.out).1;omega)|simpa using h_) (seg:=[.int .i64 ((rd_T65 x0_2 (ji22)).f0),.int .i64 ((rd_T65 x0_2 (ji22)).f1.f0),.int .i64 ((rd_T65 x0_2 (ji22)).f1.f1),.int .i64 ((rd_T65 x0_2 (ji22)).f2)]) (j:=0) hcl31 hcc31 (show 4≤4 from by decide) (x':=(⟨(rd_T65 x0_2 (ji22)).f0,(⟨(rd_T65 x0_2 (ji22)).f1.f0,(rd_T65 x0_2 (ji22)).f1.f1⟩:S26),(rd_T65 x0_2 (ji22)).f2⟩:S65)) (k65_mkM _ _ _ (⟨(rd_T65 x0_2 (ji22)).f0,(⟨(rd_T65 x0_2 (ji22)).f1.f0,(rd_T65 x0_2 (ji22)).f1.f1⟩:S26),(rd_T65 x0_2 (ji22)).f2⟩:S65)) (fun _ hk=>hk)).1
        rw[←Ny213.out] at HP31
        have HQ31:=zB HP31
        clear hcl31 hcc31 hfr31 hM31 HP31
        have p28:0≤((ji22):Int):=zJ as_
        have q28:((ji22):Int)<((x0_2.length:Int):Int):=zJ as_
        obtain⟨ce28,hcl28,hM28,hcc28,hfr28⟩:=Kd.R_elem HQ31.out z65 ((ji22):Int) p28 q28
        obtain rfl:=k65_openM hM28
        have hx28_0:World.cell? _ ⟨go27,((ji22):Int).toNat*4,none⟩=some (.int .i64 ((rd_T65 y213 (ji22)).f0)):=hcc28 0 _ rfl
        have hx28_1:World.cell? _ ⟨go27,((ji22):Int).toNat*4+1,none⟩=some (.int .i64 ((rd_T65 y213 (ji22)).f1.f0)):=hcc28 1 _ rfl
        have hx28_2:World.cell? _ ⟨go27,((ji22):Int).toNat*4+2,none⟩=some (.int .i64 ((rd_T65 y213 (ji22)).f1.f1)):=hcc28 2 _ rfl
        have hx28_3:World.cell? _ ⟨go27,((ji22):Int).toNat*4+3,none⟩=some (.int .i64 ((rd_T65 y213 (ji22)).f2)):=hcc28 3 _ rfl
        have hf28_0:World.frozen? _ ⟨go27,((ji22):Int).toNat*4,none⟩=false:=hfr28 0
        have hf28_1:World.frozen? _ ⟨go27,((ji22):Int).toNat*4+1,none⟩=false:=hfr28 1
        have hf28_2:World.frozen? _ ⟨go27,((ji22):Int).toNat*4+2,none⟩=false:=hfr28 2
        have hf28_3:World.frozen? _ ⟨go27,((ji22):Int).toNat*4+3,none⟩=false:=hfr28 3
        clear hcl28 hcc28 hfr28 hM28
        replace p28:=eq_true p28
        replace q28:=eq_true q28
        obtain⟨ce32,hcl32,hM32,hcc32,hfr32⟩:=Kd.R_elem HQ31.out z65 ((ji22):Int) (zJ as_) (by have h_:((ji22):Int)<((x0_2.length:Int):Int):=zJ as_;first|exact h_|(have e_:=(zd HO_0.out).1;omega)|simpa using h_)
        obtain rfl:=k65_openM hM32
        have HP32:=(Kd.R_seg HQ31.out ((ji22):Int) (zJ as_) (by have h_:((ji22):Int)<((x0_2.length:Int):Int):=zJ as_;first|exact h_|(have e_:=(zd HO_0.out).1;omega)|simpa using h_) (seg:=[.int .i64 ((rd_T65 x0_2 x13_2).f0),.int .i64 ((rd_T65 x0_2 x13_2).f1.f0),.int .i64 ((rd_T65 x0_2 x13_2).f1.f1),.int .i64 ((rd_T65 x0_2 x13_2).f2)]) (j:=0) hcl32 hcc32 (show 4≤4 from by decide) (x':=(⟨(rd_T65 x0_2 x13_2).f0,(⟨(rd_T65 x0_2 x13_2).f1.f0,(rd_T65 x0_2 x13_2).f1.f1⟩:S26),(rd_T65 x0_2 x13_2).f2⟩:S65)) (k65_mkM _ _ _ (⟨(rd_T65 x0_2 x13_2).f0,(⟨(rd_T65 x0_2 x13_2).f1.f0,(rd_T65 x0_2 x13_2).f1.f1⟩:S26),(rd_T65 x0_2 x13_2).f2⟩:S65)) (fun _ hk=>hk)).1
        rw[←Ny214.out] at HP32
        have HQ32:=zB HP32
        clear hcl32 hcc32 hfr32 hM32 HP32
        refine start_ (n:=18) (S:=fun w'=>w'.cell? ⟨go27,(((ji22)).toNat*4),none⟩=some (.int .i64 ((rd_T65 x0_2 (ji22)).f0))∧w'.cell? ⟨go27,(((ji22)).toNat*4)+1,none⟩=some (.int .i64 ((rd_T65 x0_2 (ji22)).f1.f0))∧w'.cell? ⟨go27,(((ji22)).toNat*4)+2,none⟩=some (.int .i64 ((rd_T65 x0_2 (ji22)).f1.f1))∧w'.cell? ⟨go27,(((ji22)).toNat*4)+3,none⟩=some (.int .i64 ((rd_T65 x0_2 (ji22)).f2))∧w'.cell? ⟨go27,((x13_2).toNat*4),none⟩=some (.int .i64 ((rd_T65 x0_2 x13_2).f0))∧w'.cell? ⟨go27,((x13_2).toNat*4)+1,none⟩=some (.int .i64 ((rd_T65 x0_2 x13_2).f1.f0))∧w'.cell? ⟨go27,((x13_2).toNat*4)+2,none⟩=some (.int .i64 ((rd_T65 x0_2 x13_2).f1.f1))∧w'.cell? ⟨go27,((x13_2).toNat*4)+3,none⟩=some (.int .i64 ((rd_T65 x0_2 x13_2).f2))) (ds:=[15,17]) (bt_ 0 18) (by kernel_rfl) rfl rfl ⟨hx211_0,hx211_1,hx211_2,hx211_3,hx212_0,hx212_1,hx212_2,hx212_3⟩ (fun hHeld=>?_);refine with_tabW api_Turn_107.tab11 api_Turn_107.bits11 (fun HT_ HW_=>?_)
        generalize wr.drew=w29 at HO_0 HK HB GG27 HQ31 HQ32 hf27_0 hf27_1 hf27_2 hf27_3 hf28_0 hf28_1 hf28_2 hf28_3 hx211_0 hx211_1 hx211_2 hx211_3 hx212_0 hx212_1 hx212_2 hx212_3 hx27_0 hx27_1 hx27_2 hx27_3 hx28_0 hx28_1 hx28_2 hx28_3 hHeld⊢
        have Q_:=Qs.mk (n:=18) [(0,0,61,1),(0,1,62,3),(0,2,63,7),(0,3,64,15),(0,4,65,31),(0,5,66,63),(0,6,67,127),(0,7,68,255),(0,8,69,511),(0,10,71,1535),(0,11,72,3583),(0,12,73,7679),(2,9,70,8191),(2,13,74,16383),(0,14,75,32767)]
        iterate 15 (first|(refine pq_ Q_ ?_;replace Q_:=qt_ Q_)|(refine tq_ Q_ hHeld ?_;replace Q_:=qt_ Q_))
        clear Q_
        refine last_ (i:=15) (N:=none) (dn_ 16 18) rfl rfl (one_of HT_.out (by kernel_rfl)) (by decide) (fun K hK=>?_)
        refine skip_ (w1:=?_) (by rfl) rfl ?_ ?_
        rotate_left
        ·(try simp[go_sem,World.setCells,show k65.sz=4 from rfl] at hx28_0);(try simp[go_sem,World.setCells,show k65.sz=4 from rfl] at hx28_1);(try simp[go_sem,World.setCells,show k65.sz=4 from rfl] at hx28_2);(try simp[go_sem,World.setCells,show k65.sz=4 from rfl] at hx28_3);(try simp[go_sem,World.setCells,show k65.sz=4 from rfl] at hf28_0);(try simp[go_sem,World.setCells,show k65.sz=4 from rfl] at hf28_1);(try simp[go_sem,World.setCells,show k65.sz=4 from rfl] at hf28_2);(try simp[go_sem,World.setCells,show k65.sz=4 from rfl] at hf28_3)
         go_simp
         rfl
        refine hK.out _ _ ?_
        clear hK K
        refine pure_ (i:=16) (N:=some 76) (v:=?_) (a':=?_) (dn_ 17 18) rfl rfl (any_of HT_.out (by kernel_rfl)) (fun _ _ _ h=>h) (Or.inl ⟨by rfl,?_⟩) ?_ ?_
        rotate_left
        ·intro w'
         go_simp
         with_reducible rfl
        rotate_left;(simp only[Act.put,zE,zH,zI,i64_w,i32_w];rfl)
        refine last_ (i:=17) (N:=none) (bt_ 262143 18) rfl rfl (one_of HT_.out (by kernel_rfl)) (by decide) (fun K hK=>?_)
        refine skip_ (w1:=?_) (by rfl) rfl ?_ ?_
        rotate_left
        ·(try simp[go_sem,World.setCells,show k65.sz=4 from rfl] at hx28_0);(try simp[go_sem,World.setCells,show k65.sz=4 from rfl] at hx28_1);(try simp[go_sem,World.setCells,show k65.sz=4 from rfl] at hx28_2);(try simp[go_sem,World.setCells,show k65.sz=4 from rfl] at hx28_3);(try simp[go_sem,World.setCells,show k65.sz=4 from rfl] at hf28_0);(try simp[go_sem,World.setCells,show k65.sz=4 from rfl] at hf28_1);(try simp[go_sem,World.setCells,show k65.sz=4 from rfl] at hf28_2);(try simp[go_sem,World.setCells,show k65.sz=4 from rfl] at hf28_3)
         go_simp
         rfl
        refine hK.out _ _ ?_
        clear hK K
        refine done_ (done_of HT_.out (by kernel_rfl)) ?_
        try go_wp2
        go_roundg k2
        case measure=>have:=HK1.out;have:=HK2.out;omega
        case rel=>exact⟨(y214),(ji22),(by first|rfl|(simp;done)|(simp only[←hji22]<;>(first|rfl|simp))|(simp[*];done)),H',⟨by have:=HK1.out;have:=HK2.out;omega⟩,⟨kr_ HQ32⟩,⟨kk_ HK⟩,⟨hb_ HB⟩⟩
       ·rw[if_neg c21] at H
        have c21b0:=zY c21
        clear c21
        obtain rfl:=zW H
        go_wp2
        first|go_end0|((try simp only[Exit.inBlock,Exit.then]);refine bodyPost_ret (results_none rfl _ _ _) rfl ?_)
        exact⟨ew_,by(with_reducible repeat(first|apply Kd.R_alloc|apply Kd.R_drewN|apply Kd.R_drew));exact HO_0.out,hb_ HB,kk_ HK⟩
 ·rw[if_neg c6] at H
  have c6b0:=beq_eq_false_iff_ne.mpr c6
  have c6b1:=bne_iff_ne.mpr c6
  by_cases c33:(wrap64 (a3-a2))=1
  ·rw[if_pos c33] at H
   have c33b0:=beq_iff_eq.mpr c33
   have c33b1:=bne_eq_false_iff_eq.mpr c33
   clear c33
   have H':=zB H
   clear H
   go_enter Try.func107,Try.ntmps107
   go_wp2
   go_loopg [14,15] k (fun kq v14 v15 w'=> ∃(x14_1:Int) (x15_1:Int),v14=.int .i64 x14_1∧v15=.int .i64 x15_1∧Aside0 (api_Turn_107.l2 kq l0 a2 x14_1 x15_1=some r)∧Aside0 (kq≤k)∧Aside0 (Kd.R k65 65 w' w0.heap.size (fun k_=>(P0_ k_∨w.heap.size≤k_)) u9000_ l0)∧Aside0 (Kept w w' (fun k_=>P0_ k_))∧Aside0 (Below w0.heap.size w0 w'))
   case atStart=>exact⟨(a1),(a2),rs_,rs_,H',⟨za _⟩,⟨kr_ HO0⟩,⟨kk_ HK⟩,⟨hb_ HB⟩⟩
   case round=>
    clear H'
    try clear c1;try clear c2;try clear p2;try clear q2;try clear hx2;try clear c3;try clear c6;try clear c6b0;try clear c6b1;try clear p6;try clear c7;try clear c7b0;try clear c9;try clear c9b0;try clear c10;try clear c10b0;try clear c11;try clear c11b0;try clear c12;try clear c12b0;try clear c14;try clear c14b0;try clear p20;try clear q20;try clear hx20;try clear c21;try clear c21b0;try clear p21;try clear q21;try clear hx21;try clear c23;try clear c23b0;try clear c24;try clear c24b0;try clear c25;try clear c25b0;try clear c26;try clear c26b0;try clear c27;try clear p27;try clear q27;try clear hx27;try clear hf27;try clear c28;try clear p28;try clear q28;try clear hx28;try clear hf28;try clear c31;try clear c32;try clear c33;try clear c33b0;try clear c33b1;try clear hx208_0;try clear hx208_1;try clear hx208_2;try clear hx208_3;try clear hx209_0;try clear hx209_1;try clear hx209_2;try clear hx209_3;try clear hx211_0;try clear hx211_1;try clear hx211_2;try clear hx211_3;try clear hx212_0;try clear hx212_1;try clear hx212_2;try clear hx212_3;try clear hx27_0;try clear hx27_1;try clear hx27_2;try clear hx27_3;try clear hx28_0;try clear hx28_1;try clear hx28_2;try clear hx28_3;try clear p208;try clear p209;try clear p211;try clear p212;try clear q208;try clear q209;try clear q211;try clear q212
    obtain⟨x14_1,x15_1,rfl,rfl,HA,HK1,HO_0,HK,HB⟩:=hrel
    cases gk with
    |zero=>exact absurd HA.out (by simp[api_Turn_107.l2])
    |succ k1=>
     have H:=HA.out
     clear HA
     simp only[api_Turn_107.l2] at H
     by_cases c34:x14_1<x15_1
     ·rw[if_pos c34] at H
      have c34b0:=zO c34
      clear c34
      obtain⟨c35,H⟩:=gd_ H
      have c35b0:=zO c35
      clear c35
      obtain⟨c36,H⟩:=gd_ H
      have c36b0:=zO c36
      clear c36
      obtain⟨ji37,hji37⟩: ∃j_:Int,(wrap64 ((IntKind.u64.wrap (wrap64 (x14_1+x15_1)))/2))=j_:=⟨_,rfl⟩
      replace H:(if 0≤(ji37) then(if(ji37)<(l0.length:Int) then((due_Order_1.f k1 ((rd_T65 l0 a2).f0) ((rd_T65 l0 a2).f1.f0) ((rd_T65 l0 a2).f1.f1) ((rd_T65 l0 a2).f2) ((rd_T65 l0 (ji37)).f0) ((rd_T65 l0 (ji37)).f1.f0) ((rd_T65 l0 (ji37)).f1.f1) ((rd_T65 l0 (ji37)).f2)).bind fun t217=>(if t217<0 then(api_Turn_107.l2 k1 l0 a2 x14_1 ji37) else(api_Turn_107.l2 k1 l0 a2 (wrap64 ((ji37)+1)) x15_1))) else(none)) else(none))=some r:=by first|(rw[hji37] at H;exact H)|(simp only[hji37] at H⊢;exact H)
      have hji37w:(IntKind.i64.wrap ((IntKind.u64.wrap (wrap64 (x14_1+x15_1)))/2))=ji37:=(i64_w _).trans hji37
      obtain⟨c38,H⟩:=gd_ H
      have c38b0:=zO c38
      clear c38
      obtain⟨c39,H⟩:=gd_ H
      have c39b0:=zO c39
      clear c39
      replace H:=zL H
      obtain⟨t217,A400,H⟩:=H
      try dsimp only at H
      have A40:=zB A400
      clear A400
      by_cases c41:t217<0
      ·rw[if_pos c41] at H
       have c41b0:=zO c41
       clear c41
       have H':=zB H
       clear H
       try go_wp2
       replace HO_0:=zB (Kd.R_drew HO_0.out)
       replace HK:=zB (Kept.drew HK.out)
       replace HB:=zB (zG HB.out)
       obtain⟨Ao43,co43,eo43⟩:=Kd.R_slice HO_0.out
       (first|subst eo43|(injection eo43 with f1_ f2_ f3_;have f4_:=f1_.symm;have f5_:=f3_.symm;clear f1_ f2_ f3_;subst f4_;subst f5_))
       have p215:0≤(a2:Int):=zJ as_
       have q215:a2<(l0.length:Int):=zJ as_
       obtain⟨ad215,e215,hx215_0,hx215_1,hx215_2,hx215_3⟩:=at_T65 (zd HO_0.out).2.2 a2 p215 q215
       cases e215
       replace p215:=eq_true p215
       replace q215:=eq_true q215
       have p216:0≤((ji37):Int):=zJ as_
       have q216:(ji37)<(l0.length:Int):=zJ as_
       obtain⟨ad216,e216,hx216_0,hx216_1,hx216_2,hx216_3⟩:=at_T65 (zd HO_0.out).2.2 (ji37) p216 q216
       obtain rfl:ad215=ad216:=(by injection e216)
       replace p216:=eq_true p216
       replace q216:=eq_true q216
       refine start_ (n:=12) (S:=fun w'=>w'.cell? (ad215.add ((a2).toNat*4))=some (.int .i64 ((rd_T65 l0 a2).f0))∧w'.cell? ⟨(ad215.add ((a2).toNat*4)).block,(ad215.add ((a2).toNat*4)).off+1,none⟩=some (.int .i64 ((rd_T65 l0 a2).f1.f0))∧w'.cell? ⟨(ad215.add ((a2).toNat*4)).block,(ad215.add ((a2).toNat*4)).off+2,none⟩=some (.int .i64 ((rd_T65 l0 a2).f1.f1))∧w'.cell? ⟨(ad215.add ((a2).toNat*4)).block,(ad215.add ((a2).toNat*4)).off+3,none⟩=some (.int .i64 ((rd_T65 l0 a2).f2))∧w'.cell? (ad215.add (((ji37)).toNat*4))=some (.int .i64 ((rd_T65 l0 (ji37)).f0))∧w'.cell? ⟨(ad215.add (((ji37)).toNat*4)).block,(ad215.add (((ji37)).toNat*4)).off+1,none⟩=some (.int .i64 ((rd_T65 l0 (ji37)).f1.f0))∧w'.cell? ⟨(ad215.add (((ji37)).toNat*4)).block,(ad215.add (((ji37)).toNat*4)).off+2,none⟩=some (.int .i64 ((rd_T65 l0 (ji37)).f1.f1))∧w'.cell? ⟨(ad215.add (((ji37)).toNat*4)).block,(ad215.add (((ji37)).toNat*4)).off+3,none⟩=some (.int .i64 ((rd_T65 l0 (ji37)).f2))) (ds:=[]) (bt_ 0 12) (by kernel_rfl) rfl rfl ⟨hx215_0,hx215_1,hx215_2,hx215_3,hx216_0,hx216_1,hx216_2,hx216_3⟩ (fun hHeld=>?_);refine with_tabW api_Turn_107.tab17 api_Turn_107.bits17 (fun HT_ HW_=>?_)
       generalize wr.drew=w42 at HO_0 HK HB hx215_0 hx215_1 hx215_2 hx215_3 hx216_0 hx216_1 hx216_2 hx216_3 hHeld⊢
       have Q_:=Qs.mk (n:=12) [(0,0,92,1),(0,1,93,3),(0,2,94,7),(0,3,95,15),(0,5,97,47),(0,6,98,111),(0,7,99,239),(2,4,96,255),(2,8,100,511)]
       iterate 9 (first|(refine pq_ Q_ ?_;replace Q_:=qt_ Q_)|(refine tq_ Q_ hHeld ?_;replace Q_:=qt_ Q_))
       clear Q_
       refine one_ (i:=9) (N:=some 101) (dn_ 10 12) rfl rfl (one_of HT_.out (by kernel_rfl)) (by decide) (fun K hK=>?_)
       refine goesV_ Try.func79 (by kernel_rfl) rfl #[.agg #[.int .i64 ((rd_T65 l0 a2).f0),.int .i64 ((rd_T65 l0 a2).f1.f0),.int .i64 ((rd_T65 l0 a2).f1.f1),.int .i64 ((rd_T65 l0 a2).f2)],.agg #[.int .i64 ((rd_T65 l0 (ji37)).f0),.int .i64 ((rd_T65 l0 (ji37)).f1.f0),.int .i64 ((rd_T65 l0 (ji37)).f1.f1),.int .i64 ((rd_T65 l0 (ji37)).f2)]] (by rfl) rfl rfl (by(try simp only[zM,zS,zV]);first|done|(simp only[hji37];rfl)|rfl|(simp only[zR,zP];rfl)) (by rfl) ?_
       with_reducible refine(due_Order_1.calls k1 ((rd_T65 l0 a2).f0) ((rd_T65 l0 a2).f1.f0) ((rd_T65 l0 a2).f1.f1) ((rd_T65 l0 a2).f2) ((rd_T65 l0 (ji37)).f0) ((rd_T65 l0 (ji37)).f1.f0) ((rd_T65 l0 (ji37)).f1.f1) ((rd_T65 l0 (ji37)).f2) t217 _ A40.out).mono ?_
       rintro e w44 ⟨rfl,hb⟩
       have HS0_:=(hb.cell (zA _ _ (hHeld.1))).trans (hHeld.1)
       have HS1_:=(hb.cell (zA _ _ (hHeld.2.1))).trans (hHeld.2.1)
       have HS2_:=(hb.cell (zA _ _ (hHeld.2.2.1))).trans (hHeld.2.2.1)
       have HS3_:=(hb.cell (zA _ _ (hHeld.2.2.2.1))).trans (hHeld.2.2.2.1)
       have HS4_:=(hb.cell (zA _ _ (hHeld.2.2.2.2.1))).trans (hHeld.2.2.2.2.1)
       have HS5_:=(hb.cell (zA _ _ (hHeld.2.2.2.2.2.1))).trans (hHeld.2.2.2.2.2.1)
       have HS6_:=(hb.cell (zA _ _ (hHeld.2.2.2.2.2.2.1))).trans (hHeld.2.2.2.2.2.2.1)
       have HS7_:=(hb.cell (zA _ _ (hHeld.2.2.2.2.2.2.2))).trans (hHeld.2.2.2.2.2.2.2)
       refine⟨_,rfl,?_⟩
       replace HO_0:=rb_ HO_0 hb
       replace HK:=zB (Kept.below (S:=(fun k_=>P0_ k_)) (kk_ HK) hb)
       replace HB:=zB (zQ HB.out hb)
       (try clear hb)
       (try clear hb2)
       (try clear hk)
       (try clear hi)
       refine hK.out _ _ ⟨HS0_,HS1_,HS2_,HS3_,HS4_,HS5_,HS6_,HS7_⟩ (fun hHeld=>?_)
       clear hK K
       refine norm_ (a':=?_) ?_ ?_
       rotate_left
       ·show Act.put _ (some 101) _=_
        simp only[Act.put,zE,zH,zI,i64_w,i32_w]
        rfl
       refine pure_ (i:=10) (N:=some 102) (v:=?_) (a':=?_) (dn_ 11 12) rfl rfl (any_of HT_.out (by kernel_rfl)) (fun _ _ _ h=>h) (Or.inl ⟨by rfl,?_⟩) ?_ ?_
       rotate_left
       ·intro w'
        go_simp
        with_reducible rfl
       rotate_left;(simp only[Act.put,zE,zH,zI,i64_w,i32_w];rfl)
       refine pure_ (i:=11) (N:=some 103) (v:=?_) (a':=?_) (bt_ 4095 12) rfl rfl (any_of HT_.out (by kernel_rfl)) (fun _ _ _ h=>h) (Or.inl ⟨by rfl,?_⟩) ?_ ?_
       rotate_left
       ·intro w'
        go_simp
        with_reducible rfl
       rotate_left;(simp only[Act.put,zE,zH,zI,i64_w,i32_w];rfl)
       refine done_ (done_of HT_.out (by kernel_rfl)) ?_
       try go_wp2
       go_roundg k1
       case measure=>have:=HK1.out;omega
       case rel=>exact⟨(x14_1),(ji37),rs_,(by first|rfl|(simp;done)|(simp only[←hji37]<;>(first|rfl|simp))|(simp[*];done)),H',⟨za_ HK1⟩,⟨kr_ HO_0⟩,⟨kk_ HK⟩,⟨hb_ HB⟩⟩
      ·rw[if_neg c41] at H
       have c41b0:=zY c41
       clear c41
       have H':=zB H
       clear H
       try go_wp2
       replace HO_0:=zB (Kd.R_drew HO_0.out)
       replace HK:=zB (Kept.drew HK.out)
       replace HB:=zB (zG HB.out)
       obtain⟨Ao46,co46,eo46⟩:=Kd.R_slice HO_0.out
       (first|subst eo46|(injection eo46 with f1_ f2_ f3_;have f4_:=f1_.symm;have f5_:=f3_.symm;clear f1_ f2_ f3_;subst f4_;subst f5_))
       have p215:0≤(a2:Int):=zJ as_
       have q215:a2<(l0.length:Int):=zJ as_
       obtain⟨ad215,e215,hx215_0,hx215_1,hx215_2,hx215_3⟩:=at_T65 (zd HO_0.out).2.2 a2 p215 q215
       cases e215
       replace p215:=eq_true p215
       replace q215:=eq_true q215
       have p216:0≤((ji37):Int):=zJ as_
       have q216:(ji37)<(l0.length:Int):=zJ as_
       obtain⟨ad216,e216,hx216_0,hx216_1,hx216_2,hx216_3⟩:=at_T65 (zd HO_0.out).2.2 (ji37) p216 q216
       obtain rfl:ad215=ad216:=(by injection e216)
       replace p216:=eq_true p216
       replace q216:=eq_true q216
       refine start_ (n:=12) (S:=fun w'=>w'.cell? (ad215.add ((a2).toNat*4))=some (.int .i64 ((rd_T65 l0 a2).f0))∧w'.cell? ⟨(ad215.add ((a2).toNat*4)).block,(ad215.add ((a2).toNat*4)).off+1,none⟩=some (.int .i64 ((rd_T65 l0 a2).f1.f0))∧w'.cell? ⟨(ad215.add ((a2).toNat*4)).block,(ad215.add ((a2).toNat*4)).off+2,none⟩=some (.int .i64 ((rd_T65 l0 a2).f1.f1))∧w'.cell? ⟨(ad215.add ((a2).toNat*4)).block,(ad215.add ((a2).toNat*4)).off+3,none⟩=some (.int .i64 ((rd_T65 l0 a2).f2))∧w'.cell? (ad215.add (((ji37)).toNat*4))=some (.int .i64 ((rd_T65 l0 (ji37)).f0))∧w'.cell? ⟨(ad215.add (((ji37)).toNat*4)).block,(ad215.add (((ji37)).toNat*4)).off+1,none⟩=some (.int .i64 ((rd_T65 l0 (ji37)).f1.f0))∧w'.cell? ⟨(ad215.add (((ji37)).toNat*4)).block,(ad215.add (((ji37)).toNat*4)).off+2,none⟩=some (.int .i64 ((rd_T65 l0 (ji37)).f1.f1))∧w'.cell? ⟨(ad215.add (((ji37)).toNat*4)).block,(ad215.add (((ji37)).toNat*4)).off+3,none⟩=some (.int .i64 ((rd_T65 l0 (ji37)).f2))) (ds:=[]) (bt_ 0 12) (by kernel_rfl) rfl rfl ⟨hx215_0,hx215_1,hx215_2,hx215_3,hx216_0,hx216_1,hx216_2,hx216_3⟩ (fun hHeld=>?_);refine with_tabW api_Turn_107.tab17 api_Turn_107.bits17 (fun HT_ HW_=>?_)
       generalize wr.drew=w45 at HO_0 HK HB hx215_0 hx215_1 hx215_2 hx215_3 hx216_0 hx216_1 hx216_2 hx216_3 hHeld⊢
       have Q_:=Qs.mk (n:=12) [(0,0,92,1),(0,1,93,3),(0,2,94,7),(0,3,95,15),(0,5,97,47),(0,6,98,111),(0,7,99,239),(2,4,96,255),(2,8,100,511)]
       iterate 9 (first|(refine pq_ Q_ ?_;replace Q_:=qt_ Q_)|(refine tq_ Q_ hHeld ?_;replace Q_:=qt_ Q_))
       clear Q_
       refine one_ (i:=9) (N:=some 101) (dn_ 10 12) rfl rfl (one_of HT_.out (by kernel_rfl)) (by decide) (fun K hK=>?_)
       refine goesV_ Try.func79 (by kernel_rfl) rfl #[.agg #[.int .i64 ((rd_T65 l0 a2).f0),.int .i64 ((rd_T65 l0 a2).f1.f0),.int .i64 ((rd_T65 l0 a2).f1.f1),.int .i64 ((rd_T65 l0 a2).f2)],.agg #[.int .i64 ((rd_T65 l0 (ji37)).f0),.int .i64 ((rd_T65 l0 (ji37)).f1.f0),.int .i64 ((rd_T65 l0 (ji37)).f1.f1),.int .i64 ((rd_T65 l0 (ji37)).f2)]] (by rfl) rfl rfl (by(try simp only[zM,zS,zV]);first|done|(simp only[hji37];rfl)|rfl|(simp only[zR,zP];rfl)) (by rfl) ?_
       with_reducible refine(due_Order_1.calls k1 ((rd_T65 l0 a2).f0) ((rd_T65 l0 a2).f1.f0) ((rd_T65 l0 a2).f1.f1) ((rd_T65 l0 a2).f2) ((rd_T65 l0 (ji37)).f0) ((rd_T65 l0 (ji37)).f1.f0) ((rd_T65 l0 (ji37)).f1.f1) ((rd_T65 l0 (ji37)).f2) t217 _ A40.out).mono ?_
       rintro e w47 ⟨rfl,hb⟩
       have HS0_:=(hb.cell (zA _ _ (hHeld.1))).trans (hHeld.1)
       have HS1_:=(hb.cell (zA _ _ (hHeld.2.1))).trans (hHeld.2.1)
       have HS2_:=(hb.cell (zA _ _ (hHeld.2.2.1))).trans (hHeld.2.2.1)
       have HS3_:=(hb.cell (zA _ _ (hHeld.2.2.2.1))).trans (hHeld.2.2.2.1)
       have HS4_:=(hb.cell (zA _ _ (hHeld.2.2.2.2.1))).trans (hHeld.2.2.2.2.1)
       have HS5_:=(hb.cell (zA _ _ (hHeld.2.2.2.2.2.1))).trans (hHeld.2.2.2.2.2.1)
       have HS6_:=(hb.cell (zA _ _ (hHeld.2.2.2.2.2.2.1))).trans (hHeld.2.2.2.2.2.2.1)
       have HS7_:=(hb.cell (zA _ _ (hHeld.2.2.2.2.2.2.2))).trans (hHeld.2.2.2.2.2.2.2)
       refine⟨_,rfl,?_⟩
       replace HO_0:=rb_ HO_0 hb
       replace HK:=zB (Kept.below (S:=(fun k_=>P0_ k_)) (kk_ HK) hb)
       replace HB:=zB (zQ HB.out hb)
       (try clear hb)
       (try clear hb2)
       (try clear hk)
       (try clear hi)
       refine hK.out _ _ ⟨HS0_,HS1_,HS2_,HS3_,HS4_,HS5_,HS6_,HS7_⟩ (fun hHeld=>?_)
       clear hK K
       refine norm_ (a':=?_) ?_ ?_
       rotate_left
       ·show Act.put _ (some 101) _=_
        simp only[Act.put,zE,zH,zI,i64_w,i32_w]
        rfl
       refine pure_ (i:=10) (N:=some 102) (v:=?_) (a':=?_) (dn_ 11 12) rfl rfl (any_of HT_.out (by kernel_rfl)) (fun _ _ _ h=>h) (Or.inl ⟨by rfl,?_⟩) ?_ ?_
       rotate_left
       ·intro w'
        go_simp
        with_reducible rfl
       rotate_left;(simp only[Act.put,zE,zH,zI,i64_w,i32_w];rfl)
       refine pure_ (i:=11) (N:=some 103) (v:=?_) (a':=?_) (bt_ 4095 12) rfl rfl (any_of HT_.out (by kernel_rfl)) (fun _ _ _ h=>h) (Or.inl ⟨by rfl,?_⟩) ?_ ?_
       rotate_left
       ·intro w'
        go_simp
        with_reducible rfl
       rotate_left;(simp only[Act.put,zE,zH,zI,i64_w,i32_w];rfl)
       refine done_ (done_of HT_.out (by kernel_rfl)) ?_
       try go_wp2
       go_roundg k1
       case measure=>have:=HK1.out;omega
       case rel=>exact⟨(wrap64 ((ji37)+1)),(x15_1),(by first|rfl|(simp;done)|(simp only[←hji37]<;>(first|rfl|simp))|(simp[*];done)),rs_,H',⟨za_ HK1⟩,⟨kr_ HO_0⟩,⟨kk_ HK⟩,⟨hb_ HB⟩⟩
     ·rw[if_neg c34] at H
      have c34b0:=zY c34
      clear c34
      have H':=zB H
      clear H
      go_wp2
      go_loopg [17] k1 (fun kq v17 w'=> ∃(x0_2:List (S65)) (x17_2:Int),v17=.int .i64 x17_2∧Aside0 (api_Turn_107.l3 kq x0_2 x14_1 x17_2=some r)∧Aside0 (kq≤k1)∧Aside0 (Kd.R k65 65 w' w0.heap.size (fun k_=>(P0_ k_∨w.heap.size≤k_)) u9000_ x0_2)∧Aside0 (Kept w w' (fun k_=>P0_ k_))∧Aside0 (Below w0.heap.size w0 w'))
      case atStart=>exact⟨(l0),(a2),rs_,H',⟨za _⟩,⟨kr_ HO_0⟩,⟨kk_ HK⟩,⟨hb_ HB⟩⟩
      case round=>
       clear H'
       try clear c1;try clear c2;try clear p2;try clear q2;try clear hx2;try clear c3;try clear c4;try clear c6;try clear c6b0;try clear c6b1;try clear p6;try clear c7;try clear c7b0;try clear c9;try clear c9b0;try clear c10;try clear c10b0;try clear c11;try clear c11b0;try clear c12;try clear c12b0;try clear c14;try clear c14b0;try clear p20;try clear q20;try clear hx20;try clear c21;try clear c21b0;try clear p21;try clear q21;try clear hx21;try clear c23;try clear c23b0;try clear c24;try clear c24b0;try clear c25;try clear c25b0;try clear c26;try clear c26b0;try clear c27;try clear p27;try clear q27;try clear hx27;try clear hf27;try clear c28;try clear p28;try clear q28;try clear hx28;try clear hf28;try clear c31;try clear c32;try clear c33;try clear c33b0;try clear c33b1;try clear c34;try clear c34b0;try clear c35;try clear c35b0;try clear c36;try clear c36b0;try clear c38;try clear c38b0;try clear c39;try clear c39b0;try clear c41;try clear c41b0;try clear hx208_0;try clear hx208_1;try clear hx208_2;try clear hx208_3;try clear hx209_0;try clear hx209_1;try clear hx209_2;try clear hx209_3;try clear hx211_0;try clear hx211_1;try clear hx211_2;try clear hx211_3;try clear hx212_0;try clear hx212_1;try clear hx212_2;try clear hx212_3;try clear hx215_0;try clear hx215_1;try clear hx215_2;try clear hx215_3;try clear hx216_0;try clear hx216_1;try clear hx216_2;try clear hx216_3;try clear hx27_0;try clear hx27_1;try clear hx27_2;try clear hx27_3;try clear hx28_0;try clear hx28_1;try clear hx28_2;try clear hx28_3;try clear p208;try clear p209;try clear p211;try clear p212;try clear p215;try clear p216;try clear q208;try clear q209;try clear q211;try clear q212;try clear q215;try clear q216
       obtain⟨x0_2,x17_2,rfl,HA,HK2,HO_0,HK,HB⟩:=hrel
       cases gk with
       |zero=>exact absurd HA.out (by simp[api_Turn_107.l3])
       |succ k2=>
        have H:=HA.out
        clear HA
        simp only[api_Turn_107.l3] at H
        by_cases c48:x17_2>x14_1
        ·rw[if_pos c48] at H
         have c48b0:=zO c48
         clear c48
         obtain⟨ji49,hji49⟩: ∃j_:Int,(wrap64 (x17_2-1))=j_:=⟨_,rfl⟩
         replace H:(if 0≤(ji49) then(if(ji49)<(x0_2.length:Int) then(if 0≤x17_2 then(if x17_2<(x0_2.length:Int) then(api_Turn_107.l3 k2 ((x0_2.set (x17_2:Int).toNat (⟨(rd_T65 x0_2 (ji49)).f0,(⟨(rd_T65 x0_2 (ji49)).f1.f0,(rd_T65 x0_2 (ji49)).f1.f1⟩:S26),(rd_T65 x0_2 (ji49)).f2⟩:S65)).set ((ji49):Int).toNat (⟨(rd_T65 x0_2 x17_2).f0,(⟨(rd_T65 x0_2 x17_2).f1.f0,(rd_T65 x0_2 x17_2).f1.f1⟩:S26),(rd_T65 x0_2 x17_2).f2⟩:S65)) x14_1 ji49) else(none)) else(none)) else(none)) else(none))=some r:=by first|(rw[hji49] at H;exact H)|(simp only[hji49] at H⊢;exact H)
         have hji49w:(IntKind.i64.wrap (x17_2-1))=ji49:=(i64_w _).trans hji49
         obtain⟨c50,H⟩:=gd_ H
         have c50b0:=zO c50
         clear c50
         obtain⟨c51,H⟩:=gd_ H
         have c51b0:=zO c51
         clear c51
         obtain⟨c52,H⟩:=gd_ H
         have c52b0:=zO c52
         clear c52
         obtain⟨c53,H⟩:=gd_ H
         have c53b0:=zO c53
         clear c53
         obtain⟨y220,hy220⟩: ∃y_:List (S65),y_=(x0_2.set (x17_2:Int).toNat (⟨(rd_T65 x0_2 (ji49)).f0,(⟨(rd_T65 x0_2 (ji49)).f1.f0,(rd_T65 x0_2 (ji49)).f1.f1⟩:S26),(rd_T65 x0_2 (ji49)).f2⟩:S65)):=⟨_,rfl⟩
         replace H:(api_Turn_107.l3 k2 (y220.set ((ji49):Int).toNat (⟨(rd_T65 x0_2 x17_2).f0,(⟨(rd_T65 x0_2 x17_2).f1.f0,(rd_T65 x0_2 x17_2).f1.f1⟩:S26),(rd_T65 x0_2 x17_2).f2⟩:S65)) x14_1 ji49)=some r:=by first|(rw[hy220];with_reducible exact H)|(have H2_:=(Option.bind_some _ _).symm.trans H;rw[hy220];with_reducible exact H2_)|(have H2_:=(Option.bind_some _ _).symm.trans H;with_reducible exact H2_)|with_reducible exact H|(rw[hy220];exact H)|exact H
         have Ny220:=zB hy220
         clear hy220
         obtain⟨y221,hy221⟩: ∃y_:List (S65),y_=(y220.set ((ji49):Int).toNat (⟨(rd_T65 x0_2 x17_2).f0,(⟨(rd_T65 x0_2 x17_2).f1.f0,(rd_T65 x0_2 x17_2).f1.f1⟩:S26),(rd_T65 x0_2 x17_2).f2⟩:S65)):=⟨_,rfl⟩
         replace H:(api_Turn_107.l3 k2 y221 x14_1 ji49)=some r:=by first|(rw[hy221];with_reducible exact H)|(have H2_:=(Option.bind_some _ _).symm.trans H;rw[hy221];with_reducible exact H2_)|(have H2_:=(Option.bind_some _ _).symm.trans H;with_reducible exact H2_)|with_reducible exact H|(rw[hy221];exact H)|exact H
         have Ny221:=zB hy221
         clear hy221
         have H':=zB H
         clear H
         try go_wp2
         replace HO_0:=zB (Kd.R_drew HO_0.out)
         replace HK:=zB (Kept.drew HK.out)
         replace HB:=zB (zG HB.out)
         obtain⟨Ao57,co57,eo57⟩:=Kd.R_slice HO_0.out
         (first|subst eo57|(injection eo57 with f1_ f2_ f3_;have f4_:=f1_.symm;have f5_:=f3_.symm;clear f1_ f2_ f3_;subst f4_;subst f5_))
         have p218:0≤((ji49):Int):=zJ as_
         have q218:(ji49)<(x0_2.length:Int):=zJ as_
         obtain⟨ad218,e218,hx218_0,hx218_1,hx218_2,hx218_3⟩:=at_T65 (zd HO_0.out).2.2 (ji49) p218 q218
         cases e218
         replace p218:=eq_true p218
         replace q218:=eq_true q218
         have p219:0≤(x17_2:Int):=zJ as_
         have q219:x17_2<(x0_2.length:Int):=zJ as_
         obtain⟨ad219,e219,hx219_0,hx219_1,hx219_2,hx219_3⟩:=at_T65 (zd HO_0.out).2.2 x17_2 p219 q219
         obtain rfl:ad218=ad219:=(by injection e219)
         replace p219:=eq_true p219
         replace q219:=eq_true q219
         have p54:0≤(x17_2:Int):=zJ as_
         have q54:(x17_2:Int)<((x0_2.length:Int):Int):=zJ as_
         obtain⟨go54,co54,eo54,gb54,gl54,cl54,HG54⟩:=Kd.R_form HO_0.out (by omega)
         (first|cases eo54|(injection eo54 with ea_ en_ ec_;(first|subst ea_|(injection ea_ with ea_;subst ea_));subst ec_;clear en_))
         have GB54:=zB gb54
         have GG54:=zB HG54
         clear gb54 gl54 HG54
         have HMgo54:=zB (show(P0_ go54∨w.heap.size≤go54) from(HO_0.out.1 _ rfl))
         (first|simp only[add_plain] at hx218_0|skip)
         (first|simp only[add_plain] at hx218_1|skip)
         (first|simp only[add_plain] at hx218_2|skip)
         (first|simp only[add_plain] at hx218_3|skip)
         (first|simp only[add_plain] at hx219_0|skip)
         (first|simp only[add_plain] at hx219_1|skip)
         (first|simp only[add_plain] at hx219_2|skip)
         (first|simp only[add_plain] at hx219_3|skip)
         obtain⟨ce54,hcl54,hM54,hcc54,hfr54⟩:=Kd.R_elem HO_0.out z65 (x17_2:Int) p54 q54
         obtain rfl:=k65_openM hM54
         have hx54_0:World.cell? _ ⟨go54,(x17_2:Int).toNat*4,none⟩=some (.int .i64 ((rd_T65 x0_2 x17_2).f0)):=hcc54 0 _ rfl
         have hx54_1:World.cell? _ ⟨go54,(x17_2:Int).toNat*4+1,none⟩=some (.int .i64 ((rd_T65 x0_2 x17_2).f1.f0)):=hcc54 1 _ rfl
         have hx54_2:World.cell? _ ⟨go54,(x17_2:Int).toNat*4+2,none⟩=some (.int .i64 ((rd_T65 x0_2 x17_2).f1.f1)):=hcc54 2 _ rfl
         have hx54_3:World.cell? _ ⟨go54,(x17_2:Int).toNat*4+3,none⟩=some (.int .i64 ((rd_T65 x0_2 x17_2).f2)):=hcc54 3 _ rfl
         have hf54_0:World.frozen? _ ⟨go54,(x17_2:Int).toNat*4,none⟩=false:=hfr54 0
         have hf54_1:World.frozen? _ ⟨go54,(x17_2:Int).toNat*4+1,none⟩=false:=hfr54 1
         have hf54_2:World.frozen? _ ⟨go54,(x17_2:Int).toNat*4+2,none⟩=false:=hfr54 2
         have hf54_3:World.frozen? _ ⟨go54,(x17_2:Int).toNat*4+3,none⟩=false:=hfr54 3
         clear hcl54 hcc54 hfr54 hM54
         replace p54:=eq_true p54
         replace q54:=eq_true q54
         obtain⟨ce58,hcl58,hM58,hcc58,hfr58⟩:=Kd.R_elem HO_0.out z65 (x17_2:Int) (zJ as_) (by have h_:(x17_2:Int)<((x0_2.length:Int):Int):=zJ as_;first|exact h_|(have e_:=(zd HO_0.out).1;omega)|simpa using h_)
         obtain rfl:=k65_openM hM58
         have HP58:=(Kd.R_seg HO_0.out (x17_2:Int) (zJ as_) (by have h_:(x17_2:Int)<((x0_2.length:Int):Int):=zJ as_;first|exact h_|(have e_:=(zd HO_0.out).1;omega)|simpa using h_) (seg:=[.int .i64 ((rd_T65 x0_2 (ji49)).f0),.int .i64 ((rd_T65 x0_2 (ji49)).f1.f0),.int .i64 ((rd_T65 x0_2 (ji49)).f1.f1),.int .i64 ((rd_T65 x0_2 (ji49)).f2)]) (j:=0) hcl58 hcc58 (show 4≤4 from by decide) (x':=(⟨(rd_T65 x0_2 (ji49)).f0,(⟨(rd_T65 x0_2 (ji49)).f1.f0,(rd_T65 x0_2 (ji49)).f1.f1⟩:S26),(rd_T65 x0_2 (ji49)).f2⟩:S65)) (k65_mkM _ _ _ (⟨(rd_T65 x0_2 (ji49)).f0,(⟨(rd_T65 x0_2 (ji49)).f1.f0,(rd_T65 x0_2 (ji49)).f1.f1⟩:S26),(rd_T65 x0_2 (ji49)).f2⟩:S65)) (fun _ hk=>hk)).1
         rw[←Ny220.out] at HP58
         have HQ58:=zB HP58
         clear hcl58 hcc58 hfr58 hM58 HP58
         have p55:0≤((ji49):Int):=zJ as_
         have q55:((ji49):Int)<((x0_2.length:Int):Int):=zJ as_
         obtain⟨ce55,hcl55,hM55,hcc55,hfr55⟩:=Kd.R_elem HQ58.out z65 ((ji49):Int) p55 q55
         obtain rfl:=k65_openM hM55
         have hx55_0:World.cell? _ ⟨go54,((ji49):Int).toNat*4,none⟩=some (.int .i64 ((rd_T65 y220 (ji49)).f0)):=hcc55 0 _ rfl
         have hx55_1:World.cell? _ ⟨go54,((ji49):Int).toNat*4+1,none⟩=some (.int .i64 ((rd_T65 y220 (ji49)).f1.f0)):=hcc55 1 _ rfl
         have hx55_2:World.cell? _ ⟨go54,((ji49):Int).toNat*4+2,none⟩=some (.int .i64 ((rd_T65 y220 (ji49)).f1.f1)):=hcc55 2 _ rfl
         have hx55_3:World.cell? _ ⟨go54,((ji49):Int).toNat*4+3,none⟩=some (.int .i64 ((rd_T65 y220 (ji49)).f2)):=hcc55 3 _ rfl
         have hf55_0:World.frozen? _ ⟨go54,((ji49):Int).toNat*4,none⟩=false:=hfr55 0
         have hf55_1:World.frozen? _ ⟨go54,((ji49):Int).toNat*4+1,none⟩=false:=hfr55 1
         have hf55_2:World.frozen? _ ⟨go54,((ji49):Int).toNat*4+2,none⟩=false:=hfr55 2
         have hf55_3:World.frozen? _ ⟨go54,((ji49):Int).toNat*4+3,none⟩=false:=hfr55 3
         clear hcl55 hcc55 hfr55 hM55
         replace p55:=eq_true p55
         replace q55:=eq_true q55
         obtain⟨ce59,hcl59,hM59,hcc59,hfr59⟩:=Kd.R_elem HQ58.out z65 ((ji49):Int) (zJ as_) (by have h_:((ji49):Int)<((x0_2.length:Int):Int):=zJ as_;first|exact h_|(have e_:=(zd HO_0.out).1;omega)|simpa using h_)
         obtain rfl:=k65_openM hM59
         have HP59:=(Kd.R_seg HQ58.out ((ji49):Int) (zJ as_) (by have h_:((ji49):Int)<((x0_2.length:Int):Int):=zJ as_;first|exact h_|(have e_:=(zd HO_0.out).1;omega)|simpa using h_) (seg:=[.int .i64 ((rd_T65 x0_2 x17_2).f0),.int .i64 ((rd_T65 x0_2 x17_2).f1.f0),.int .i64 ((rd_T65 x0_2 x17_2).f1.f1),.int .i64 ((rd_T65 x0_2 x17_2).f2)]) (j:=0) hcl59 hcc59 (show 4≤4 from by decide) (x':=(⟨(rd_T65 x0_2 x17_2).f0,(⟨(rd_T65 x0_2 x17_2).f1.f0,(rd_T65 x0_2 x17_2).f1.f1⟩:S26),(rd_T65 x0_2 x17_2).f2⟩:S65)) (k65_mkM _ _ _ (⟨(rd_T65 x0_2 x17_2).f0,(⟨(rd_T65 x0_2 x17_2).f1.f0,(rd_T65 x0_2 x17_2).f1.f1⟩:S26),(rd_T65 x0_2 x17_2).f2⟩:S65)) (fun _ hk=>hk)).1
         rw[←Ny221.out] at HP59
         have HQ59:=zB HP59
         clear hcl59 hcc59 hfr59 hM59 HP59
         refine start_ (n:=18) (S:=fun w'=>w'.cell? ⟨go54,(((ji49)).toNat*4),none⟩=some (.int .i64 ((rd_T65 x0_2 (ji49)).f0))∧w'.cell? ⟨go54,(((ji49)).toNat*4)+1,none⟩=some (.int .i64 ((rd_T65 x0_2 (ji49)).f1.f0))∧w'.cell? ⟨go54,(((ji49)).toNat*4)+2,none⟩=some (.int .i64 ((rd_T65 x0_2 (ji49)).f1.f1))∧w'.cell? ⟨go54,(((ji49)).toNat*4)+3,none⟩=some (.int .i64 ((rd_T65 x0_2 (ji49)).f2))∧w'.cell? ⟨go54,((x17_2).toNat*4),none⟩=some (.int .i64 ((rd_T65 x0_2 x17_2).f0))∧w'.cell? ⟨go54,((x17_2).toNat*4)+1,none⟩=some (.int .i64 ((rd_T65 x0_2 x17_2).f1.f0))∧w'.cell? ⟨go54,((x17_2).toNat*4)+2,none⟩=some (.int .i64 ((rd_T65 x0_2 x17_2).f1.f1))∧w'.cell? ⟨go54,((x17_2).toNat*4)+3,none⟩=some (.int .i64 ((rd_T65 x0_2 x17_2).f2))) (ds:=[15,17]) (bt_ 0 18) (by kernel_rfl) rfl rfl ⟨hx218_0,hx218_1,hx218_2,hx218_3,hx219_0,hx219_1,hx219_2,hx219_3⟩ (fun hHeld=>?_);refine with_tabW api_Turn_107.tab23 api_Turn_107.bits23 (fun HT_ HW_=>?_)
         generalize wr.drew=w56 at HO_0 HK HB GG54 HQ58 HQ59 hf54_0 hf54_1 hf54_2 hf54_3 hf55_0 hf55_1 hf55_2 hf55_3 hx218_0 hx218_1 hx218_2 hx218_3 hx219_0 hx219_1 hx219_2 hx219_3 hx54_0 hx54_1 hx54_2 hx54_3 hx55_0 hx55_1 hx55_2 hx55_3 hHeld⊢
         have Q_:=Qs.mk (n:=18) [(0,0,113,1),(0,1,114,3),(0,2,115,7),(0,3,116,15),(0,4,117,31),(0,5,118,63),(0,6,119,127),(0,7,120,255),(0,8,121,511),(0,10,123,1535),(0,11,124,3583),(0,12,125,7679),(2,9,122,8191),(2,13,126,16383),(0,14,127,32767)]
         iterate 15 (first|(refine pq_ Q_ ?_;replace Q_:=qt_ Q_)|(refine tq_ Q_ hHeld ?_;replace Q_:=qt_ Q_))
         clear Q_
         refine last_ (i:=15) (N:=none) (dn_ 16 18) rfl rfl (one_of HT_.out (by kernel_rfl)) (by decide) (fun K hK=>?_)
         refine skip_ (w1:=?_) (by rfl) rfl ?_ ?_
         rotate_left
         ·(try simp[go_sem,World.setCells,show k65.sz=4 from rfl] at hx55_0);(try simp[go_sem,World.setCells,show k65.sz=4 from rfl] at hx55_1);(try simp[go_sem,World.setCells,show k65.sz=4 from rfl] at hx55_2);(try simp[go_sem,World.setCells,show k65.sz=4 from rfl] at hx55_3);(try simp[go_sem,World.setCells,show k65.sz=4 from rfl] at hf55_0);(try simp[go_sem,World.setCells,show k65.sz=4 from rfl] at hf55_1);(try simp[go_sem,World.setCells,show k65.sz=4 from rfl] at hf55_2);(try simp[go_sem,World.setCells,show k65.sz=4 from rfl] at hf55_3)
          go_simp
          rfl
         refine hK.out _ _ ?_
         clear hK K
         refine pure_ (i:=16) (N:=some 128) (v:=?_) (a':=?_) (dn_ 17 18) rfl rfl (any_of HT_.out (by kernel_rfl)) (fun _ _ _ h=>h) (Or.inl ⟨by rfl,?_⟩) ?_ ?_
         rotate_left
         ·intro w'
          go_simp
          with_reducible rfl
         rotate_left;(simp only[Act.put,zE,zH,zI,i64_w,i32_w];rfl)
         refine last_ (i:=17) (N:=none) (bt_ 262143 18) rfl rfl (one_of HT_.out (by kernel_rfl)) (by decide) (fun K hK=>?_)
         refine skip_ (w1:=?_) (by rfl) rfl ?_ ?_
         rotate_left
         ·(try simp[go_sem,World.setCells,show k65.sz=4 from rfl] at hx55_0);(try simp[go_sem,World.setCells,show k65.sz=4 from rfl] at hx55_1);(try simp[go_sem,World.setCells,show k65.sz=4 from rfl] at hx55_2);(try simp[go_sem,World.setCells,show k65.sz=4 from rfl] at hx55_3);(try simp[go_sem,World.setCells,show k65.sz=4 from rfl] at hf55_0);(try simp[go_sem,World.setCells,show k65.sz=4 from rfl] at hf55_1);(try simp[go_sem,World.setCells,show k65.sz=4 from rfl] at hf55_2);(try simp[go_sem,World.setCells,show k65.sz=4 from rfl] at hf55_3)
          go_simp
          rfl
         refine hK.out _ _ ?_
         clear hK K
         refine done_ (done_of HT_.out (by kernel_rfl)) ?_
         try go_wp2
         go_roundg k2
         case measure=>have:=HK1.out;have:=HK2.out;omega
         case rel=>exact⟨(y221),(ji49),(by first|rfl|(simp;done)|(simp only[←hji49]<;>(first|rfl|simp))|(simp[*];done)),H',⟨by have:=HK1.out;have:=HK2.out;omega⟩,⟨kr_ HQ59⟩,⟨kk_ HK⟩,⟨hb_ HB⟩⟩
        ·rw[if_neg c48] at H
         have c48b0:=zY c48
         clear c48
         obtain rfl:=zW H
         go_wp2
         first|go_end0|((try simp only[Exit.inBlock,Exit.then]);refine bodyPost_ret (results_none rfl _ _ _) rfl ?_)
         exact⟨ew_,by(with_reducible repeat(first|apply Kd.R_alloc|apply Kd.R_drewN|apply Kd.R_drew));exact HO_0.out,hb_ HB,kk_ HK⟩
  ·rw[if_neg c33] at H
   have c33b0:=beq_eq_false_iff_ne.mpr c33
   have c33b1:=bne_iff_ne.mpr c33
   have HC60:=zB H
   clear H
   go_enter Try.func107,Try.ntmps107
   go_upto_if 140 with(fail)
   generalize(wrap64 ((IntKind.u64.wrap (wrap64 (a1+a3)))/2))=gm_ at*
   generalize(wrap64 (gm_+a2))=gn_ at*
   go_cut [20,21] (fun v20 v21 wc=> ∃(kq:Nat) (x20_59:Int) (x21_59:Int),v20=.int .i64 x20_59∧v21=.int .i64 x21_59∧Aside0 (api_Turn_107.j4 kq l0 a1 a2 a3 a4 gm_ gn_ x20_59 x21_59=some r)∧Aside0 (kq≤k)∧Aside0 (Kd.R k65 65 wc w0.heap.size (fun k_=>(P0_ k_∨w.heap.size≤k_)) u9000_ l0)∧Aside0 (Kept w wc (fun k_=>P0_ k_))∧Aside0 (Below w0.heap.size w0 wc))
   case first=>
    have H:=HC60.out
    clear HC60
    by_cases c61:a2>gm_
    ·rw[if_pos c61] at H
     have c61b0:=zO c61
     clear c61
     (first|rw[c61b0]|(simp only[i64_w,i32_w];rw[c61b0])|skip)
     have H':=zB H
     clear H
     go_wp2
     go_meet
     case rel=>exact⟨_,(wrap64 (gn_-a3)),gm_,rs_,rs_,H',⟨by first|omega|exact za _⟩,⟨kr_ HO0⟩,⟨kk_ HK⟩,⟨hb_ HB⟩⟩
    ·rw[if_neg c61] at H
     have c61b0:=zY c61
     clear c61
     (first|rw[c61b0]|(simp only[i64_w,i32_w];rw[c61b0])|skip)
     have H':=zB H
     clear H
     go_wp2
     go_meet
     case rel=>exact⟨_,(a1),(a2),rs_,rs_,H',⟨by first|omega|exact za _⟩,⟨kr_ HO0⟩,⟨kk_ HK⟩,⟨hb_ HB⟩⟩
   case rest=>
    as_aux_lemma=>
    clear HC60
    try clear c1;try clear c2;try clear p2;try clear q2;try clear hx2;try clear c3;try clear c4;try clear c5;try clear p5;try clear q5;try clear hx5;try clear hf5;try clear c6;try clear c6b0;try clear c6b1;try clear p6;try clear c7;try clear c7b0;try clear c9;try clear c9b0;try clear c10;try clear c10b0;try clear c11;try clear c11b0;try clear c12;try clear c12b0;try clear c14;try clear c14b0;try clear p20;try clear q20;try clear hx20;try clear c21;try clear c21b0;try clear p21;try clear q21;try clear hx21;try clear c23;try clear c23b0;try clear c24;try clear c24b0;try clear c25;try clear c25b0;try clear c26;try clear c26b0;try clear c27;try clear p27;try clear q27;try clear hx27;try clear hf27;try clear c28;try clear p28;try clear q28;try clear hx28;try clear hf28;try clear c31;try clear c32;try clear c33;try clear c33b0;try clear c33b1;try clear c34;try clear c34b0;try clear c35;try clear c35b0;try clear c36;try clear c36b0;try clear c38;try clear c38b0;try clear c39;try clear c39b0;try clear c41;try clear c41b0;try clear c48;try clear c48b0;try clear c50;try clear c50b0;try clear c51;try clear c51b0;try clear c52;try clear c52b0;try clear c53;try clear c53b0;try clear c54;try clear p54;try clear q54;try clear hx54;try clear hf54;try clear c55;try clear p55;try clear q55;try clear hx55;try clear hf55;try clear c58;try clear c59;try clear c61;try clear c61b0;try clear hx208_0;try clear hx208_1;try clear hx208_2;try clear hx208_3;try clear hx209_0;try clear hx209_1;try clear hx209_2;try clear hx209_3;try clear hx211_0;try clear hx211_1;try clear hx211_2;try clear hx211_3;try clear hx212_0;try clear hx212_1;try clear hx212_2;try clear hx212_3;try clear hx215_0;try clear hx215_1;try clear hx215_2;try clear hx215_3;try clear hx216_0;try clear hx216_1;try clear hx216_2;try clear hx216_3;try clear hx218_0;try clear hx218_1;try clear hx218_2;try clear hx218_3;try clear hx219_0;try clear hx219_1;try clear hx219_2;try clear hx219_3;try clear hx27_0;try clear hx27_1;try clear hx27_2;try clear hx27_3;try clear hx28_0;try clear hx28_1;try clear hx28_2;try clear hx28_3;try clear hx54_0;try clear hx54_1;try clear hx54_2;try clear hx54_3;try clear hx55_0;try clear hx55_1;try clear hx55_2;try clear hx55_3;try clear p208;try clear p209;try clear p211;try clear p212;try clear p215;try clear p216;try clear p218;try clear p219;try clear q208;try clear q209;try clear q211;try clear q212;try clear q215;try clear q216;try clear q218;try clear q219
    obtain⟨kq,x20_59,x21_59,rfl,rfl,HA,HJ59,HO_0,HK,HB⟩:=hcut
    cases kq with
    |zero=>exact absurd HA.out (by simp[api_Turn_107.j4])
    |succ kj59=>
     have H:=HA.out
     clear HA
     simp only[api_Turn_107.j4] at H
     have H':=zB H
     clear H
     go_wp2
     go_loopg [20,21] kj59 (fun kq v20 v21 w'=> ∃(x20_2:Int) (x21_2:Int),v20=.int .i64 x20_2∧v21=.int .i64 x21_2∧Aside0 (api_Turn_107.l4 kq l0 a1 a2 a3 a4 gm_ gn_ x20_2 x21_2 (wrap64 (gn_-1))=some r)∧Aside0 (kq≤kj59)∧Aside0 (Kd.R k65 65 w' w0.heap.size (fun k_=>(P0_ k_∨w.heap.size≤k_)) u9000_ l0)∧Aside0 (Kept w w' (fun k_=>P0_ k_))∧Aside0 (Below w0.heap.size w0 w'))
     case atStart=>exact⟨(x20_59),(x21_59),rs_,rs_,H',⟨za _⟩,⟨kr_ HO_0⟩,⟨kk_ HK⟩,⟨hb_ HB⟩⟩
     case round=>
      clear H'
      try clear c1;try clear c2;try clear p2;try clear q2;try clear hx2;try clear c3;try clear c4;try clear c5;try clear p5;try clear q5;try clear hx5;try clear hf5;try clear c6;try clear c6b0;try clear c6b1;try clear p6;try clear c7;try clear c7b0;try clear c9;try clear c9b0;try clear c10;try clear c10b0;try clear c11;try clear c11b0;try clear c12;try clear c12b0;try clear c14;try clear c14b0;try clear p20;try clear q20;try clear hx20;try clear c21;try clear c21b0;try clear p21;try clear q21;try clear hx21;try clear c23;try clear c23b0;try clear c24;try clear c24b0;try clear c25;try clear c25b0;try clear c26;try clear c26b0;try clear c27;try clear p27;try clear q27;try clear hx27;try clear hf27;try clear c28;try clear p28;try clear q28;try clear hx28;try clear hf28;try clear c31;try clear c32;try clear c33;try clear c33b0;try clear c33b1;try clear c34;try clear c34b0;try clear c35;try clear c35b0;try clear c36;try clear c36b0;try clear c38;try clear c38b0;try clear c39;try clear c39b0;try clear c41;try clear c41b0;try clear c48;try clear c48b0;try clear c50;try clear c50b0;try clear c51;try clear c51b0;try clear c52;try clear c52b0;try clear c53;try clear c53b0;try clear c54;try clear p54;try clear q54;try clear hx54;try clear hf54;try clear c55;try clear p55;try clear q55;try clear hx55;try clear hf55;try clear c58;try clear c59;try clear c61;try clear c61b0;try clear hx208_0;try clear hx208_1;try clear hx208_2;try clear hx208_3;try clear hx209_0;try clear hx209_1;try clear hx209_2;try clear hx209_3;try clear hx211_0;try clear hx211_1;try clear hx211_2;try clear hx211_3;try clear hx212_0;try clear hx212_1;try clear hx212_2;try clear hx212_3;try clear hx215_0;try clear hx215_1;try clear hx215_2;try clear hx215_3;try clear hx216_0;try clear hx216_1;try clear hx216_2;try clear hx216_3;try clear hx218_0;try clear hx218_1;try clear hx218_2;try clear hx218_3;try clear hx219_0;try clear hx219_1;try clear hx219_2;try clear hx219_3;try clear hx27_0;try clear hx27_1;try clear hx27_2;try clear hx27_3;try clear hx28_0;try clear hx28_1;try clear hx28_2;try clear hx28_3;try clear hx54_0;try clear hx54_1;try clear hx54_2;try clear hx54_3;try clear hx55_0;try clear hx55_1;try clear hx55_2;try clear hx55_3;try clear p208;try clear p209;try clear p211;try clear p212;try clear p215;try clear p216;try clear p218;try clear p219;try clear q208;try clear q209;try clear q211;try clear q212;try clear q215;try clear q216;try clear q218;try clear q219
      obtain⟨x20_2,x21_2,rfl,rfl,HA,HK2,HO_0,HK,HB⟩:=hrel
      cases gk with
      |zero=>exact absurd HA.out (by simp[api_Turn_107.l4])
      |succ k2=>
       have H:=HA.out
       clear HA
       simp only[api_Turn_107.l4] at H
       by_cases c62:x20_2<x21_2
       ·rw[if_pos c62] at H
        have c62b0:=zO c62
        clear c62
        obtain⟨ji63,hji63⟩: ∃j_:Int,(wrap64 ((wrap64 (gn_-1))-(wrap64 ((IntKind.u64.wrap (wrap64 (x20_2+x21_2)))/2))))=j_:=⟨_,rfl⟩
        replace H:(if 0≤(ji63) then(if(ji63)<(l0.length:Int) then(if 0≤(wrap64 ((IntKind.u64.wrap (wrap64 (x20_2+x21_2)))/2)) then(if(wrap64 ((IntKind.u64.wrap (wrap64 (x20_2+x21_2)))/2))<(l0.length:Int) then((due_Order_1.f k2 ((rd_T65 l0 (ji63)).f0) ((rd_T65 l0 (ji63)).f1.f0) ((rd_T65 l0 (ji63)).f1.f1) ((rd_T65 l0 (ji63)).f2) ((rd_T65 l0 (wrap64 ((IntKind.u64.wrap (wrap64 (x20_2+x21_2)))/2))).f0) ((rd_T65 l0 (wrap64 ((IntKind.u64.wrap (wrap64 (x20_2+x21_2)))/2))).f1.f0) ((rd_T65 l0 (wrap64 ((IntKind.u64.wrap (wrap64 (x20_2+x21_2)))/2))).f1.f1) ((rd_T65 l0 (wrap64 ((IntKind.u64.wrap (wrap64 (x20_2+x21_2)))/2))).f2)).bind fun t224=>(if t224<0 then(api_Turn_107.l4 k2 l0 a1 a2 a3 a4 gm_ gn_ x20_2 (wrap64 ((IntKind.u64.wrap (wrap64 (x20_2+x21_2)))/2)) (wrap64 (gn_-1))) else(api_Turn_107.l4 k2 l0 a1 a2 a3 a4 gm_ gn_ (wrap64 ((wrap64 ((IntKind.u64.wrap (wrap64 (x20_2+x21_2)))/2))+1)) x21_2 (wrap64 (gn_-1))))) else(none)) else(none)) else(none)) else(none))=some r:=by first|(rw[hji63] at H;exact H)|(simp only[hji63] at H⊢;exact H)
        have hji63w:(IntKind.i64.wrap ((wrap64 (gn_-1))-(wrap64 ((IntKind.u64.wrap (wrap64 (x20_2+x21_2)))/2))))=ji63:=(i64_w _).trans hji63
        obtain⟨c64,H⟩:=gd_ H
        have c64b0:=zO c64
        clear c64
        obtain⟨c65,H⟩:=gd_ H
        have c65b0:=zO c65
        clear c65
        obtain⟨ji66,hji66⟩: ∃j_:Int,(wrap64 ((IntKind.u64.wrap (wrap64 (x20_2+x21_2)))/2))=j_:=⟨_,rfl⟩
        replace H:(if 0≤(ji66) then(if(ji66)<(l0.length:Int) then((due_Order_1.f k2 ((rd_T65 l0 (ji63)).f0) ((rd_T65 l0 (ji63)).f1.f0) ((rd_T65 l0 (ji63)).f1.f1) ((rd_T65 l0 (ji63)).f2) ((rd_T65 l0 (ji66)).f0) ((rd_T65 l0 (ji66)).f1.f0) ((rd_T65 l0 (ji66)).f1.f1) ((rd_T65 l0 (ji66)).f2)).bind fun t224=>(if t224<0 then(api_Turn_107.l4 k2 l0 a1 a2 a3 a4 gm_ gn_ x20_2 ji66 (wrap64 (gn_-1))) else(api_Turn_107.l4 k2 l0 a1 a2 a3 a4 gm_ gn_ (wrap64 ((ji66)+1)) x21_2 (wrap64 (gn_-1))))) else(none)) else(none))=some r:=by first|(rw[hji66] at H;exact H)|(simp only[hji66] at H⊢;exact H)
        have hji66w:(IntKind.i64.wrap ((IntKind.u64.wrap (wrap64 (x20_2+x21_2)))/2))=ji66:=(i64_w _).trans hji66
        (try rw[hji66] at hji63 hji63w)
        obtain⟨c67,H⟩:=gd_ H
        have c67b0:=zO c67
        clear c67
        obtain⟨c68,H⟩:=gd_ H
        have c68b0:=zO c68
        clear c68
        replace H:=zL H
        obtain⟨t224,A690,H⟩:=H
        try dsimp only at H
        have A69:=zB A690
        clear A690
        by_cases c70:t224<0
        ·rw[if_pos c70] at H
         have c70b0:=zO c70
         clear c70
         have H':=zB H
         clear H
         try go_wp2
         replace HO_0:=zB (Kd.R_drew HO_0.out)
         replace HK:=zB (Kept.drew HK.out)
         replace HB:=zB (zG HB.out)
         obtain⟨Ao72,co72,eo72⟩:=Kd.R_slice HO_0.out
         (first|subst eo72|(injection eo72 with f1_ f2_ f3_;have f4_:=f1_.symm;have f5_:=f3_.symm;clear f1_ f2_ f3_;subst f4_;subst f5_))
         have p222:0≤((ji63):Int):=zJ as_
         have q222:(ji63)<(l0.length:Int):=zJ as_
         obtain⟨ad222,e222,hx222_0,hx222_1,hx222_2,hx222_3⟩:=at_T65 (zd HO_0.out).2.2 (ji63) p222 q222
         cases e222
         replace p222:=eq_true p222
         replace q222:=eq_true q222
         have p223:0≤((ji66):Int):=zJ as_
         have q223:(ji66)<(l0.length:Int):=zJ as_
         obtain⟨ad223,e223,hx223_0,hx223_1,hx223_2,hx223_3⟩:=at_T65 (zd HO_0.out).2.2 (ji66) p223 q223
         obtain rfl:ad222=ad223:=(by injection e223)
         replace p223:=eq_true p223
         replace q223:=eq_true q223
         refine start_ (n:=14) (S:=fun w'=>w'.cell? (ad222.add (((ji63)).toNat*4))=some (.int .i64 ((rd_T65 l0 (ji63)).f0))∧w'.cell? ⟨(ad222.add (((ji63)).toNat*4)).block,(ad222.add (((ji63)).toNat*4)).off+1,none⟩=some (.int .i64 ((rd_T65 l0 (ji63)).f1.f0))∧w'.cell? ⟨(ad222.add (((ji63)).toNat*4)).block,(ad222.add (((ji63)).toNat*4)).off+2,none⟩=some (.int .i64 ((rd_T65 l0 (ji63)).f1.f1))∧w'.cell? ⟨(ad222.add (((ji63)).toNat*4)).block,(ad222.add (((ji63)).toNat*4)).off+3,none⟩=some (.int .i64 ((rd_T65 l0 (ji63)).f2))∧w'.cell? (ad222.add (((ji66)).toNat*4))=some (.int .i64 ((rd_T65 l0 (ji66)).f0))∧w'.cell? ⟨(ad222.add (((ji66)).toNat*4)).block,(ad222.add (((ji66)).toNat*4)).off+1,none⟩=some (.int .i64 ((rd_T65 l0 (ji66)).f1.f0))∧w'.cell? ⟨(ad222.add (((ji66)).toNat*4)).block,(ad222.add (((ji66)).toNat*4)).off+2,none⟩=some (.int .i64 ((rd_T65 l0 (ji66)).f1.f1))∧w'.cell? ⟨(ad222.add (((ji66)).toNat*4)).block,(ad222.add (((ji66)).toNat*4)).off+3,none⟩=some (.int .i64 ((rd_T65 l0 (ji66)).f2))) (ds:=[]) (bt_ 0 14) (by kernel_rfl) rfl rfl ⟨hx222_0,hx222_1,hx222_2,hx222_3,hx223_0,hx223_1,hx223_2,hx223_3⟩ (fun hHeld=>?_);refine with_tabW api_Turn_107.tab35 api_Turn_107.bits35 (fun HT_ HW_=>?_)
         generalize wr.drew=w71 at HO_0 HK HB hx222_0 hx222_1 hx222_2 hx222_3 hx223_0 hx223_1 hx223_2 hx223_3 hHeld⊢
         have Q_:=Qs.mk (n:=14) [(0,0,158,1),(0,1,159,3),(0,2,160,7),(0,3,161,15),(0,4,162,31),(0,5,163,63),(0,7,165,191),(0,8,166,447),(0,9,167,959),(2,6,164,1023),(2,10,168,2047)]
         iterate 11 (first|(refine pq_ Q_ ?_;replace Q_:=qt_ Q_)|(refine tq_ Q_ hHeld ?_;replace Q_:=qt_ Q_))
         clear Q_
         refine one_ (i:=11) (N:=some 169) (dn_ 12 14) rfl rfl (one_of HT_.out (by kernel_rfl)) (by decide) (fun K hK=>?_)
         refine goesV_ Try.func79 (by kernel_rfl) rfl #[.agg #[.int .i64 ((rd_T65 l0 (ji63)).f0),.int .i64 ((rd_T65 l0 (ji63)).f1.f0),.int .i64 ((rd_T65 l0 (ji63)).f1.f1),.int .i64 ((rd_T65 l0 (ji63)).f2)],.agg #[.int .i64 ((rd_T65 l0 (ji66)).f0),.int .i64 ((rd_T65 l0 (ji66)).f1.f0),.int .i64 ((rd_T65 l0 (ji66)).f1.f1),.int .i64 ((rd_T65 l0 (ji66)).f2)]] (by rfl) rfl rfl (by(try simp only[zM,zS,zV]);first|done|(simp only[hji63,hji66];rfl)|rfl|(simp only[zR,zP];rfl)) (by rfl) ?_
         with_reducible refine(due_Order_1.calls k2 ((rd_T65 l0 (ji63)).f0) ((rd_T65 l0 (ji63)).f1.f0) ((rd_T65 l0 (ji63)).f1.f1) ((rd_T65 l0 (ji63)).f2) ((rd_T65 l0 (ji66)).f0) ((rd_T65 l0 (ji66)).f1.f0) ((rd_T65 l0 (ji66)).f1.f1) ((rd_T65 l0 (ji66)).f2) t224 _ A69.out).mono ?_
         rintro e w73 ⟨rfl,hb⟩
         have HS0_:=(hb.cell (zA _ _ (hHeld.1))).trans (hHeld.1)
         have HS1_:=(hb.cell (zA _ _ (hHeld.2.1))).trans (hHeld.2.1)
         have HS2_:=(hb.cell (zA _ _ (hHeld.2.2.1))).trans (hHeld.2.2.1)
         have HS3_:=(hb.cell (zA _ _ (hHeld.2.2.2.1))).trans (hHeld.2.2.2.1)
         have HS4_:=(hb.cell (zA _ _ (hHeld.2.2.2.2.1))).trans (hHeld.2.2.2.2.1)
         have HS5_:=(hb.cell (zA _ _ (hHeld.2.2.2.2.2.1))).trans (hHeld.2.2.2.2.2.1)
         have HS6_:=(hb.cell (zA _ _ (hHeld.2.2.2.2.2.2.1))).trans (hHeld.2.2.2.2.2.2.1)
         have HS7_:=(hb.cell (zA _ _ (hHeld.2.2.2.2.2.2.2))).trans (hHeld.2.2.2.2.2.2.2)
         refine⟨_,rfl,?_⟩
         replace HO_0:=rb_ HO_0 hb
         replace HK:=zB (Kept.below (S:=(fun k_=>P0_ k_)) (kk_ HK) hb)
         replace HB:=zB (zQ HB.out hb)
         (try clear hb)
         (try clear hb2)
         (try clear hk)
         (try clear hi)
         refine hK.out _ _ ⟨HS0_,HS1_,HS2_,HS3_,HS4_,HS5_,HS6_,HS7_⟩ (fun hHeld=>?_)
         clear hK K
         refine norm_ (a':=?_) ?_ ?_
         rotate_left
         ·show Act.put _ (some 169) _=_
          simp only[Act.put,zE,zH,zI,i64_w,i32_w]
          rfl
         refine pure_ (i:=12) (N:=some 170) (v:=?_) (a':=?_) (dn_ 13 14) rfl rfl (any_of HT_.out (by kernel_rfl)) (fun _ _ _ h=>h) (Or.inl ⟨by rfl,?_⟩) ?_ ?_
         rotate_left
         ·intro w'
          go_simp
          with_reducible rfl
         rotate_left;(simp only[Act.put,zE,zH,zI,i64_w,i32_w];rfl)
         refine pure_ (i:=13) (N:=some 171) (v:=?_) (a':=?_) (bt_ 16383 14) rfl rfl (any_of HT_.out (by kernel_rfl)) (fun _ _ _ h=>h) (Or.inl ⟨by rfl,?_⟩) ?_ ?_
         rotate_left
         ·intro w'
          go_simp
          with_reducible rfl
         rotate_left;(simp only[Act.put,zE,zH,zI,i64_w,i32_w];rfl)
         refine done_ (done_of HT_.out (by kernel_rfl)) ?_
         try go_wp2
         go_roundg k2
         case measure=>have:=HJ59.out;have:=HK2.out;omega
         case rel=>exact⟨(x20_2),(ji66),rs_,(by first|rfl|(simp;done)|(simp only[←hji66]<;>(first|rfl|simp))|(simp[*];done)),H',⟨by have:=HJ59.out;have:=HK2.out;omega⟩,⟨kr_ HO_0⟩,⟨kk_ HK⟩,⟨hb_ HB⟩⟩
        ·rw[if_neg c70] at H
         have c70b0:=zY c70
         clear c70
         have H':=zB H
         clear H
         try go_wp2
         replace HO_0:=zB (Kd.R_drew HO_0.out)
         replace HK:=zB (Kept.drew HK.out)
         replace HB:=zB (zG HB.out)
         obtain⟨Ao75,co75,eo75⟩:=Kd.R_slice HO_0.out
         (first|subst eo75|(injection eo75 with f1_ f2_ f3_;have f4_:=f1_.symm;have f5_:=f3_.symm;clear f1_ f2_ f3_;subst f4_;subst f5_))
         have p222:0≤((ji63):Int):=zJ as_
         have q222:(ji63)<(l0.length:Int):=zJ as_
         obtain⟨ad222,e222,hx222_0,hx222_1,hx222_2,hx222_3⟩:=at_T65 (zd HO_0.out).2.2 (ji63) p222 q222
         cases e222
         replace p222:=eq_true p222
         replace q222:=eq_true q222
         have p223:0≤((ji66):Int):=zJ as_
         have q223:(ji66)<(l0.length:Int):=zJ as_
         obtain⟨ad223,e223,hx223_0,hx223_1,hx223_2,hx223_3⟩:=at_T65 (zd HO_0.out).2.2 (ji66) p223 q223
         obtain rfl:ad222=ad223:=(by injection e223)
         replace p223:=eq_true p223
         replace q223:=eq_true q223
         refine start_ (n:=14) (S:=fun w'=>w'.cell? (ad222.add (((ji63)).toNat*4))=some (.int .i64 ((rd_T65 l0 (ji63)).f0))∧w'.cell? ⟨(ad222.add (((ji63)).toNat*4)).block,(ad222.add (((ji63)).toNat*4)).off+1,none⟩=some (.int .i64 ((rd_T65 l0 (ji63)).f1.f0))∧w'.cell? ⟨(ad222.add (((ji63)).toNat*4)).block,(ad222.add (((ji63)).toNat*4)).off+2,none⟩=some (.int .i64 ((rd_T65 l0 (ji63)).f1.f1))∧w'.cell? ⟨(ad222.add (((ji63)).toNat*4)).block,(ad222.add (((ji63)).toNat*4)).off+3,none⟩=some (.int .i64 ((rd_T65 l0 (ji63)).f2))∧w'.cell? (ad222.add (((ji66)).toNat*4))=some (.int .i64 ((rd_T65 l0 (ji66)).f0))∧w'.cell? ⟨(ad222.add (((ji66)).toNat*4)).block,(ad222.add (((ji66)).toNat*4)).off+1,none⟩=some (.int .i64 ((rd_T65 l0 (ji66)).f1.f0))∧w'.cell? ⟨(ad222.add (((ji66)).toNat*4)).block,(ad222.add (((ji66)).toNat*4)).off+2,none⟩=some (.int .i64 ((rd_T65 l0 (ji66)).f1.f1))∧w'.cell? ⟨(ad222.add (((ji66)).toNat*4)).block,(ad222.add (((ji66)).toNat*4)).off+3,none⟩=some (.int .i64 ((rd_T65 l0 (ji66)).f2))) (ds:=[]) (bt_ 0 14) (by kernel_rfl) rfl rfl ⟨hx222_0,hx222_1,hx222_2,hx222_3,hx223_0,hx223_1,hx223_2,hx223_3⟩ (fun hHeld=>?_);refine with_tabW api_Turn_107.tab35 api_Turn_107.bits35 (fun HT_ HW_=>?_)
         generalize wr.drew=w74 at HO_0 HK HB hx222_0 hx222_1 hx222_2 hx222_3 hx223_0 hx223_1 hx223_2 hx223_3 hHeld⊢
         have Q_:=Qs.mk (n:=14) [(0,0,158,1),(0,1,159,3),(0,2,160,7),(0,3,161,15),(0,4,162,31),(0,5,163,63),(0,7,165,191),(0,8,166,447),(0,9,167,959),(2,6,164,1023),(2,10,168,2047)]
         iterate 11 (first|(refine pq_ Q_ ?_;replace Q_:=qt_ Q_)|(refine tq_ Q_ hHeld ?_;replace Q_:=qt_ Q_))
         clear Q_
         refine one_ (i:=11) (N:=some 169) (dn_ 12 14) rfl rfl (one_of HT_.out (by kernel_rfl)) (by decide) (fun K hK=>?_)
         refine goesV_ Try.func79 (by kernel_rfl) rfl #[.agg #[.int .i64 ((rd_T65 l0 (ji63)).f0),.int .i64 ((rd_T65 l0 (ji63)).f1.f0),.int .i64 ((rd_T65 l0 (ji63)).f1.f1),.int .i64 ((rd_T65 l0 (ji63)).f2)],.agg #[.int .i64 ((rd_T65 l0 (ji66)).f0),.int .i64 ((rd_T65 l0 (ji66)).f1.f0),.int .i64 ((rd_T65 l0 (ji66)).f1.f1),.int .i64 ((rd_T65 l0 (ji66)).f2)]] (by rfl) rfl rfl (by(try simp only[zM,zS,zV]);first|done|(simp only[hji63,hji66];rfl)|rfl|(simp only[zR,zP];rfl)) (by rfl) ?_
         with_reducible refine(due_Order_1.calls k2 ((rd_T65 l0 (ji63)).f0) ((rd_T65 l0 (ji63)).f1.f0) ((rd_T65 l0 (ji63)).f1.f1) ((rd_T65 l0 (ji63)).f2) ((rd_T65 l0 (ji66)).f0) ((rd_T65 l0 (ji66)).f1.f0) ((rd_T65 l0 (ji66)).f1.f1) ((rd_T65 l0 (ji66)).f2) t224 _ A69.out).mono ?_
         rintro e w76 ⟨rfl,hb⟩
         have HS0_:=(hb.cell (zA _ _ (hHeld.1))).trans (hHeld.1)
         have HS1_:=(hb.cell (zA _ _ (hHeld.2.1))).trans (hHeld.2.1)
         have HS2_:=(hb.cell (zA _ _ (hHeld.2.2.1))).trans (hHeld.2.2.1)
         have HS3_:=(hb.cell (zA _ _ (hHeld.2.2.2.1))).trans (hHeld.2.2.2.1)
         have HS4_:=(hb.cell (zA _ _ (hHeld.2.2.2.2.1))).trans (hHeld.2.2.2.2.1)
         have HS5_:=(hb.cell (zA _ _ (hHeld.2.2.2.2.2.1))).trans (hHeld.2.2.2.2.2.1)
         have HS6_:=(hb.cell (zA _ _ (hHeld.2.2.2.2.2.2.1))).trans (hHeld.2.2.2.2.2.2.1)
         have HS7_:=(hb.cell (zA _ _ (hHeld.2.2.2.2.2.2.2))).trans (hHeld.2.2.2.2.2.2.2)
         refine⟨_,rfl,?_⟩
         replace HO_0:=rb_ HO_0 hb
         replace HK:=zB (Kept.below (S:=(fun k_=>P0_ k_)) (kk_ HK) hb)
         replace HB:=zB (zQ HB.out hb)
         (try clear hb)
         (try clear hb2)
         (try clear hk)
         (try clear hi)
         refine hK.out _ _ ⟨HS0_,HS1_,HS2_,HS3_,HS4_,HS5_,HS6_,HS7_⟩ (fun hHeld=>?_)
         clear hK K
         refine norm_ (a':=?_) ?_ ?_
         rotate_left
         ·show Act.put _ (some 169) _=_
          simp only[Act.put,zE,zH,zI,i64_w,i32_w]
          rfl
         refine pure_ (i:=12) (N:=some 170) (v:=?_) (a':=?_) (dn_ 13 14) rfl rfl (any_of HT_.out (by kernel_rfl)) (fun _ _ _ h=>h) (Or.inl ⟨by rfl,?_⟩) ?_ ?_
         rotate_left
         ·intro w'
          go_simp
          with_reducible rfl
         rotate_left;(simp only[Act.put,zE,zH,zI,i64_w,i32_w];rfl)
         refine pure_ (i:=13) (N:=some 171) (v:=?_) (a':=?_) (bt_ 16383 14) rfl rfl (any_of HT_.out (by kernel_rfl)) (fun _ _ _ h=>h) (Or.inl ⟨by rfl,?_⟩) ?_ ?_
         rotate_left
         ·intro w'
          go_simp
          with_reducible rfl
         rotate_left;(simp only[Act.put,zE,zH,zI,i64_w,i32_w];rfl)
         refine done_ (done_of HT_.out (by kernel_rfl)) ?_
         try go_wp2
         go_roundg k2
         case measure=>have:=HJ59.out;have:=HK2.out;omega
         case rel=>exact⟨(wrap64 ((ji66)+1)),(x21_2),(by first|rfl|(simp;done)|(simp only[←hji66]<;>(first|rfl|simp))|(simp[*];done)),rs_,H',⟨by have:=HJ59.out;have:=HK2.out;omega⟩,⟨kr_ HO_0⟩,⟨kk_ HK⟩,⟨hb_ HB⟩⟩
       ·rw[if_neg c62] at H
        have c62b0:=zY c62
        clear c62
        have HC77:=zB H
        clear H
        go_upto_region 39 with(fail)
        go_cut [185] (fun v185 wc=> ∃(kq:Nat) (x185_76:Bool),v185=.bool x185_76∧Aside0 (api_Turn_107.j6 kq l0 a1 a2 a3 a4 gm_ x20_2 (wrap64 (gn_-x20_2)) x185_76=some r)∧Aside0 (kq≤k2)∧Aside0 (Kd.R k65 65 wc w0.heap.size (fun k_=>(P0_ k_∨w.heap.size≤k_)) u9000_ l0)∧Aside0 (Kept w wc (fun k_=>P0_ k_))∧Aside0 (Below w0.heap.size w0 wc))
        case first=>
         have H:=HC77.out
         clear HC77
         by_cases c78:x20_2<a2
         ·rw[if_pos c78] at H
          have c78b0:=zO c78
          clear c78
          (first|rw[c78b0]|(simp only[i64_w,i32_w];rw[c78b0])|skip)
          have H':=zB H
          clear H
          go_wp2
          go_meet
          case rel=>exact⟨_,(decide (a2<(wrap64 (gn_-x20_2)))),rs_,H',⟨by have:=HJ59.out;have:=HK2.out;first|omega|exact za _⟩,⟨kr_ HO_0⟩,⟨kk_ HK⟩,⟨hb_ HB⟩⟩
         ·rw[if_neg c78] at H
          have c78b0:=zY c78
          clear c78
          (first|rw[c78b0]|(simp only[i64_w,i32_w];rw[c78b0])|skip)
          have H':=zB H
          clear H
          go_wp2
          go_meet
          case rel=>exact⟨_,(false),rs_,H',⟨by have:=HJ59.out;have:=HK2.out;first|omega|exact za _⟩,⟨kr_ HO_0⟩,⟨kk_ HK⟩,⟨hb_ HB⟩⟩
        case rest=>
         as_aux_lemma=>
         clear HC77
         try clear c1;try clear c2;try clear p2;try clear q2;try clear hx2;try clear c3;try clear c4;try clear c5;try clear p5;try clear q5;try clear hx5;try clear hf5;try clear c6;try clear c6b0;try clear c6b1;try clear p6;try clear c7;try clear c7b0;try clear c9;try clear c9b0;try clear c10;try clear c10b0;try clear c11;try clear c11b0;try clear c12;try clear c12b0;try clear c14;try clear c14b0;try clear p20;try clear q20;try clear hx20;try clear c21;try clear c21b0;try clear p21;try clear q21;try clear hx21;try clear p22;try clear q22;try clear hx22;try clear c23;try clear c23b0;try clear c24;try clear c24b0;try clear c25;try clear c25b0;try clear c26;try clear c26b0;try clear c27;try clear p27;try clear q27;try clear hx27;try clear hf27;try clear c28;try clear p28;try clear q28;try clear hx28;try clear hf28;try clear c31;try clear c32;try clear c33;try clear c33b0;try clear c33b1;try clear c34;try clear c34b0;try clear c35;try clear c35b0;try clear c36;try clear c36b0;try clear c38;try clear c38b0;try clear c39;try clear c39b0;try clear c41;try clear c41b0;try clear c48;try clear c48b0;try clear c50;try clear c50b0;try clear c51;try clear c51b0;try clear c52;try clear c52b0;try clear c53;try clear c53b0;try clear c54;try clear p54;try clear q54;try clear hx54;try clear hf54;try clear c55;try clear p55;try clear q55;try clear hx55;try clear hf55;try clear c58;try clear c59;try clear c61;try clear c61b0;try clear c62;try clear c62b0;try clear c64;try clear c64b0;try clear p64;try clear c65;try clear c65b0;try clear c67;try clear c67b0;try clear c68;try clear c68b0;try clear c70;try clear c70b0;try clear c78;try clear c78b0;try clear hx208_0;try clear hx208_1;try clear hx208_2;try clear hx208_3;try clear hx209_0;try clear hx209_1;try clear hx209_2;try clear hx209_3;try clear hx211_0;try clear hx211_1;try clear hx211_2;try clear hx211_3;try clear hx212_0;try clear hx212_1;try clear hx212_2;try clear hx212_3;try clear hx215_0;try clear hx215_1;try clear hx215_2;try clear hx215_3;try clear hx216_0;try clear hx216_1;try clear hx216_2;try clear hx216_3;try clear hx218_0;try clear hx218_1;try clear hx218_2;try clear hx218_3;try clear hx219_0;try clear hx219_1;try clear hx219_2;try clear hx219_3;try clear hx222_0;try clear hx222_1;try clear hx222_2;try clear hx222_3;try clear hx223_0;try clear hx223_1;try clear hx223_2;try clear hx223_3;try clear hx27_0;try clear hx27_1;try clear hx27_2;try clear hx27_3;try clear hx28_0;try clear hx28_1;try clear hx28_2;try clear hx28_3;try clear hx54_0;try clear hx54_1;try clear hx54_2;try clear hx54_3;try clear hx55_0;try clear hx55_1;try clear hx55_2;try clear hx55_3;try clear p208;try clear p209;try clear p211;try clear p212;try clear p215;try clear p216;try clear p218;try clear p219;try clear p222;try clear p223;try clear q208;try clear q209;try clear q211;try clear q212;try clear q215;try clear q216;try clear q218;try clear q219;try clear q222;try clear q223
         obtain⟨kq,x185_76,rfl,HA,HJ76,HO_0,HK,HB⟩:=hcut
         cases kq with
         |zero=>exact absurd HA.out (by simp[api_Turn_107.j6])
         |succ kj76=>
          have H:=HA.out
          clear HA
          simp only[api_Turn_107.j6] at H
          have HC79:=zB H
          clear H
          go_upto_if 185 with(fail)
          go_cut [] (fun wc=> ∃(kq:Nat) (x0_78:List (S65)),Aside0 (api_Turn_107.j7 kq x0_78 a1 a3 a4 gm_ x20_2 (wrap64 (gn_-x20_2))=some r)∧Aside0 (kq≤kj76)∧Aside0 (Kd.R k65 65 wc w0.heap.size (fun k_=>(P0_ k_∨w.heap.size≤k_)) u9000_ x0_78)∧Aside0 (Kept w wc (fun k_=>P0_ k_))∧Aside0 (Below w0.heap.size w0 wc))
          case first=>
           have H:=HC79.out
           clear HC79
           by_cases c80:x185_76=true
           ·subst c80
            rw[if_pos rfl] at H;try dsimp only at H
            replace H:=zL H
            obtain⟨t225,A810,H⟩:=H
            try dsimp only at H
            have A81:=zB A810
            clear A810
            have H':=zB H
            clear H
            obtain⟨Ao82,co82,eo82⟩:=Kd.R_slice HO_0.out
            subst eo82
            go_wp2_with (first|((with_reducible refine gate_callee (f:=108) rfl ?_);refine gl_ (some 191) Try.func108 #[.slice Ao82 l0.length co82,.int .i64 x20_2,.int .i64 a2,.int .i64 (wrap64 (gn_-x20_2)),.func (.func 79) #[] #[]] rfl ?_;(with_reducible refine(api_Turn_108.calls kj76 (fun k_=>some k_=(.slice Ao82 l0.length co82:Value).ownBlock) (.slice Ao82 l0.length co82) l0 x20_2 a2 (wrap64 (gn_-x20_2)) a4 t225 w0 _ ?side1 ?side2 A81.out).mono ?_);(case side1=>repeat(first|(with_reducible first|exact HB.out|apply below_alloc|apply zF|apply zG)|exact HB.out));(case side2=>exact Kd.R_tight rfl HO_0.out);rintro e w83 ⟨rfl,hy0,hb,hkp⟩;refine⟨_,rfl,?_⟩;replace HK:=zB (Kept.then_ (S:=(fun k_=>P0_ k_)) (kk_ HK) hkp (fun k_ hs_=>(fun e_=>(HO_0.out.1 k_ e_.symm)) hs_));replace HO_0:=zB (Kd.R_reok rfl hy0 (fun k_ e_=>HO_0.out.1 k_ e_));replace HB:=zB (hb);(try clear hb);(try clear hkp);(try clear hy0)))
            go_meet
            case rel=>exact⟨_,(t225),H',⟨by have:=HJ59.out;have:=HK2.out;have:=HJ76.out;first|omega|exact za _⟩,⟨kr_ HO_0⟩,⟨kk_ HK⟩,⟨hb_ HB⟩⟩
           ·replace c80:=zb c80
            subst c80
            rw[if_neg (show ¬(false=true) by decide)] at H;try dsimp only at H
            have H':=zB H
            clear H
            go_wp2
            go_meet
            case rel=>exact⟨_,(l0),H',⟨by have:=HJ59.out;have:=HK2.out;have:=HJ76.out;first|omega|exact za _⟩,⟨kr_ HO_0⟩,⟨kk_ HK⟩,⟨hb_ HB⟩⟩
          case rest=>
           as_aux_lemma=>
           clear HC79
           try clear c1;try clear c2;try clear p2;try clear q2;try clear hx2;try clear c3;try clear c4;try clear c5;try clear p5;try clear q5;try clear hx5;try clear hf5;try clear c6;try clear c6b0;try clear c6b1;try clear p6;try clear c7;try clear c7b0;try clear c8;try clear c9;try clear c9b0;try clear c10;try clear c10b0;try clear c11;try clear c11b0;try clear c12;try clear c12b0;try clear c14;try clear c14b0;try clear p20;try clear q20;try clear hx20;try clear c21;try clear c21b0;try clear p21;try clear q21;try clear hx21;try clear p22;try clear q22;try clear hx22;try clear c23;try clear c23b0;try clear c24;try clear c24b0;try clear c25;try clear c25b0;try clear c26;try clear c26b0;try clear c27;try clear p27;try clear q27;try clear hx27;try clear hf27;try clear c28;try clear p28;try clear q28;try clear hx28;try clear hf28;try clear c31;try clear c32;try clear c33;try clear c33b0;try clear c33b1;try clear c34;try clear c34b0;try clear c35;try clear c35b0;try clear c36;try clear c36b0;try clear c38;try clear c38b0;try clear c39;try clear c39b0;try clear c41;try clear c41b0;try clear c48;try clear c48b0;try clear c50;try clear c50b0;try clear c51;try clear c51b0;try clear c52;try clear c52b0;try clear c53;try clear c53b0;try clear c54;try clear p54;try clear q54;try clear hx54;try clear hf54;try clear c55;try clear p55;try clear q55;try clear hx55;try clear hf55;try clear c58;try clear c59;try clear c61;try clear c61b0;try clear c62;try clear c62b0;try clear c64;try clear c64b0;try clear p64;try clear c65;try clear c65b0;try clear c67;try clear c67b0;try clear c68;try clear c68b0;try clear c70;try clear c70b0;try clear c78;try clear c78b0;try clear c79;try clear c80;try clear hx208_0;try clear hx208_1;try clear hx208_2;try clear hx208_3;try clear hx209_0;try clear hx209_1;try clear hx209_2;try clear hx209_3;try clear hx211_0;try clear hx211_1;try clear hx211_2;try clear hx211_3;try clear hx212_0;try clear hx212_1;try clear hx212_2;try clear hx212_3;try clear hx215_0;try clear hx215_1;try clear hx215_2;try clear hx215_3;try clear hx216_0;try clear hx216_1;try clear hx216_2;try clear hx216_3;try clear hx218_0;try clear hx218_1;try clear hx218_2;try clear hx218_3;try clear hx219_0;try clear hx219_1;try clear hx219_2;try clear hx219_3;try clear hx222_0;try clear hx222_1;try clear hx222_2;try clear hx222_3;try clear hx223_0;try clear hx223_1;try clear hx223_2;try clear hx223_3;try clear hx27_0;try clear hx27_1;try clear hx27_2;try clear hx27_3;try clear hx28_0;try clear hx28_1;try clear hx28_2;try clear hx28_3;try clear hx54_0;try clear hx54_1;try clear hx54_2;try clear hx54_3;try clear hx55_0;try clear hx55_1;try clear hx55_2;try clear hx55_3;try clear p208;try clear p209;try clear p211;try clear p212;try clear p215;try clear p216;try clear p218;try clear p219;try clear p222;try clear p223;try clear q208;try clear q209;try clear q211;try clear q212;try clear q215;try clear q216;try clear q218;try clear q219;try clear q222;try clear q223
           obtain⟨kq,x0_78,HA,HJ78,HO_0,HK,HB⟩:=hcut
           cases kq with
           |zero=>exact absurd HA.out (by simp[api_Turn_107.j7])
           |succ kj78=>
            have H:=HA.out
            clear HA
            simp only[api_Turn_107.j7] at H
            have HC84:=zB H
            clear H
            go_upto_region 41 with(fail)
            go_cut [199] (fun v199 wc=> ∃(kq:Nat) (x199_83:Bool),v199=.bool x199_83∧Aside0 (api_Turn_107.j8 kq x0_78 a1 a3 a4 gm_ x20_2 (wrap64 (gn_-x20_2)) x199_83=some r)∧Aside0 (kq≤kj78)∧Aside0 (Kd.R k65 65 wc w0.heap.size (fun k_=>(P0_ k_∨w.heap.size≤k_)) u9000_ x0_78)∧Aside0 (Kept w wc (fun k_=>P0_ k_))∧Aside0 (Below w0.heap.size w0 wc))
            case first=>
             have H:=HC84.out
             clear HC84
             by_cases c85:a1<x20_2
             ·rw[if_pos c85] at H
              have c85b0:=zO c85
              clear c85
              (first|rw[c85b0]|(simp only[i64_w,i32_w];rw[c85b0])|skip)
              have H':=zB H
              clear H
              go_wp2
              go_meet
              case rel=>exact⟨_,(decide (x20_2<gm_)),rs_,H',⟨by have:=HJ59.out;have:=HK2.out;have:=HJ76.out;have:=HJ78.out;first|omega|exact za _⟩,⟨kr_ HO_0⟩,⟨kk_ HK⟩,⟨hb_ HB⟩⟩
             ·rw[if_neg c85] at H
              have c85b0:=zY c85
              clear c85
              (first|rw[c85b0]|(simp only[i64_w,i32_w];rw[c85b0])|skip)
              have H':=zB H
              clear H
              go_wp2
              go_meet
              case rel=>exact⟨_,(false),rs_,H',⟨by have:=HJ59.out;have:=HK2.out;have:=HJ76.out;have:=HJ78.out;first|omega|exact za _⟩,⟨kr_ HO_0⟩,⟨kk_ HK⟩,⟨hb_ HB⟩⟩
            case rest=>
             as_aux_lemma=>
             clear HC84
             try clear c1;try clear c2;try clear p2;try clear q2;try clear hx2;try clear c3;try clear c4;try clear c5;try clear p5;try clear q5;try clear hx5;try clear hf5;try clear c6;try clear c6b0;try clear c6b1;try clear p6;try clear c7;try clear c7b0;try clear c8;try clear c9;try clear c9b0;try clear c10;try clear c10b0;try clear c11;try clear c11b0;try clear c12;try clear c12b0;try clear c14;try clear c14b0;try clear p20;try clear q20;try clear hx20;try clear c21;try clear c21b0;try clear p21;try clear q21;try clear hx21;try clear p22;try clear q22;try clear hx22;try clear c23;try clear c23b0;try clear c24;try clear c24b0;try clear c25;try clear c25b0;try clear c26;try clear c26b0;try clear c27;try clear p27;try clear q27;try clear hx27;try clear hf27;try clear c28;try clear p28;try clear q28;try clear hx28;try clear hf28;try clear c31;try clear c32;try clear c33;try clear c33b0;try clear c33b1;try clear c34;try clear c34b0;try clear c35;try clear c35b0;try clear c36;try clear c36b0;try clear c38;try clear c38b0;try clear c39;try clear c39b0;try clear c41;try clear c41b0;try clear c48;try clear c48b0;try clear c50;try clear c50b0;try clear c51;try clear c51b0;try clear c52;try clear c52b0;try clear c53;try clear c53b0;try clear c54;try clear p54;try clear q54;try clear hx54;try clear hf54;try clear c55;try clear p55;try clear q55;try clear hx55;try clear hf55;try clear c58;try clear c59;try clear c61;try clear c61b0;try clear c62;try clear c62b0;try clear c64;try clear c64b0;try clear p64;try clear c65;try clear c65b0;try clear c67;try clear c67b0;try clear c68;try clear c68b0;try clear c70;try clear c70b0;try clear c78;try clear c78b0;try clear c79;try clear c80;try clear c85;try clear c85b0;try clear hx208_0;try clear hx208_1;try clear hx208_2;try clear hx208_3;try clear hx209_0;try clear hx209_1;try clear hx209_2;try clear hx209_3;try clear hx211_0;try clear hx211_1;try clear hx211_2;try clear hx211_3;try clear hx212_0;try clear hx212_1;try clear hx212_2;try clear hx212_3;try clear hx215_0;try clear hx215_1;try clear hx215_2;try clear hx215_3;try clear hx216_0;try clear hx216_1;try clear hx216_2;try clear hx216_3;try clear hx218_0;try clear hx218_1;try clear hx218_2;try clear hx218_3;try clear hx219_0;try clear hx219_1;try clear hx219_2;try clear hx219_3;try clear hx222_0;try clear hx222_1;try clear hx222_2;try clear hx222_3;try clear hx223_0;try clear hx223_1;try clear hx223_2;try clear hx223_3;try clear hx27_0;try clear hx27_1;try clear hx27_2;try clear hx27_3;try clear hx28_0;try clear hx28_1;try clear hx28_2;try clear hx28_3;try clear hx54_0;try clear hx54_1;try clear hx54_2;try clear hx54_3;try clear hx55_0;try clear hx55_1;try clear hx55_2;try clear hx55_3;try clear p208;try clear p209;try clear p211;try clear p212;try clear p215;try clear p216;try clear p218;try clear p219;try clear p222;try clear p223;try clear q208;try clear q209;try clear q211;try clear q212;try clear q215;try clear q216;try clear q218;try clear q219;try clear q222;try clear q223
             obtain⟨kq,x199_83,rfl,HA,HJ83,HO_0,HK,HB⟩:=hcut
             cases kq with
             |zero=>exact absurd HA.out (by simp[api_Turn_107.j8])
             |succ kj83=>
              have H:=HA.out
              clear HA
              simp only[api_Turn_107.j8] at H
              have HC86:=zB H
              clear H
              go_upto_if 199 with(fail)
              go_cut [] (fun wc=> ∃(kq:Nat) (x0_85:List (S65)),Aside0 (api_Turn_107.j9 kq x0_85 a3 a4 gm_ (wrap64 (gn_-x20_2))=some r)∧Aside0 (kq≤kj83)∧Aside0 (Kd.R k65 65 wc w0.heap.size (fun k_=>(P0_ k_∨w.heap.size≤k_)) u9000_ x0_85)∧Aside0 (Kept w wc (fun k_=>P0_ k_))∧Aside0 (Below w0.heap.size w0 wc))
              case first=>
               have H:=HC86.out
               clear HC86
               by_cases c87:x199_83=true
               ·subst c87
                rw[if_pos rfl] at H;try dsimp only at H
                replace H:=zL H
                obtain⟨t226,A880,H⟩:=H
                try dsimp only at H
                have A88:=zB A880
                clear A880
                have H':=zB H
                clear H
                obtain⟨Ao89,co89,eo89⟩:=Kd.R_slice HO_0.out
                subst eo89
                go_wp2_with (first|((with_reducible refine gate_callee (f:=107) rfl ?_);refine gl_ (some 205) Try.func107 #[.slice Ao89 x0_78.length co89,.int .i64 a1,.int .i64 x20_2,.int .i64 gm_,.func (.func 79) #[] #[]] rfl ?_;(with_reducible refine(ih kj83 (by have:=HJ59.out;have:=HK2.out;have:=HJ76.out;have:=HJ78.out;have:=HJ83.out;omega) (fun k_=>some k_=(.slice Ao89 x0_78.length co89:Value).ownBlock) (.slice Ao89 x0_78.length co89) x0_78 a1 x20_2 gm_ a4 t226 w0 _ ?side1 ?side2 A88.out).mono ?_);(case side1=>repeat(first|(with_reducible first|exact HB.out|apply below_alloc|apply zF|apply zG)|exact HB.out));(case side2=>exact Kd.R_tight rfl HO_0.out);rintro e w90 ⟨rfl,hy0,hb,hkp⟩;refine⟨_,rfl,?_⟩;replace HK:=zB (Kept.then_ (S:=(fun k_=>P0_ k_)) (kk_ HK) hkp (fun k_ hs_=>(fun e_=>(HO_0.out.1 k_ e_.symm)) hs_));replace HO_0:=zB (Kd.R_reok rfl hy0 (fun k_ e_=>HO_0.out.1 k_ e_));replace HB:=zB (hb);(try clear hb);(try clear hkp);(try clear hy0)))
                go_meet
                case rel=>exact⟨_,(t226),H',⟨by have:=HJ59.out;have:=HK2.out;have:=HJ76.out;have:=HJ78.out;have:=HJ83.out;first|omega|exact za _⟩,⟨kr_ HO_0⟩,⟨kk_ HK⟩,⟨hb_ HB⟩⟩
               ·replace c87:=zb c87
                subst c87
                rw[if_neg (show ¬(false=true) by decide)] at H;try dsimp only at H
                have H':=zB H
                clear H
                go_wp2
                go_meet
                case rel=>exact⟨_,(x0_78),H',⟨by have:=HJ59.out;have:=HK2.out;have:=HJ76.out;have:=HJ78.out;have:=HJ83.out;first|omega|exact za _⟩,⟨kr_ HO_0⟩,⟨kk_ HK⟩,⟨hb_ HB⟩⟩
              case rest=>
               as_aux_lemma=>
               clear HC86
               try clear c1;try clear c2;try clear p2;try clear q2;try clear hx2;try clear c3;try clear c4;try clear c5;try clear p5;try clear q5;try clear hx5;try clear hf5;try clear c6;try clear c6b0;try clear c6b1;try clear p6;try clear c7;try clear c7b0;try clear c8;try clear c9;try clear c9b0;try clear c10;try clear c10b0;try clear c11;try clear c11b0;try clear c12;try clear c12b0;try clear c14;try clear c14b0;try clear p20;try clear q20;try clear hx20;try clear c21;try clear c21b0;try clear p21;try clear q21;try clear hx21;try clear p22;try clear q22;try clear hx22;try clear c23;try clear c23b0;try clear c24;try clear c24b0;try clear c25;try clear c25b0;try clear c26;try clear c26b0;try clear c27;try clear p27;try clear q27;try clear hx27;try clear hf27;try clear c28;try clear p28;try clear q28;try clear hx28;try clear hf28;try clear c31;try clear c32;try clear c33;try clear c33b0;try clear c33b1;try clear c34;try clear c34b0;try clear c35;try clear c35b0;try clear c36;try clear c36b0;try clear c38;try clear c38b0;try clear c39;try clear c39b0;try clear c41;try clear c41b0;try clear c48;try clear c48b0;try clear c50;try clear c50b0;try clear c51;try clear c51b0;try clear c52;try clear c52b0;try clear c53;try clear c53b0;try clear c54;try clear p54;try clear q54;try clear hx54;try clear hf54;try clear c55;try clear p55;try clear q55;try clear hx55;try clear hf55;try clear c58;try clear c59;try clear c61;try clear c61b0;try clear c62;try clear c62b0;try clear c64;try clear c64b0;try clear p64;try clear c65;try clear c65b0;try clear c67;try clear c67b0;try clear c68;try clear c68b0;try clear c70;try clear c70b0;try clear c78;try clear c78b0;try clear c79;try clear c80;try clear c85;try clear c85b0;try clear c87;try clear hx208_0;try clear hx208_1;try clear hx208_2;try clear hx208_3;try clear hx209_0;try clear hx209_1;try clear hx209_2;try clear hx209_3;try clear hx211_0;try clear hx211_1;try clear hx211_2;try clear hx211_3;try clear hx212_0;try clear hx212_1;try clear hx212_2;try clear hx212_3;try clear hx215_0;try clear hx215_1;try clear hx215_2;try clear hx215_3;try clear hx216_0;try clear hx216_1;try clear hx216_2;try clear hx216_3;try clear hx218_0;try clear hx218_1;try clear hx218_2;try clear hx218_3;try clear hx219_0;try clear hx219_1;try clear hx219_2;try clear hx219_3;try clear hx222_0;try clear hx222_1;try clear hx222_2;try clear hx222_3;try clear hx223_0;try clear hx223_1;try clear hx223_2;try clear hx223_3;try clear hx27_0;try clear hx27_1;try clear hx27_2;try clear hx27_3;try clear hx28_0;try clear hx28_1;try clear hx28_2;try clear hx28_3;try clear hx54_0;try clear hx54_1;try clear hx54_2;try clear hx54_3;try clear hx55_0;try clear hx55_1;try clear hx55_2;try clear hx55_3;try clear p208;try clear p209;try clear p211;try clear p212;try clear p215;try clear p216;try clear p218;try clear p219;try clear p222;try clear p223;try clear q208;try clear q209;try clear q211;try clear q212;try clear q215;try clear q216;try clear q218;try clear q219;try clear q222;try clear q223
               obtain⟨kq,x0_85,HA,HJ85,HO_0,HK,HB⟩:=hcut
               cases kq with
               |zero=>exact absurd HA.out (by simp[api_Turn_107.j9])
               |succ kj85=>
                have H:=HA.out
                clear HA
                simp only[api_Turn_107.j9] at H
                by_cases c91:gm_<(wrap64 (gn_-x20_2))
                ·rw[if_pos c91] at H
                 have c91b0:=zO c91
                 clear c91
                 by_cases c92:(wrap64 (gn_-x20_2))<a3
                 ·rw[if_pos c92] at H
                  have c92b0:=zO c92
                  clear c92
                  replace H:=zL H
                  obtain⟨t227,A930,H⟩:=H
                  try dsimp only at H
                  have A93:=zB A930
                  clear A930
                  obtain rfl:=zW H
                  obtain⟨Ao94,co94,eo94⟩:=Kd.R_slice HO_0.out
                  subst eo94
                  go_wp2_with (first|((with_reducible refine gate_callee (f:=107) rfl ?_);refine gl_ (some 219) Try.func107 #[.slice Ao94 x0_85.length co94,.int .i64 gm_,.int .i64 (wrap64 (gn_-x20_2)),.int .i64 a3,.func (.func 79) #[] #[]] rfl ?_;(with_reducible refine(ih kj85 (by have:=HJ59.out;have:=HK2.out;have:=HJ76.out;have:=HJ78.out;have:=HJ83.out;have:=HJ85.out;omega) (fun k_=>some k_=(.slice Ao94 x0_85.length co94:Value).ownBlock) (.slice Ao94 x0_85.length co94) x0_85 gm_ (wrap64 (gn_-x20_2)) a3 a4 t227 w0 _ ?side1 ?side2 A93.out).mono ?_);(case side1=>repeat(first|(with_reducible first|exact HB.out|apply below_alloc|apply zF|apply zG)|exact HB.out));(case side2=>exact Kd.R_tight rfl HO_0.out);rintro e w95 ⟨rfl,hy0,hb,hkp⟩;refine⟨_,rfl,?_⟩;replace HK:=zB (Kept.then_ (S:=(fun k_=>P0_ k_)) (kk_ HK) hkp (fun k_ hs_=>(fun e_=>(HO_0.out.1 k_ e_.symm)) hs_));replace HO_0:=zB (Kd.R_reok rfl hy0 (fun k_ e_=>HO_0.out.1 k_ e_));replace HB:=zB (hb);(try clear hb);(try clear hkp);(try clear hy0)))
                  first|go_end0|((try simp only[Exit.inBlock,Exit.then]);refine bodyPost_ret (results_none rfl _ _ _) rfl ?_)
                  exact⟨ew_,by(with_reducible repeat(first|apply Kd.R_alloc|apply Kd.R_drewN|apply Kd.R_drew));exact HO_0.out,hb_ HB,kk_ HK⟩
                 ·rw[if_neg c92] at H
                  have c92b0:=zY c92
                  clear c92
                  obtain rfl:=zW H
                  go_wp2
                  first|go_end0|((try simp only[Exit.inBlock,Exit.then]);refine bodyPost_ret (results_none rfl _ _ _) rfl ?_)
                  exact⟨ew_,by(with_reducible repeat(first|apply Kd.R_alloc|apply Kd.R_drewN|apply Kd.R_drew));exact HO_0.out,hb_ HB,kk_ HK⟩
                ·rw[if_neg c91] at H
                 have c91b0:=zY c91
                 clear c91
                 obtain rfl:=zW H
                 go_wp2
                 first|go_end0|((try simp only[Exit.inBlock,Exit.then]);refine bodyPost_ret (results_none rfl _ _ _) rfl ?_)
                 exact⟨ew_,by(with_reducible repeat(first|apply Kd.R_alloc|apply Kd.R_drewN|apply Kd.R_drew));exact HO_0.out,hb_ HB,kk_ HK⟩
end Go.Proofs.Ytcfpbmdndapeaaa.F
