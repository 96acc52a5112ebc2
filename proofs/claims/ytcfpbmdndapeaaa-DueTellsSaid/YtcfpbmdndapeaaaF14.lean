-- Written by a program of this session (xprint.py), out of the translation and of contracts proved by hand.
import Derived.Test.YtcfpbmdndapeaaaF0
import Derived.Test.YtcfpbmdndapeaaaF6
import Derived.Test.YtcfpbmdndapeaaaF8
namespace Go.Proofs.Ytcfpbmdndapeaaa.F
open Go.RowKit Go.Proofs.YtcfpbmdndapeaaaV.PrintWords Go.Proofs.YtcfpbmdndapeaaaV.PrintLast Go.Proofs.YtcfpbmdndapeaaaV.PrintMore
attribute [local go_sem] max2_int min2_int max_two min_two max_three min_three max_four min_four
set_option linter.unusedVariables false
set_option linter.unusedSimpArgs false
section
open Go.RowKit
variable {P:Program}
theorem startIn_ {l n id m:Nat} {ops:List Oper} {Q:Exit→Act→World→Prop} {S:World→Prop} {ds:List Nat} {a:Act} {w:World} (L:Array Bool) (hm:P.follows .mixedOrders=true) (hd:Go.Proofs.Ytcfpbmdndapeaaa.X.noDefer ops=true) (hn:ops.toArray.size=m) (hl:Array.replicate m false=L) (hS:S w.drew)
    (h:S w.drew→wpAnyLast P .any ops.toArray (Go.Proofs.Ytcfpbmdndapeaaa.X.onlyNormal (Q .normal)) S ds m L a w.drew):(Code.region id ops.toArray true).wpIn (Fence.wide.inRound l) n P Q a w:=by
  subst hl
  have hn2:ops.length=m:=by simpa using hn
  subst hn2
  exact wpIn_mono (Go.Proofs.Ytcfpbmdndapeaaa.X.wpIn_region_any_plain (Q:=Go.Proofs.Ytcfpbmdndapeaaa.X.onlyNormal (Q .normal)) hm hd (by rintro⟨a,w,h⟩;exact h) (wpAny_of_last _ _ _ _ (h hS))) (fun e a w h=>by cases e<;>first|exact h|exact h.elim)
end
theorem h6_ {W:World} {g b:Nat} (h:b≠g) {v0 v1 v2 v3 v4 v5:Value}:((((((W.setCell ⟨g,0,none⟩ v0).setCell ⟨g,1,none⟩ v1).setCell ⟨g,2,none⟩ v2).setCell ⟨g,3,none⟩ v3).setCell ⟨g,4,none⟩ v4).setCell ⟨g,5,none⟩ v5).heap[b]?=W.heap[b]?:=
  (Below.heap_setCell _ ⟨g,5,none⟩ _ b h).trans ((Below.heap_setCell _ ⟨g,4,none⟩ _ b h).trans ((Below.heap_setCell _ ⟨g,3,none⟩ _ b h).trans ((Below.heap_setCell _ ⟨g,2,none⟩ _ b h).trans ((Below.heap_setCell _ ⟨g,1,none⟩ _ b h).trans (Below.heap_setCell _ ⟨g,0,none⟩ _ b h)))))
theorem kf6_ {B:Nat} {X W:World} (h:KeepsFrom B X W) {g:Nat} {v0 v1 v2 v3 v4 v5:Value}:KeepsFrom B X ((((((W.setCell ⟨g,0,none⟩ v0).setCell ⟨g,1,none⟩ v1).setCell ⟨g,2,none⟩ v2).setCell ⟨g,3,none⟩ v3).setCell ⟨g,4,none⟩ v4).setCell ⟨g,5,none⟩ v5):=
  h.trans ((((((KeepsOthers.setCell _ _ _).trans (KeepsOthers.setCell _ _ _)).trans (KeepsOthers.setCell _ _ _)).trans (KeepsOthers.setCell _ _ _)).trans (KeepsOthers.setCell _ _ _)).trans (KeepsOthers.setCell _ _ _)|>.from B)
theorem bel6_ {n:Nat} {X W:World} (h:Below n X W) {g:Nat} (hg:n≤g) {v0 v1 v2 v3 v4 v5:Value}:Below n X ((((((W.setCell ⟨g,0,none⟩ v0).setCell ⟨g,1,none⟩ v1).setCell ⟨g,2,none⟩ v2).setCell ⟨g,3,none⟩ v3).setCell ⟨g,4,none⟩ v4).setCell ⟨g,5,none⟩ v5):=
  (((((h.setCell (p:=⟨g,0,none⟩) hg _).setCell (p:=⟨g,1,none⟩) hg _).setCell (p:=⟨g,2,none⟩) hg _).setCell (p:=⟨g,3,none⟩) hg _).setCell (p:=⟨g,4,none⟩) hg _).setCell (p:=⟨g,5,none⟩) hg _
theorem keepsFrom_below {B:Nat} {W W':World} (h:Below W.heap.size W W'):KeepsFrom B W W':=⟨h.size,fun _ _ _ h0 _=>blk_below h0 h⟩
def due_First.ltO (k:Nat) (x y:S28):Option Bool:=(cmp_Compare_int.f x.f4 y.f4).bind fun c=>(due_by.f x.f0.f0 x.f0.f1 y.f0.f0 y.f0.f1).bind fun d=>(cmp_Or_int.f k [c,d]).bind fun z=>some (decide (z<0))
def due_First.st (k:Nat) (s:Option S28) (x:S28):Option S28:=match s with
  |none=>some x
  |some b=>if(due_First.ltO k x b).getD false=true then some x else some b
def due_First.best (k:Nat) (l:List S28):Option S28:=l.foldl (due_First.st k) none
def due_First.z (s:Option S28):S28:=s.getD ⟨⟨0,0⟩,0,0,0,0⟩
def due_First.cs (x:S28):Array Value:=#[.int .i64 x.f0.f0,.int .i64 x.f0.f1,.int .i64 x.f1,.int .i64 x.f2,.int .i64 x.f3,.int .i64 x.f4]
def due_First.g (k:Nat) (l:List S28):Option (S28×Bool):=if l.length<1000000∧(∀x∈l,∀y∈l,(due_First.ltO k x y).isSome=true) then some (due_First.z (due_First.best k (l.filter wtP)),(due_First.best k (l.filter wtP)).isSome) else none
theorem due_First.best_snoc (k:Nat) (l:List S28) (x:S28):due_First.best k (l++[x])=due_First.st k (due_First.best k l) x:=by
  unfold due_First.best
  rw[List.foldl_append]
  rfl
theorem due_First.best_mem (k:Nat) (l:List S28) (b:S28) (h:due_First.best k l=some b):b∈l:=by
  have key: ∀(l:List S28) (s:Option S28) (b:S28),l.foldl (due_First.st k) s=some b→b∈l∨s=some b:=by
    intro l
    induction l with
    |nil=>intro s b h;exact .inr h
    | cons x l ih=>
      intro s b h
      rcases ih _ _ h with h|h
      · exact .inl (List.mem_cons_of_mem _ h)
      · cases s with
        |none=>exact .inl (by rw[show x=b from zW h];exact List.mem_cons_self)
        | some c=>
          simp only[due_First.st] at h
          split at h
          · exact .inl (by rw[show x=b from zW h];exact List.mem_cons_self)
          · exact .inr h
  rcases key l none b h with h|h
  · exact h
  · cases h
def due_First.T5:Bool×List (List Nat×List Nat):=(true,[([],[]),([0],[0]),([1],[1]),([2],[2]),([3,2],[2,3]),([2],[2]),([5,2],[2,5]),([4,6,2,2],[2,4,6]),([2],[2]),([8,2],[2,8]),([2],[2]),([10,2],[2,10]),([9,11,7,2],[2,9,11]),([7,12,2],[2,7,12]),([13,12,2],[2,13]),([14,2],[2,14]),([2,15],[2,15])])
def due_First.B5:List Nat:=[0,1,3,7,15,7,39,127,7,263,7,1031,4095,8191,16383,32767,65535]
theorem due_First.tab5:rtab .any (opsOf Try.f43 5)=due_First.T5:=by kernel_rfl
theorem due_First.bits5:waitsOk due_First.T5.2 due_First.B5=true:=by kernel_rfl
def due_First.T7:Bool×List (List Nat×List Nat):=(true,[([],[]),([],[]),([0,0],[0]),([1,2,0,1,2],[1])])
def due_First.B7:List Nat:=[0,0,1,7]
theorem due_First.tab7:rtab .any (opsOf Try.f43 7)=due_First.T7:=by kernel_rfl
theorem due_First.bits7:waitsOk due_First.T7.2 due_First.B7=true:=by kernel_rfl
section
attribute [local go_sem] Oper.semAt_some
set_option maxRecDepth 100000 in
set_option maxHeartbeats 8000000 in
theorem due_First.main (k:Nat) (A0:Option Addr) (c0:Nat) (l0:List S28) (r:S28) (r7:Bool) (w:World) (hr0:Kd.C k28 w A0 l0.length l0) (hc0:l0.length≤c0) (h:due_First.g k l0=some (r,r7)):
    Calls Try.prog 43 #[.slice A0 l0.length c0] w fun e w'=>e=.returned (.tuple #[.agg (due_First.cs r),.bool r7])∧Below w.heap.size w w':=by
  have hu0:=Try.underlying28
  have hu1:=Try.underlying26
  have hmx:Try.prog.follows .mixedOrders=true:=by kernel_rfl
  unfold due_First.g at h
  by_cases hc:l0.length<1000000∧(∀x∈l0,∀y∈l0,(due_First.ltO k x y).isSome=true)
  case neg=>rw[if_neg hc] at h;cases h
  rw[if_pos hc] at h
  obtain⟨hlen0,hlt0⟩:=hc
  obtain⟨hz1,hz2⟩:due_First.z (due_First.best k (l0.filter wtP))=r∧(due_First.best k (l0.filter wtP)).isSome=r7:=by simpa only[zc,Prod.mk.injEq] using h
  have HR:=zB hr0
  have LM:=zB hlen0
  have LT:=zB hlt0
  have Z1:=zB hz1
  have Z2:=zB hz2
  clear hr0 hc0 h hlen0 hlt0 hz1 hz2
  have hfa: ∀f,Fence.wide.fn f:=fun _=>trivial
  refine(callsIn_wide (n:=3)).1 ?_
  refine callsIn_of_wp_marks Try.func43 rfl trivial ?_ rfl
  simp only[Try.ntmps43,List.size_toArray,List.length_cons,List.length_nil,Nat.reduceAdd,Nat.reduceSub,Array.replicate_succ,Array.replicate_zero,List.push_toArray,List.append_toArray,List.nil_append,List.cons_append]
  gi_wp2_with (gi_at_call 69;refine(callsIn_wide.2 (due_waiting.calls A0 l0.length c0 _)).mono ?_;rintro e w' ⟨rfl,rfl⟩)
  obtain⟨w1,e1⟩: ∃w1,(((w.alloc (.cells #[.int .i64 0,.int .i64 0,.int .i64 0,.int .i64 0,.int .i64 0,.int .i64 0] 28)).alloc (.cells #[.int .i64 0,.int .i64 0,.int .i64 0,.int .i64 0,.int .i64 0,.int .i64 0] 28)).alloc (.cells #[.bool false] 4)).alloc (.cells #[.slice A0 l0.length c0] 22)=w1:=⟨_,rfl⟩
  try simp only[World.size_alloc]
  rw[e1]
  have s1:w1.heap.size=w.heap.size+1+1+1+1:=by rw[←e1];simp
  have l1:Below w.heap.size w w1:=by rw[←e1];exact below_alloc (below_alloc (below_alloc (below_alloc (Below.refl _ _) _) _) _) _
  have b0:w1.heap[w.heap.size]?=some (.cells #[.int .i64 0,.int .i64 0,.int .i64 0,.int .i64 0,.int .i64 0,.int .i64 0] 28 (0,0)):=by rw[←e1];exact zT (zT (zT (blk_new w _) _) _) _
  have b1:w1.heap[w.heap.size+1]?=some (.cells #[.int .i64 0,.int .i64 0,.int .i64 0,.int .i64 0,.int .i64 0,.int .i64 0] 28 (0,0)):=by rw[←e1];exact zT (zT (by simpa using blk_new (w.alloc (.cells #[.int .i64 0,.int .i64 0,.int .i64 0,.int .i64 0,.int .i64 0,.int .i64 0] 28)) (.cells #[.int .i64 0,.int .i64 0,.int .i64 0,.int .i64 0,.int .i64 0,.int .i64 0] 28)) _) _
  have b2:w1.heap[w.heap.size+1+1]?=some (.cells #[.bool false] 4 (0,0)):=by rw[←e1];exact zT (by simpa using blk_new ((w.alloc (.cells #[.int .i64 0,.int .i64 0,.int .i64 0,.int .i64 0,.int .i64 0,.int .i64 0] 28)).alloc (.cells #[.int .i64 0,.int .i64 0,.int .i64 0,.int .i64 0,.int .i64 0,.int .i64 0] 28)) (.cells #[.bool false] 4)) _
  have b3:w1.heap[w.heap.size+1+1+1]?=some (.cells #[.slice A0 l0.length c0] 22 (0,0)):=by rw[←e1];simpa using blk_new (((w.alloc (.cells #[.int .i64 0,.int .i64 0,.int .i64 0,.int .i64 0,.int .i64 0,.int .i64 0] 28)).alloc (.cells #[.int .i64 0,.int .i64 0,.int .i64 0,.int .i64 0,.int .i64 0,.int .i64 0] 28)).alloc (.cells #[.bool false] 4)) (.cells #[.slice A0 l0.length c0] 22)
  clear e1
  have S1:=zB s1
  have L1:=zB l1
  have C0:=zB b0
  have C1:=zB b1
  have C2:=zB b2
  have C3:=zB b3
  clear s1 l1 b0 b1 b2 b3
  refine wpIn_rangeFunc_ownH (α:=Fin l0.length) (F:=Fence.wide) (n:=3) rfl (by decide) (gf:=91) rfl trivial (enters_of Try.func91 (by kernel_rfl) rfl)
    (waiting1.stops 2 (by decide) A0 c0 l0 w w1 (w.heap.size+1+1+1) HR.out L1.out C3.out)
    (fun h k=>h.t k) (fun W l_ o o' hl_ h h1 h2=>KpV.b (w:=w1) (m:=w.heap.size) (B:=w.heap.size+1+1+1) L1.out.size (by have:=S1.out;omega) W l_ o o' hl_ h h1 h2) (Below.refl _ _) (fun _=>rfl)
    (fun pre W=>(W.heap[w.heap.size]?=some (.cells #[.int .i64 0,.int .i64 0,.int .i64 0,.int .i64 0,.int .i64 0,.int .i64 0] 28 (0,0))∧W.heap[w.heap.size+1]?=some (.cells (due_First.cs (due_First.z (due_First.best k (pre.map (fun i=>l0[i]))))) 28 (0,0))∧W.heap[w.heap.size+1+1]?=some (.cells #[.bool (due_First.best k (pre.map (fun i=>l0[i]))).isSome] 4 (0,0)))∧w1.heap.size≤W.heap.size∧Below w.heap.size w W)
    (fun _ _ _=>False)
    ?own (fun _ _ _ _ _ hs _ _=>hs) ?start
    (fun x a' W=> ∃P:Nat,w1.heap.size≤P∧a'={tmps:=#[.slice A0 l0.length c0,undef,.pointer (some ⟨w.heap.size,0,none⟩),.bool false,.pointer (some ⟨w.heap.size+1,0,none⟩),.pointer (some ⟨w.heap.size+1+1,0,none⟩),.pointer (some ⟨P,0,none⟩),.slice A0 l0.length c0,.func (.func 91) #[] #[.pointer (some ⟨w.heap.size+1+1+1,0,none⟩)],.agg #[.int .i64 (rd_T28 l0 (x.1:Int)).f0.f0,.int .i64 (rd_T28 l0 (x.1:Int)).f0.f1,.int .i64 (rd_T28 l0 (x.1:Int)).f1,.int .i64 (rd_T28 l0 (x.1:Int)).f2,.int .i64 (rd_T28 l0 (x.1:Int)).f3,.int .i64 (rd_T28 l0 (x.1:Int)).f4],undef,undef,undef,undef,undef,undef,undef,undef,undef,undef,undef,undef,undef,undef,undef,undef,undef,undef,undef,undef],defers:=[]}∧W.heap[P]?=some (.cells #[.int .i64 (rd_T28 l0 (x.1:Int)).f0.f0,.int .i64 (rd_T28 l0 (x.1:Int)).f0.f1,.int .i64 (rd_T28 l0 (x.1:Int)).f1,.int .i64 (rd_T28 l0 (x.1:Int)).f2,.int .i64 (rd_T28 l0 (x.1:Int)).f3,.int .i64 (rd_T28 l0 (x.1:Int)).f4] 28 (0,0)))
    ?ownA ?assign ?body ?done ?stop
  case own=>exact OwnFrom.and (OwnFrom.and (Own.from (Go.Proofs.Ytcfpbmdndapeaaa.X.blk_own (β:=List (Fin l0.length)) (fun _=>#[.int .i64 0,.int .i64 0,.int .i64 0,.int .i64 0,.int .i64 0,.int .i64 0])) _) (OwnFrom.and (Own.from (Go.Proofs.Ytcfpbmdndapeaaa.X.blk_own (β:=List (Fin l0.length)) (fun pre=>due_First.cs (due_First.z (due_First.best k (pre.map (fun i=>l0[i])))))) _) (Own.from (Go.Proofs.Ytcfpbmdndapeaaa.X.blk_own (β:=List (Fin l0.length)) (fun pre=>#[.bool (due_First.best k (pre.map (fun i=>l0[i]))).isSome])) _))) (OwnFrom.and (fun _ _ _ _ hs hg _=>Nat.le_trans hs hg.size) (ownFrom_below (za _) (by have:=S1.out;omega)))
  case start=>exact⟨⟨C0.out,C1.out,C2.out⟩,za _,L1.out⟩
  case ownA=>
    rintro x a' _ X Y row ⟨P,h0,e,hP⟩ hg hrow
    exact⟨P,h0,e,Go.Proofs.Ytcfpbmdndapeaaa.X.blk_own (β:=Unit) (fun _=>_) () X Y row hP hg (fun r e=>(hrow r e).2)⟩
  case assign=>
    rintro l_ pre x W K ⟨⟨h0,h1,h2⟩,hsz,hbel⟩ hK
    gi_wp2
    refine hK _ _ ?_ ?_ ?_ ⟨W.heap.size,hsz,rfl,blk_new W _⟩
    · exact KeepsFrom.of_grownBy (World.grownBy_alloc W _ none) (fun _ e=>by cases e)
    · exact⟨(below_alloc (Below.refl W.heap.size W) _).mono (by have:=L1.out.size;omega),fun o ho=>blk_below ho (below_alloc (Below.refl _ _) _)⟩
    · exact⟨⟨zT h0 _,zT h1 _,zT h2 _⟩,by simp;omega,below_alloc hbel _⟩
  case stop=>
    rintro D c_ pre W hD _ h
    exact h.elim
  case body=>
    rintro y pre x a' W hy _ ⟨⟨h0,h1,h2⟩,hsz,hbel⟩ ⟨P,hP0,rfl,hP⟩ hlen
    have hrd:(rd_T28 l0 (x.1:Int))=l0[x]:=by simp[rd_T28,List.getD_eq_getElem?_getD]
    have hmap:(pre++[x]).map (fun i=>l0[i])=(pre.map (fun i=>l0[i]))++[l0[x]]:=by rw[List.map_append];rfl
    have hin:(rd_T28 l0 (x.1:Int))∈l0:=by rw[hrd];exact List.getElem_mem _
    rw[←hrd] at hmap
    have hfin:due_First.best k ((pre++[x]).map (fun i=>l0[i]))=due_First.st k (due_First.best k (pre.map (fun i=>l0[i]))) (rd_T28 l0 (x.1:Int)):=by rw[hmap,due_First.best_snoc]
    have hbm:=due_First.best_mem k (pre.map (fun i=>l0[i]))
    generalize(rd_T28 l0 (x.1:Int))=y_ at hP hin hfin⊢
    generalize(due_First.best k (pre.map (fun i=>l0[i])))=s_ at h1 h2 hbm hfin
    obtain⟨⟨x0,x1⟩,x2,x3,x4,x5⟩:=y_
    have HBW:=zB (Below.refl W.heap.size W)
    have HBL:=zB hbel
    have HF:=zB hfin
    have HIN:=zB hin
    have HSZ:=zB hsz
    have HP0:=zB hP0
    have BP:=zB (show W.heap[P]?=some (.cells #[.int .i64 x0,.int .i64 x1,.int .i64 x2,.int .i64 x3,.int .i64 x4,.int .i64 x5] 28 (0,0)) from hP)
    have BZ:=zB h0
    have HPW:=zB (blk_lt hP)
    clear hbel hin hsz hP0 hP h0 hmap hrd hlen hfin
    cases s_ with
    | none=>
      have BB:=zB (show W.heap[w.heap.size+1]?=some (.cells #[.int .i64 0,.int .i64 0,.int .i64 0,.int .i64 0,.int .i64 0,.int .i64 0] 28 (0,0)) from h1)
      have BA:=zB (show W.heap[w.heap.size+1+1]?=some (.cells #[.bool false] 4 (0,0)) from h2)
      clear h1 h2 hbm
      gi_wp2
      rename_i hK_
      replace HBW:=zB (zQ HBW.out (T.below_drew_ _));replace BP:=zB (zX BP.out);replace BZ:=zB (zX BZ.out);replace BB:=zB (zX BB.out);replace BA:=zB (zX BA.out)
      refine startIn_ (m:=17) (S:=fun w'=>w'.cell? ⟨P,0,none⟩=some (.int .i64 x0)∧w'.cell? ⟨P,1,none⟩=some (.int .i64 x1)∧w'.cell? ⟨P,5,none⟩=some (.int .i64 x5)∧w'.cell? ⟨w.heap.size+1,0,none⟩=some (.int .i64 0)∧w'.cell? ⟨w.heap.size+1,1,none⟩=some (.int .i64 0)∧w'.cell? ⟨w.heap.size+1,5,none⟩=some (.int .i64 0)∧w'.cell? ⟨w.heap.size+1+1,0,none⟩=some (.bool false)) (ds:=[]) (bt_ 0 17) hmx (by rfl) rfl rfl ⟨(zD BP.out 0).trans rfl,(zD BP.out 1).trans rfl,(zD BP.out 5).trans rfl,(zD BB.out 0).trans rfl,(zD BB.out 1).trans rfl,(zD BB.out 5).trans rfl,(zD BA.out 0).trans rfl⟩ (fun hHeld=>?_);refine with_tabW due_First.tab5 due_First.bits5 (fun HT_ HW_=>?_)
      generalize W.drew=w_r5 at BP BZ BB BA HBW hHeld⊢
      have Q_:=Qs.mk (n:=17) [(2,0,10,1),(0,1,11,3),(0,2,12,7),(1,3,13,15),(1,5,15,47),(1,8,18,303),(1,10,20,1327),(1,4,14,1343),(1,6,16,1407),(1,7,17,1535),(1,9,19,2047),(1,11,21,4095),(1,12,22,8191),(1,13,23,16383),(1,14,24,32767),(1,15,25,65535),(0,16,26,131071)]
      iterate 17 (first|(refine pq_ Q_ ?_;replace Q_:=qt_ Q_)|(refine uq_ Q_ ?_;replace Q_:=qt_ Q_)|(refine tq_ Q_ hHeld ?_;replace Q_:=qt_ Q_))
      clear Q_
      refine done_ (done_of HT_.out (by kernel_rfl)) ?_;clear hHeld
      refine hK_ _ _ ?_
      clear hK_
      have hx0:=(zD BP.out 0).trans rfl;have hx1:=(zD BP.out 1).trans rfl;have hx2:=(zD BP.out 2).trans rfl;have hx3:=(zD BP.out 3).trans rfl;have hx4:=(zD BP.out 4).trans rfl;have hx5:=(zD BP.out 5).trans rfl;have hb0:=(zD BB.out 0).trans rfl;have hf0:=zC BB.out 0;have hb1:=(zD BB.out 1).trans rfl;have hf1:=zC BB.out 1;have hb2:=(zD BB.out 2).trans rfl;have hf2:=zC BB.out 2;have hb3:=(zD BB.out 3).trans rfl;have hf3:=zC BB.out 3;have hb4:=(zD BB.out 4).trans rfl;have hf4:=zC BB.out 4;have hb5:=(zD BB.out 5).trans rfl;have hf5:=zC BB.out 5;have ha:=(zD BA.out 0).trans rfl;have hfa_:=zC BA.out 0
      gi_wp2
      have hPn:P≠w.heap.size+1:=by have:=HP0.out;have:=S1.out;omega
      have hb1_:w.heap.size≤w.heap.size+1:=by omega
      have hb2_:w.heap.size≤w.heap.size+1+1:=by omega
      have far2: ∀(X:World) (j:Nat) (u:Value) (b:Nat),b≠w.heap.size+1+1→(X.setCell ⟨w.heap.size+1+1,j,none⟩ u).heap[b]?=X.heap[b]?:=fun X j u b h=>Below.heap_setCell X ⟨w.heap.size+1+1,j,none⟩ u b h
      have hlow:Below w.heap.size W w_r5:=HBW.out.mono (by have:=HBL.out.size;omega)
      refine⟨((kf6_ (keepsFrom_below HBW.out)).trans ((KeepsOthers.setCell _ ⟨w.heap.size+1+1,0,none⟩ _).from _)),⟨((bel6_ hlow hb1_).setCell (p:=⟨w.heap.size+1+1,0,none⟩) hb2_ _),fun o ho=>((far2 _ _ _ _ (by omega)).trans ((h6_ (by omega)).trans (blk_below ho HBW.out)))⟩,⟨⟨((far2 _ _ _ _ (by omega)).trans ((h6_ (by omega)).trans BZ.out)),?_,?_⟩,Nat.le_trans HSZ.out (KeepsFrom.size (B:=0) ((kf6_ (keepsFrom_below HBW.out)).trans ((KeepsOthers.setCell _ ⟨w.heap.size+1+1,0,none⟩ _).from _))),HBL.out.trans ((bel6_ hlow hb1_).setCell (p:=⟨w.heap.size+1+1,0,none⟩) hb2_ _)⟩⟩
      · rw[HF.out]
        show _=some (Obj.cells #[.int .i64 x0,.int .i64 x1,.int .i64 x2,.int .i64 x3,.int .i64 x4,.int .i64 x5] 28 (0,0))
        refine(far2 _ _ _ _ (by omega)).trans ?_
        refine zZ (cs:=#[.int .i64 x0,.int .i64 x1,.int .i64 x2,.int .i64 x3,.int .i64 x4,.int .i64 0]) ?_ 5 _ rfl;refine zZ (cs:=#[.int .i64 x0,.int .i64 x1,.int .i64 x2,.int .i64 x3,.int .i64 0,.int .i64 0]) ?_ 4 _ rfl;refine zZ (cs:=#[.int .i64 x0,.int .i64 x1,.int .i64 x2,.int .i64 0,.int .i64 0,.int .i64 0]) ?_ 3 _ rfl;refine zZ (cs:=#[.int .i64 x0,.int .i64 x1,.int .i64 0,.int .i64 0,.int .i64 0,.int .i64 0]) ?_ 2 _ rfl;refine zZ (cs:=#[.int .i64 x0,.int .i64 0,.int .i64 0,.int .i64 0,.int .i64 0,.int .i64 0]) ?_ 1 _ rfl;refine zZ (cs:=#[.int .i64 0,.int .i64 0,.int .i64 0,.int .i64 0,.int .i64 0,.int .i64 0]) ?_ 0 _ rfl;exact BB.out
      · rw[HF.out]
        refine zZ (cs:=#[.bool false]) ?_ 0 _ rfl
        exact((h6_ (by omega)).trans BA.out)
    | some b_=>
      have hlt:=LT.out _ HIN.out b_ (by obtain⟨i,hi⟩:=List.mem_map.1 (hbm b_ rfl);rw[←hi.2];exact List.getElem_mem _)
      obtain⟨qq_,hq⟩:=Option.isSome_iff_exists.1 hlt
      have hst:due_First.st k (some b_) ⟨⟨x0,x1⟩,x2,x3,x4,x5⟩=if qq_=true then some ⟨⟨x0,x1⟩,x2,x3,x4,x5⟩ else some b_:=by
        simp only[due_First.st,hq,Option.getD_some]
      replace HF:=zB (HF.out.trans hst)
      clear hst hlt hbm
      obtain⟨⟨b0,b1⟩,b2,b3,b4,b5⟩:=b_
      obtain⟨c_,E1,hq⟩:=zL hq
      obtain⟨d_,E2,hq⟩:=zL hq
      obtain⟨z_,E3,hq⟩:=zL hq
      replace E1:=zB E1;replace E2:=zB E2;replace E3:=zB E3
      have HQ:=zB (zW hq)
      clear hq
      have BB:=zB (show W.heap[w.heap.size+1]?=some (.cells #[.int .i64 b0,.int .i64 b1,.int .i64 b2,.int .i64 b3,.int .i64 b4,.int .i64 b5] 28 (0,0)) from h1)
      have BA:=zB (show W.heap[w.heap.size+1+1]?=some (.cells #[.bool true] 4 (0,0)) from h2)
      clear h1 h2
      gi_wp2
      rename_i hK_
      replace HBW:=zB (zQ HBW.out (T.below_drew_ _));replace BP:=zB (zX BP.out);replace BZ:=zB (zX BZ.out);replace BB:=zB (zX BB.out);replace BA:=zB (zX BA.out)
      refine startIn_ (m:=17) (S:=fun w'=>w'.cell? ⟨P,0,none⟩=some (.int .i64 x0)∧w'.cell? ⟨P,1,none⟩=some (.int .i64 x1)∧w'.cell? ⟨P,5,none⟩=some (.int .i64 x5)∧w'.cell? ⟨w.heap.size+1,0,none⟩=some (.int .i64 b0)∧w'.cell? ⟨w.heap.size+1,1,none⟩=some (.int .i64 b1)∧w'.cell? ⟨w.heap.size+1,5,none⟩=some (.int .i64 b5)∧w'.cell? ⟨w.heap.size+1+1,0,none⟩=some (.bool true)) (ds:=[]) (bt_ 0 17) hmx (by rfl) rfl rfl ⟨(zD BP.out 0).trans rfl,(zD BP.out 1).trans rfl,(zD BP.out 5).trans rfl,(zD BB.out 0).trans rfl,(zD BB.out 1).trans rfl,(zD BB.out 5).trans rfl,(zD BA.out 0).trans rfl⟩ (fun hHeld=>?_);refine with_tabW due_First.tab5 due_First.bits5 (fun HT_ HW_=>?_)
      generalize W.drew=w_r5 at BP BZ BB BA HBW hHeld⊢
      have Q_:=Qs.mk (n:=17) [(2,0,10,1),(0,1,11,3),(0,2,12,7),(0,3,13,15),(0,5,15,47),(0,8,18,303),(0,10,20,1327),(2,4,14,1343),(2,6,16,1407),(2,9,19,1919),(2,11,21,3967)]
      iterate 11 (first|(refine pq_ Q_ ?_;replace Q_:=qt_ Q_)|(refine tq_ Q_ hHeld ?_;replace Q_:=qt_ Q_))
      clear Q_
      refine one_ (i:=7) (N:=some 17) (bt_ 4095 17) rfl rfl (one_of HT_.out (by kernel_rfl)) (by decide) (fun K hK=>?_)
      refine goes_ Try.func73 (by kernel_rfl) rfl #[.int .i64 x5,.int .i64 b5] (by rfl) rfl rfl (by(try simp only[zM,zS,zV]);first|done|rfl) ?_
      (with_reducible refine(cmp_Compare_int.calls x5 b5 c_ _ E1.out).mono ?_)
      rintro e_ w_17 ⟨rfl,hd⟩;refine⟨_,rfl,?_⟩;replace BP:=zB (blk_below BP.out hd.below);replace BZ:=zB (blk_below BZ.out hd.below);replace BB:=zB (blk_below BB.out hd.below);replace BA:=zB (blk_below BA.out hd.below);replace HBW:=zB (zQ HBW.out hd.below);clear hd
      refine hK.out _ _ ⟨(zD BP.out 0).trans rfl,(zD BP.out 1).trans rfl,(zD BP.out 5).trans rfl,(zD BB.out 0).trans rfl,(zD BB.out 1).trans rfl,(zD BB.out 5).trans rfl,(zD BA.out 0).trans rfl⟩ (fun hHeld=>?_);clear hK K;refine norm_ (a':=?_) ?_ ?_
      rotate_left
      · show Act.put _ (some 17) _=_
        simp only[Act.put,zE,zH,zI,i64_w,i32_w]
        rfl
      refine one_ (i:=12) (N:=some 22) (bt_ 8191 17) rfl rfl (one_of HT_.out (by kernel_rfl)) (by decide) (fun K hK=>?_)
      refine goes_ Try.func74 (by kernel_rfl) rfl #[.agg #[.int .i64 x0,.int .i64 x1],.agg #[.int .i64 b0,.int .i64 b1]] (by rfl) rfl rfl (by(try simp only[zM,zS,zV]);first|done|rfl) ?_
      (with_reducible refine(due_by.calls x0 x1 b0 b1 d_ _ E2.out).mono ?_)
      rintro e_ w_22 ⟨rfl,hb⟩;refine⟨_,rfl,?_⟩;replace BP:=zB (blk_below BP.out hb);replace BZ:=zB (blk_below BZ.out hb);replace BB:=zB (blk_below BB.out hb);replace BA:=zB (blk_below BA.out hb);replace HBW:=zB (zQ HBW.out hb);clear hb
      refine hK.out _ _ ⟨(zD BP.out 0).trans rfl,(zD BP.out 1).trans rfl,(zD BP.out 5).trans rfl,(zD BB.out 0).trans rfl,(zD BB.out 1).trans rfl,(zD BB.out 5).trans rfl,(zD BA.out 0).trans rfl⟩ (fun hHeld=>?_);clear hK K;refine norm_ (a':=?_) ?_ ?_
      rotate_left
      · show Act.put _ (some 22) _=_
        simp only[Act.put,zE,zH,zI,i64_w,i32_w]
        rfl
      refine one_ (i:=13) (N:=some 23) (bt_ 16383 17) rfl rfl (one_of HT_.out (by kernel_rfl)) (by decide) (fun K hK=>?_)
      refine Kd.R_lit_step (Kd.int .i64) _ 3 ?hg (N:=23) ?hd (xs:=([c_,d_]:List Int)) (inner:=[.int .i64 c_,.int .i64 d_]) (ok:=fun _=>True) (okp:=fun _=>True) ?hr ?hp (fun _ hk=>hk) trivial (Below.refl _ _) (za _) (by simp) ?_;(case hd=>rfl);(case hg=>rfl);(case hr=>first|(go_simp;done)|(go_simp;rfl));(case hp=>exact(Reps.one (show Kd.M (Kd.int .i64) _ _ _ c_ [.int .i64 c_] from rfl) (Reps.one (show Kd.M (Kd.int .i64) _ _ _ d_ [.int .i64 d_] from rfl) (Reps.none _ _))))
      intro v_ w_l ho hb hg_ hnew_
      clear hg_ hnew_
      replace BP:=zB (blk_below BP.out hb);replace BZ:=zB (blk_below BZ.out hb);replace BB:=zB (blk_below BB.out hb);replace BA:=zB (blk_below BA.out hb);replace HBW:=zB (zQ HBW.out hb)
      obtain⟨A_,q_,rfl⟩:=Kd.R_slice ho
      have HLs:=zB ho;clear ho hb
      refine hK.out _ _ ⟨(zD BP.out 0).trans rfl,(zD BP.out 1).trans rfl,(zD BP.out 5).trans rfl,(zD BB.out 0).trans rfl,(zD BB.out 1).trans rfl,(zD BB.out 5).trans rfl,(zD BA.out 0).trans rfl⟩ (fun hHeld=>?_);clear hK K
      refine norm_ (a':=?_) ?_ ?_
      rotate_left
      · show Act.put _ (some 23) _=_
        simp only[Act.put,zE,zH,zI,i64_w,i32_w]
        rfl
      refine one_ (i:=14) (N:=some 24) (bt_ 32767 17) rfl rfl (one_of HT_.out (by kernel_rfl)) (by decide) (fun K hK=>?_)
      refine goes_ Try.func72 (by kernel_rfl) rfl #[.slice A_ ([c_,d_]:List Int).length q_] (by rfl) rfl rfl (by(try simp only[zM,zS,zV]);first|done|rfl) ?_
      (with_reducible refine(cmp_Or_int.calls k _ _ [c_,d_] z_ _ ?s1 ?s2 E3.out).mono ?_);(case s1=>have h2:=zd HLs.out;exact h2.2.2);(case s2=>have h2:=zd HLs.out;exact h2.2.1)
      rintro e_ w_24 ⟨rfl,hd⟩;refine⟨_,rfl,?_⟩;replace BP:=zB (blk_below BP.out hd.below);replace BZ:=zB (blk_below BZ.out hd.below);replace BB:=zB (blk_below BB.out hd.below);replace BA:=zB (blk_below BA.out hd.below);replace HBW:=zB (zQ HBW.out hd.below);clear hd
      refine hK.out _ _ ⟨(zD BP.out 0).trans rfl,(zD BP.out 1).trans rfl,(zD BP.out 5).trans rfl,(zD BB.out 0).trans rfl,(zD BB.out 1).trans rfl,(zD BB.out 5).trans rfl,(zD BA.out 0).trans rfl⟩ (fun hHeld=>?_);clear hK K;refine norm_ (a':=?_) ?_ ?_
      rotate_left
      · show Act.put _ (some 24) _=_
        simp only[Act.put,zE,zH,zI,i64_w,i32_w]
        rfl
      have Q_:=Qs.mk (n:=17) [(0,15,25,65535),(0,16,26,131071)]
      iterate 2 (refine pq_ Q_ ?_;replace Q_:=qt_ Q_)
      clear Q_
      refine done_ (done_of HT_.out (by kernel_rfl)) ?_;clear hHeld
      refine hK_ _ _ ?_
      clear hK_
      cases qq_ with
      | true=>
        replace HF:=zB (HF.out.trans (if_pos rfl))
        rw[HQ.out]
        have hx0:=(zD BP.out 0).trans rfl;have hx1:=(zD BP.out 1).trans rfl;have hx2:=(zD BP.out 2).trans rfl;have hx3:=(zD BP.out 3).trans rfl;have hx4:=(zD BP.out 4).trans rfl;have hx5:=(zD BP.out 5).trans rfl;have hb0:=(zD BB.out 0).trans rfl;have hf0:=zC BB.out 0;have hb1:=(zD BB.out 1).trans rfl;have hf1:=zC BB.out 1;have hb2:=(zD BB.out 2).trans rfl;have hf2:=zC BB.out 2;have hb3:=(zD BB.out 3).trans rfl;have hf3:=zC BB.out 3;have hb4:=(zD BB.out 4).trans rfl;have hf4:=zC BB.out 4;have hb5:=(zD BB.out 5).trans rfl;have hf5:=zC BB.out 5;have ha:=(zD BA.out 0).trans rfl;have hfa_:=zC BA.out 0
        gi_wp2
        have hPn:P≠w.heap.size+1:=by have:=HP0.out;have:=S1.out;omega
        have hb1_:w.heap.size≤w.heap.size+1:=by omega
        have hb2_:w.heap.size≤w.heap.size+1+1:=by omega
        have far2: ∀(X:World) (j:Nat) (u:Value) (b:Nat),b≠w.heap.size+1+1→(X.setCell ⟨w.heap.size+1+1,j,none⟩ u).heap[b]?=X.heap[b]?:=fun X j u b h=>Below.heap_setCell X ⟨w.heap.size+1+1,j,none⟩ u b h
        have hlow:Below w.heap.size W w_24:=HBW.out.mono (by have:=HBL.out.size;omega)
        refine⟨((kf6_ (keepsFrom_below HBW.out)).trans ((KeepsOthers.setCell _ ⟨w.heap.size+1+1,0,none⟩ _).from _)),⟨((bel6_ hlow hb1_).setCell (p:=⟨w.heap.size+1+1,0,none⟩) hb2_ _),fun o ho=>((far2 _ _ _ _ (by omega)).trans ((h6_ (by omega)).trans (blk_below ho HBW.out)))⟩,⟨⟨((far2 _ _ _ _ (by omega)).trans ((h6_ (by omega)).trans BZ.out)),?_,?_⟩,Nat.le_trans HSZ.out (KeepsFrom.size (B:=0) ((kf6_ (keepsFrom_below HBW.out)).trans ((KeepsOthers.setCell _ ⟨w.heap.size+1+1,0,none⟩ _).from _))),HBL.out.trans ((bel6_ hlow hb1_).setCell (p:=⟨w.heap.size+1+1,0,none⟩) hb2_ _)⟩⟩
        · rw[HF.out]
          show _=some (Obj.cells #[.int .i64 x0,.int .i64 x1,.int .i64 x2,.int .i64 x3,.int .i64 x4,.int .i64 x5] 28 (0,0))
          refine(far2 _ _ _ _ (by omega)).trans ?_
          refine zZ (cs:=#[.int .i64 x0,.int .i64 x1,.int .i64 x2,.int .i64 x3,.int .i64 x4,.int .i64 b5]) ?_ 5 _ rfl;refine zZ (cs:=#[.int .i64 x0,.int .i64 x1,.int .i64 x2,.int .i64 x3,.int .i64 b4,.int .i64 b5]) ?_ 4 _ rfl;refine zZ (cs:=#[.int .i64 x0,.int .i64 x1,.int .i64 x2,.int .i64 b3,.int .i64 b4,.int .i64 b5]) ?_ 3 _ rfl;refine zZ (cs:=#[.int .i64 x0,.int .i64 x1,.int .i64 b2,.int .i64 b3,.int .i64 b4,.int .i64 b5]) ?_ 2 _ rfl;refine zZ (cs:=#[.int .i64 x0,.int .i64 b1,.int .i64 b2,.int .i64 b3,.int .i64 b4,.int .i64 b5]) ?_ 1 _ rfl;refine zZ (cs:=#[.int .i64 b0,.int .i64 b1,.int .i64 b2,.int .i64 b3,.int .i64 b4,.int .i64 b5]) ?_ 0 _ rfl;exact BB.out
        · rw[HF.out]
          refine zZ (cs:=#[.bool true]) ?_ 0 _ rfl
          exact((h6_ (by omega)).trans BA.out)
      | false=>
        replace HF:=zB (HF.out.trans (if_neg Bool.false_ne_true))
        rw[HQ.out]
        gi_wp2
        exact⟨keepsFrom_below HBW.out,⟨HBW.out.mono (by have:=HBL.out.size;omega),fun o ho=>blk_below ho HBW.out⟩,⟨⟨BZ.out,by rw[HF.out];exact BB.out,by rw[HF.out];exact BA.out⟩,Nat.le_trans HSZ.out HBW.out.size,HBL.out.trans (HBW.out.mono HBL.out.size)⟩⟩
  case done=>
    rintro D ys W hD rfl ⟨⟨h0,h1,h2⟩,hsz,hbel⟩ hK
    rw[wplaces_all] at h1 h2
    rw[Z1.out] at h1
    rw[Z2.out] at h2
    obtain⟨⟨r0,r1⟩,r2,r3,r4,r5⟩:=r
    have BZ:=zB h0
    have BB:=zB (show W.heap[w.heap.size+1]?=some (.cells #[.int .i64 r0,.int .i64 r1,.int .i64 r2,.int .i64 r3,.int .i64 r4,.int .i64 r5] 28 (0,0)) from h1)
    have BA:=zB h2
    have HBL:=zB hbel
    have KO:=zB hK
    have DO:=zB (show w.heap.size+1+1+1+1≤D by have:=S1.out;omega)
    clear h0 h1 h2 hsz hbel hK hD
    gi_wp2
    rename_i hK_
    refine wpIn_wide.2 (Go.Proofs.Ytcfpbmdndapeaaa.X.wp_only ?_)
    replace HBL:=zB (HBL.out.trans ((T.below_drew_ _).mono HBL.out.size));replace BZ:=zB (zX BZ.out);replace BB:=zB (zX BB.out);replace BA:=zB (zX BA.out);replace KO:=zB (show W.drew.heap[D]?=some (.deferred (some [])) from KO.out)
    refine start_ (n:=4) (S:=fun w'=>w'.cell? ⟨w.heap.size+1,0,none⟩=some (.int .i64 r0)∧w'.cell? ⟨w.heap.size+1,1,none⟩=some (.int .i64 r1)∧w'.cell? ⟨w.heap.size+1,2,none⟩=some (.int .i64 r2)∧w'.cell? ⟨w.heap.size+1,3,none⟩=some (.int .i64 r3)∧w'.cell? ⟨w.heap.size+1,4,none⟩=some (.int .i64 r4)∧w'.cell? ⟨w.heap.size+1,5,none⟩=some (.int .i64 r5)∧w'.cell? ⟨w.heap.size+1+1,0,none⟩=some (.bool r7)) (ds:=[]) #[false,false,false,false] (by kernel_rfl) rfl rfl ⟨(zD BB.out 0).trans rfl,(zD BB.out 1).trans rfl,(zD BB.out 2).trans rfl,(zD BB.out 3).trans rfl,(zD BB.out 4).trans rfl,(zD BB.out 5).trans rfl,(zD BA.out 0).trans rfl⟩ (fun hHeld=>?_);refine with_tabW due_First.tab7 due_First.bits7 (fun HT_ HW_=>?_)
    generalize W.drew=w_r7 at BZ BB BA HBL KO hHeld⊢
    have Q_:=Qs.mk (n:=4) [(2,0,28,1),(2,1,29,3)]
    iterate 2 (refine tq_ Q_ hHeld ?_;replace Q_:=qt_ Q_)
    clear Q_
    refine one_ (i:=2) (N:=none) (bt_ 7 4) rfl rfl (one_of HT_.out (by kernel_rfl)) (by decide) (fun K hK=>?_)
    have hz0:=(zD BZ.out 0).trans rfl;have hf0:=zC BZ.out 0;have hz1:=(zD BZ.out 1).trans rfl;have hf1:=zC BZ.out 1;have hz2:=(zD BZ.out 2).trans rfl;have hf2:=zC BZ.out 2;have hz3:=(zD BZ.out 3).trans rfl;have hf3:=zC BZ.out 3;have hz4:=(zD BZ.out 4).trans rfl;have hf4:=zC BZ.out 4;have hz5:=(zD BZ.out 5).trans rfl;have hf5:=zC BZ.out 5
    have hB2:((((((w_r7.setCell ⟨w.heap.size,0,none⟩ (.int .i64 r0)).setCell ⟨w.heap.size,1,none⟩ (.int .i64 r1)).setCell ⟨w.heap.size,2,none⟩ (.int .i64 r2)).setCell ⟨w.heap.size,3,none⟩ (.int .i64 r3)).setCell ⟨w.heap.size,4,none⟩ (.int .i64 r4)).setCell ⟨w.heap.size,5,none⟩ (.int .i64 r5)).heap[w.heap.size+1]?=_:=((h6_ (by omega)).trans BB.out)
    have hA2:((((((w_r7.setCell ⟨w.heap.size,0,none⟩ (.int .i64 r0)).setCell ⟨w.heap.size,1,none⟩ (.int .i64 r1)).setCell ⟨w.heap.size,2,none⟩ (.int .i64 r2)).setCell ⟨w.heap.size,3,none⟩ (.int .i64 r3)).setCell ⟨w.heap.size,4,none⟩ (.int .i64 r4)).setCell ⟨w.heap.size,5,none⟩ (.int .i64 r5)).heap[w.heap.size+1+1]?=_:=((h6_ (by omega)).trans BA.out)
    refine skip_ (w1:=?_) (by rfl) rfl ?_ ?_
    rotate_left
    · go_simp
      rfl
    refine hK.out _ _ ⟨(zD hB2 0).trans rfl,(zD hB2 1).trans rfl,(zD hB2 2).trans rfl,(zD hB2 3).trans rfl,(zD hB2 4).trans rfl,(zD hB2 5).trans rfl,(zD hA2 0).trans rfl⟩ (fun hHeld=>?_)
    clear hK K
    have Q_:=Qs.mk (n:=4) [(0,3,3,15)]
    iterate 1 (refine pq_ Q_ ?_;replace Q_:=qt_ Q_)
    clear Q_
    refine done_ (done_of HT_.out (by kernel_rfl)) ?_;clear hHeld
    refine hK_ _ _ ?_
    clear hK_
    gi_wp2
    have hD2:D≠w.heap.size:=by have:=DO.out;omega
    have KO2:((((((w_r7.setCell ⟨w.heap.size,0,none⟩ (.int .i64 r0)).setCell ⟨w.heap.size,1,none⟩ (.int .i64 r1)).setCell ⟨w.heap.size,2,none⟩ (.int .i64 r2)).setCell ⟨w.heap.size,3,none⟩ (.int .i64 r3)).setCell ⟨w.heap.size,4,none⟩ (.int .i64 r4)).setCell ⟨w.heap.size,5,none⟩ (.int .i64 r5)).heap[D]?=some (.deferred (some [])):=((h6_ hD2).trans KO.out)
    have BO:Below w.heap.size w ((((((w_r7.setCell ⟨w.heap.size,0,none⟩ (.int .i64 r0)).setCell ⟨w.heap.size,1,none⟩ (.int .i64 r1)).setCell ⟨w.heap.size,2,none⟩ (.int .i64 r2)).setCell ⟨w.heap.size,3,none⟩ (.int .i64 r3)).setCell ⟨w.heap.size,4,none⟩ (.int .i64 r4)).setCell ⟨w.heap.size,5,none⟩ (.int .i64 r5)):=bel6_ HBL.out (za _)
    have RO:((((((w_r7.setCell ⟨w.heap.size,0,none⟩ (.int .i64 r0)).setCell ⟨w.heap.size,1,none⟩ (.int .i64 r1)).setCell ⟨w.heap.size,2,none⟩ (.int .i64 r2)).setCell ⟨w.heap.size,3,none⟩ (.int .i64 r3)).setCell ⟨w.heap.size,4,none⟩ (.int .i64 r4)).setCell ⟨w.heap.size,5,none⟩ (.int .i64 r5)).heap[w.heap.size]?=some (.cells #[.int .i64 r0,.int .i64 r1,.int .i64 r2,.int .i64 r3,.int .i64 r4,.int .i64 r5] 28 (0,0)):=by
      refine zZ (cs:=#[.int .i64 r0,.int .i64 r1,.int .i64 r2,.int .i64 r3,.int .i64 r4,.int .i64 0]) ?_ 5 _ rfl;refine zZ (cs:=#[.int .i64 r0,.int .i64 r1,.int .i64 r2,.int .i64 r3,.int .i64 0,.int .i64 0]) ?_ 4 _ rfl;refine zZ (cs:=#[.int .i64 r0,.int .i64 r1,.int .i64 r2,.int .i64 0,.int .i64 0,.int .i64 0]) ?_ 3 _ rfl;refine zZ (cs:=#[.int .i64 r0,.int .i64 r1,.int .i64 0,.int .i64 0,.int .i64 0,.int .i64 0]) ?_ 2 _ rfl;refine zZ (cs:=#[.int .i64 r0,.int .i64 0,.int .i64 0,.int .i64 0,.int .i64 0,.int .i64 0]) ?_ 1 _ rfl;refine zZ (cs:=#[.int .i64 0,.int .i64 0,.int .i64 0,.int .i64 0,.int .i64 0,.int .i64 0]) ?_ 0 _ rfl;exact BZ.out
    generalize(((((w_r7.setCell ⟨w.heap.size,0,none⟩ (.int .i64 r0)).setCell ⟨w.heap.size,1,none⟩ (.int .i64 r1)).setCell ⟨w.heap.size,2,none⟩ (.int .i64 r2)).setCell ⟨w.heap.size,3,none⟩ (.int .i64 r3)).setCell ⟨w.heap.size,4,none⟩ (.int .i64 r4)).setCell ⟨w.heap.size,5,none⟩ (.int .i64 r5)=w9 at KO2 BO RO⊢
    refine⟨by simp,.inl ⟨_,_,rfl,run_takeDeferred KO2,?_⟩⟩
    refine⟨_,results_ct rfl _ _ w.heap.size 28 #[.int .i64 r0,.int .i64 r1,.int .i64 r2,.int .i64 r3,.int .i64 r4,.int .i64 r5] (0,0) _ rfl ((World.putObj_heap_other (fun e=>hD2 e.symm)).trans RO) hu0 rfl (by kernel_rfl),rfl,?_⟩
    exact BO.grown (grownBy_putObj' _ _ _) BO.size (fun k e=>by cases e;have:=DO.out;omega)
end
def due_First.f (k:Nat) (l0:List S28):Option (Int×Int×Int×Int×Int×Int×Bool):=(due_First.g k l0).map fun p=>(p.1.f0.f0,p.1.f0.f1,p.1.f1,p.1.f2,p.1.f3,p.1.f4,p.2)
theorem due_First.ltO_mono (k:Nat) (x y:S28):LeO (due_First.ltO k x y) (due_First.ltO (k+1) x y):=by
  unfold due_First.ltO
  exact ze (LeO.refl _) (fun _=>ze (LeO.refl _) (fun _=>ze (cmp_Or_int.mono _ _) (fun _=>LeO.refl _)))
theorem due_First.st_mem {k:Nat} {l:List S28} {s:Option S28} {x:S28} (hs: ∀b,s=some b→b∈l) (hx:x∈l): ∀b,due_First.st k s x=some b→b∈l:=by
  intro b hb
  cases s with
  |none=>obtain rfl:=zW hb;exact hx
  | some c=>
    simp only[due_First.st] at hb
    split at hb
    · obtain rfl:=zW hb;exact hx
    · exact hs b hb
theorem due_First.best_up {k:Nat} {l:List S28} (h: ∀x∈l,∀y∈l,(due_First.ltO k x y).isSome=true): ∀(m:List S28) (s:Option S28),(∀b,s=some b→b∈l)→(∀x∈m,x∈l)→m.foldl (due_First.st (k+1)) s=m.foldl (due_First.st k) s:=by
  intro m
  induction m with
  |nil=>intro s _ _;rfl
  | cons x m ih=>
    intro s hs hm
    have hx:=hm x List.mem_cons_self
    have e:due_First.st (k+1) s x=due_First.st k s x:=by
      cases s with
      |none=>rfl
      | some c=>
        obtain⟨q,hq⟩:=Option.isSome_iff_exists.1 (h x hx c (hs c rfl))
        simp only[due_First.st,hq,due_First.ltO_mono k x c q hq]
    rw[List.foldl_cons,List.foldl_cons,e]
    exact ih _ (due_First.st_mem hs hx) (fun y hy=>hm y (List.mem_cons_of_mem _ hy))
theorem due_First.g_mono (k:Nat) (l:List S28):LeO (due_First.g k l) (due_First.g (k+1) l):=by
  intro r h
  unfold due_First.g at h⊢
  by_cases c:l.length<1000000∧(∀x∈l,∀y∈l,(due_First.ltO k x y).isSome=true)
  · rw[if_pos c] at h
    rw[if_pos ⟨c.1,fun x hx y hy=>by obtain⟨q,hq⟩:=Option.isSome_iff_exists.1 (c.2 x hx y hy);rw[due_First.ltO_mono k x y q hq];rfl⟩]
    rw[show due_First.best (k+1) (l.filter wtP)=due_First.best k (l.filter wtP) from due_First.best_up c.2 _ none (fun _ h=>by cases h) (fun x hx=>(List.mem_filter.1 hx).1)]
    exact h
  · rw[if_neg c] at h
    cases h
theorem due_First.mono: ∀a0 k,LeO (due_First.f k a0) (due_First.f (k+1) a0):=by
  intro a0 k r h
  obtain⟨p,hp,he⟩:=Option.map_eq_some_iff.1 h
  exact Option.map_eq_some_iff.2 ⟨p,due_First.g_mono k a0 p hp,he⟩
theorem due_First.calls (k:Nat) (A0:Option Addr) (c0:Nat) (l0:List S28) (r1 r2 r3 r4 r5 r6:Int) (r7:Bool) (w:World) (hr0:Kd.C k28 w A0 l0.length l0) (hc0:l0.length≤c0) (h:due_First.f k l0=some (r1,r2,r3,r4,r5,r6,r7)):
    Calls Try.prog 43 #[.slice A0 l0.length c0] w fun e w'=>e=.returned (.tuple #[.agg #[.int .i64 r1,.int .i64 r2,.int .i64 r3,.int .i64 r4,.int .i64 r5,.int .i64 r6],.bool r7])∧Below w.heap.size w w':=by
  obtain⟨⟨⟨⟨y0,y1⟩,y2,y3,y4,y5⟩,y6⟩,hg,he⟩:=Option.map_eq_some_iff.1 h
  obtain⟨rfl,rfl,rfl,rfl,rfl,rfl,rfl⟩:y0=r1∧y1=r2∧y2=r3∧y3=r4∧y4=r5∧y5=r6∧y6=r7:=by simpa only[Prod.mk.injEq] using he
  exact due_First.main k A0 c0 l0 ⟨⟨y0,y1⟩,y2,y3,y4,y5⟩ y6 w hr0 hc0 hg
end Go.Proofs.Ytcfpbmdndapeaaa.F
