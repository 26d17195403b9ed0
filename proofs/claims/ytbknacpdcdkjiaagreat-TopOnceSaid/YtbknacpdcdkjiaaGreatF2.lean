/- What clients have selected: copied, Who, Mask. No condition. -/
import Derived.Test.YtbknacpdcdkjiaaGreatF1
namespace Go.Proofs.YtbknacpdcdkjiaaGreat
open Go Go.VM
set_option maxRecDepth 100000
attribute [local irreducible] PurV Pur Step RL W D ACalls Then InBlock Fini
set_option linter.unusedVariables false
set_option linter.unusedSimpArgs false
set_option maxHeartbeats 20000000
theorem cpyi_c (bm:Nat) (s:CS) (h:Heap) (hn:(s.map (·.1)).Nodup):ACalls Tryz.prog 101 [.val (.map (some bm)),mapV .u32 (vI .i64) s] (mpV bm .u32 (vI .i64) ([]:CS)::h) (fun r h'=>r=.tup []∧h'=mpV bm .u32 (vI .i64) s::h):=by
 refine ACalls.intro Tryz.func101 rfl Tryz.ntmps101 Tryz.results101 (Nat.le_of_ble_eq_true rfl) ?_
 (repeat' first|refine svE ⟨?_⟩|refine .b fun b=>?_|refine .u fun u=>?_|refine .d ?_ ?_|(refine .g fun hg=>?_;try exact svx)|fail)
 revert b;intro b7
 refine W.loop (J:=fun x:List Nat × Option Nat × CS=>⟨16,[(7,.val (.pointer (some ⟨b7,0,none⟩))),(0,.val (.map (some bm)))],mitV b7 .u32 (vI .i64) s x.1 x.2.1::mpV bm .u32 (vI .i64) x.2.2::h⟩)
  (Φ:=fun x=>(x.2.2++remL s x.1).Perm s) (μ:=fun x=>x.1.length) (List.range s.length,none,[]) lee (rng_start s) ?_
 rintro⟨left,last,done⟩ hp
 dsimp only at hp ⊢
 (repeat' first|refine svE ⟨?_⟩|refine .b fun b=>?_|refine .u fun u=>?_|refine .d ?_ ?_|(refine .g fun hg=>?_;try exact svx)|fail)
 refine S.next (fun hl=>?_) (fun i p hi hpi=>?_)
 ·have hd:=rng_end hp hl
  (repeat' first|refine svE ⟨?_⟩|refine .b fun b=>?_|refine .u fun u=>?_|refine .d ?_ ?_|(refine .g fun hg=>?_;try exact svx)|fail)
  exact fin_n (h':=mpV bm .u32 (vI .i64) s::h) ⟨rfl,rfl⟩ (h2:=.skip (leh_mp hd (.refl _)))
 ·have hst:=rng_step hp hi hpi
  have hnd:=(hst.map (·.1)).nodup_iff.2 hn
  rw[List.map_append,List.map_append,List.append_assoc,List.nodup_append] at hnd
  have hnew:p.1∉done.map (·.1):=fun hm=>hnd.2.2 p.1 hm p.1 (by simp) rfl
  (repeat' first|refine svE ⟨?_⟩|refine .b fun b=>?_|refine .u fun u=>?_|refine .d ?_ ?_|(refine .g fun hg=>?_;try exact svx)|fail)
  rw[putF_new p.2 hnew]
  exact⟨(left.erase i,some i,done++[p]),hst,lee,rng_less hi⟩
theorem S.lookK {P:Program} {n d:Nat} {T:List (Nat × AV)} {h:Heap} {K:St→Prop} {x y:Operand} {mt kt et ty:Nat} {pos:String} {af:Array Edge} {gd:Option (Nat × Bool)} {M:CM} (i:KY) [hm:TMapK P mt kt et] [hz:TZel P et (.val (.int .i64 0))]
  (hK:K ⟨n,(d,.val (.int .i64 ((lkK M i).getD 0)))::T,h⟩) (hx:evalA T x=some (mapK (vI .i64) M):=by rfl) (hy:evalA T y=some (ka i):=by rfl) (hn:Nat.blt d n=true:=by rfl):Step P ⟨some d,.lookup mt x y false,ty,pos,af,gd⟩ ⟨n,T,h⟩ K:=
 step_pur (pur_lookk_ro hx hy (lkw_int _ _)) hn hK
theorem copied_c (M:CM) (N:CS) (h:Heap) (hM:(M.map (·.1)).Nodup) (hS:(N.map (·.1)).Nodup) (hl:M.length≤1000000) (hl2:N.length≤1000000):ACalls Tryz.prog 67 [encC M N] h (fun r h'=>∃b1 b2,r=.agg [.val (.map (some b1)),.val (.map (some b2))]∧h'=mpK b1 (vI .i64) M::mpV b2 .u32 (vI .i64) N::h):=by
 unfold encC
 refine ACalls.intro Tryz.func67 rfl Tryz.ntmps67 Tryz.results67 (Nat.le_of_ble_eq_true rfl) ?_
 (repeat' first|refine svE ⟨?_⟩|refine .b fun b=>?_|refine .u fun u=>?_|refine .d ?_ ?_|(refine .g fun hg=>?_;try exact svx)|fail)
 rename_i b1
 revert b;intro b2
 refine R2.F (step_pur (pur_lenk_ro rfl) rfl (kf (LeH.refl _))) ?_
 (repeat' first|refine svE ⟨?_⟩|refine .b fun b=>?_|refine .u fun u=>?_|refine .d ?_ ?_|(refine .g fun hg=>?_;try exact svx)|fail)
 refine R2.F (step_pur (pur_lenm_ro rfl) rfl (kf (LeH.refl _))) ?_
 (repeat' first|refine svE ⟨?_⟩|refine .b fun b=>?_|refine .u fun u=>?_|refine .d ?_ ?_|(refine .g fun hg=>?_;try exact svx)|fail)
 refine R2.congr (todo':=[4,9,11,10,12]) (by intro x;simp;omega) ?_
 refine R2.make3 (vi:=fun b=>.val (.map (some b))) (ei:=fun b=>mpK b (vI .i64) ([]:CM)) (vj:=fun b=>.val (.map (some b))) (ej:=fun b=>mpV b .u32 (vI .i64) ([]:CS)) (vl:=fun b=>.val (.pointer (some ⟨b,0,none⟩))) (el:=fun b=>.box b [.val (.map none),.val (.map none)] 36) ?_ ?_ ?_ (fun b8 b13 b3=>?_) (fun b8 b13=>?_)
 ·exact Mk.mapk (vI .i64)
 ·exact Mk.map (vI .i64)
 ·exact Mk.alloc
 ·(repeat' first|refine svE ⟨?_⟩|refine .b fun b=>?_|refine .u fun u=>?_|refine .d ?_ ?_|(refine .g fun hg=>?_;try exact svx)|fail)
  refine Step.le (s':=⟨26,[(18,mapK (vI .i64) M),(16,.val (.map (some b8))),(3,.val (.pointer (some ⟨b3,0,none⟩))),(1,.val (.pointer (some ⟨b1,0,none⟩))),(2,.val (.pointer (some ⟨b2,0,none⟩)))],mpK b8 (vI .i64) ([]:CM)::mpV b13 .u32 (vI .i64) ([]:CS)::.box b3 [.val (.map (some b8)),.val (.map (some b13))] 36::.box b1 [mapK (vI .i64) M,mapV .u32 (vI .i64) N] 36::.box b2 [.val (.map none),.val (.map none)] 36::h⟩) lee ?_;refine S.call ?_;refine (cpyk_c b8 M _ hM).mono ?_;rintro r h' ⟨rfl,hh⟩;subst hh;(repeat' first|refine svE ⟨?_⟩|refine .b fun b=>?_|refine .u fun u=>?_|refine .d ?_ ?_|(refine .g fun hg=>?_;try exact svx)|fail);refine Step.le (s':=⟨26,[(23,mapV .u32 (vI .i64) N),(21,.val (.map (some b13))),(3,.val (.pointer (some ⟨b3,0,none⟩))),(1,.val (.pointer (some ⟨b1,0,none⟩))),(2,.val (.pointer (some ⟨b2,0,none⟩)))],mpV b13 .u32 (vI .i64) ([]:CS)::mpK b8 (vI .i64) M::.box b3 [.val (.map (some b8)),.val (.map (some b13))] 36::.box b1 [mapK (vI .i64) M,mapV .u32 (vI .i64) N] 36::.box b2 [.val (.map none),.val (.map none)] 36::h⟩) lee ?_;refine S.call ?_;refine (cpyi_c b13 N _ hS).mono ?_;rintro r h' ⟨rfl,hh⟩;subst hh;(repeat' first|refine svE ⟨?_⟩|refine .b fun b=>?_|refine .u fun u=>?_|refine .d ?_ ?_|(refine .g fun hg=>?_;try exact svx)|fail);exact fin_r (h':=mpK b8 (vI .i64) M::mpV b13 .u32 (vI .i64) N::h) ⟨b8,b13,rfl,rfl⟩
 ·(repeat' first|refine svE ⟨?_⟩|refine .b fun b=>?_|refine .u fun u=>?_|refine .d ?_ ?_|(refine .g fun hg=>?_;try exact svx)|fail)
  refine R2.back ?_
  refine R2.B ?_
  refine S.alloc (fun b3=>?_)
  refine kd ?_
  (repeat' first|refine svE ⟨?_⟩|refine .b fun b=>?_|refine .u fun u=>?_|refine .d ?_ ?_|(refine .g fun hg=>?_;try exact svx)|fail)
  refine Step.le (s':=⟨26,[(18,mapK (vI .i64) M),(16,.val (.map (some b8))),(3,.val (.pointer (some ⟨b3,0,none⟩))),(1,.val (.pointer (some ⟨b1,0,none⟩))),(2,.val (.pointer (some ⟨b2,0,none⟩)))],mpK b8 (vI .i64) ([]:CM)::mpV b13 .u32 (vI .i64) ([]:CS)::.box b3 [.val (.map (some b8)),.val (.map (some b13))] 36::.box b1 [mapK (vI .i64) M,mapV .u32 (vI .i64) N] 36::.box b2 [.val (.map none),.val (.map none)] 36::h⟩) lee ?_;refine S.call ?_;refine (cpyk_c b8 M _ hM).mono ?_;rintro r h' ⟨rfl,hh⟩;subst hh;(repeat' first|refine svE ⟨?_⟩|refine .b fun b=>?_|refine .u fun u=>?_|refine .d ?_ ?_|(refine .g fun hg=>?_;try exact svx)|fail);refine Step.le (s':=⟨26,[(23,mapV .u32 (vI .i64) N),(21,.val (.map (some b13))),(3,.val (.pointer (some ⟨b3,0,none⟩))),(1,.val (.pointer (some ⟨b1,0,none⟩))),(2,.val (.pointer (some ⟨b2,0,none⟩)))],mpV b13 .u32 (vI .i64) ([]:CS)::mpK b8 (vI .i64) M::.box b3 [.val (.map (some b8)),.val (.map (some b13))] 36::.box b1 [mapK (vI .i64) M,mapV .u32 (vI .i64) N] 36::.box b2 [.val (.map none),.val (.map none)] 36::h⟩) lee ?_;refine S.call ?_;refine (cpyi_c b13 N _ hS).mono ?_;rintro r h' ⟨rfl,hh⟩;subst hh;(repeat' first|refine svE ⟨?_⟩|refine .b fun b=>?_|refine .u fun u=>?_|refine .d ?_ ?_|(refine .g fun hg=>?_;try exact svx)|fail);exact fin_r (h':=mpK b8 (vI .i64) M::mpV b13 .u32 (vI .i64) N::h) ⟨b8,b13,rfl,rfl⟩
def mkF (M:CM) (c id:Int):Int:=(lkK M (c,id)).getD 0
def msk (mask:Int):Int:=bitsI .and .i64 mask 8191
def whoF (M:CM) (id mask:Int):List Int:=((List.range 8).map fun i:Nat=>(i:Int)+1).filter fun c=>decide (bitsI .and .i64 (mkF M c id) (msk mask)≠0)
theorem cmask_c (M:CM) (N:CS) (c id:Int) (h:Heap):ACalls Tryz.prog 115 [encC M N,.val (.int .i64 (c)),.val (.int .u32 (id))] h (fun r h'=>r=.val (.int .i64 (mkF M c id))∧h'=h):=by
 unfold encC
 refine ACalls.intro Tryz.func115 rfl Tryz.ntmps115 Tryz.results115 (Nat.le_of_ble_eq_true rfl) ?_
 (repeat' first|refine svE ⟨?_⟩|refine .b fun b=>?_|refine .u fun u=>?_|refine .d ?_ ?_|(refine .g fun hg=>?_;try exact svx)|fail)
 refine S.lookK (c,id) ?_
 (repeat' first|refine svE ⟨?_⟩|refine .b fun b=>?_|refine .u fun u=>?_|refine .d ?_ ?_|(refine .g fun hg=>?_;try exact svx)|fail)
 exact fin_r (h':=h) ⟨rfl,rfl⟩
theorem ints_snoc (k:IntKind) (l:List Int) (x:Int):ints k (l++[x])=ints k l++[.val (.int k x)]:=by simp[ints]
theorem who_step (M:CM) (id mask:Int) (i:Nat) (hi:i<8):(((List.range (i+1)).map fun i:Nat=>(i:Int)+1).filter fun c=>decide (bitsI .and .i64 (mkF M c id) (msk mask)≠0))=(((List.range i).map fun i:Nat=>(i:Int)+1).filter fun c=>decide (bitsI .and .i64 (mkF M c id) (msk mask)≠0))++if bitsI .and .i64 (mkF M ((i:Int)+1) id) (msk mask)≠0 then [(i:Int)+1] else []:=by
 rw[List.range_succ,List.map_append,List.filter_append]
 congr 1
 simp only[List.map_cons,List.map_nil,List.filter_cons,List.filter_nil,decide_eq_true_eq]
theorem who_c (M:CM) (N:CS) (id mask:Int) (h:Heap):ACalls Tryz.prog 12 [encC M N,.val (.int .u32 (id)),.val (.int .i64 (mask))] h (fun r h'=>r=.ro 1 (ints .i64 (whoF M id mask))∧h'=h):=by
 have st:=who_step M id mask
 unfold encC whoF
 generalize hm:msk mask=mk at *
 unfold msk at hm
 refine fz (g:=fun v=>v) (g':=fun v=>v) (k:=1) (e:=3) (l:=ints .i64 (((List.range 8).map fun i:Nat=>(i:Int)+1).filter fun c=>decide (bitsI .and .i64 (mkF M c id) mk≠0))) (fun v=>by (repeat' (first|exact Frz.hit|apply Frz.aggc|apply Frz.tupc|exact Frz.aggn|exact Frz.tupn|exact Frz.keep _))) ?_
 refine ACalls.intro Tryz.func12 rfl Tryz.ntmps12 Tryz.results12 (Nat.le_of_ble_eq_true rfl) ?_
 (repeat' first|refine svE ⟨?_⟩|refine .b fun b=>?_|refine .u fun u=>?_|refine .d ?_ ?_|(refine .g fun hg=>?_;try exact svx)|fail)
 rw[hm]
 (repeat' first|refine svE ⟨?_⟩|refine .b fun b=>?_|refine .u fun u=>?_|refine .d ?_ ?_|(refine .g fun hg=>?_;try exact svx)|fail)
 refine W.nil_ 1 3 ?_
 revert b;intro b3
 refine W.loop (J:=fun x:Nat × Value=>⟨29,[(8,.val (.int .i64 ((x.1:Int)+1))),(7,.val x.2),(2,.val (.int .i64 (mk))),(1,.val (.int .u32 (id))),(3,.val (.pointer (some ⟨b3,0,none⟩)))],.own x.2 1 (ints .i64 ((((List.range (x.1)).map fun i:Nat=>(i:Int)+1).filter fun c=>decide (bitsI .and .i64 (mkF M c id) mk≠0)))) 3::.box b3 [mapK (vI .i64) M,mapV .u32 (vI .i64) N] 36::h⟩)
  (Φ:=fun x=>x.1≤8) (μ:=fun x=>8 - x.1) (0,.slice none 0 0) lee (Nat.zero_le _) ?_
 rintro⟨i,v⟩ hi
 dsimp only at hi ⊢
 rcases Nat.lt_or_ge i 8 with hlt|hge
 ·have st:=st i hlt
  have hll:((((List.range (i)).map fun i:Nat=>(i:Int)+1).filter fun c=>decide (bitsI .and .i64 (mkF M c id) mk≠0))).length≤i:=Nat.le_trans (List.length_filter_le _ _) (by simp)
  generalize (((List.range (i)).map fun i:Nat=>(i:Int)+1).filter fun c=>decide (bitsI .and .i64 (mkF M c id) mk≠0))=L at *
  (repeat' first|refine svE ⟨?_⟩|refine .b fun b=>?_|refine .u fun u=>?_|refine .d ?_ ?_|(refine .g fun hg=>?_;try exact svx)|fail)
  refine S.lookK ((i:Int)+1,id) ?_
  rw[show (lkK M ((i:Int)+1,id)).getD 0=mkF M ((i:Int)+1) id from rfl]
  generalize mkF M ((i:Int)+1) id=q at *
  by_cases hq:bitsI .and .i64 q mk≠0
  ·rw[if_pos hq] at st
   (repeat' (first|(refine iR2 ?_;refine r2b ?_;refine R2.one ?_)|(refine iS ?_;refine iN ?_;refine S.build1r ?_)|(refine iS ?_;refine iMu ?_;refine S.mapU ?_)|refine svF ⟨?_⟩|refine .b fun b=>?_|refine .u fun u=>?_|refine .d ?_ ?_|(refine .g fun hg=>?_;try exact svx)|refine sva ?_|refine sv3 ?_|fail))
   refine⟨(i+1,u),hlt,?_,by dsimp only;omega⟩
   dsimp only
   rw[st,ints_snoc]
   exact lee
  ·rw[if_neg hq,List.append_nil] at st
   (repeat' first|refine svE ⟨?_⟩|refine .b fun b=>?_|refine .u fun u=>?_|refine .d ?_ ?_|(refine .g fun hg=>?_;try exact svx)|fail)
   refine⟨(i+1,v),hlt,?_,by dsimp only;omega⟩
   dsimp only
   rw[st]
   exact lee
 ·have e:i=8:=by omega
  subst e
  (repeat' first|refine svE ⟨?_⟩|refine .b fun b=>?_|refine .u fun u=>?_|refine .d ?_ ?_|(refine .g fun hg=>?_;try exact svx)|fail)
  exact fin_r (h':=.own v 1 (ints .i64 ((((List.range (8)).map fun i:Nat=>(i:Int)+1).filter fun c=>decide (bitsI .and .i64 (mkF M c id) mk≠0)))) 3::h) ⟨v,rfl,rfl⟩
end Go.Proofs.YtbknacpdcdkjiaaGreat
