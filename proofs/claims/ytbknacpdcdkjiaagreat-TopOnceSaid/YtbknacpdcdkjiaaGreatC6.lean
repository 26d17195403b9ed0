/- region's functions: Union, Meet, Minus, Xor, Within, Inside, Shift. No condition. -/
import Derived.Test.YtbknacpdcdkjiaaGreatC5
namespace Go.Proofs.YtbknacpdcdkjiaaGreat
open Go Go.VM
set_option maxRecDepth 100000
attribute [local irreducible] PurV Pur Step RL W D ACalls Then InBlock Fini
set_option linter.unusedVariables false
set_option linter.unusedSimpArgs false
set_option maxHeartbeats 20000000
theorem rects_o (l:List RC) (h:Heap) (hl:l.length≤1000000000000):ACalls Tryz.prog 103 [regE l] h (fun r h'=>∃v,r=.val v∧h'=.own v 4 (l.map RC.enc) 200::h):=by
 refine ACalls.nilo (Q:=fun r h'=>(r=.val (.slice none 0 0)∧l=[]∧h'=h)∨∃v,r=.val v∧h'=.own v 4 (l.map RC.enc) 200::h) ?_ ?_
 ·unfold regE
  refine ACalls.intro Tryz.func103 rfl Tryz.ntmps103 Tryz.results103 (Nat.le_of_ble_eq_true rfl) ?_
  (repeat' first|refine svE ⟨?_⟩|refine .b fun b=>?_|refine .u fun u=>?_|refine .d ?_ ?_|(refine .g fun hg=>?_;try exact svx)|fail)
  refine S.call ?_
  refine (clone_c0 l _ hl).mono ?_
  rintro r h' (⟨rfl,e,hh⟩|⟨v,rfl,hh⟩)<;>subst hh
  ·(repeat' first|refine svE ⟨?_⟩|refine .b fun b=>?_|refine .u fun u=>?_|refine .d ?_ ?_|(refine .g fun hg=>?_;try exact svx)|fail)
   exact fin_r (h':=h) (.inl ⟨rfl,e,rfl⟩)
  ·(repeat' first|refine svE ⟨?_⟩|refine .b fun b=>?_|refine .u fun u=>?_|refine .d ?_ ?_|(refine .g fun hg=>?_;try exact svx)|fail)
   exact fin_r (h':=.own v 4 (l.map RC.enc) 200::h) (.inr ⟨v,rfl,rfl⟩)
 ·rintro r h' (⟨rfl,e,rfl⟩|⟨v,rfl,rfl⟩)
  ·exact .inr ⟨4,200,_,rfl,by rw[e];rfl⟩
  ·exact .inl ⟨v,rfl,rfl⟩
theorem meet_c (A B:List RC) (h:Heap) (ok:JOk A B):ACalls Tryz.prog 75 [regE A,regE B] h (fun r h'=>r=regE (joinJ (fun p q=>p&&q) A B)∧h'=h):=by
 have hj:=fun h=>join_c (fun p q=>p&&q) 107 (fun p q h=>meet1_c p q h) A B h ok
 unfold regE at *
 refine ACalls.intro Tryz.func75 rfl Tryz.ntmps75 Tryz.results75 (Nat.le_of_ble_eq_true rfl) ?_
 (repeat' first|refine svE ⟨?_⟩|refine .b fun b=>?_|refine .u fun u=>?_|refine .d ?_ ?_|(refine .g fun hg=>?_;try exact svx)|fail)
 refine S.call ?_;refine (hj _).mono ?_;rintro r h' ⟨rfl,hh⟩;subst hh
 (repeat' first|refine svE ⟨?_⟩|refine .b fun b=>?_|refine .u fun u=>?_|refine .d ?_ ?_|(refine .g fun hg=>?_;try exact svx)|fail)
 exact fin_r (h':=h) ⟨rfl,rfl⟩
theorem minus_c (A B:List RC) (h:Heap) (ok:JOk A B):ACalls Tryz.prog 76 [regE A,regE B] h (fun r h'=>r=regE (joinJ (fun p q=>p&&!q) A B)∧h'=h):=by
 have hj:=fun h=>join_c (fun p q=>p&&!q) 109 (fun p q h=>minus1_c p q h) A B h ok
 unfold regE at *
 refine ACalls.intro Tryz.func76 rfl Tryz.ntmps76 Tryz.results76 (Nat.le_of_ble_eq_true rfl) ?_
 (repeat' first|refine svE ⟨?_⟩|refine .b fun b=>?_|refine .u fun u=>?_|refine .d ?_ ?_|(refine .g fun hg=>?_;try exact svx)|fail)
 refine S.call ?_;refine (hj _).mono ?_;rintro r h' ⟨rfl,hh⟩;subst hh
 (repeat' first|refine svE ⟨?_⟩|refine .b fun b=>?_|refine .u fun u=>?_|refine .d ?_ ?_|(refine .g fun hg=>?_;try exact svx)|fail)
 exact fin_r (h':=h) ⟨rfl,rfl⟩
theorem within_c (A:List RC) (c:RC) (h:Heap) (hc:c.ok) (ok:JOk A (ofF [c])):ACalls Tryz.prog 106 [regE A,c.enc] h (fun r h'=>r=regE (joinJ (fun p q=>p&&q) A (ofF [c]))∧h'=h):=by
 have hm:=meet_c A (ofF [c])
 have ho:=of_c [c]
 unfold regE at *
 show ACalls Tryz.prog 106 [_,.agg [.val (.int .i64 c.x),.val (.int .i64 c.y),.val (.int .i64 c.w),.val (.int .i64 c.h)]] h _
 refine ACalls.intro Tryz.func106 rfl Tryz.ntmps106 Tryz.results106 (Nat.le_of_ble_eq_true rfl) ?_
 (repeat' (first|(refine iS ?_;refine iN ?_;first|refine S.build1r ?_|refine S.build2r ?_|refine S.build3r ?_)|(refine iR2 ?_;refine r2b ?_;refine R2.one ?_)|(refine iS ?_;refine iMu ?_;refine S.mapU ?_)|refine svF ⟨?_⟩|refine .b fun b=>?_|refine .u fun u=>?_|refine .d ?_ ?_|(refine .g fun hg=>?_;try exact svx)|refine sva ?_|refine sv3 ?_|fail))
 refine R2.C (ho _ (by simp) (by simpa using hc)) ?_
 (repeat' (first|(refine iS ?_;refine iN ?_;first|refine S.build1r ?_|refine S.build2r ?_|refine S.build3r ?_)|(refine iR2 ?_;refine r2b ?_;refine R2.one ?_)|(refine iS ?_;refine iMu ?_;refine S.mapU ?_)|refine svF ⟨?_⟩|refine .b fun b=>?_|refine .u fun u=>?_|refine .d ?_ ?_|(refine .g fun hg=>?_;try exact svx)|refine sva ?_|refine sv3 ?_|fail))
 refine R2.C (hm _ ok) ?_
 (repeat' (first|(refine iS ?_;refine iN ?_;first|refine S.build1r ?_|refine S.build2r ?_|refine S.build3r ?_)|(refine iR2 ?_;refine r2b ?_;refine R2.one ?_)|(refine iS ?_;refine iMu ?_;refine S.mapU ?_)|refine svF ⟨?_⟩|refine .b fun b=>?_|refine .u fun u=>?_|refine .d ?_ ?_|(refine .g fun hg=>?_;try exact svx)|refine sva ?_|refine sv3 ?_|fail))
 exact fin_r (h':=h) ⟨rfl,rfl⟩
def mvX (d:Int) (r:RC):RC:=⟨max (r.x+d) (-1048576),r.y,min (r.x+d+r.w) 1048576 - max (r.x+d) (-1048576),r.h⟩
def mvY (d:Int) (r:RC):RC:=⟨r.x,max (r.y+d) (-1048576),r.w,min (r.y+d+r.h) 1048576 - max (r.y+d) (-1048576)⟩
def mvR (dx dy:Int) (r:RC):RC:=mvY dy (mvX dx r)
theorem shift_c (A:List RC) (dx dy:Int) (h:Heap) (lA:A.length≤100000) (hA:∀r∈A,r.cnt) (hx:-2097152≤dx∧dx≤2097152) (hy:-2097152≤dy∧dy≤2097152) :
  ACalls Tryz.prog 73 [regE A,.val (.int .i64 dx),.val (.int .i64 dy)] h (fun r h'=>r=regE (ofF (A.map (mvR dx dy)))∧h'=h):=by
 have ro:=rects_o A
 unfold regE at *
 refine ACalls.intro Tryz.func73 rfl Tryz.ntmps73 Tryz.results73 (Nat.le_of_ble_eq_true rfl) ?_
 (repeat' first|refine svE ⟨?_⟩|refine .b fun b=>?_|refine .u fun u=>?_|refine .d ?_ ?_|(refine .g fun hg=>?_;try exact svx)|fail)
 rename_i b3
 revert b;intro b6
 refine S.call ?_
 refine (ro _ (by omega)).mono ?_
 rintro r h' ⟨v,rfl,hh⟩;subst hh
 (repeat' first|refine svE ⟨?_⟩|refine .b fun b=>?_|refine .u fun u=>?_|refine .d ?_ ?_|(refine .g fun hg=>?_;try exact svx)|fail)
 refine W.loop (J:=fun q:Nat × List RC=>⟨80,[(28,.val (.int .i64 (q.1:Int))),(27,.val (.int .i64 (A.length:Int))),(7,.val v),(6,.val (.pointer (some ⟨b6,0,none⟩))),(1,.val (.int .i64 dx)),(2,.val (.int .i64 dy))],.own v 4 (q.2.map RC.enc) 200::.box b6 [.val (.slice none 0 0)] 114::h⟩)
  (Φ:=fun q=>q.1≤A.length∧q.2=(A.take q.1).map (mvR dx dy)++A.drop q.1) (μ:=fun q=>A.length - q.1) (0,A) lee ⟨Nat.zero_le _,rfl⟩ ?_
 rintro⟨i,M⟩ ⟨hi,hM⟩
 dsimp only at hi hM ⊢
 have hMl:M.length=A.length:=by rw[hM,List.length_append,List.length_map,List.length_take,List.length_drop];omega
 rcases Nat.lt_or_ge i A.length with hlt|hge
 ·obtain⟨r,hr⟩:∃r,A[i]?=some r:=⟨_,List.getElem?_eq_getElem hlt⟩
  have htl:(List.map (mvR dx dy) (A.take i)).length=i:=by rw[List.length_map,List.length_take];omega
  have hMx:M[i]?=some r:=by
   rw[hM,List.getElem?_append_right (by omega),htl,Nat.sub_self,List.getElem?_drop];exact hr
  have hMs:M.set i (mvR dx dy r)=(A.take (i+1)).map (mvR dx dy)++A.drop (i+1):=by
   rw[hM,List.set_append_right _ _ (by omega),htl,Nat.sub_self,drop_at hr,List.take_add_one,hr]
   simp
  obtain⟨⟨c1,c2,c3⟩,c4,c5,c6⟩:=hA r (List.mem_of_getElem? hr)
  have mx:=moved_c r.x r.w dx
  have my:=moved_c r.y r.h dy
  (repeat' ((fail_if_success (refine drg ?_));(first|refine svE ⟨?_⟩|refine .b fun b=>?_|refine .u fun u=>?_|refine .d ?_ ?_|(refine .g fun hg=>?_;try exact svx)|fail)))
  refine W.dr (by (repeat (apply Sel.ro));exact Sel.done _) ?_
  (repeat' ((fail_if_success (refine drg ?_));(first|refine svE ⟨?_⟩|refine .b fun b=>?_|refine .u fun u=>?_|refine .d ?_ ?_|(refine .g fun hg=>?_;try exact svx)|fail)))
  refine R2.C (mx _ (by omega) (by omega) (by omega)) ?_
  (repeat' ((fail_if_success (refine drg ?_));(first|refine svE ⟨?_⟩|refine .b fun b=>?_|refine .u fun u=>?_|refine .d ?_ ?_|(refine .g fun hg=>?_;try exact svx)|fail)))
  dsimp only
  refine R2.B ?_
  (repeat' ((fail_if_success (refine drg ?_));(first|refine svE ⟨?_⟩|refine .b fun b=>?_|refine .u fun u=>?_|refine .d ?_ ?_|(refine .g fun hg=>?_;try exact svx)|fail)))
  have e1:(List.map RC.enc M).set i (.agg [.val (.int .i64 (max (r.x+dx) (-1048576))),.val (.int .i64 r.y),.val (.int .i64 r.w),.val (.int .i64 r.h)])=(M.set i ⟨max (r.x+dx) (-1048576),r.y,r.w,r.h⟩).map RC.enc:=by rw[List.map_set];rfl
  have h1:(M.set i ⟨max (r.x+dx) (-1048576),r.y,r.w,r.h⟩)[i]?=some ⟨max (r.x+dx) (-1048576),r.y,r.w,r.h⟩:=by rw[List.getElem?_set_self (by omega)]
  have h2:(M.set i (⟨max (r.x+dx) (-1048576),r.y,r.w,r.h⟩:RC)).length=A.length:=by rw[List.length_set,hMl]
  rw[e1]
  have h3:(M.set i ⟨max (r.x+dx) (-1048576),r.y,r.w,r.h⟩).set i (mvX dx r)=M.set i (mvX dx r):=by rw[List.set_set]
  generalize M.set i ⟨max (r.x+dx) (-1048576),r.y,r.w,r.h⟩=M1 at *
  (repeat' ((fail_if_success (refine drg ?_));(first|refine svE ⟨?_⟩|refine .b fun b=>?_|refine .u fun u=>?_|refine .d ?_ ?_|(refine .g fun hg=>?_;try exact svx)|fail)))
  dsimp only
  rw[show (List.map RC.enc M1).set i (.agg [.val (.int .i64 (max (r.x+dx) (-1048576))),.val (.int .i64 r.y),.val (.int .i64 (min (r.x+dx+r.w) 1048576 - max (r.x+dx) (-1048576))),.val (.int .i64 r.h)])=(M.set i (mvX dx r)).map RC.enc from by rw[←h3,List.map_set];rfl]
  clear h3 e1 h1 h2
  have h4:(M.set i (mvX dx r))[i]?=some (mvX dx r):=by rw[List.getElem?_set_self (by omega)]
  have h5:(M.set i (mvX dx r)).length=A.length:=by rw[List.length_set,hMl]
  have h6:(M.set i (mvX dx r)).set i (mvR dx dy r)=M.set i (mvR dx dy r):=by rw[List.set_set]
  have q1:(mvX dx r).y=r.y:=rfl
  have q2:(mvX dx r).h=r.h:=rfl
  have q3:mvR dx dy r=mvY dy (mvX dx r):=rfl
  rw[←q1] at c4
  rw[←q2] at c5
  rw[←q1,←q2] at c6 my
  generalize M.set i (mvX dx r)=M2 at *
  generalize mvX dx r=q at *
  refine W.dr (by (repeat (apply Sel.ro));exact Sel.done _) ?_
  (repeat' ((fail_if_success (refine drg ?_));(first|refine svE ⟨?_⟩|refine .b fun b=>?_|refine .u fun u=>?_|refine .d ?_ ?_|(refine .g fun hg=>?_;try exact svx)|fail)))
  refine R2.C (my _ (by omega) (by omega) (by omega)) ?_
  (repeat' ((fail_if_success (refine drg ?_));(first|refine svE ⟨?_⟩|refine .b fun b=>?_|refine .u fun u=>?_|refine .d ?_ ?_|(refine .g fun hg=>?_;try exact svx)|fail)))
  dsimp only
  refine R2.B ?_
  (repeat' ((fail_if_success (refine drg ?_));(first|refine svE ⟨?_⟩|refine .b fun b=>?_|refine .u fun u=>?_|refine .d ?_ ?_|(refine .g fun hg=>?_;try exact svx)|fail)))
  have e1:(List.map RC.enc M2).set i (.agg [.val (.int .i64 q.x),.val (.int .i64 (max (q.y+dy) (-1048576))),.val (.int .i64 q.w),.val (.int .i64 q.h)])=(M2.set i ⟨q.x,max (q.y+dy) (-1048576),q.w,q.h⟩).map RC.enc:=by rw[List.map_set];rfl
  have h1:(M2.set i ⟨q.x,max (q.y+dy) (-1048576),q.w,q.h⟩)[i]?=some ⟨q.x,max (q.y+dy) (-1048576),q.w,q.h⟩:=by rw[List.getElem?_set_self (by omega)]
  have h2:(M2.set i (⟨q.x,max (q.y+dy) (-1048576),q.w,q.h⟩:RC)).length=A.length:=by rw[List.length_set,h5]
  rw[e1]
  have h3:(M2.set i ⟨q.x,max (q.y+dy) (-1048576),q.w,q.h⟩).set i (mvR dx dy r)=M.set i (mvR dx dy r):=by rw[List.set_set,h6]
  generalize M2.set i ⟨q.x,max (q.y+dy) (-1048576),q.w,q.h⟩=M1 at *
  (repeat' ((fail_if_success (refine drg ?_));(first|refine svE ⟨?_⟩|refine .b fun b=>?_|refine .u fun u=>?_|refine .d ?_ ?_|(refine .g fun hg=>?_;try exact svx)|fail)))
  dsimp only
  rw[show (List.map RC.enc M1).set i (.agg [.val (.int .i64 q.x),.val (.int .i64 (max (q.y+dy) (-1048576))),.val (.int .i64 q.w),.val (.int .i64 (min (q.y+dy+q.h) 1048576 - max (q.y+dy) (-1048576)))])=(M.set i (mvR dx dy r)).map RC.enc from by rw[←h3,List.map_set,q3];rfl]
  exact⟨(i+1,M.set i (mvR dx dy r)),⟨hlt,hMs⟩,lee,by dsimp only;omega⟩
 ·have hM2:M=A.map (mvR dx dy):=by rw[hM,List.take_of_length_le hge,List.drop_eq_nil_of_le hge,List.append_nil]
  subst hM2
  (repeat' first|refine svE ⟨?_⟩|refine .b fun b=>?_|refine .u fun u=>?_|refine .d ?_ ?_|(refine .g fun hg=>?_;try exact svx)|fail)
  refine Step.frz (v:=v) (by (fail_if_success (apply tkG));(repeat (first|exact Tk.here|apply Tk.there));first|done|fail) (by repeat' (first|apply FrzT.cons|exact FrzT.rest _|exact Frz.hit|apply Frz.aggc|apply Frz.tupc|exact Frz.aggn|exact Frz.tupn|exact Frz.keep _)) (by repeat' (first|apply FrzH.box|apply FrzH.keep|exact FrzH.rest _|exact Frz.hit|apply Frz.aggc|apply Frz.tupc|exact Frz.aggn|exact Frz.tupn|exact Frz.keep _)) ?_
  refine S.call ?_;refine (of_c (A.map (mvR dx dy)) _ (by rw[List.length_map];omega) (fun r hr=>by
   obtain⟨q,hq,rfl⟩:=List.mem_map.1 hr
   obtain⟨⟨c1,c2,c3⟩,c4,c5,c6⟩:=hA q hq
   constructor<;>(unfold I64 mvR mvY mvX;dsimp only;omega))).mono ?_;rintro r h' ⟨rfl,hh⟩;subst hh
  (repeat' first|refine svE ⟨?_⟩|refine .b fun b=>?_|refine .u fun u=>?_|refine .d ?_ ?_|(refine .g fun hg=>?_;try exact svx)|fail)
  exact fin_r (h':=h) ⟨rfl,rfl⟩
end Go.Proofs.YtbknacpdcdkjiaaGreat
