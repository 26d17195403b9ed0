import Derived.Test.YtbknacpdcdkjiaaGreatB9

/- The library's functions on slices of rectangles: DeleteFunc, EqualFunc, Equal, Clone, Clip. No condition. -/
namespace Go.Proofs.YtbknacpdcdkjiaaGreat
open Go Go.VM
set_option maxRecDepth 100000
attribute [local irreducible] PurV Pur Step RL W D ACalls Then InBlock Fini
set_option linter.unusedVariables false
set_option linter.unusedSimpArgs false
set_option maxHeartbeats 20000000
theorem take_splice0 {l ys:List AV} {k:Nat} (h:k≤l.length):(splice l k ys).take k=l.take k:=by
 unfold splice
 rw[List.append_assoc,List.take_append_of_le_length (by rw[List.length_take];omega),List.take_take,Nat.min_self]
theorem findIdx_prefix {p:RC→Bool} {l:List RC} {i:Nat} (h:l.findIdx? p=some i):∃r,l[i]?=some r∧p r=true∧∀x∈l.take i,p x=false:=by
 obtain⟨hi,h1,h2⟩:=List.findIdx?_eq_some_iff_getElem.1 h
 refine⟨l[i],List.getElem?_eq_getElem hi,h1,fun x hx=>?_⟩
 obtain⟨j,hj,rfl⟩:=List.mem_take_iff_getElem.1 hx
 have:=h2 j (by omega)
 simpa using this
theorem filter_take_succ {p:RC→Bool} {l:List RC} {j:Nat} {r:RC} (hx:l[j]?=some r):(l.take (j+1)).filter p=(l.take j).filter p++(if p r then [r] else []):=by
 rw[List.take_add_one,hx,List.filter_append]
 cases h:p r<;>simp[h]
theorem deletefunc_c (p:RC→Bool) (l:List RC) (v:Value) {fv:AV} {f:Nat} {caps:List AV} [TFun Tryz.prog f] (hF:Fv fv f caps) (h:Heap) (hl:l.length≤1000000)
  (hp:∀r∈l,ACalls Tryz.prog f (r.enc::caps) h (fun z h'=>z=.val (.bool (p r))∧h'=h)) :
  ACalls Tryz.prog 136 [.val v,fv] (.own v 4 (l.map RC.enc) 200::h) (fun r h'=>∃w,r=.val w∧h'=.own w 4 ((l.filter fun x=>!p x).map RC.enc) 200::h):=by
 refine ACalls.intro Tryz.func136 rfl Tryz.ntmps136 Tryz.results136 (Nat.le_of_ble_eq_true rfl) ?_
 (repeat' first|refine svz ⟨fun b hq=>?_⟩|refine svE ⟨?_⟩|refine .b fun b=>?_|refine .u fun u=>?_|refine .d ?_ ?_|(refine .g fun hg=>?_;try exact svx)|fail)
 refine S.call ?_;refine (indexfunc_c p l v _ hF h hl hp).mono ?_;rintro r h' ⟨rfl,hh⟩;subst hh
 unfold idxF
 cases hi:l.findIdx? p with
 | none=>
  have e:(l.filter fun x=>!p x)=l:=List.filter_eq_self.2 fun x hx=>by rw[List.findIdx?_eq_none_iff.1 hi x hx];rfl
  rw[e]
  dsimp only
  (repeat' first|refine svz ⟨fun b hq=>?_⟩|refine svE ⟨?_⟩|refine .b fun b=>?_|refine .u fun u=>?_|refine .d ?_ ?_|(refine .g fun hg=>?_;try exact svx)|fail)
  exact fin_r (h':=_) ⟨v,rfl,rfl⟩
 | some i=>
  obtain⟨r0,hr0,hpr0,hpre⟩:=findIdx_prefix hi
  have hil:i<l.length:=(List.getElem?_eq_some_iff.1 hr0).1
  have e0:(l.take i).filter (fun x=>!p x)=l.take i:=List.filter_eq_self.2 fun x hx=>by rw[hpre x hx];rfl
  have e1:(l.take (i+1)).filter (fun x=>!p x)=l.take i:=by rw[filter_take_succ hr0,e0,hpr0];simp
  dsimp only
  (repeat' first|refine svz ⟨fun b hq=>?_⟩|refine svE ⟨?_⟩|refine .b fun b=>?_|refine .u fun u=>?_|refine .d ?_ ?_|(refine .g fun hg=>?_;try exact svx)|fail)
  refine W.loop (J:=fun x:Nat × Nat × List RC=>⟨42,[(6,.val (.int .i64 (x.1:Int))),(5,.val (.int .i64 (x.2.1:Int))),(0,.val v),(1,fv)],.own v 4 (x.2.2.map RC.enc) 200::h⟩)
   (Φ:=fun x=>x.1≤l.length∧x.2.1<x.1∧x.2.2.length=l.length∧x.2.2.drop x.1=l.drop x.1∧x.2.2.take x.2.1=(l.take x.1).filter fun y=>!p y) (μ:=fun x=>l.length - x.1) (i+1,i,l) lee ⟨hil,by dsimp only;omega,rfl,rfl,by dsimp only;rw[e1]⟩ ?_
  rintro⟨j,k,m⟩ ⟨hj,hkj,hm,hd,ht⟩
  dsimp only at hj hkj hm hd ht ⊢
  rcases Nat.lt_or_ge j l.length with hlt|hge
  ·obtain⟨r,hx⟩:∃r,l[j]?=some r:=⟨_,List.getElem?_eq_getElem hlt⟩
   have hr:r∈l:=List.mem_of_getElem? hx
   have hxm:m[j]?=some r:=by
    have:=congrArg (·[0]?) hd
    simp only[List.getElem?_drop,Nat.add_zero] at this
    rw[this];exact hx
   (repeat' first|refine svz ⟨fun b hq=>?_⟩|refine svE ⟨?_⟩|refine .b fun b=>?_|refine .u fun u=>?_|refine .d ?_ ?_|(refine .g fun hg=>?_;try exact svx)|fail)
   refine S.callv hF ?_
   refine (hp r hr).keep2.mono ?_
   rintro z h' ⟨rfl,hh⟩;subst hh
   have hs:=filter_take_succ (p:=fun y=>!p y) hx
   cases hpr:p r with
   | true=>
    rw[hpr] at hs
    (repeat' first|refine svz ⟨fun b hq=>?_⟩|refine svE ⟨?_⟩|refine .b fun b=>?_|refine .u fun u=>?_|refine .d ?_ ?_|(refine .g fun hg=>?_;try exact svx)|fail)
    refine⟨(j+1,k,m),⟨hlt,by dsimp only;omega,hm,?_,?_⟩,lee,by dsimp only;omega⟩
    ·dsimp only;rw[←List.drop_drop,←List.drop_drop,hd]
    ·dsimp only;rw[ht,hs];simp
   | false=>
    rw[hpr] at hs
    (repeat' first|refine svz ⟨fun b hq=>?_⟩|refine svE ⟨?_⟩|refine .b fun b=>?_|refine .u fun u=>?_|refine .d ?_ ?_|(refine .g fun hg=>?_;try exact svx)|fail)
    refine⟨(j+1,k+1,m.set k r),⟨hlt,by dsimp only;omega,by simpa using hm,?_,?_⟩,by dsimp only;rw[List.map_set];exact lee,by dsimp only;omega⟩
    ·dsimp only
     rw[List.drop_set_of_lt (by omega),←List.drop_drop,←List.drop_drop,hd]
    ·dsimp only
     rw[hs,List.take_set,List.take_add_one,List.getElem?_eq_getElem (by omega),ht]
     have hlen:k=((l.take j).filter fun y=>!p y).length:=by rw[←ht,List.length_take];omega
     simp only[Option.toList_some]
     rw[List.set_append_right _ _ (by omega)]
     simp[←hlen]
  ·have hjl:j=l.length:=by omega
   subst hjl
   rw[List.take_length] at ht
   (repeat' first|refine svz ⟨fun b hq=>?_⟩|refine svE ⟨?_⟩|refine .b fun b=>?_|refine .u fun u=>?_|refine .d ?_ ?_|(refine .g fun hg=>?_;try exact svx)|fail)
   refine S.clear ?_
   (repeat' ((fail_if_success (refine iS ?_;refine iSl ?_));(first|refine svE ⟨?_⟩|refine .b fun b=>?_|refine .u fun u=>?_|refine .d ?_ ?_|(refine .g fun hg=>?_;try exact svx)|fail)))
   refine S.trunc (hi:=k) (fun w=>?_)
   (repeat' first|refine svz ⟨fun b hq=>?_⟩|refine svE ⟨?_⟩|refine .b fun b=>?_|refine .u fun u=>?_|refine .d ?_ ?_|(refine .g fun hg=>?_;try exact svx)|fail)
   have e2:∀ys,(splice (m.map RC.enc) k ys).take k=(l.filter fun x=>!p x).map RC.enc:=fun ys=>by rw[take_splice0 (by simp;omega),←List.map_take,ht]
   refine fin_r (h':=.own w 4 ((l.filter fun x=>!p x).map RC.enc) 200::h) ⟨w,rfl,rfl⟩ (h2:=?_)
   dsimp only
   rw[e2]
   exact (by repeat (first|exact LeH.refl _|exact LeH.nil _|refine LeH.cons (by (fail_if_success (apply tkG));(repeat (first|exact Tk.here|apply Tk.there));first|done|fail) ?_|refine LeH.boxw (by (fail_if_success (apply tkG));(repeat (first|exact Tk.here|apply Tk.there));first|done|fail) (by (repeat (first|exact Wk.refl _|exact Wk.nilr _|exact Wk.nilm|apply Wk.aggc|apply Wk.tupc|exact Wk.aggn|exact Wk.tupn));first|done|fail) ?_|refine LeH.skip ?_))
def eqF (q:RC→RC→Bool):List RC→List RC→Bool
 | [],[]=>true
 | x::a,y::b=>q x y&&eqF q a b
 | _,_=>false
theorem eqF_len {q:RC→RC→Bool}:∀{a b:List RC},a.length≠b.length→eqF q a b=false
 | [],[],h=>absurd rfl h
 | [],_::_,_=>rfl
 | _::_,[],_=>rfl
 | x::a,y::b,h=>by unfold eqF;rw[eqF_len (a:=a) (b:=b) (by simpa using h),Bool.and_false]
theorem eqF_at {q:RC→RC→Bool}:∀{a b:List RC},eqF q a b=true↔a.length=b.length∧∀(i:Nat) (r s:RC),a[i]?=some r→b[i]?=some s→q r s=true
 | [],[]=>by simp[eqF]
 | [],_::_=>by simp[eqF]
 | _::_,[]=>by simp[eqF]
 | x::a,y::b=>by
  unfold eqF
  rw[Bool.and_eq_true,eqF_at]
  constructor
  ·rintro⟨h1,h2,h3⟩
   refine⟨by simp[h2],fun i r s hr hs=>?_⟩
   cases i with
   | zero=>simp at hr hs;subst hr;subst hs;exact h1
   | succ i=>exact h3 i r s (by simpa using hr) (by simpa using hs)
  ·rintro⟨h2,h3⟩
   exact⟨h3 0 x y rfl rfl,by simpa using h2,fun i r s hr hs=>h3 (i+1) r s (by simpa using hr) (by simpa using hs)⟩
theorem equalfunc_c (q:RC→RC→Bool) (l m:List RC) {fv:AV} {f:Nat} {caps:List AV} [TFun Tryz.prog f] (hF:Fv fv f caps) (h:Heap)
  (hp:∀r∈l,∀s,ACalls Tryz.prog f (r.enc::s.enc::caps) h (fun z h'=>z=.val (.bool (q r s))∧h'=h)) :
  ACalls Tryz.prog 164 [.ro 4 (l.map RC.enc),.ro 4 (m.map RC.enc),fv] h (fun z h'=>z=.val (.bool (eqF q l m))∧h'=h):=by
 refine ACalls.intro Tryz.func164 rfl Tryz.ntmps164 Tryz.results164 (Nat.le_of_ble_eq_true rfl) ?_
 refine W.len 0 rfl (fun ha=>?_);simp only[ints,splice,List.length_map,List.length_append,List.length_cons,List.length_nil,List.length_take,List.length_drop,List.length_set,List.length_replicate] at ha
 refine W.len 1 rfl (fun hb=>?_);simp only[ints,splice,List.length_map,List.length_append,List.length_cons,List.length_nil,List.length_take,List.length_drop,List.length_set,List.length_replicate] at hb
 by_cases hl:l.length=m.length
 ·(repeat' first|refine svz ⟨fun b hq=>?_⟩|refine svE ⟨?_⟩|refine .b fun b=>?_|refine .u fun u=>?_|refine .d ?_ ?_|(refine .g fun hg=>?_;try exact svx)|fail)
  refine W.loop (J:=fun k:Nat=>⟨32,[(17,.val (.int .i64 (k:Int))),(16,.val (.int .i64 (l.length:Int))),(15,.ro 4 (l.map RC.enc)),(1,.ro 4 (m.map RC.enc)),(2,fv)],h⟩)
   (Φ:=fun k=>k≤l.length∧∀i r s,i<k→l[i]?=some r→m[i]?=some s→q r s=true) (μ:=fun k=>l.length - k) 0 lee ⟨Nat.zero_le _,by omega⟩ ?_
  rintro k ⟨hk,he⟩
  rcases Nat.lt_or_ge k l.length with hlt|hge
  ·have hltb:k<m.length:=by omega
   obtain⟨r,hx⟩:∃r,l[k]?=some r:=⟨_,List.getElem?_eq_getElem hlt⟩
   obtain⟨s,hy⟩:∃s,m[k]?=some s:=⟨_,List.getElem?_eq_getElem hltb⟩
   (repeat' first|refine svz ⟨fun b hq=>?_⟩|refine svE ⟨?_⟩|refine .b fun b=>?_|refine .u fun u=>?_|refine .d ?_ ?_|(refine .g fun hg=>?_;try exact svx)|fail)
   refine S.callv hF ?_
   refine (hp r (List.mem_of_getElem? hx) s).keep2.mono ?_
   rintro z h' ⟨rfl,hh⟩;subst hh
   cases hq:q r s with
   | true=>
    (repeat' first|refine svz ⟨fun b hq=>?_⟩|refine svE ⟨?_⟩|refine .b fun b=>?_|refine .u fun u=>?_|refine .d ?_ ?_|(refine .g fun hg=>?_;try exact svx)|fail)
    refine⟨k+1,⟨hlt,fun i r' s' hi hr hs=>?_⟩,lee,by omega⟩
    by_cases hik:i=k
    ·subst hik;rw[hx] at hr;rw[hy] at hs;injection hr with hr;injection hs with hs;subst hr;subst hs;exact hq
    ·exact he i r' s' (by omega) hr hs
   | false=>
    have e:eqF q l m=false:=by
     cases h':eqF q l m with
     | false=>rfl
     | true=>rw[(eqF_at.1 h').2 k r s hx hy] at hq;cases hq
    rw[e]
    (repeat' first|refine svz ⟨fun b hq=>?_⟩|refine svE ⟨?_⟩|refine .b fun b=>?_|refine .u fun u=>?_|refine .d ?_ ?_|(refine .g fun hg=>?_;try exact svx)|fail)
    exact fin_r (h':=h) ⟨rfl,rfl⟩
  ·have e:eqF q l m=true:=eqF_at.2 ⟨hl,fun i r s hr hs=>he i r s (by have:=(List.getElem?_eq_some_iff.1 hr).1;omega) hr hs⟩
   rw[e]
   (repeat' first|refine svz ⟨fun b hq=>?_⟩|refine svE ⟨?_⟩|refine .b fun b=>?_|refine .u fun u=>?_|refine .d ?_ ?_|(refine .g fun hg=>?_;try exact svx)|fail)
   exact fin_r (h':=h) ⟨rfl,rfl⟩
 ·rw[eqF_len hl]
  (repeat' first|refine svz ⟨fun b hq=>?_⟩|refine svE ⟨?_⟩|refine .b fun b=>?_|refine .u fun u=>?_|refine .d ?_ ?_|(refine .g fun hg=>?_;try exact svx)|fail)
  exact fin_r (h':=h) ⟨rfl,rfl⟩
theorem clone_c0 (l:List RC) (h:Heap) (hl:l.length≤1000000000000):ACalls Tryz.prog 129 [.ro 4 (l.map RC.enc)] h (fun r h'=>(r=.val (.slice none 0 0)∧l=[]∧h'=h)∨∃v,r=.val v∧h'=.own v 4 (l.map RC.enc) 200::h):=by
 refine ACalls.intro Tryz.func129 rfl Tryz.ntmps129 Tryz.results129 (Nat.le_of_ble_eq_true rfl) ?_
 (repeat' first|refine svz ⟨fun b hq=>?_⟩|refine svE ⟨?_⟩|refine .b fun b=>?_|refine .u fun u=>?_|refine .d ?_ ?_|(refine .g fun hg=>?_;try exact svx)|fail)
 ·have:l=[]:=by simpa using hq (by assumption)
  exact fin_r (h':=h) (.inl ⟨rfl,this,rfl⟩)
 ·exact fin_r (h':=.own u 4 (l.map RC.enc) 200::h) (.inr ⟨u,rfl,rfl⟩)
theorem clone_c (l:List RC) (h:Heap) (hl:l.length≤1000000000000):ACalls Tryz.prog 129 [.ro 4 (l.map RC.enc)] h (fun r h'=>r=.ro 4 (l.map RC.enc)∧h'=h):=by
 refine ((clone_c0 l h hl).wk (Q':=fun r h'=>(r=.ro 4 (l.map RC.enc)∧h'=h)∨∃v,r=.val v∧h'=.own v 4 (l.map RC.enc) 200::h) ?_).frzo ?_
 ·rintro r h' (⟨rfl,rfl,rfl⟩|⟨v,rfl,rfl⟩)
  ·exact⟨_,.nilr 4,.inl ⟨rfl,rfl⟩⟩
  ·exact⟨_,.refl _,.inr ⟨v,rfl,rfl⟩⟩
 ·rintro r h' (⟨rfl,rfl⟩|⟨v,rfl,rfl⟩)
  ·exact .inl ⟨rfl,rfl⟩
  ·exact .inr ⟨v,4,_,_,_,h,.here,.hit,rfl,rfl⟩
theorem clip_c (l:List RC) (v:Value) (e:Nat) (h:Heap) (hl:l.length≤1000000000000):ACalls Tryz.prog 141 [.val v] (.own v 4 (l.map RC.enc) e::h) (fun r h'=>r=.ro 4 (l.map RC.enc)∧h'=h):=by
 refine ACalls.intro Tryz.func141 rfl Tryz.ntmps141 Tryz.results141 (Nat.le_of_ble_eq_true rfl) ?_
 refine W.frz (t':=[(0,.ro 4 (l.map RC.enc))]) .here (.cons .hit (.rest _)) (.rest _) ?_
 (repeat' first|refine svz ⟨fun b hq=>?_⟩|refine svE ⟨?_⟩|refine .b fun b=>?_|refine .u fun u=>?_|refine .d ?_ ?_|(refine .g fun hg=>?_;try exact svx)|fail)
 refine S.V (v:=.ro 4 (l.map RC.enc)) ?_ (hp:=pur_slice3_ro (k2:=.i64) (k3:=.i64) rfl (by rw[List.length_map];rfl) (by rw[List.length_map];rfl))
 (repeat' first|refine svz ⟨fun b hq=>?_⟩|refine svE ⟨?_⟩|refine .b fun b=>?_|refine .u fun u=>?_|refine .d ?_ ?_|(refine .g fun hg=>?_;try exact svx)|fail)
 exact fin_r (h':=_) ⟨rfl,rfl⟩
end Go.Proofs.YtbknacpdcdkjiaaGreat

/- slices.Compact at int. No condition. -/
namespace Go.Proofs.YtbknacpdcdkjiaaGreat
open Go Go.VM
set_option maxRecDepth 100000
attribute [local irreducible] PurV Pur Step RL W D ACalls Then InBlock Fini
set_option linter.unusedVariables false
set_option linter.unusedSimpArgs false
set_option maxHeartbeats 20000000
def ddF:List Int→List Int
 | []=>[]
 | [x]=>[x]
 | x::y::l=>if x=y then ddF (y::l) else x::ddF (y::l)
theorem ddF_snoc:∀(a:List Int) (x:Int),ddF (a++[x])=if a.getLast?=some x then ddF a else ddF a++[x]
 | [],x=>by simp[ddF]
 | [y],x=>by
  by_cases h:y=x
  ·simp[ddF,h]
  ·simp[ddF,h]
 | y::z::a,x=>by
  have ih:=ddF_snoc (z::a) x
  have e:(y::z::a).getLast?=(z::a).getLast?:=by simp[List.getLast?_cons_cons]
  rw[e]
  show ddF (y::z::(a++[x]))=_
  have e2:z::(a++[x])=(z::a)++[x]:=rfl
  unfold ddF
  rw[e2,ih]
  by_cases h1:(z::a).getLast?=some x
  ·simp only[h1,if_true]
  ·simp only[h1,if_false]
   split<;>simp
theorem mem_ddF:∀{l:List Int} {x:Int},x∈ddF l↔x∈l
 | [],x=>by simp[ddF]
 | [y],x=>by simp[ddF]
 | y::z::l,x=>by
  unfold ddF
  by_cases h:y=z
  ·rw[if_pos h,mem_ddF];subst h;simp
  ·rw[if_neg h,List.mem_cons,mem_ddF,List.mem_cons (a:=x) (b:=y)]
theorem up_ddF:∀{l:List Int},l.Pairwise (·≤·)→Up_ (ddF l)
 | [],_=>.nil
 | [y],_=>by simp[ddF,Up_]
 | y::z::l,h=>by
  have h':=h
  rw[List.pairwise_cons] at h
  unfold ddF
  by_cases e:y=z
  ·rw[if_pos e];exact up_ddF h.2
  ·rw[if_neg e]
   refine List.pairwise_cons.2 ⟨fun w hw=>?_,up_ddF h.2⟩
   rw[mem_ddF] at hw
   have h1:=h.1 z (List.mem_cons_self ..)
   rcases List.mem_cons.1 hw with rfl|hw
   ·omega
   ·have:=(List.pairwise_cons.1 h.2).1 w hw;omega
theorem getLast_take {l:List Int} {k:Nat} {y:Int} (h:l[k]?=some y):(l.take (k+1)).getLast?=some y:=by
 rw[List.take_add_one,h];simp
theorem dd_same {l:List Int} {k:Nat} {x y:Int} (hy:l[k]?=some y) (hx:l[k+1]?=some x) (e:x=y):ddF (l.take (k+1+1))=ddF (l.take (k+1)):=by
 rw[List.take_add_one,hx]
 simp only[Option.toList_some]
 rw[ddF_snoc,getLast_take hy,if_pos (by rw[e])]
theorem dd_more {l:List Int} {k:Nat} {x y:Int} (hy:l[k]?=some y) (hx:l[k+1]?=some x) (e:¬ x=y):ddF (l.take (k+1+1))=ddF (l.take (k+1))++[x]:=by
 rw[List.take_add_one,hx]
 simp only[Option.toList_some]
 rw[ddF_snoc,getLast_take hy,if_neg (by intro h;injection h with h;exact e h.symm)]
theorem drop_step {m l:List Int} {n:Nat} (hd:m.drop n=l.drop n):m.drop (n+1)=l.drop (n+1):=by
 have:=congrArg (List.drop 1) hd
 rwa[List.drop_drop,List.drop_drop] at this
theorem compact_c (l:List Int) (v:Value) (h:Heap) (hl:l.length≤1000000) :
  ACalls Tryz.prog 161 [.val v] (.own v 1 (ints .i64 l) 3::h) (fun r h'=>∃w,r=.val w∧h'=.own w 1 (ints .i64 (ddF l)) 3::h):=by
 refine ACalls.intro Tryz.func161 rfl Tryz.ntmps161 Tryz.results161 (Nat.le_of_ble_eq_true rfl) ?_
 by_cases h2:l.length<2
 ·have e:ddF l=l:=by
   match l,h2 with
   | [],_=>rfl
   | [x],_=>rfl
   | x::y::l,h=>simp at h;omega
  rw[e]
  (repeat' first|refine svz ⟨fun b hq=>?_⟩|refine svE ⟨?_⟩|refine .b fun b=>?_|refine .u fun u=>?_|refine .d ?_ ?_|(refine .g fun hg=>?_;try exact svx)|fail)
  exact fin_r (h':=_) ⟨v,rfl,rfl⟩
 obtain⟨z0,hz0⟩:∃z,l[0]?=some z:=⟨_,List.getElem?_eq_getElem (by omega)⟩
 (repeat' first|refine svz ⟨fun b hq=>?_⟩|refine svE ⟨?_⟩|refine .b fun b=>?_|refine .u fun u=>?_|refine .d ?_ ?_|(refine .g fun hg=>?_;try exact svx)|fail)
 refine W.loop (J:=fun k:Nat=>⟨61,[(3,.val (.int .i64 (k:Int))),(0,.val v)],.own v 1 (ints .i64 l) 3::h⟩)
  (Φ:=fun k=>1≤k∧k≤l.length∧ddF (l.take k)=l.take k) (μ:=fun k=>l.length - k) 1 lee ⟨Nat.le_refl _,by omega,by rw[List.take_add_one,hz0];rfl⟩ ?_
 rintro k ⟨h1,hk,hdd⟩
 obtain⟨j,rfl⟩:∃j,k=j+1:=⟨k - 1,by omega⟩
 rcases Nat.lt_or_ge (j+1) l.length with hlt|hge
 ·obtain⟨x,hx⟩:∃x,l[j+1]?=some x:=⟨_,List.getElem?_eq_getElem hlt⟩
  obtain⟨y,hy⟩:∃y,l[j]?=some y:=⟨_,List.getElem?_eq_getElem (by omega)⟩
  have hyy:l[((↑(j+1):Int) - 1).toNat]'(by omega)=y:=Option.some.inj ((List.getElem?_eq_getElem _).symm.trans (by rw[show ((↑(j+1):Int) - 1).toNat=j by omega];exact hy))
  by_cases hxy:x=y
  ·(repeat' first|refine svz ⟨fun b hq=>?_⟩|refine svE ⟨?_⟩|refine .b fun b=>?_|refine .u fun u=>?_|refine .d ?_ ?_|(refine .g fun hg=>?_;try exact svx)|fail)
   rw[len_ints]
   refine W.loop (J:=fun q:Nat × Nat × List Int=>⟨61,[(5,.val (.int .i64 (q.1:Int))),(4,.vw v 1 (j+1) (l.length - (j+1))),(3,.val (.int .i64 (q.2.1:Int))),(0,.val v)],.own v 1 (ints .i64 q.2.2) 3::h⟩)
    (Φ:=fun q=>1≤q.1∧j+1+q.1≤l.length∧1≤q.2.1∧q.2.1+1≤j+1+q.1∧q.2.2.length=l.length∧q.2.2.drop (j+q.1)=l.drop (j+q.1)∧q.2.2.take q.2.1=ddF (l.take (j+1+q.1))) (μ:=fun q=>l.length - q.1)
    (1,j+1,l) lee ⟨by dsimp only;omega,by dsimp only;omega,by dsimp only;omega,by dsimp only;omega,rfl,rfl,by dsimp only;rw[dd_same hy hx hxy,hdd]⟩ ?_
   rintro⟨i,k,m⟩ ⟨hi1,hi2,hk1,hk2,hm,hd,ht⟩
   dsimp only at hi1 hi2 hk1 hk2 hm hd ht ⊢
   obtain⟨c,rfl⟩:∃c,i=c+1:=⟨i - 1,by omega⟩
   have hat:∀n,j+(c+1)≤n→m[n]?=l[n]?:=fun n hn=>by
    have:=congrArg (·[n - (j+(c+1))]?) hd
    simp only[List.getElem?_drop] at this
    rwa[show j+(c+1)+(n - (j+(c+1)))=n by omega] at this
   rcases Nat.lt_or_ge (j+1+(c+1)) l.length with hlt2|hge2
   ·obtain⟨x2,hx2⟩:∃x,l[j+1+(c+1)]?=some x:=⟨_,List.getElem?_eq_getElem hlt2⟩
    obtain⟨y2,hy2⟩:∃y,l[j+1+c]?=some y:=⟨_,List.getElem?_eq_getElem (by omega)⟩
    have hxm:m[j+1+(c+1)]?=some x2:=by rw[hat _ (by omega)];exact hx2
    have hym:m[j+1+((↑(c+1):Int) - 1).toNat]'(by omega)=y2:=Option.some.inj ((List.getElem?_eq_getElem _).symm.trans (by rw[show j+1+((↑(c+1):Int) - 1).toNat=j+1+c by omega,hat _ (by omega)];exact hy2))
    by_cases hxy2:x2=y2
    ·(repeat' first|refine svz ⟨fun b hq=>?_⟩|refine svE ⟨?_⟩|refine .b fun b=>?_|refine .u fun u=>?_|refine .d ?_ ?_|(refine .g fun hg=>?_;try exact svx)|fail)
     refine⟨(c+1+1,k,m),⟨by dsimp only;omega,by dsimp only;omega,hk1,by dsimp only;omega,hm,?_,?_⟩,lee,by dsimp only;omega⟩
     ·dsimp only
      exact drop_step (n:=j+(c+1)) hd
     ·dsimp only
      rw[ht]
      exact (dd_same hy2 hx2 hxy2).symm
    ·(repeat' first|refine svz ⟨fun b hq=>?_⟩|refine svE ⟨?_⟩|refine .b fun b=>?_|refine .u fun u=>?_|refine .d ?_ ?_|(refine .g fun hg=>?_;try exact svx)|fail)
     refine⟨(c+1+1,k+1,m.set k x2),⟨by dsimp only;omega,by dsimp only;omega,by dsimp only;omega,by dsimp only;omega,by simpa using hm,?_,?_⟩,by dsimp only;rw[←ints_set];exact lee,by dsimp only;omega⟩
     ·dsimp only
      rw[List.drop_set_of_lt (by omega)]
      exact drop_step (n:=j+(c+1)) hd
     ·dsimp only
      have:=dd_more hy2 hx2 hxy2
      rw[show j+1+(c+1+1)=j+1+c+1+1 by omega,this,show j+1+c+1=j+1+(c+1) by omega,←ht,List.take_set,List.take_add_one,List.getElem?_eq_getElem (by omega)]
      simp only[Option.toList_some]
      rw[List.set_append_right _ _ (by rw[List.length_take];omega)]
      have:k - (List.take k m).length=0:=by rw[List.length_take];omega
      rw[this];rfl
   ·have hg:j+1+(c+1)=l.length:=by omega
    rw[hg,List.take_length] at ht
    (repeat' first|refine svz ⟨fun b hq=>?_⟩|refine svE ⟨?_⟩|refine .b fun b=>?_|refine .u fun u=>?_|refine .d ?_ ?_|(refine .g fun hg=>?_;try exact svx)|fail)
    refine S.clear ?_
    (repeat' ((fail_if_success (refine iS ?_;refine iSl ?_));(first|refine svE ⟨?_⟩|refine .b fun b=>?_|refine .u fun u=>?_|refine .d ?_ ?_|(refine .g fun hg=>?_;try exact svx)|fail)))
    refine S.trunc (hi:=k) (fun w=>?_)
    (repeat' first|refine svz ⟨fun b hq=>?_⟩|refine svE ⟨?_⟩|refine .b fun b=>?_|refine .u fun u=>?_|refine .d ?_ ?_|(refine .g fun hg=>?_;try exact svx)|fail)
    have e2:∀ys,(splice (ints .i64 m) k ys).take k=ints .i64 (ddF l):=fun ys=>by rw[take_splice0 (by rw[len_ints];omega),←ht];simp[ints]
    refine fin_r (h':=.own w 1 (ints .i64 (ddF l)) 3::h) ⟨w,rfl,rfl⟩ (h2:=?_)
    dsimp only
    rw[e2]
    exact (by repeat (first|exact LeH.refl _|exact LeH.nil _|refine LeH.cons (by (fail_if_success (apply tkG));(repeat (first|exact Tk.here|apply Tk.there));first|done|fail) ?_|refine LeH.boxw (by (fail_if_success (apply tkG));(repeat (first|exact Tk.here|apply Tk.there));first|done|fail) (by (repeat (first|exact Wk.refl _|exact Wk.nilr _|exact Wk.nilm|apply Wk.aggc|apply Wk.tupc|exact Wk.aggn|exact Wk.tupn));first|done|fail) ?_|refine LeH.skip ?_))
  ·(repeat' first|refine svz ⟨fun b hq=>?_⟩|refine svE ⟨?_⟩|refine .b fun b=>?_|refine .u fun u=>?_|refine .d ?_ ?_|(refine .g fun hg=>?_;try exact svx)|fail)
   exact⟨j+1+1,⟨by omega,hlt,by rw[dd_more hy hx hxy,hdd,List.take_add_one (i:=j+1),hx];rfl⟩,lee,by omega⟩
 ·have e:ddF l=l:=by rw[List.take_of_length_le hge] at hdd;exact hdd
  rw[e]
  (repeat' first|refine svz ⟨fun b hq=>?_⟩|refine svE ⟨?_⟩|refine .b fun b=>?_|refine .u fun u=>?_|refine .d ?_ ?_|(refine .g fun hg=>?_;try exact svx)|fail)
  exact fin_r (h':=_) ⟨v,rfl,rfl⟩
end Go.Proofs.YtbknacpdcdkjiaaGreat
