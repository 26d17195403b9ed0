/- Rectangles: whether they are empty; the box of some. No condition. -/
import Derived.Test.YtbknacpdcdkjiaaGreatF43
import Derived.Test.YtbknacpdcdkjiaaGreatB9
namespace Go.Proofs.YtbknacpdcdkjiaaGreat
open Go Go.VM
set_option maxRecDepth 100000
attribute [local irreducible] PurV Pur Step RL W D ACalls Then InBlock Fini
set_option linter.unusedVariables false
set_option linter.unusedSimpArgs false
set_option maxHeartbeats 20000000
def RC.z:RC:=⟨0,0,0,0⟩
theorem rfits_c (a n:Int) (h:Heap) (ha:I64 a) (hn:I64 n):ACalls Tryz.prog 199 [AV.val (.int .i64 (a)),AV.val (.int .i64 (n))] h (fun r h'=>r=AV.val (.bool (decide (fitP a n)))∧h'=h):=by
 refine ACalls.intro Tryz.func199 rfl Tryz.ntmps199 Tryz.results199 (Nat.le_of_ble_eq_true rfl) ?_
 obtain⟨a1,a2⟩:=ha
 obtain⟨n1,n2⟩:=hn
 by_cases h1:-1048576≤a
 ·by_cases h2:0<n
  ·(repeat' first|refine svE ⟨?_⟩|refine .b fun b=>?_|refine .u fun u=>?_|refine .d ?_ ?_|(refine .g fun hg=>?_;try exact svx)|fail)
   refine fin_r (h':=h) ⟨?_,rfl⟩
   refine congrArg (fun b=>AV.val (.bool b)) (decide_eq_decide.2 ?_)
   unfold fitP;omega
  ·(repeat' first|refine svE ⟨?_⟩|refine .b fun b=>?_|refine .u fun u=>?_|refine .d ?_ ?_|(refine .g fun hg=>?_;try exact svx)|fail)
   refine fin_r (h':=h) ⟨?_,rfl⟩
   rw[decide_eq_false (show ¬ fitP a n by unfold fitP;omega)]
   simp[tupA];try omega
 ·(repeat' first|refine svE ⟨?_⟩|refine .b fun b=>?_|refine .u fun u=>?_|refine .d ?_ ?_|(refine .g fun hg=>?_;try exact svx)|fail)
  refine fin_r (h':=h) ⟨?_,rfl⟩
  rw[decide_eq_false (show ¬ fitP a n by unfold fitP;omega)]
  simp[tupA];try omega
def rgt (r:RC):RC:=if r.cnt then r else RC.z
theorem RC.cnt_ne {r:RC} (h:r.cnt):r≠RC.z:=fun e=>by
 rw[e] at h
 obtain⟨⟨_,h2,_⟩,_⟩:=h
 exact absurd h2 (by decide)
theorem rcheck_c (r:RC) (h:Heap) (ok:r.ok):ACalls Tryz.prog 184 [r.enc] h (fun v h'=>v=AV.val (.int .i64 (if r=RC.z∨r.cnt then 0 else 1))∧h'=h):=by
 have f1:=fun h=>rfits_c r.x r.w h ok.x ok.w
 have f2:=fun h=>rfits_c r.y r.h h ok.y ok.h
 have er:r.enc=.agg [AV.val (.int .i64 ((r).x)),AV.val (.int .i64 ((r).y)),AV.val (.int .i64 ((r).w)),AV.val (.int .i64 ((r).h))]:=rfl
 rw[er]
 by_cases hz:r=RC.z
 ·rw[if_pos (.inl hz)]
  refine ACalls.intro Tryz.func184 rfl Tryz.ntmps184 Tryz.results184 (Nat.le_of_ble_eq_true rfl) ?_
  (repeat' first|refine svE ⟨?_⟩|refine .b fun b=>?_|refine .u fun u=>?_|refine .d ?_ ?_|(refine .g fun hg=>?_;try exact svx)|fail)
  refine S.V (v:=AV.val (.bool (decide (r=RC.z)))) ?_ (pur_eqls (p:=r=RC.z) rfl rfl (by repeat (first|exact IEq.nil|apply IEq.cons)) rfl (RC.eq4 r RC.z))
  rw[decide_eq_true hz]
  (repeat' first|refine svE ⟨?_⟩|refine .b fun b=>?_|refine .u fun u=>?_|refine .d ?_ ?_|(refine .g fun hg=>?_;try exact svx)|fail)
  refine fin_r (h':=h) (Q:=fun r h'=>r=_∧h'=h) ?_;exact⟨rfl,rfl⟩
 ·by_cases h1:fitP r.x r.w
  ·rw[decide_eq_true h1] at f1
   by_cases h2:fitP r.y r.h
   ·rw[decide_eq_true h2] at f2
    rw[if_pos (.inr ⟨h1,h2⟩)]
    clear h1 h2
    refine ACalls.intro Tryz.func184 rfl Tryz.ntmps184 Tryz.results184 (Nat.le_of_ble_eq_true rfl) ?_
    (repeat' first|refine svE ⟨?_⟩|refine .b fun b=>?_|refine .u fun u=>?_|refine .d ?_ ?_|(refine .g fun hg=>?_;try exact svx)|fail)
    refine S.V (v:=AV.val (.bool (decide (r=RC.z)))) ?_ (pur_eqls (p:=r=RC.z) rfl rfl (by repeat (first|exact IEq.nil|apply IEq.cons)) rfl (RC.eq4 r RC.z))
    rw[decide_eq_false hz]
    (repeat' first|refine svE ⟨?_⟩|refine .b fun b=>?_|refine .u fun u=>?_|refine .d ?_ ?_|(refine .g fun hg=>?_;try exact svx)|fail)
    refine S.call ?_;refine (f1 _).mono ?_;rintro r h' ⟨rfl,hh⟩;subst hh
    (repeat' first|refine svE ⟨?_⟩|refine .b fun b=>?_|refine .u fun u=>?_|refine .d ?_ ?_|(refine .g fun hg=>?_;try exact svx)|fail)
    refine S.call ?_;refine (f2 _).mono ?_;rintro r h' ⟨rfl,hh⟩;subst hh
    (repeat' first|refine svE ⟨?_⟩|refine .b fun b=>?_|refine .u fun u=>?_|refine .d ?_ ?_|(refine .g fun hg=>?_;try exact svx)|fail)
    refine fin_r (h':=h) (Q:=fun r h'=>r=_∧h'=h) ?_;exact⟨rfl,rfl⟩
   ·rw[decide_eq_false h2] at f2
    rw[if_neg (fun e=>e.elim hz fun e=>h2 e.2)]
    clear h1 h2
    refine ACalls.intro Tryz.func184 rfl Tryz.ntmps184 Tryz.results184 (Nat.le_of_ble_eq_true rfl) ?_
    (repeat' first|refine svE ⟨?_⟩|refine .b fun b=>?_|refine .u fun u=>?_|refine .d ?_ ?_|(refine .g fun hg=>?_;try exact svx)|fail)
    refine S.V (v:=AV.val (.bool (decide (r=RC.z)))) ?_ (pur_eqls (p:=r=RC.z) rfl rfl (by repeat (first|exact IEq.nil|apply IEq.cons)) rfl (RC.eq4 r RC.z))
    rw[decide_eq_false hz]
    (repeat' first|refine svE ⟨?_⟩|refine .b fun b=>?_|refine .u fun u=>?_|refine .d ?_ ?_|(refine .g fun hg=>?_;try exact svx)|fail)
    refine S.call ?_;refine (f1 _).mono ?_;rintro r h' ⟨rfl,hh⟩;subst hh
    (repeat' first|refine svE ⟨?_⟩|refine .b fun b=>?_|refine .u fun u=>?_|refine .d ?_ ?_|(refine .g fun hg=>?_;try exact svx)|fail)
    refine S.call ?_;refine (f2 _).mono ?_;rintro r h' ⟨rfl,hh⟩;subst hh
    (repeat' first|refine svE ⟨?_⟩|refine .b fun b=>?_|refine .u fun u=>?_|refine .d ?_ ?_|(refine .g fun hg=>?_;try exact svx)|fail)
    refine fin_r (h':=h) (Q:=fun r h'=>r=_∧h'=h) ?_;exact⟨rfl,rfl⟩
  ·rw[decide_eq_false h1] at f1
   rw[if_neg (fun e=>e.elim hz fun e=>h1 e.1)]
   clear h1
   refine ACalls.intro Tryz.func184 rfl Tryz.ntmps184 Tryz.results184 (Nat.le_of_ble_eq_true rfl) ?_
   (repeat' first|refine svE ⟨?_⟩|refine .b fun b=>?_|refine .u fun u=>?_|refine .d ?_ ?_|(refine .g fun hg=>?_;try exact svx)|fail)
   refine S.V (v:=AV.val (.bool (decide (r=RC.z)))) ?_ (pur_eqls (p:=r=RC.z) rfl rfl (by repeat (first|exact IEq.nil|apply IEq.cons)) rfl (RC.eq4 r RC.z))
   rw[decide_eq_false hz]
   (repeat' first|refine svE ⟨?_⟩|refine .b fun b=>?_|refine .u fun u=>?_|refine .d ?_ ?_|(refine .g fun hg=>?_;try exact svx)|fail)
   refine S.call ?_;refine (f1 _).mono ?_;rintro r h' ⟨rfl,hh⟩;subst hh
   (repeat' first|refine svE ⟨?_⟩|refine .b fun b=>?_|refine .u fun u=>?_|refine .d ?_ ?_|(refine .g fun hg=>?_;try exact svx)|fail)
   refine fin_r (h':=h) (Q:=fun r h'=>r=_∧h'=h) ?_;exact⟨rfl,rfl⟩
theorem rright_c (r:RC) (h:Heap) (ok:r.ok):ACalls Tryz.prog 171 [r.enc] h (fun v h'=>v=(rgt r).enc∧h'=h):=by
 have cc:=fun h=>rcheck_c r h ok
 have er:r.enc=.agg [AV.val (.int .i64 ((r).x)),AV.val (.int .i64 ((r).y)),AV.val (.int .i64 ((r).w)),AV.val (.int .i64 ((r).h))]:=rfl
 have ez:RC.z.enc=.agg [AV.val (.int .i64 (0)),AV.val (.int .i64 (0)),AV.val (.int .i64 (0)),AV.val (.int .i64 (0))]:=rfl
 unfold rgt
 by_cases hc:r=RC.z∨r.cnt
 ·rw[if_pos hc] at cc
  have e:(if r.cnt then r else RC.z)=r:=by
   split
   ·rfl
   ·next h1=>exact (hc.resolve_right h1).symm
  rw[e]
  rw[er] at *
  refine ACalls.intro Tryz.func171 rfl Tryz.ntmps171 Tryz.results171 (Nat.le_of_ble_eq_true rfl) ?_
  (repeat' first|refine svE ⟨?_⟩|refine .b fun b=>?_|refine .u fun u=>?_|refine .d ?_ ?_|(refine .g fun hg=>?_;try exact svx)|fail)
  refine S.call ?_;refine (cc _).mono ?_;rintro r h' ⟨rfl,hh⟩;subst hh
  (repeat' first|refine svE ⟨?_⟩|refine .b fun b=>?_|refine .u fun u=>?_|refine .d ?_ ?_|(refine .g fun hg=>?_;try exact svx)|fail)
  refine fin_r (h':=h) (Q:=fun r h'=>r=_∧h'=h) ?_;exact⟨rfl,rfl⟩
 ·rw[if_neg hc] at cc
  rw[if_neg (fun e=>hc (.inr e)),ez]
  rw[er] at *
  refine ACalls.intro Tryz.func171 rfl Tryz.ntmps171 Tryz.results171 (Nat.le_of_ble_eq_true rfl) ?_
  (repeat' first|refine svE ⟨?_⟩|refine .b fun b=>?_|refine .u fun u=>?_|refine .d ?_ ?_|(refine .g fun hg=>?_;try exact svx)|fail)
  refine S.call ?_;refine (cc _).mono ?_;rintro r h' ⟨rfl,hh⟩;subst hh
  (repeat' first|refine svE ⟨?_⟩|refine .b fun b=>?_|refine .u fun u=>?_|refine .d ?_ ?_|(refine .g fun hg=>?_;try exact svx)|fail)
  refine fin_r (h':=h) (Q:=fun r h'=>r=_∧h'=h) ?_;exact⟨rfl,rfl⟩
theorem rempty_c (r:RC) (h:Heap) (ok:r.ok):ACalls Tryz.prog 155 [r.enc] h (fun v h'=>v=AV.val (.bool (decide (¬ r.cnt)))∧h'=h):=by
 have cc:=fun h=>rright_c r h ok
 have er:∀r:RC,r.enc=.agg [AV.val (.int .i64 ((r).x)),AV.val (.int .i64 ((r).y)),AV.val (.int .i64 ((r).w)),AV.val (.int .i64 ((r).h))]:=fun _=>rfl
 have e2:decide (rgt r=RC.z)=decide (¬ r.cnt):=decide_eq_decide.2 (by
  unfold rgt
  split
  ·next h1=>exact⟨fun e=>absurd e (RC.cnt_ne h1),fun e=>absurd h1 e⟩
  ·next h1=>exact⟨fun _=>h1,fun _=>rfl⟩)
 rw[←e2]
 clear e2
 generalize rgt r=q at *
 simp only[er] at *
 refine ACalls.intro Tryz.func155 rfl Tryz.ntmps155 Tryz.results155 (Nat.le_of_ble_eq_true rfl) ?_
 (repeat' first|refine svE ⟨?_⟩|refine .b fun b=>?_|refine .u fun u=>?_|refine .d ?_ ?_|(refine .g fun hg=>?_;try exact svx)|fail)
 refine S.call ?_;refine (cc _).mono ?_;rintro r h' ⟨rfl,hh⟩;subst hh
 (repeat' first|refine svE ⟨?_⟩|refine .b fun b=>?_|refine .u fun u=>?_|refine .d ?_ ?_|(refine .g fun hg=>?_;try exact svx)|fail)
 refine S.V (v:=AV.val (.bool (decide (q=RC.z)))) ?_ (pur_eqls (p:=q=RC.z) rfl rfl (by repeat (first|exact IEq.nil|apply IEq.cons)) rfl (RC.eq4 q RC.z))
 (repeat' first|refine svE ⟨?_⟩|refine .b fun b=>?_|refine .u fun u=>?_|refine .d ?_ ?_|(refine .g fun hg=>?_;try exact svx)|fail)
 refine fin_r (h':=h) (Q:=fun r h'=>r=_∧h'=h) ?_;exact⟨rfl,rfl⟩
theorem between_c (x y r b:Int) (h:Heap) (hx:x<r) (hy:y<b) (h1:-4000000≤x∧r≤4000000) (h2:-4000000≤y∧b≤4000000):ACalls Tryz.prog 183 [AV.val (.int .i64 (x)),AV.val (.int .i64 (y)),AV.val (.int .i64 (r)),AV.val (.int .i64 (b))] h (fun v h'=>v=.agg [AV.val (.int .i64 (x)),AV.val (.int .i64 (y)),AV.val (.int .i64 (r - x)),AV.val (.int .i64 (b - y))]∧h'=h):=by
 refine ACalls.intro Tryz.func183 rfl Tryz.ntmps183 Tryz.results183 (Nat.le_of_ble_eq_true rfl) ?_
 (repeat' first|refine svE ⟨?_⟩|refine .b fun b=>?_|refine .u fun u=>?_|refine .d ?_ ?_|(refine .g fun hg=>?_;try exact svx)|fail)
 refine fin_r (h':=h) (Q:=fun r h'=>r=_∧h'=h) ?_;exact⟨rfl,rfl⟩
def BxIn (wd hg:Int) (r:RC):Prop:=0≤r.x∧1≤r.w∧r.x+r.w≤wd∧0≤r.y∧1≤r.h∧r.y+r.h≤hg
theorem BxIn.cnt {wd hg:Int} {r:RC} (h:BxIn wd hg r) (hW:wd≤1000) (hH:hg≤1000):r.cnt:=by
 obtain⟨h1,h2,h3,h4,h5,h6⟩:=h
 unfold RC.cnt fitP;omega
theorem BxIn.ne {wd hg:Int} {r:RC} (h:BxIn wd hg r):r≠RC.z:=fun e=>by
 obtain⟨h1,h2,h3,h4,h5,h6⟩:=h
 rw[e] at h2;exact absurd h2 (by decide)
theorem rbox_c (l:List RC) (wd hg:Int) (h:Heap) (hW:wd≤1000) (hH:hg≤1000) (hl:l.length≤1000000) (hr:∀r∈l,r.ok∧(r.cnt→BxIn wd hg r)) :
  ACalls Tryz.prog 170 [.ro 4 (l.map RC.enc)] h (fun v h'=>(∃q:RC,v=q.enc∧((q=RC.z∧∀r∈l,¬ r.cnt)∨BxIn wd hg q))∧h'=h):=by
 have em:=fun r h ok=>rempty_c r h ok
 have er:∀r:RC,r.enc=.agg [AV.val (.int .i64 ((r).x)),AV.val (.int .i64 ((r).y)),AV.val (.int .i64 ((r).w)),AV.val (.int .i64 ((r).h))]:=fun _=>rfl
 refine ACalls.intro Tryz.func170 rfl Tryz.ntmps170 Tryz.results170 (Nat.le_of_ble_eq_true rfl) ?_
 (repeat' first|refine svE ⟨?_⟩|refine .b fun b=>?_|refine .u fun u=>?_|refine .d ?_ ?_|(refine .g fun hg=>?_;try exact svx)|fail)
 rename_i b2
 revert b;intro b3
 refine W.loop (J:=fun z:Nat × RC=>⟨55,[(8,AV.val (.int .i64 ((z.1:Nat)))),(7,AV.val (.int .i64 ((l.length:Nat)))),(6,.ro 4 (l.map RC.enc)),(3,.val (.pointer (some ⟨b3,0,none⟩))),(2,.val (.pointer (some ⟨b2,0,none⟩)))],.box b3 [AV.val (.int .i64 ((z.2).x)),AV.val (.int .i64 ((z.2).y)),AV.val (.int .i64 ((z.2).w)),AV.val (.int .i64 ((z.2).h))] 200::.box b2 [AV.val (.int .i64 (0)),AV.val (.int .i64 (0)),AV.val (.int .i64 (0)),AV.val (.int .i64 (0))] 200::h⟩)
  (Φ:=fun z=>z.1≤l.length∧((z.2=RC.z∧∀r∈l.take z.1,¬ r.cnt)∨BxIn wd hg z.2)) (μ:=fun z=>l.length - z.1) (0,RC.z) lee ⟨Nat.zero_le _,.inl ⟨rfl,by simp⟩⟩ ?_
 rintro⟨i,q⟩ ⟨hi,hq⟩
 dsimp only at hi hq ⊢
 rcases Nat.lt_or_ge i l.length with hlt|hge
 ·obtain⟨r,ha⟩:∃r,l[i]?=some r:=⟨_,List.getElem?_eq_getElem hlt⟩
  have hm:=List.mem_of_getElem? ha
  obtain⟨ok,hc⟩:=hr r hm
  have em1:=fun h=>em r h ok
  have ht:∀z∈l.take (i+1),z∈l.take i∨z=r:=fun z hz=>by
   rw[List.take_add_one,ha] at hz
   rcases List.mem_append.1 hz with hz|hz
   ·exact .inl hz
   ·exact .inr (by simpa using hz)
  rw[er] at em1
  by_cases hcn:r.cnt
  ·rw[decide_eq_false (fun e=>e hcn)] at em1
   have hb:=hc hcn
   clear hc hcn em
   rcases hq with ⟨rfl,hq⟩|hq
   ·(repeat' first|refine svE ⟨?_⟩|refine .b fun b=>?_|refine .u fun u=>?_|refine .d ?_ ?_|(refine .g fun hg=>?_;try exact svx)|fail)
    refine S.call ?_;refine (em1 _).mono ?_;rintro r h' ⟨rfl,hh⟩;subst hh
    (repeat' first|refine svE ⟨?_⟩|refine .b fun b=>?_|refine .u fun u=>?_|refine .d ?_ ?_|(refine .g fun hg=>?_;try exact svx)|fail)
    refine S.V (v:=AV.val (.bool (decide (RC.z=RC.z)))) ?_ (pur_eqls (p:=RC.z=RC.z) rfl rfl (by repeat (first|exact IEq.nil|apply IEq.cons)) rfl (RC.eq4 RC.z RC.z))
    rw[decide_eq_true rfl]
    (repeat' first|refine svE ⟨?_⟩|refine .b fun b=>?_|refine .u fun u=>?_|refine .d ?_ ?_|(refine .g fun hg=>?_;try exact svx)|fail)
    exact⟨(i+1,r),⟨hlt,.inr hb⟩,lee,by dsimp only;omega⟩
   ·have hz:=hq.ne
    have hn:BxIn wd hg ⟨min q.x r.x,min q.y r.y,max (q.x+q.w) (r.x+r.w) - min q.x r.x,max (q.y+q.h) (r.y+r.h) - min q.y r.y⟩:=by
     unfold BxIn at *;dsimp only;omega
    unfold BxIn at hb hq
    obtain⟨a1,a2,a3,a4,a5,a6⟩:=hb
    obtain⟨c1,c2,c3,c4,c5,c6⟩:=hq
    have bt:=fun h=>between_c (min q.x r.x) (min q.y r.y) (max (q.x+q.w) (r.x+r.w)) (max (q.y+q.h) (r.y+r.h)) h (by omega) (by omega) (by omega) (by omega)
    (repeat' first|refine svE ⟨?_⟩|refine .b fun b=>?_|refine .u fun u=>?_|refine .d ?_ ?_|(refine .g fun hg=>?_;try exact svx)|fail)
    refine S.call ?_;refine (em1 _).mono ?_;rintro r h' ⟨rfl,hh⟩;subst hh
    (repeat' first|refine svE ⟨?_⟩|refine .b fun b=>?_|refine .u fun u=>?_|refine .d ?_ ?_|(refine .g fun hg=>?_;try exact svx)|fail)
    refine S.V (v:=AV.val (.bool (decide (q=RC.z)))) ?_ (pur_eqls (p:=q=RC.z) rfl rfl (by repeat (first|exact IEq.nil|apply IEq.cons)) rfl (RC.eq4 q RC.z))
    rw[decide_eq_false hz]
    (repeat' first|refine svE ⟨?_⟩|refine .b fun b=>?_|refine .u fun u=>?_|refine .d ?_ ?_|(refine .g fun hg=>?_;try exact svx)|fail)
    refine S.call ?_;refine (bt _).mono ?_;rintro r h' ⟨rfl,hh⟩;subst hh
    (repeat' first|refine svE ⟨?_⟩|refine .b fun b=>?_|refine .u fun u=>?_|refine .d ?_ ?_|(refine .g fun hg=>?_;try exact svx)|fail)
    exact⟨(i+1,_),⟨hlt,.inr hn⟩,lee,by dsimp only;omega⟩
  ·rw[decide_eq_true hcn] at em1
   (repeat' first|refine svE ⟨?_⟩|refine .b fun b=>?_|refine .u fun u=>?_|refine .d ?_ ?_|(refine .g fun hg=>?_;try exact svx)|fail)
   refine S.call ?_;refine (em1 _).mono ?_;rintro r h' ⟨rfl,hh⟩;subst hh
   (repeat' first|refine svE ⟨?_⟩|refine .b fun b=>?_|refine .u fun u=>?_|refine .d ?_ ?_|(refine .g fun hg=>?_;try exact svx)|fail)
   refine⟨(i+1,q),⟨hlt,?_⟩,lee,by dsimp only;omega⟩
   rcases hq with ⟨e,hq⟩|hq
   ·exact .inl ⟨e,fun z hz=>by rcases ht z hz with h1|rfl;exact hq z h1;exact hcn⟩
   ·exact .inr hq
 ·rw[List.take_of_length_le hge] at hq
  (repeat' first|refine svE ⟨?_⟩|refine .b fun b=>?_|refine .u fun u=>?_|refine .d ?_ ?_|(refine .g fun hg=>?_;try exact svx)|fail)
  exact fin_r (h':=h) ⟨⟨q,rfl,hq⟩,rfl⟩
end Go.Proofs.YtbknacpdcdkjiaaGreat
