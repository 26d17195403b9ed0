import Derived.Test.YtbknacpdcdkjiaaGreatB13
/- Sets of places, as bands of stretches: there is one way to tell them. No condition. -/
namespace Go.Proofs.YtbknacpdcdkjiaaGreat
open Go Go.VM
set_option linter.unusedVariables false
set_option linter.unusedSimpArgs false
/-! ### Stretches of a row -/
def inS (s:List (Int × Int)) (x:Int):Prop:=∃p∈s,p.1≤x∧x<p.2
structure CanS (s:List (Int × Int)):Prop where
 pos:∀p∈s,p.1<p.2
 apart:s.Pairwise fun p q=>p.2<q.1
theorem CanS.tail {p:Int × Int} {s:List (Int × Int)} (h:CanS (p::s)):CanS s:=⟨fun q hq=>h.pos q (.tail _ hq),(List.pairwise_cons.1 h.apart).2⟩
theorem inS_cons {p:Int × Int} {s:List (Int × Int)} {x:Int}:inS (p::s) x↔(p.1≤x∧x<p.2)∨inS s x:=by
 unfold inS
 constructor
 ·rintro⟨q,hq,h⟩
  rcases List.mem_cons.1 hq with rfl|hq
  ·exact .inl h
  ·exact .inr ⟨q,hq,h⟩
 ·rintro (h|⟨q,hq,h⟩)
  ·exact⟨p,List.mem_cons_self ..,h⟩
  ·exact⟨q,.tail _ hq,h⟩
theorem not_inS_nil {x:Int}:¬ inS [] x:=fun ⟨p,hp,_⟩=>by cases hp
theorem CanS.above {p:Int × Int} {s:List (Int × Int)} (h:CanS (p::s)) {x:Int} (hx:inS s x):p.2<x:=by
 obtain⟨q,hq,h1,h2⟩:=hx
 have:=(List.pairwise_cons.1 h.apart).1 q hq
 omega
theorem CanS.first {p:Int × Int} {s:List (Int × Int)} (h:CanS (p::s)):inS (p::s) p.1:=inS_cons.2 (.inl ⟨Int.le_refl _,h.pos p (List.mem_cons_self ..)⟩)
theorem CanS.least {p:Int × Int} {s:List (Int × Int)} (h:CanS (p::s)) {x:Int} (hx:inS (p::s) x):p.1≤x:=by
 rcases inS_cons.1 hx with h1|h1
 ·exact h1.1
 ·have:=h.above h1;have:=h.pos p (List.mem_cons_self ..);omega
theorem canS_unique:∀{s s':List (Int × Int)},CanS s→CanS s'→(∀x,inS s x↔inS s' x)→s=s'
 | [],[],_,_,_=>rfl
 | [],q::s',_,h',h=>absurd ((h _).2 h'.first) not_inS_nil
 | p::s,[],h1,_,h=>absurd ((h _).1 h1.first) not_inS_nil
 | (a,b)::s,(c,d)::s',h1,h2,h=>by
  have e1:a=c:=by
   have:=h2.least ((h _).1 h1.first)
   have:=h1.least ((h _).2 h2.first)
   simp only at *;omega
  subst e1
  have hb:=h1.pos _ (List.mem_cons_self ..)
  have hd:=h2.pos _ (List.mem_cons_self ..)
  simp only at hb hd
  have e2:b=d:=by
   rcases Int.lt_trichotomy b d with q|q|q
   ·have:=(h b).2 (inS_cons.2 (.inl ⟨by simp only;omega,by simp only;omega⟩))
    rcases inS_cons.1 this with k|k
    ·simp only at k;omega
    ·have:=h1.above k;simp only at this;omega
   ·exact q
   ·have:=(h d).1 (inS_cons.2 (.inl ⟨by simp only;omega,by simp only;omega⟩))
    rcases inS_cons.1 this with k|k
    ·simp only at k;omega
    ·have:=h2.above k;simp only at this;omega
  subst e2
  rw[canS_unique h1.tail h2.tail fun x=>?_]
  constructor
  ·intro hx
   rcases inS_cons.1 ((h x).1 (inS_cons.2 (.inr hx))) with k|k
   ·have:=h1.above hx;simp only at *;omega
   ·exact k
  ·intro hx
   rcases inS_cons.1 ((h x).2 (inS_cons.2 (.inr hx))) with k|k
   ·have:=h2.above hx;simp only at *;omega
   ·exact k
theorem spGo_spec:∀(l:List RC) (f t:Int),f<t→(∀r∈l,f≤r.x∧0<r.w)→l.Pairwise (fun a b=>a.x≤b.x) →
  CanS (spGo f t l)∧(∀p∈spGo f t l,f≤p.1)∧∀x,inS (spGo f t l) x↔(f≤x∧x<t)∨∃r∈l,r.x≤x∧x<r.x+r.w
 | [],f,t,h,_,_=>by
  unfold spGo
  refine⟨⟨by simpa using h,by simp⟩,by simp,fun x=>?_⟩
  rw[inS_cons]
  constructor
  ·rintro (k|k)
   ·exact .inl k
   ·exact absurd k not_inS_nil
  ·rintro (k|⟨r,hr,_⟩)
   ·exact .inl k
   ·cases hr
 | r::l,f,t,h,hl,hs=>by
  obtain⟨h1,h2⟩:=hl r (List.mem_cons_self ..)
  obtain⟨s1,s2⟩:=List.pairwise_cons.1 hs
  unfold spGo
  split
  ·rename_i hc
   obtain⟨i1,i2,i3⟩:=spGo_spec l f (max t (r.x+r.w)) (by omega) (fun q hq=>hl q (.tail _ hq)) s2
   refine⟨i1,i2,fun x=>?_⟩
   rw[i3]
   constructor
   ·rintro (k|⟨q,hq,k⟩)
    ·by_cases hx:x<t
     ·exact .inl ⟨k.1,hx⟩
     ·exact .inr ⟨r,List.mem_cons_self ..,by omega,by omega⟩
    ·exact .inr ⟨q,.tail _ hq,k⟩
   ·rintro (k|⟨q,hq,k⟩)
    ·exact .inl ⟨k.1,by omega⟩
    ·rcases List.mem_cons.1 hq with rfl|hq
     ·exact .inl ⟨by omega,by omega⟩
     ·exact .inr ⟨q,hq,k⟩
  ·rename_i hc
   obtain⟨i1,i2,i3⟩:=spGo_spec l r.x (r.x+r.w) (by omega) (fun q hq=>⟨s1 q hq,(hl q (.tail _ hq)).2⟩) s2
   refine⟨⟨fun p hp=>?_,List.pairwise_cons.2 ⟨fun q hq=>?_,i1.apart⟩⟩,fun p hp=>?_,fun x=>?_⟩
   ·rcases List.mem_cons.1 hp with rfl|hp
    ·exact h
    ·exact i1.pos p hp
   ·have:=i2 q hq;simp only;omega
   ·rcases List.mem_cons.1 hp with rfl|hp
    ·exact Int.le_refl _
    ·have:=i2 p hp;omega
   ·rw[inS_cons,i3]
    constructor
    ·rintro (k|k|⟨q,hq,k⟩)
     ·exact .inl k
     ·exact .inr ⟨r,List.mem_cons_self ..,k⟩
     ·exact .inr ⟨q,.tail _ hq,k⟩
    ·rintro (k|⟨q,hq,k⟩)
     ·exact .inl k
     ·rcases List.mem_cons.1 hq with rfl|hq
      ·exact .inr (.inl k)
      ·exact .inr (.inr ⟨q,hq,k⟩)
theorem spF_spec {l:List RC} (hw:∀r∈l,0<r.w) (hs:l.Pairwise (fun a b=>a.x≤b.x)):CanS (spF l)∧∀x,inS (spF l) x↔∃r∈l,r.x≤x∧x<r.x+r.w:=by
 cases l with
 | nil=>exact⟨⟨by simp[spF],by simp[spF]⟩,fun x=>⟨fun h=>absurd h not_inS_nil,fun ⟨r,hr,_⟩=>by cases hr⟩⟩
 | cons r l=>
  obtain⟨s1,s2⟩:=List.pairwise_cons.1 hs
  have h2:=hw r (List.mem_cons_self ..)
  obtain⟨i1,i2,i3⟩:=spGo_spec l r.x (r.x+r.w) (by omega) (fun q hq=>⟨s1 q hq,hw q (.tail _ hq)⟩) s2
  refine⟨i1,fun x=>(i3 x).trans ?_⟩
  constructor
  ·rintro (k|⟨q,hq,k⟩)
   ·exact⟨r,List.mem_cons_self ..,k⟩
   ·exact⟨q,.tail _ hq,k⟩
  ·rintro⟨q,hq,k⟩
   rcases List.mem_cons.1 hq with rfl|hq
   ·exact .inl k
   ·exact .inr ⟨q,hq,k⟩
/-! ### Bands -/
structure Bd where
 y:Int
 h:Int
 s:List (Int × Int)
def Bd.rects (b:Bd):List RC:=b.s.map fun p=>⟨p.1,b.y,p.2 - p.1,b.h⟩
def flatB (B:List Bd):List RC:=B.flatMap Bd.rects
def inB (B:List Bd) (x y:Int):Prop:=∃b∈B,b.y≤y∧y<b.y+b.h∧inS b.s x
structure Bd.ok (b:Bd):Prop where
 h:0<b.h
 ne:b.s≠[]
 s:CanS b.s
def LinkB (b c:Bd):Prop:=b.y+b.h≤c.y∧(b.y+b.h=c.y→b.s≠c.s)
def CanB:List Bd→Prop
 | []=>True
 | [b]=>b.ok
 | b::c::B=>b.ok∧LinkB b c∧CanB (c::B)
theorem CanB.head {b:Bd} {B:List Bd} (h:CanB (b::B)):b.ok:=by
 cases B with
 | nil=>exact h
 | cons c B=>exact h.1
theorem CanB.tail {b:Bd} {B:List Bd} (h:CanB (b::B)):CanB B:=by
 cases B with
 | nil=>trivial
 | cons c B=>exact h.2.2
theorem inB_cons {b:Bd} {B:List Bd} {x y:Int}:inB (b::B) x y↔(b.y≤y∧y<b.y+b.h∧inS b.s x)∨inB B x y:=by
 unfold inB
 constructor
 ·rintro⟨q,hq,h⟩
  rcases List.mem_cons.1 hq with rfl|hq
  ·exact .inl h
  ·exact .inr ⟨q,hq,h⟩
 ·rintro (h|⟨q,hq,h⟩)
  ·exact⟨b,List.mem_cons_self ..,h⟩
  ·exact⟨q,.tail _ hq,h⟩
theorem not_inB_nil {x y:Int}:¬ inB [] x y:=fun ⟨p,hp,_⟩=>by cases hp
theorem CanB.below:∀{B:List Bd} {b:Bd},CanB (b::B)→∀c∈B,b.y+b.h≤c.y
 | [],_,_,c,hc=>by cases hc
 | c::B,b,h,d,hd=>by
  have h1:=h.2.1.1
  rcases List.mem_cons.1 hd with rfl|hd
  ·exact h1
  ·have:=CanB.below h.2.2 d hd
   have:=h.2.2.head.h
   omega
theorem CanB.under {b:Bd} {B:List Bd} (h:CanB (b::B)) {x y:Int} (k:inB B x y):b.y+b.h≤y:=by
 obtain⟨c,hc,h1,_⟩:=k
 have:=h.below c hc;omega
theorem Bd.ok.some {b:Bd} (h:b.ok):∃x,inS b.s x:=by
 obtain⟨y,hh,s⟩:=b
 cases s with
 | nil=>exact absurd rfl h.ne
 | cons p s=>exact⟨_,h.s.first⟩
theorem canB_head {b c:Bd} {B C:List Bd} (hB:CanB (b::B)) (hC:CanB (c::C)) (h:∀x y,inB (b::B) x y→inB (c::C) x y):c.y≤b.y:=by
 obtain⟨x,hx⟩:=hB.head.some
 have:=hB.head.h
 rcases inB_cons.1 (h x b.y (inB_cons.2 (.inl ⟨Int.le_refl _,by omega,hx⟩))) with k|k
 ·exact k.1
 ·have:=hC.under k;have:=hC.head.h;omega
theorem canB_long {b c:Bd} {B C:List Bd} (hB:CanB (b::B)) (hC:CanB (c::C)) (hy:b.y=c.y) (hs:b.s=c.s) (h:∀x y,inB (b::B) x y↔inB (c::C) x y):c.h≤b.h:=by
 rcases Int.lt_or_le b.h c.h with hlt|hge
 ·exfalso
  have hrow:∀x,inS c.s x→inB B x (b.y+b.h):=fun x hx=>by
   rcases inB_cons.1 ((h x (b.y+b.h)).2 (inB_cons.2 (.inl ⟨by have:=hB.head.h;omega,by omega,hx⟩))) with k|k
   ·omega
   ·exact k
  cases B with
  | nil=>obtain⟨x,hx⟩:=hC.head.some;exact not_inB_nil (hrow x hx)
  | cons d B=>
   obtain⟨_,hl,hB'⟩:=hB
   have hd:∀x,inS c.s x→d.y=b.y+b.h∧inS d.s x:=fun x hx=>by
    rcases inB_cons.1 (hrow x hx) with k|k
    ·exact⟨by have:=hl.1;omega,k.2.2⟩
    ·have:=hB'.under k;have:=hl.1;have:=hB'.head.h;omega
   obtain⟨x0,hx0⟩:=hC.head.some
   have hdy:=(hd x0 hx0).1
   refine hl.2 hdy.symm ?_
   refine canS_unique (hs ▸ hC.head.s) hB'.head.s fun x=>⟨fun hx=>(hd x (hs ▸ hx)).2,fun hx=>?_⟩
   have hin:inB (b::d::B) x (b.y+b.h):=inB_cons.2 (.inr (inB_cons.2 (.inl ⟨by omega,by have:=hB'.head.h;omega,hx⟩)))
   rcases inB_cons.1 ((h _ _).1 hin) with k|k
   ·rw[hs];exact k.2.2
   ·have:=hC.under k;omega
 ·exact hge
theorem Bd.ext' {b c:Bd} (h1:b.y=c.y) (h2:b.h=c.h) (h3:b.s=c.s):b=c:=by cases b;cases c;simp at h1 h2 h3;subst h1;subst h2;subst h3;rfl
theorem canB_unique:∀{B C:List Bd},CanB B→CanB C→(∀x y,inB B x y↔inB C x y)→B=C
 | [],[],_,_,_=>rfl
 | [],c::C,_,hC,h=>by
  obtain⟨x,hx⟩:=hC.head.some
  exact absurd ((h x c.y).2 (inB_cons.2 (.inl ⟨Int.le_refl _,by have:=hC.head.h;omega,hx⟩))) not_inB_nil
 | b::B,[],hB,_,h=>by
  obtain⟨x,hx⟩:=hB.head.some
  exact absurd ((h x b.y).1 (inB_cons.2 (.inl ⟨Int.le_refl _,by have:=hB.head.h;omega,hx⟩))) not_inB_nil
 | b::B,c::C,hB,hC,h=>by
  have e1:b.y=c.y:=by
   have:=canB_head hB hC fun x y=>(h x y).1
   have:=canB_head hC hB fun x y=>(h x y).2
   omega
  have bh:=hB.head.h
  have ch:=hC.head.h
  have e2:b.s=c.s:=by
   refine canS_unique hB.head.s hC.head.s fun x=>⟨fun hx=>?_,fun hx=>?_⟩
   ·rcases inB_cons.1 ((h x b.y).1 (inB_cons.2 (.inl ⟨Int.le_refl _,by omega,hx⟩))) with k|k
    ·exact k.2.2
    ·have:=hC.under k;omega
   ·rcases inB_cons.1 ((h x c.y).2 (inB_cons.2 (.inl ⟨Int.le_refl _,by omega,hx⟩))) with k|k
    ·exact k.2.2
    ·have:=hB.under k;omega
  have e3:b.h=c.h:=by
   have:=canB_long hB hC e1 e2 h
   have:=canB_long hC hB e1.symm e2.symm fun x y=>(h x y).symm
   omega
  have e4:=Bd.ext' e1 e3 e2
  subst e4
  rw[canB_unique hB.tail hC.tail fun x y=>?_]
  constructor
  ·intro k
   rcases inB_cons.1 ((h x y).1 (inB_cons.2 (.inr k))) with q|q
   ·have:=hB.under k;omega
   ·exact q
  ·intro k
   rcases inB_cons.1 ((h x y).2 (inB_cons.2 (.inr k))) with q|q
   ·have:=hC.under k;omega
   ·exact q
/-! ### Rows, put together: the newest band first -/
def addB (B:List Bd) (y h:Int) (s:List (Int × Int)):List Bd:=
 if s=[] then B else match B with
 | c::B'=>if c.y+c.h=y∧c.s=s then ⟨c.y,c.h+h,s⟩::B' else ⟨y,h,s⟩::c::B'
 | []=>[⟨y,h,s⟩]
def bnd (ys:List Int) (f:Int→List (Int × Int)):Nat→List Bd
 | 0=>[]
 | i+1=>addB (bnd ys f i) (ys.getD i 0) (ys.getD (i+1) 0 - ys.getD i 0) (f (ys.getD i 0))
theorem CanB.snoc:∀{B:List Bd} {b:Bd},CanB B→b.ok→(∀c,B.getLast?=some c→LinkB c b)→CanB (B++[b])
 | [],b,_,h2,_=>h2
 | [c],b,h1,h2,h3=>⟨h1,h3 c rfl,h2⟩
 | c::d::B,b,h1,h2,h3=>⟨h1.1,h1.2.1,CanB.snoc (B:=d::B) h1.2.2 h2 fun e he=>h3 e (by rw[List.getLast?_cons_cons];exact he)⟩
theorem CanB.init:∀{B:List Bd} {b:Bd},CanB (B++[b])→CanB B
 | [],b,_=>trivial
 | [c],b,h=>h.1
 | c::d::B,b,h=>⟨h.1,h.2.1,CanB.init (B:=d::B) h.2.2⟩
theorem CanB.last:∀{B:List Bd} {b:Bd},CanB (B++[b])→b.ok∧∀c,B.getLast?=some c→LinkB c b
 | [],b,h=>⟨h,fun c hc=>by cases hc⟩
 | [c],b,h=>⟨h.2.2,fun e he=>by simp at he;subst he;exact h.2.1⟩
 | c::d::B,b,h=>by
  obtain⟨h1,h2⟩:=CanB.last (B:=d::B) h.2.2
  exact⟨h1,fun e he=>h2 e (by rw[List.getLast?_cons_cons] at he;exact he)⟩
theorem inB_append {A B:List Bd} {x y:Int}:inB (A++B) x y↔inB A x y∨inB B x y:=by
 unfold inB
 constructor
 ·rintro⟨b,hb,h⟩
  rcases List.mem_append.1 hb with hb|hb
  ·exact .inl ⟨b,hb,h⟩
  ·exact .inr ⟨b,hb,h⟩
 ·rintro (⟨b,hb,h⟩|⟨b,hb,h⟩)
  ·exact⟨b,List.mem_append_left _ hb,h⟩
  ·exact⟨b,List.mem_append_right _ hb,h⟩
theorem inB_one {b:Bd} {x y:Int}:inB [b] x y↔b.y≤y∧y<b.y+b.h∧inS b.s x:=by
 rw[inB_cons];exact⟨fun h=>h.resolve_right not_inB_nil,.inl⟩
theorem addB_spec {B:List Bd} {y h:Int} {s:List (Int × Int)} (hB:CanB B.reverse) (hy:∀b∈B,b.y+b.h≤y) (hh:0<h) (hs:CanS s) :
  CanB (addB B y h s).reverse∧(∀b∈addB B y h s,b.y+b.h≤y+h)∧∀x z,inB (addB B y h s).reverse x z↔inB B.reverse x z∨(y≤z∧z<y+h∧inS s x):=by
 unfold addB
 by_cases h0:s=[]
 ·rw[if_pos h0]
  subst h0
  refine⟨hB,fun b hb=>by have:=hy b hb;omega,fun x z=>⟨.inl,fun k=>k.resolve_right fun q=>not_inS_nil q.2.2⟩⟩
 ·rw[if_neg h0]
  cases B with
  | nil=>
   refine⟨⟨hh,h0,hs⟩,fun b hb=>?_,fun x z=>?_⟩
   ·rw[List.mem_singleton.1 hb];exact Int.le_refl _
   ·show inB [_] x z↔_
    rw[inB_one]
    exact⟨.inr,fun k=>k.resolve_left not_inB_nil⟩
  | cons c B=>
   rw[List.reverse_cons] at hB
   obtain⟨hc,hl⟩:=hB.last
   have hcy:=hy c (List.mem_cons_self ..)
   by_cases hm:c.y+c.h=y∧c.s=s
   ·simp only[if_pos hm]
    obtain⟨hm1,rfl⟩:=hm
    refine⟨?_,fun b hb=>?_,fun x z=>?_⟩
    ·rw[List.reverse_cons]
     have:=hc.h
     refine hB.init.snoc ⟨by simp only;omega,h0,hs⟩ fun e he=>?_
     exact hl e he
    ·rcases List.mem_cons.1 hb with rfl|hb
     ·simp only;omega
     ·have:=hy b (.tail _ hb);omega
    ·rw[List.reverse_cons,List.reverse_cons,inB_append,inB_append,inB_one,inB_one]
     simp only
     have:=hc.h
     constructor
     ·rintro (k|⟨k1,k2,k3⟩)
      ·exact .inl (.inl k)
      ·by_cases hz:z<y
       ·exact .inl (.inr ⟨k1,by omega,k3⟩)
       ·exact .inr ⟨by omega,by omega,k3⟩
     ·rintro ((k|⟨k1,k2,k3⟩)|⟨k1,k2,k3⟩)
      ·exact .inl k
      ·exact .inr ⟨k1,by omega,k3⟩
      ·exact .inr ⟨by omega,by omega,k3⟩
   ·simp only[if_neg hm]
    refine⟨?_,fun b hb=>?_,fun x z=>?_⟩
    ·rw[List.reverse_cons (a:=(⟨y,h,s⟩:Bd)),List.reverse_cons]
     refine hB.snoc ⟨hh,h0,hs⟩ fun e he=>?_
     rw[List.getLast?_append,List.getLast?_singleton,Option.some_or] at he
     injection he with he
     subst he
     exact⟨hcy,fun q w=>hm ⟨q,w⟩⟩
    ·rcases List.mem_cons.1 hb with rfl|hb
     ·exact Int.le_refl _
     ·have:=hy b hb;omega
    ·rw[List.reverse_cons (a:=(⟨y,h,s⟩:Bd)),inB_append,inB_one]
theorem bnd_spec {ys:List Int} {f:Int→List (Int × Int)} (hu:Up_ ys) (hf:∀y∈ys,CanS (f y)):∀i,i<ys.length →
  CanB (bnd ys f i).reverse∧(∀b∈bnd ys f i,b.y+b.h≤ys.getD i 0)∧∀x z,inB (bnd ys f i).reverse x z↔∃j,j<i∧ys.getD j 0≤z∧z<ys.getD (j+1) 0∧inS (f (ys.getD j 0)) x
 | 0,_=>⟨show CanB [] from trivial,⟨fun b hb=>(by cases hb),fun x z=>⟨fun h=>absurd h not_inB_nil,fun ⟨j,hj,_⟩=>(by omega)⟩⟩⟩
 | i+1,hi=>by
  obtain⟨h1,h2,h3⟩:=bnd_spec hu hf i (by omega)
  have hlt:ys.getD i 0<ys.getD (i+1) 0:=by
   rw[List.getD_eq_getElem?_getD,List.getD_eq_getElem?_getD,List.getElem?_eq_getElem (by omega),List.getElem?_eq_getElem hi]
   exact (List.pairwise_iff_getElem.1 hu) i (i+1) (by omega) hi (by omega)
  have hmem:ys.getD i 0∈ys:=by
   rw[List.getD_eq_getElem?_getD,List.getElem?_eq_getElem (by omega)]
   exact List.getElem_mem _
  obtain⟨g1,g2,g3⟩:=addB_spec (y:=ys.getD i 0) (h:=ys.getD (i+1) 0 - ys.getD i 0) h1 h2 (by omega) (hf _ hmem)
  refine⟨g1,fun b hb=>by have:=g2 b hb;omega,fun x z=>?_⟩
  show inB (addB _ _ _ _).reverse x z↔_
  rw[g3,h3]
  constructor
  ·rintro (⟨j,hj,k⟩|⟨k1,k2,k3⟩)
   ·exact⟨j,by omega,k⟩
   ·exact⟨i,by omega,k1,by omega,k3⟩
  ·rintro⟨j,hj,k1,k2,k3⟩
   by_cases e:j=i
   ·subst e;exact .inr ⟨k1,by omega,k3⟩
   ·exact .inl ⟨j,by omega,k1,k2,k3⟩
end Go.Proofs.YtbknacpdcdkjiaaGreat
/- The model of band.Of: rows of stretches, put together. No condition. -/
namespace Go.Proofs.YtbknacpdcdkjiaaGreat
open Go Go.VM
set_option linter.unusedVariables false
set_option linter.unusedSimpArgs false
def cross (y:Int) (r:RC):Bool:=decide (r.y≤y)&&decide (y<r.y+r.h)
def srtX (l:List RC):List RC:=l.mergeSort fun a b=>decide (a.x≤b.x)
def rowS (all:List RC) (y:Int):List (Int × Int):=spF (srtX (all.filter (cross y)))
def cntL (l:List RC):List RC:=l.filter fun r=>decide r.cnt
def bandsF (l:List RC):List Bd:=(bnd (edF (cntL l)) (rowS (cntL l)) ((edF (cntL l)).length - 1)).reverse
def ofF (l:List RC):List RC:=flatB (bandsF l)
theorem srtX_perm (l:List RC):(srtX l).Perm l:=List.mergeSort_perm _ _
theorem srtX_sorted (l:List RC):(srtX l).Pairwise fun a b=>a.x≤b.x:=by
 have:=List.pairwise_mergeSort (le:=fun a b:RC=>decide (a.x≤b.x)) (fun a b c h1 h2=>by simp at *;omega) (fun a b=>by simp;omega) l
 exact this.imp (fun h=>by simpa using h)
theorem spF_congr {l m:List RC} (hp:l.Perm m) (hl:l.Pairwise fun a b=>a.x≤b.x) (hm:m.Pairwise fun a b=>a.x≤b.x) (hw:∀r∈l,0<r.w):spF l=spF m:=by
 obtain⟨h1,h2⟩:=spF_spec hw hl
 obtain⟨h3,h4⟩:=spF_spec (fun r hr=>hw r (hp.mem_iff.2 hr)) hm
 refine canS_unique h1 h3 fun x=>?_
 rw[h2,h4]
 constructor
 ·rintro⟨r,hr,k⟩;exact⟨r,hp.mem_iff.1 hr,k⟩
 ·rintro⟨r,hr,k⟩;exact⟨r,hp.mem_iff.2 hr,k⟩
theorem rowS_eq {all R:List RC} {y:Int} (hp:R.Perm (all.filter (cross y))) (hs:R.Pairwise fun a b=>a.x≤b.x) (hw:∀r∈all,0<r.w):spF R=rowS all y:=
 spF_congr (hp.trans (srtX_perm _).symm) hs (srtX_sorted _) fun r hr=>hw r (List.mem_filter.1 (hp.mem_iff.1 hr)).1
theorem rowS_perm {all all':List RC} {y:Int} (hp:all.Perm all') (hw:∀r∈all,0<r.w):rowS all y=rowS all' y:=
 rowS_eq ((srtX_perm _).trans (hp.filter _)) (srtX_sorted _) fun r hr=>hw r (hp.mem_iff.2 hr)
theorem rowS_spec {all:List RC} {y:Int} (hw:∀r∈all,0<r.w):CanS (rowS all y)∧∀x,inS (rowS all y) x↔∃r∈all,r.has x y:=by
 have hm:∀r,r∈srtX (all.filter (cross y))↔r∈all∧r.y≤y∧y<r.y+r.h:=fun r=>by
  rw[(srtX_perm _).mem_iff,List.mem_filter];simp[cross]
 obtain⟨h1,h2⟩:=spF_spec (l:=srtX (all.filter (cross y))) (fun r hr=>hw r ((hm r).1 hr).1) (srtX_sorted _)
 refine⟨h1,fun x=>?_⟩
 unfold rowS
 rw[h2]
 unfold RC.has
 constructor
 ·rintro⟨r,hr,k⟩;obtain⟨a,b,c⟩:=(hm r).1 hr;exact⟨r,a,k.1,k.2,b,c⟩
 ·rintro⟨r,hr,k1,k2,k3,k4⟩;exact⟨r,(hm r).2 ⟨hr,k3,k4⟩,k1,k2⟩
theorem spGo_ends:∀(l:List RC) (f t:Int),∀p∈spGo f t l,(p.1=f∨∃r∈l,p.1=r.x)∧(p.2=t∨∃r∈l,p.2=r.x+r.w)
 | [],f,t,p,hp=>by
  unfold spGo at hp
  rw[List.mem_singleton.1 hp];exact⟨.inl rfl,.inl rfl⟩
 | r::l,f,t,p,hp=>by
  unfold spGo at hp
  split at hp
  ·obtain⟨h1,h2⟩:=spGo_ends l _ _ p hp
   refine⟨?_,?_⟩
   ·rcases h1 with h1|⟨q,hq,h1⟩
    ·exact .inl h1
    ·exact .inr ⟨q,.tail _ hq,h1⟩
   ·rcases h2 with h2|⟨q,hq,h2⟩
    ·by_cases h:t≤r.x+r.w
     ·exact .inr ⟨r,List.mem_cons_self ..,by omega⟩
     ·exact .inl (by omega)
    ·exact .inr ⟨q,.tail _ hq,h2⟩
  ·rcases List.mem_cons.1 hp with rfl|hp
   ·exact⟨.inl rfl,.inl rfl⟩
   ·obtain⟨h1,h2⟩:=spGo_ends l _ _ p hp
    refine⟨.inr ?_,.inr ?_⟩
    ·rcases h1 with h1|⟨q,hq,h1⟩
     ·exact⟨r,List.mem_cons_self ..,h1⟩
     ·exact⟨q,.tail _ hq,h1⟩
    ·rcases h2 with h2|⟨q,hq,h2⟩
     ·exact⟨r,List.mem_cons_self ..,h2⟩
     ·exact⟨q,.tail _ hq,h2⟩
theorem spF_ends {l:List RC} {p:Int × Int} (hp:p∈spF l):(∃r∈l,p.1=r.x)∧∃r∈l,p.2=r.x+r.w:=by
 cases l with
 | nil=>cases hp
 | cons r l=>
  obtain⟨h1,h2⟩:=spGo_ends l _ _ p hp
  refine⟨?_,?_⟩
  ·rcases h1 with h1|⟨q,hq,h1⟩
   ·exact⟨r,List.mem_cons_self ..,h1⟩
   ·exact⟨q,.tail _ hq,h1⟩
  ·rcases h2 with h2|⟨q,hq,h2⟩
   ·exact⟨r,List.mem_cons_self ..,h2⟩
   ·exact⟨q,.tail _ hq,h2⟩
theorem spGo_len:∀(l:List RC) (f t:Int),(spGo f t l).length≤l.length+1
 | [],f,t=>by simp[spGo]
 | r::l,f,t=>by
  unfold spGo
  split
  ·have:=spGo_len l f (max t (r.x+r.w));simp only[List.length_cons];omega
  ·have:=spGo_len l r.x (r.x+r.w);simp only[List.length_cons];omega
theorem spF_len (l:List RC):(spF l).length≤l.length:=by
 cases l with
 | nil=>exact Nat.le_refl _
 | cons r l=>exact spGo_len l _ _
theorem rowS_len (all:List RC) (y:Int):(rowS all y).length≤all.length:=by
 refine Nat.le_trans (spF_len _) ?_
 rw[(srtX_perm _).length_eq]
 exact List.length_filter_le _ _
theorem flatB_snoc (B:List Bd) (b:Bd):flatB (B++[b])=flatB B++b.rects:=by simp[flatB]
theorem flatB_rev_cons (B:List Bd) (b:Bd):flatB (b::B).reverse=flatB B.reverse++b.rects:=by rw[List.reverse_cons,flatB_snoc]
def AB (B:List Bd) (ab:Nat) (y:Int):Prop:=(∃c B',B=c::B'∧ab=(flatB B'.reverse).length)∨(ab=(flatB B.reverse).length∧∀c∈B,c.y+c.h<y)
theorem eqF_rects {y h y' h':Int}:∀{s s':List (Int × Int)},s≠[]→(eqF (fun a b=>decide (goesOn a b)) (s.map fun p=>(⟨p.1,y,p.2 - p.1,h⟩:RC)) (s'.map fun p=>(⟨p.1,y',p.2 - p.1,h'⟩:RC))=true↔s=s'∧y+h=y')
 | [],_,h=>absurd rfl h
 | p::s,[],_=>by simp[eqF]
 | (a,b)::s,(c,d)::s',_=>by
  simp only[List.map_cons,eqF,Bool.and_eq_true,decide_eq_true_eq]
  show (a=c∧b - a=d - c∧y+h=y')∧eqF (fun a b=>decide (goesOn a b)) _ _=true↔_
  cases s with
  | nil=>
   cases s' with
   | nil=>simp[eqF];omega
   | cons q s'=>simp[eqF]
  | cons q s=>
   rw[eqF_rects (s:=q::s) (by simp)]
   simp only[List.cons.injEq,Prod.mk.injEq]
   constructor
   ·rintro⟨⟨h1,h2,h3⟩,h4,h5⟩;exact⟨⟨⟨h1,by omega⟩,h4⟩,h3⟩
   ·rintro⟨⟨⟨h1,h2⟩,h4⟩,h3⟩;exact⟨⟨h1,by omega,h3⟩,h4,h3⟩
def growH (d:Int) (r:RC):RC:={ r with h:=r.h+d }
theorem round_ok {B:List Bd} {ab:Nat} {y h:Int} {s:List (Int × Int)} (hB:CanB B.reverse) (hy:∀b∈B,b.y+b.h≤y) (hh:0<h) (hab:AB B ab y) :
  ab≤(flatB B.reverse).length ∧
  if (decide (0<((flatB B.reverse).drop ab).length)&&eqF (fun a b=>decide (goesOn a b)) ((flatB B.reverse).drop ab) (Bd.rects ⟨y,h,s⟩))=true then
   flatB (addB B y h s).reverse=(flatB B.reverse).take ab++((flatB B.reverse).drop ab).map (growH h)∧AB (addB B y h s) ab (y+h)
  else flatB (addB B y h s).reverse=flatB B.reverse++Bd.rects ⟨y,h,s⟩∧AB (addB B y h s) (flatB B.reverse).length (y+h):=by
 have hnil:s=[]→Bd.rects ⟨y,h,s⟩=[]:=fun e=>by subst e;rfl
 rcases hab with ⟨c,B',rfl,rfl⟩|⟨rfl,hlt⟩
 ·have hc:c.ok:=by rw[List.reverse_cons] at hB;exact hB.last.1
  rw[flatB_rev_cons,List.drop_left,List.take_left]
  refine⟨by simp,?_⟩
  have hpos:0<c.rects.length:=by
   unfold Bd.rects;rw[List.length_map];exact List.length_pos_iff.2 hc.ne
  rw[decide_eq_true hpos,Bool.true_and]
  have key:=eqF_rects (y:=c.y) (h:=c.h) (y':=y) (h':=h) (s:=c.s) (s':=s) hc.ne
  have key:eqF (fun a b=>decide (goesOn a b)) c.rects (Bd.rects ⟨y,h,s⟩)=true↔c.s=s∧c.y+c.h=y:=key
  by_cases hm:c.y+c.h=y∧c.s=s
  ·rw[if_pos (key.2 ⟨hm.2,hm.1⟩)]
   have e:addB (c::B') y h s=⟨c.y,c.h+h,s⟩::B':=by
    unfold addB;rw[if_neg (hm.2 ▸ hc.ne)];simp only[if_pos hm]
   rw[e]
   refine⟨?_,.inl ⟨_,_,rfl,rfl⟩⟩
   rw[flatB_rev_cons]
   congr 1
   unfold Bd.rects growH
   rw[List.map_map,hm.2]
   rfl
  ·rw[if_neg (fun q=>hm ⟨(key.1 q).2,(key.1 q).1⟩)]
   by_cases h0:s=[]
   ·have e:addB (c::B') y h s=c::B':=by unfold addB;rw[if_pos h0]
    rw[e,hnil h0,List.append_nil,flatB_rev_cons]
    exact⟨rfl,.inr ⟨by rw[flatB_rev_cons],fun b hb=>by have:=hy b hb;omega⟩⟩
   ·have e:addB (c::B') y h s=⟨y,h,s⟩::c::B':=by unfold addB;rw[if_neg h0];simp only[if_neg hm]
    rw[e]
    exact⟨by rw[flatB_rev_cons,flatB_rev_cons],.inl ⟨_,_,rfl,by rw[flatB_rev_cons]⟩⟩
 ·refine⟨Nat.le_refl _,?_⟩
  rw[List.drop_of_length_le (Nat.le_refl _)]
  rw[if_neg (by simp)]
  by_cases h0:s=[]
  ·have e:addB B y h s=B:=by unfold addB;rw[if_pos h0]
   rw[e,hnil h0,List.append_nil]
   exact⟨rfl,.inr ⟨rfl,fun b hb=>by have:=hy b hb;omega⟩⟩
  ·have e:addB B y h s=⟨y,h,s⟩::B:=by
    unfold addB
    rw[if_neg h0]
    cases B with
    | nil=>rfl
    | cons c B'=>
     have:=hlt c (List.mem_cons_self ..)
     simp only
     rw[if_neg (fun q=>by omega)]
   rw[e]
   exact⟨by rw[flatB_rev_cons],.inl ⟨_,_,rfl,rfl⟩⟩
theorem addB_mem {B:List Bd} {y h:Int} {s:List (Int × Int)} {b:Bd} (hb:b∈addB B y h s):(b.y=y∧b.s=s)∨∃c∈B,b.y=c.y∧b.s=c.s:=by
 unfold addB at hb
 split at hb
 ·exact .inr ⟨b,hb,rfl,rfl⟩
 ·cases B with
  | nil=>rw[List.mem_singleton.1 hb];exact .inl ⟨rfl,rfl⟩
  | cons c B=>
   simp only at hb
   split at hb
   ·rename_i hm
    rcases List.mem_cons.1 hb with rfl|hb
    ·exact .inr ⟨c,List.mem_cons_self ..,rfl,hm.2.symm⟩
    ·exact .inr ⟨b,.tail _ hb,rfl,rfl⟩
   ·rcases List.mem_cons.1 hb with rfl|hb
    ·exact .inl ⟨rfl,rfl⟩
    ·exact .inr ⟨b,hb,rfl,rfl⟩
theorem getD_mem {l:List Int} {i:Nat} (h:i<l.length):l.getD i 0∈l:=by
 rw[List.getD_eq_getElem?_getD,List.getElem?_eq_getElem h];exact List.getElem_mem _
theorem bnd_mem {ys:List Int} {f:Int→List (Int × Int)}:∀i,i<ys.length→∀b∈bnd ys f i,b.y∈ys∧∃y∈ys,b.s=f y
 | 0,_,b,hb=>by cases hb
 | i+1,hi,b,hb=>by
  rcases addB_mem hb with ⟨h1,h2⟩|⟨c,hc,h1,h2⟩
  ·exact⟨h1 ▸ getD_mem (by omega),_,getD_mem (by omega),h2⟩
  ·rw[h1,h2];exact bnd_mem i (by omega) c hc
theorem addB_len {B:List Bd} {y h:Int} {s:List (Int × Int)}:(flatB (addB B y h s).reverse).length≤(flatB B.reverse).length+s.length:=by
 have hl:∀b:Bd,b.rects.length=b.s.length:=fun b=>by simp[Bd.rects]
 unfold addB
 split
 ·omega
 ·cases B with
  | nil=>show (flatB [_]).length≤_;simp[flatB,hl]
  | cons c B=>
   simp only
   split
   ·rename_i hm
    rw[flatB_rev_cons,flatB_rev_cons,List.length_append,List.length_append,hl,hl,hm.2];simp only;omega
   ·rw[flatB_rev_cons,List.length_append,hl];exact Nat.le_refl _
theorem bnd_len {ys:List Int} {f:Int→List (Int × Int)} {N:Nat} (hN:∀y,(f y).length≤N):∀i,(flatB (bnd ys f i).reverse).length≤i * N
 | 0=>by simp[bnd,flatB]
 | i+1=>by
  have h1:=bnd_len (ys:=ys) hN i
  have h2:=addB_len (B:=bnd ys f i) (y:=ys.getD i 0) (h:=ys.getD (i+1) 0 - ys.getD i 0) (s:=f (ys.getD i 0))
  have h3:=hN (ys.getD i 0)
  rw[Nat.succ_mul]
  unfold bnd
  omega
def InM (n:Int):Prop:=-1048576≤n∧n≤1048576
theorem flatB_cnt {B:List Bd} (hB:∀b∈B,b.ok∧-1048576≤b.y∧b.y+b.h≤1048576∧∀p∈b.s,InM p.1∧InM p.2):∀r∈flatB B,r.cnt:=by
 intro r hr
 unfold flatB at hr
 obtain⟨b,hb,hr⟩:=List.mem_flatMap.1 hr
 obtain⟨h1,h2,h3,h4⟩:=hB b hb
 unfold Bd.rects at hr
 obtain⟨p,hp,rfl⟩:=List.mem_map.1 hr
 obtain⟨⟨a1,a2⟩,⟨a3,a4⟩⟩:=h4 p hp
 have:=h1.h
 have:=h1.s.pos p hp
 exact⟨⟨by simp only;omega,by simp only;omega,by simp only;omega⟩,⟨by simp only;omega,by simp only;omega,by simp only;omega⟩⟩
theorem canB_ok:∀{B:List Bd},CanB B→∀b∈B,b.ok
 | [],_,b,hb=>by cases hb
 | c::B,h,b,hb=>by
  rcases List.mem_cons.1 hb with rfl|hb
  ·exact h.head
  ·exact canB_ok h.tail b hb
theorem rowS_inM {all:List RC} (hc:∀r∈all,r.cnt) (y:Int):∀p∈rowS all y,InM p.1∧InM p.2:=by
 intro p hp
 unfold rowS at hp
 have hm:∀r,r∈srtX (all.filter (cross y))→r∈all:=fun r hr=>by
  rw[(srtX_perm _).mem_iff,List.mem_filter] at hr;exact hr.1
 obtain⟨⟨r,hr,h1⟩,⟨q,hq,h2⟩⟩:=spF_ends hp
 obtain⟨⟨a1,a2,a3⟩,_⟩:=hc r (hm r hr)
 obtain⟨⟨b1,b2,b3⟩,_⟩:=hc q (hm q hq)
 rw[h1,h2]
 exact⟨⟨a1,by omega⟩,⟨by omega,b3⟩⟩
theorem edF_inM {all:List RC} (hc:∀r∈all,r.cnt):∀y∈edF all,InM y:=by
 intro y hy
 obtain⟨r,hr,h⟩:=mem_edF.1 hy
 obtain⟨_,⟨a1,a2,a3⟩⟩:=hc r hr
 unfold InM
 rcases h with h|h<;>omega
theorem up_getD {ys:List Int} (hu:Up_ ys) {i:Nat} (hi:i+1<ys.length):ys.getD i 0<ys.getD (i+1) 0:=by
 rw[List.getD_eq_getElem?_getD,List.getD_eq_getElem?_getD,List.getElem?_eq_getElem (by omega),List.getElem?_eq_getElem hi]
 exact (List.pairwise_iff_getElem.1 hu) i (i+1) (by omega) hi (by omega)
theorem bnd_all {all:List RC} (hc:∀r∈all,r.cnt) (i:Nat) (hi:i<(edF all).length) :
  CanB (bnd (edF all) (rowS all) i).reverse∧(∀b∈bnd (edF all) (rowS all) i,b.y+b.h≤(edF all).getD i 0)∧∀r∈flatB (bnd (edF all) (rowS all) i).reverse,r.cnt:=by
 have hw:∀r∈all,0<r.w:=fun r hr=>(hc r hr).1.2.1
 obtain⟨h1,h2,_⟩:=bnd_spec (ys:=edF all) (f:=rowS all) (up_edF all) (fun y _=>(rowS_spec hw).1) i hi
 refine⟨h1,h2,flatB_cnt fun b hb=>?_⟩
 rw[List.mem_reverse] at hb
 obtain⟨g1,y,g2,g3⟩:=bnd_mem i hi b hb
 refine⟨canB_ok h1 b (by rwa[List.mem_reverse]),(edF_inM hc _ g1).1,?_,?_⟩
 ·have:=h2 b hb
  have:=(edF_inM hc _ (getD_mem hi)).2
  omega
 ·rw[g3];exact rowS_inM hc y
end Go.Proofs.YtbknacpdcdkjiaaGreat
