import Derived.Test.YtbknacpdcdkjiaaGreatTy
import Derived.Test.YtbknacpdcdkjiaaGreatB9
import Derived.Test.YtbknacpdcdkjiaaGreatC6
import Derived.Test.YtbknacpdcdkjiaaGreatW1
import Derived.Test.YtbknacpdcdkjiaaGreatU3
import Derived.Test.YtbknacpdcdkjiaaGreatU4
import Derived.Laws.BytesString

/- ident; saveset.check; lists of ids: Contains, Clone. No condition. -/
namespace Go.Proofs.YtbknacpdcdkjiaaGreat
open Go Go.VM
attribute [local irreducible] PurV Pur Step RL W D ACalls Then InBlock Fini
set_option linter.unusedVariables false
set_option linter.unusedSimpArgs false
set_option maxHeartbeats 20000000
def isC (c:Int):Bool:=decide (1≤c∧c≤8)
set_option maxRecDepth 100000 in
theorem isc_c (c:Int) (h:Heap):ACalls Tryz.prog 127 [.val (.int .i64 (c))] h (fun r h'=>r=.val (.bool (isC c))∧h'=h):=by
 refine ACalls.intro Tryz.func127 rfl Tryz.ntmps127 Tryz.results127 (Nat.le_of_ble_eq_true rfl) ?_
 by_cases h1:1≤c
 ·(repeat' first|refine svz ⟨fun b hq=>?_⟩|refine svE ⟨?_⟩|refine .b fun b=>?_|refine .u fun u=>?_|refine .d ?_ ?_|(refine .g fun hg=>?_;try exact svx)|fail)
  refine fin_r (h':=h) ⟨?_,rfl⟩;simp[tupA,isC,h1]
 ·(repeat' first|refine svz ⟨fun b hq=>?_⟩|refine svE ⟨?_⟩|refine .b fun b=>?_|refine .u fun u=>?_|refine .d ?_ ?_|(refine .g fun hg=>?_;try exact svx)|fail)
  refine fin_r (h':=h) ⟨?_,rfl⟩;simp[tupA,isC,h1]
def cliF (id:Int):Int × Bool:=if id=1 then (0,true) else if id % 1048576=0∨isC (id / 1048576)=false then (0,false) else (id / 1048576,true)
set_option maxRecDepth 100000 in
theorem cli_c (id:Int) (h:Heap) (h0:0≤id) (h1:id≤4294967295):ACalls Tryz.prog 97 [.val (.int .u32 (id))] h (fun r h'=>r=.tup [.val (.int .i64 ((cliF id).1)),.val (.bool (cliF id).2)]∧h'=h):=by
 refine ACalls.intro Tryz.func97 rfl Tryz.ntmps97 Tryz.results97 (Nat.le_of_ble_eq_true rfl) ?_
 by_cases h2:id=1
 ·(repeat' first|refine svz ⟨fun b hq=>?_⟩|refine svE ⟨?_⟩|refine .b fun b=>?_|refine .u fun u=>?_|refine .d ?_ ?_|(refine .g fun hg=>?_;try exact svx)|fail)
  refine fin_r (h':=h) ⟨?_,rfl⟩;simp[tupA,cliF,h2]
 by_cases h3:id % 1048576=0
 ·(repeat' first|refine svz ⟨fun b hq=>?_⟩|refine svE ⟨?_⟩|refine .b fun b=>?_|refine .u fun u=>?_|refine .d ?_ ?_|(refine .g fun hg=>?_;try exact svx)|fail)
  refine fin_r (h':=h) ⟨?_,rfl⟩;simp[tupA,cliF,h2,h3]
 ·(repeat' first|refine svz ⟨fun b hq=>?_⟩|refine svE ⟨?_⟩|refine .b fun b=>?_|refine .u fun u=>?_|refine .d ?_ ?_|(refine .g fun hg=>?_;try exact svx)|fail)
  refine S.call ?_
  refine (isc_c _ _).mono ?_
  rintro r h' ⟨rfl,hh⟩
  subst hh
  cases h4:isC (id / 1048576)
  ·(repeat' first|refine svz ⟨fun b hq=>?_⟩|refine svE ⟨?_⟩|refine .b fun b=>?_|refine .u fun u=>?_|refine .d ?_ ?_|(refine .g fun hg=>?_;try exact svx)|fail)
   refine fin_r (h':=h') ⟨?_,rfl⟩;simp[tupA,cliF,h2,h3,h4]
  ·(repeat' first|refine svz ⟨fun b hq=>?_⟩|refine svE ⟨?_⟩|refine .b fun b=>?_|refine .u fun u=>?_|refine .d ?_ ?_|(refine .g fun hg=>?_;try exact svx)|fail)
   refine fin_r (h':=h') ⟨?_,rfl⟩;simp[tupA,cliF,h2,h3,h4]
def icF (id:Int):Int:=if id=0 then 6 else if (cliF id).2 then 0 else 1
set_option maxRecDepth 100000 in
theorem icheck_c (id:Int) (h:Heap) (h0:0≤id) (h1:id≤4294967295):ACalls Tryz.prog 59 [.val (.int .u32 (id))] h (fun r h'=>r=.val (.int .i64 (icF id))∧h'=h):=by
 by_cases hz:id=0
 ·rw[show icF id=6 by unfold icF;rw[if_pos hz]]
  refine ACalls.intro Tryz.func59 rfl Tryz.ntmps59 Tryz.results59 (Nat.le_of_ble_eq_true rfl) ?_
  (repeat' first|refine svz ⟨fun b hq=>?_⟩|refine svE ⟨?_⟩|refine .b fun b=>?_|refine .u fun u=>?_|refine .d ?_ ?_|(refine .g fun hg=>?_;try exact svx)|fail)
  exact fin_r (h':=h) ⟨rfl,rfl⟩
 have c1:=fun h=>cli_c id h h0 h1
 have e:icF id=if (cliF id).2 then 0 else 1:=by unfold icF;rw[if_neg hz]
 rw[e]
 generalize cliF id=p at *
 obtain⟨c,b⟩:=p
 dsimp only at *
 cases b
 ·refine ACalls.intro Tryz.func59 rfl Tryz.ntmps59 Tryz.results59 (Nat.le_of_ble_eq_true rfl) ?_
  (repeat' first|refine svz ⟨fun b hq=>?_⟩|refine svE ⟨?_⟩|refine .b fun b=>?_|refine .u fun u=>?_|refine .d ?_ ?_|(refine .g fun hg=>?_;try exact svx)|fail)
  refine S.call ?_;refine (c1 _).mono ?_;rintro r h' ⟨rfl,hh⟩;subst hh
  (repeat' first|refine svz ⟨fun b hq=>?_⟩|refine svE ⟨?_⟩|refine .b fun b=>?_|refine .u fun u=>?_|refine .d ?_ ?_|(refine .g fun hg=>?_;try exact svx)|fail)
  exact fin_r (h':=_) ⟨rfl,rfl⟩
 ·refine ACalls.intro Tryz.func59 rfl Tryz.ntmps59 Tryz.results59 (Nat.le_of_ble_eq_true rfl) ?_
  (repeat' first|refine svz ⟨fun b hq=>?_⟩|refine svE ⟨?_⟩|refine .b fun b=>?_|refine .u fun u=>?_|refine .d ?_ ?_|(refine .g fun hg=>?_;try exact svx)|fail)
  refine S.call ?_;refine (c1 _).mono ?_;rintro r h' ⟨rfl,hh⟩;subst hh
  (repeat' first|refine svz ⟨fun b hq=>?_⟩|refine svE ⟨?_⟩|refine .b fun b=>?_|refine .u fun u=>?_|refine .d ?_ ?_|(refine .g fun hg=>?_;try exact svx)|fail)
  exact fin_r (h':=_) ⟨rfl,rfl⟩
set_option maxRecDepth 100000 in
theorem index_c (l:List Int) (x:Int) (h:Heap):ACalls Tryz.prog 34 [.ro 1 (ints .u32 (l)),.val (.int .u32 (x))] h (fun r h'=>∃k,r=.val (.int .i64 (k))∧(0≤k↔x∈l)∧h'=h):=by
 refine ACalls.intro Tryz.func34 rfl Tryz.ntmps34 Tryz.results34 (Nat.le_of_ble_eq_true rfl) ?_
 refine W.len 0 rfl (fun hl=>?_);simp only[ints,splice,List.length_map,List.length_append,List.length_cons,List.length_nil,List.length_take,List.length_drop,List.length_set,List.length_replicate] at hl
 (repeat' first|refine svz ⟨fun b hq=>?_⟩|refine svE ⟨?_⟩|refine .b fun b=>?_|refine .u fun u=>?_|refine .d ?_ ?_|(refine .g fun hg=>?_;try exact svx)|fail)
 refine W.loop (J:=fun i:Nat=>⟨19,[(8,.val (.int .i64 ((i:Nat)))),(7,.val (.int .i64 ((l.length:Nat)))),(0,.ro 1 (ints .u32 (l))),(1,.val (.int .u32 (x))),(4,.val (.int .i64 (0)))],h⟩)
  (Φ:=fun i=>i≤l.length∧x∉l.take i) (μ:=fun i=>l.length - i) 0 lee ⟨Nat.zero_le _,by simp⟩ ?_
 rintro i ⟨hi,hn⟩
 rcases Nat.lt_or_ge i l.length with hlt|hge
 ·obtain⟨a,ha⟩:∃a,l[i]?=some a:=⟨_,List.getElem?_eq_getElem hlt⟩
  by_cases hx:x=a
  ·(repeat' first|refine svz ⟨fun b hq=>?_⟩|refine svE ⟨?_⟩|refine .b fun b=>?_|refine .u fun u=>?_|refine .d ?_ ?_|(refine .g fun hg=>?_;try exact svx)|fail)
   exact fin_r (h':=h) ⟨_,rfl,⟨fun _=>by rw[hx];exact List.mem_of_getElem? ha,fun _=>Int.natCast_nonneg _⟩,rfl⟩
  ·(repeat' first|refine svz ⟨fun b hq=>?_⟩|refine svE ⟨?_⟩|refine .b fun b=>?_|refine .u fun u=>?_|refine .d ?_ ?_|(refine .g fun hg=>?_;try exact svx)|fail)
   refine⟨i+1,⟨hlt,?_⟩,lee,by omega⟩
   rw[List.take_add_one,ha]
   intro hm
   rcases List.mem_append.1 hm with q|q
   ·exact hn q
   ·exact hx (by simpa using q)
 ·rw[List.take_of_length_le hge] at hn
  (repeat' first|refine svz ⟨fun b hq=>?_⟩|refine svE ⟨?_⟩|refine .b fun b=>?_|refine .u fun u=>?_|refine .d ?_ ?_|(refine .g fun hg=>?_;try exact svx)|fail)
  exact fin_r (h':=h) ⟨-1,rfl,⟨fun q=>absurd q (by decide),fun q=>absurd q hn⟩,rfl⟩
set_option maxRecDepth 100000 in
theorem contains_c (l:List Int) (x:Int) (h:Heap):ACalls Tryz.prog 150 [.ro 1 (ints .u32 (l)),.val (.int .u32 (x))] h (fun r h'=>r=.val (.bool (decide (x∈l)))∧h'=h):=by
 refine ACalls.intro Tryz.func150 rfl Tryz.ntmps150 Tryz.results150 (Nat.le_of_ble_eq_true rfl) ?_
 (repeat' first|refine svz ⟨fun b hq=>?_⟩|refine svE ⟨?_⟩|refine .b fun b=>?_|refine .u fun u=>?_|refine .d ?_ ?_|(refine .g fun hg=>?_;try exact svx)|fail)
 refine S.call ?_
 refine (index_c l x _).mono ?_
 rintro r h' ⟨k,rfl,hk,hh⟩
 subst hh
 (repeat' first|refine svz ⟨fun b hq=>?_⟩|refine svE ⟨?_⟩|refine .b fun b=>?_|refine .u fun u=>?_|refine .d ?_ ?_|(refine .g fun hg=>?_;try exact svx)|fail)
 refine fin_r (h':=_) ⟨?_,rfl⟩
 exact congrArg (fun b=>AV.val (.bool b)) (decide_eq_decide.2 hk)
set_option maxRecDepth 100000 in
theorem clnI_c0 (l:List Int) (h:Heap) (hl:l.length≤1000000000000):ACalls Tryz.prog 35 [.ro 1 (ints .u32 (l))] h (fun r h'=>(r=.val (.slice none 0 0)∧l=[]∧h'=h)∨∃v,r=.val v∧h'=.own v 1 (ints .u32 l) 38::h):=by
 refine ACalls.intro Tryz.func35 rfl Tryz.ntmps35 Tryz.results35 (Nat.le_of_ble_eq_true rfl) ?_
 (repeat' first|refine svz ⟨fun b hq=>?_⟩|refine svE ⟨?_⟩|refine .b fun b=>?_|refine .u fun u=>?_|refine .d ?_ ?_|(refine .g fun hg=>?_;try exact svx)|fail)
 ·have:l=[]:=by simpa[ints] using hq (by assumption)
  exact fin_r (h':=h) (.inl ⟨rfl,this,rfl⟩)
 ·exact fin_r (h':=.own u 1 (ints .u32 l) 38::h) (.inr ⟨u,rfl,rfl⟩)
theorem clnI_c (l:List Int) (h:Heap) (hl:l.length≤1000000000000):ACalls Tryz.prog 35 [.ro 1 (ints .u32 (l))] h (fun r h'=>r=.ro 1 (ints .u32 (l))∧h'=h):=by
 refine ((clnI_c0 l h hl).wk (Q':=fun r h'=>(r=.ro 1 (ints .u32 (l))∧h'=h)∨∃v,r=.val v∧h'=.own v 1 (ints .u32 l) 38::h) ?_).frzo ?_
 ·rintro r h' (⟨rfl,rfl,rfl⟩|⟨v,rfl,rfl⟩)
  ·exact⟨_,.nilr 1,.inl ⟨rfl,rfl⟩⟩
  ·exact⟨_,.refl _,.inr ⟨v,rfl,rfl⟩⟩
 ·rintro r h' (⟨rfl,rfl⟩|⟨v,rfl,rfl⟩)
  ·exact .inl ⟨rfl,rfl⟩
  ·exact .inr ⟨v,1,_,_,_,h,.here,.hit,rfl,rfl⟩
end Go.Proofs.YtbknacpdcdkjiaaGreat

/- Plain: what shows of windows, place by place. No condition. -/
namespace Go.Proofs.YtbknacpdcdkjiaaGreat
open Go Go.VM
set_option linter.unusedVariables false
set_option linter.unusedSimpArgs false
set_option maxHeartbeats 4000000
structure BW where
 (x y w h:Int) (m:Bool) (g:Int) (sh:Bool) (shape:List RC)
abbrev PW:=List (Int × BW)
structure SW where
 (x y:Int) (clip:List RC)
abbrev AndJ (A B:List RC):List RC:=joinJ (fun p q=>p&&q) A B
abbrev NotJ (A B:List RC):List RC:=joinJ (fun p q=>p&&!q) A B
def areaB (b:BW):List RC:=if b.sh then AndJ b.shape (ofF [⟨0,0,b.w,b.h⟩]) else ofF [⟨0,0,b.w,b.h⟩]
def shF (dx dy:Int) (A:List RC):List RC:=A.map (shR dx dy)
theorem has_shF (dx dy:Int) (A:List RC) (x y:Int):hasR (shF dx dy A) x y=hasR A (x - dx) (y - dy):=by
 have:=has_sh A dx dy (x - dx) (y - dy)
 rw[show x - dx+dx=x by omega,show y - dy+dy=y by omega] at this
 exact this
section
variable (bx:PW) (K:Int→List Int) (ox oy:Int→Int)
def kidA (id:Int) (b:BW) (pl:List RC):List RC:=AndJ (shF (ox id+b.x) (oy id+b.y) (areaB b)) pl
def lpF (hd:Int→List RC→List RC→List (Int × SW)) (id:Int) (pl:List RC):List Int→List RC→List (Int × SW) × List RC
 | [],lf=>([],lf)
 | kid::ks,lf=>
  match lkF bx kid with
  | none=>lpF hd id pl ks lf
  | some b=>
   if b.m=false then lpF hd id pl ks lf else
   (hd kid (kidA ox oy id b pl) (AndJ (kidA ox oy id b pl) lf)++(lpF hd id pl ks (NotJ lf (kidA ox oy id b pl))).1,(lpF hd id pl ks (NotJ lf (kidA ox oy id b pl))).2)
def handF:Nat→Int→List RC→List RC→List (Int × SW)
 | 0,_,_,_=>[]
 | f+1,id,pl,lf=>(lpF bx ox oy (handF f) id pl (K id).reverse lf).1++[(id,⟨ox id,oy id,(lpF bx ox oy (handF f) id pl (K id).reverse lf).2⟩)]
def inW (id:Int) (x y:Int) (kid:Int):Bool:=
 match lkF bx kid with
 | none=>false
 | some b=>b.m&&hasR (areaB b) (x - (ox id+b.x)) (y - (oy id+b.y))
def topF (x y:Int):Nat→Int→Int
 | 0,id=>id
 | f+1,id=>
  match (K id).reverse.find? (inW bx ox oy id x y) with
  | none=>id
  | some kid=>topF x y f kid
end
section
variable {bx:PW} {K:Int→List Int} {ox oy:Int→Int} {x y:Int}
theorem kidA_has {id kid:Int} {b:BW} {pl:List RC} (hb:lkF bx kid=some b) (hm:b.m=true) (hc:Can pl) (hsh:Can (shF (ox id+b.x) (oy id+b.y) (areaB b))) :
  hasR (kidA ox oy id b pl) x y=(inW bx ox oy id x y kid&&hasR pl x y):=by
 unfold kidA inW
 rw[has_join hsh hc rfl,has_shF,hb]
 simp[hm]
theorem lp_off {hd:Int→List RC→List RC→List (Int × SW)} {id:Int} {pl:List RC} (hp:Can pl) (hhd:∀kid a l,Can a→Can l→hasR l x y=false→∀e∈hd kid a l,hasR e.2.clip x y=false) :
  ∀(ks:List Int) (lf:List RC),Can lf→hasR lf x y=false→(∀e∈(lpF bx ox oy hd id pl ks lf).1,hasR e.2.clip x y=false)∧hasR (lpF bx ox oy hd id pl ks lf).2 x y=false
 | [],lf,_,h=>⟨fun e he=>(by cases he),h⟩
 | kid::ks,lf,hl,h=>by
  unfold lpF
  cases e:lkF bx kid with
  | none=>exact lp_off hp hhd ks lf hl h
  | some b=>
   dsimp only
   split
   ·exact lp_off hp hhd ks lf hl h
   ·have hA:Can (kidA ox oy id b pl):=can_join _ _ _
    have ih:=lp_off (id:=id) hp hhd ks (NotJ lf (kidA ox oy id b pl)) (can_join _ _ _) (by rw[has_join hl hA rfl,h];rfl)
    refine⟨fun q hq=>?_,ih.2⟩
    rcases List.mem_append.1 hq with hq|hq
    ·exact hhd _ _ _ hA (can_join _ _ _) (by rw[has_join hA hl rfl,h];simp) q hq
    ·exact ih.1 q hq
theorem hand_off:∀(f:Nat) (id:Int) (pl lf:List RC),Can pl→Can lf→hasR lf x y=false→∀e∈handF bx K ox oy f id pl lf,hasR e.2.clip x y=false
 | 0,_,_,_,_,_,_,e,he=>by cases he
 | f+1,id,pl,lf,hp,hl,h,e,he=>by
  unfold handF at he
  have q:=lp_off (bx:=bx) (ox:=ox) (oy:=oy) (hd:=handF bx K ox oy f) (id:=id) hp (fun kid a l ha hl h=>hand_off f kid a l ha hl h) (K id).reverse lf hl h
  rcases List.mem_append.1 he with he|he
  ·exact q.1 e he
  ·have:e=_:=List.mem_singleton.1 he
   rw[this];exact q.2
def OnP (bx:PW) (ox oy:Int→Int) (x y:Int) (hd:Int→List RC→List RC→List (Int × SW)) (id:Int) (ks:List Int) (r:List (Int × SW) × List RC):Prop:=
 match ks.find? (inW bx ox oy id x y) with
 | none=>(∀e∈r.1,hasR e.2.clip x y=false)∧hasR r.2 x y=true
 | some kid=>kid∈ks∧hasR r.2 x y=false∧∃a l,Can a∧Can l∧hasR a x y=true∧hasR l x y=true∧(∀e∈r.1,hasR e.2.clip x y=true→e∈hd kid a l)∧∀e∈hd kid a l,e∈r.1
theorem OnP.skip {hd:Int→List RC→List RC→List (Int × SW)} {id kid:Int} {ks:List Int} {r:List (Int × SW) × List RC} (h:OnP bx ox oy x y hd id ks r) (hin:inW bx ox oy id x y kid=false):OnP bx ox oy x y hd id (kid::ks) r:=by
 unfold OnP at *
 rw[List.find?_cons,hin]
 dsimp only
 revert h
 cases ks.find? (inW bx ox oy id x y) with
 | none=>exact fun q=>q
 | some k=>exact fun q=>⟨List.mem_cons_of_mem _ q.1,q.2⟩
theorem lp_on {hd:Int→List RC→List RC→List (Int × SW)} {id:Int} {pl:List RC} (hp:Can pl) (hpx:hasR pl x y=true) (hhd:∀kid a l,Can a→Can l→hasR l x y=false→∀e∈hd kid a l,hasR e.2.clip x y=false) :
  ∀(ks:List Int) (lf:List RC),(∀kid b,kid∈ks→lkF bx kid=some b→Can (shF (ox id+b.x) (oy id+b.y) (areaB b))) →
   Can lf→hasR lf x y=true→OnP bx ox oy x y hd id ks (lpF bx ox oy hd id pl ks lf)
 | [],lf,_,_,h=>⟨fun e he=>(by cases he),h⟩
 | kid::ks,lf,hsh,hl,h=>by
  have hsh':=fun k b (hk:k∈ks)=>hsh k b (List.mem_cons_of_mem _ hk)
  cases e:lkF bx kid with
  | none=>
   rw[show lpF bx ox oy hd id pl (kid::ks) lf=lpF bx ox oy hd id pl ks lf by rw[lpF,e]]
   exact (lp_on hp hpx hhd ks lf hsh' hl h).skip (by unfold inW;rw[e])
  | some b=>
   cases hm:b.m with
   | false=>
    rw[show lpF bx ox oy hd id pl (kid::ks) lf=lpF bx ox oy hd id pl ks lf by rw[lpF,e];simp[hm]]
    exact (lp_on hp hpx hhd ks lf hsh' hl h).skip (by unfold inW;rw[e];simp[hm])
   | true=>
    have hA:Can (kidA ox oy id b pl):=can_join _ _ _
    have hAx:hasR (kidA ox oy id b pl) x y=inW bx ox oy id x y kid:=by rw[kidA_has e hm hp (hsh kid b (List.mem_cons_self ..) e),hpx,Bool.and_true]
    have hlp:lpF bx ox oy hd id pl (kid::ks) lf=(hd kid (kidA ox oy id b pl) (AndJ (kidA ox oy id b pl) lf)++(lpF bx ox oy hd id pl ks (NotJ lf (kidA ox oy id b pl))).1,(lpF bx ox oy hd id pl ks (NotJ lf (kidA ox oy id b pl))).2):=by
     rw[lpF,e];simp[hm]
    have hN:Can (NotJ lf (kidA ox oy id b pl)):=can_join _ _ _
    have hNx:hasR (NotJ lf (kidA ox oy id b pl)) x y=!inW bx ox oy id x y kid:=by rw[has_join hl hA rfl,h,hAx];simp
    have hMx:hasR (AndJ (kidA ox oy id b pl) lf) x y=inW bx ox oy id x y kid:=by rw[has_join hA hl rfl,h,hAx];simp
    rw[hlp]
    cases hin:inW bx ox oy id x y kid with
    | true=>
     rw[hin] at hAx hNx hMx
     have q:=lp_off (bx:=bx) (ox:=ox) (oy:=oy) (id:=id) hp hhd ks _ hN hNx
     unfold OnP
     rw[List.find?_cons,hin]
     refine⟨List.mem_cons_self ..,q.2,_,_,hA,can_join _ _ _,hAx,hMx,fun e he hx=>?_,fun e he=>List.mem_append_left _ he⟩
     rcases List.mem_append.1 he with he|he
     ·exact he
     ·rw[q.1 e he] at hx;cases hx
    | false=>
     rw[hin] at hAx hNx hMx
     have ih:=lp_on (id:=id) hp hpx hhd ks _ hsh' hN hNx
     have hoff:=hhd kid _ _ hA (can_join _ _ _) hMx
     refine OnP.skip ?_ hin
     unfold OnP at *
     revert ih
     cases ks.find? (inW bx ox oy id x y) with
     | none=>
      intro q
      refine⟨fun e he=>?_,q.2⟩
      rcases List.mem_append.1 he with he|he
      ·exact hoff e he
      ·exact q.1 e he
     | some k=>
      rintro⟨q1,q2,a,l,q3,q4,q5,q6,q7,q8⟩
      refine⟨q1,q2,a,l,q3,q4,q5,q6,fun e he hx=>?_,fun e he=>List.mem_append_right _ (q8 e he)⟩
      rcases List.mem_append.1 he with he|he
      ·rw[hoff e he] at hx;cases hx
      ·exact q7 e he hx
theorem hand_on (rk:Int→Nat) (hrk:∀id kid,kid∈K id→rk kid<rk id) (hsh:∀id kid b,kid∈K id→lkF bx kid=some b→Can (shF (ox id+b.x) (oy id+b.y) (areaB b))) :
  ∀(f:Nat) (id:Int) (pl lf:List RC),rk id<f→Can pl→Can lf→hasR pl x y=true→hasR lf x y=true →
   (∀e∈handF bx K ox oy f id pl lf,hasR e.2.clip x y=true→e.1=topF bx K ox oy x y f id)∧∃s,(topF bx K ox oy x y f id,s)∈handF bx K ox oy f id pl lf∧hasR s.clip x y=true
 | 0,_,_,_,h,_,_,_,_=>absurd h (Nat.not_lt_zero _)
 | f+1,id,pl,lf,hr,hp,hl,hpx,hlx=>by
  have q:=lp_on (bx:=bx) (ox:=ox) (oy:=oy) (x:=x) (y:=y) (hd:=handF bx K ox oy f) (id:=id) hp hpx (fun kid a l ha hl h=>hand_off f kid a l ha hl h) (K id).reverse lf (fun kid b hk=>hsh id kid b (List.mem_reverse.1 hk)) hl hlx
  unfold handF topF
  unfold OnP at q
  generalize lpF bx ox oy (handF bx K ox oy f) id pl (K id).reverse lf=r at *
  revert q
  cases hf:(K id).reverse.find? (inW bx ox oy id x y) with
  | none=>
   rintro⟨q1,q2⟩
   refine⟨fun e he hx=>?_,_,List.mem_append_right _ (List.mem_singleton.2 rfl),q2⟩
   rcases List.mem_append.1 he with he|he
   ·rw[q1 e he] at hx;cases hx
   ·rw[List.mem_singleton.1 he]
  | some kid=>
   rintro⟨q1,q2,a,l,q3,q4,q5,q6,q7,q8⟩
   have hk:=hrk id kid (List.mem_reverse.1 q1)
   obtain⟨i1,s,i2,i3⟩:=hand_on rk hrk hsh f kid a l (by omega) q3 q4 q5 q6
   refine⟨fun e he hx=>?_,s,List.mem_append_left _ (q8 _ i2),i3⟩
   rcases List.mem_append.1 he with he|he
   ·exact i1 e (q7 e he hx) hx
   ·rw[List.mem_singleton.1 he] at hx
    rw[q2] at hx;cases hx
end
end Go.Proofs.YtbknacpdcdkjiaaGreat

/- A slice of some elements, built and never changed. No condition. -/
namespace Go.VM
open Go
set_option linter.unusedVariables false
set_option linter.unusedSimpArgs false
section
variable {ro:Option Nat} {P:Program} {n:Nat} {t:List (Nat × AV)} {h:Heap} {K:St→Prop} {x:Operand} {d:Nat} {ty:Nat} {pos:String} {af:Array Edge} {gd:Option (Nat × Bool)}
theorem S.buildr {bt m e k bs:Nat} {g:Bool} {ps:Array (Nat × Operand)} {xs:List Operand} {vs:List AV} [he:TElem P bt e k bs g] (hK:K ⟨n,(d,.ro k vs)::t,h⟩) (hps:ps.toList=(xs.zipIdx).map fun p=>(p.2,p.1)) (hm:xs.length=m) (hx:Evals t xs vs)
  (hk:∀v∈vs,v.cells.length=k) (h1:Ones h (vs.flatMap AV.cells)) (hbig:m * k≤16777216) (hn:Nat.blt d n=true):Step P ⟨some d,.buildSlice bt m ps,ty,pos,af,gd⟩ ⟨n,t,h⟩ K:=by
 have:=S.buildSlice (P:=P) (ty:=ty) (pos:=pos) (af:=af) (gd:=gd) (K:=fun s'=>∃v,s'=⟨n,(d,.val v)::t,.own v k vs e::h⟩) (bt:=bt) hps hm hx hk h1 hbig hn (fun v=>⟨v,rfl⟩)
 intro m0 w0 a w hs Q
 refine Oper.wp_mono (fun a' w' ⟨s',⟨v,e⟩,hs'⟩=>⟨_,hK,?_⟩) (this m0 w0 a w hs Q)
 subst e
 exact hs'.frz .here (.cons .hit (.rest _)) (.rest _)
variable {ops:Array Oper} {hro:Heap} {todo:List Nat} {i:Nat}
theorem R2.many {bt m e kk bs:Nat} {g:Bool} {ps:Array (Nat × Operand)} (xs:List Operand) (vs:List AV) [he:TElem P bt e kk bs g] (k:R2 ro P ops K n hro todo ((d,.ro kk vs)::t) h)
  (hi:ops[i]?=some ⟨some d,.buildSlice bt m ps,ty,pos,af,gd⟩:=by rfl)
  (hps:ps.toList=(xs.zipIdx).map fun p=>(p.2,p.1):=by rfl) (hm:xs.length=m:=by rfl)
  (hx:Evals (restr (readsOf ops ⟨some d,.buildSlice bt m ps,ty,pos,af,gd⟩) t) xs vs:=by (repeat (first|exact Evals.nil|(apply Evals.cons;rfl)))) (hk:∀v∈vs,v.cells.length=kk:=by (simp[AV.cells];done))
  (h1:Ones hro (vs.flatMap AV.cells):=by (repeat (first|exact Ones.nil|refine Ones.cons rfl ?_|refine Ones.own (by (fail_if_success (apply memG));repeat (first|exact List.Mem.head _|assumption|refine List.Mem.tail _ ?_)) ?_))) (hbig:m * kk≤16777216:=by first|omega|(simp[AV.cells];done))
  (hw:Wanted ops (restr (readsOf ops ⟨some d,.buildSlice bt m ps,ty,pos,af,gd⟩) t) ⟨some d,.buildSlice bt m ps,ty,pos,af,gd⟩ true:=by first|exact wanted_n rfl|exact wanted_p rfl rfl rfl (by first|rfl|exact decide_eq_true (by assumption)|exact decide_eq_false (by assumption)|(simp;done)|(simp;omega)|fail)|fail)
  (hn:Nat.blt d n=true:=by rfl) (hr:rdy ops (i::todo) i=true:=by decide +kernel) (hni:inL todo i=false:=by rfl):R2 ro P ops K n hro (i::todo) t h:=
 R2.F (S.buildr (kf (LeH.refl _)) hps hm hx hk h1 hbig hn) k hi hw rfl hn hr hni
end
end Go.VM

namespace Go.Proofs
open Go Go.VM
set_option maxRecDepth 100000
instance:TMap Tryz.prog 25 38 29 .u32:=⟨by kernel_rfl,by kernel_rfl⟩
instance:TMap Tryz.prog 26 38 38 .u32:=⟨by kernel_rfl,by kernel_rfl⟩
instance:TMap Tryz.prog 30 38 124 .u32:=⟨by kernel_rfl,by kernel_rfl⟩
instance:TMap Tryz.prog 34 38 3 .u32:=⟨by kernel_rfl,by kernel_rfl⟩
instance:TMap Tryz.prog 104 38 116 .u32:=⟨by kernel_rfl,by kernel_rfl⟩
end Go.Proofs

/- A call of yield in a region that draws its order. No condition. -/
namespace Go.VM
open Go
set_option linter.unusedVariables false
set_option linter.unusedSimpArgs false
section
variable {ro:Option Nat} {P:Program} {ops:Array Oper} {K:St→Prop} {n:Nat} {hro:Heap} {todo todo':List Nat} {t:List (Nat × AV)} {h:Heap} {oi:Oper} {i d:Nat} {v:AV}
end
end Go.VM
namespace Go.VM
open Go
section
variable {P:Program} {tm:List (Nat × AV)} {h:Heap} {d:Option Nat} {x y:Operand} {ty:TypeId} {pos:String} {af:Array Edge} {gd:Option (Nat × Bool)}
end
end Go.VM

/- A piece of an immutable slice, cut with its capacity. No condition. -/
namespace Go.VM
open Go
set_option linter.unusedVariables false
set_option linter.unusedSimpArgs false
section
variable {P:Program} {t:List (Nat × AV)} {h:Heap} {d:Option Nat} {x x1 x2 x3:Operand} {ty:TypeId} {pos:String} {af:Array Edge} {gd:Option (Nat × Bool)}
end
end Go.VM

/- A call that is lent an owned slice: what it does with the slice as with one that cannot change, it does with an owned one too, when a plain value comes back. No condition. -/
namespace Go.VM
open Go
set_option linter.unusedVariables false
set_option linter.unusedSimpArgs false
end Go.VM

/- Strings: of bytes, and one behind the other. No condition. -/
namespace Go.VM
open Go
set_option linter.unusedVariables false
set_option linter.unusedSimpArgs false
class TBytes (P:Program) (t e:Nat):Prop where
 h:P.underlying t=some (.slice e)
 he:P.underlying e=some (.int .u8)
section
variable {P:Program} {tm:List (Nat × AV)} {h:Heap} {d:Option Nat} {x y:Operand} {ty:TypeId} {pos:String} {af:Array Edge} {gd:Option (Nat × Bool)}
end
end Go.VM
