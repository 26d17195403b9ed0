import Derived.Test.YtbknacpdcdkjiaaGreatVM29
import Derived.Test.YtbknacpdcdkjiaaGreatB9
import Derived.Test.YtbknacpdcdkjiaaGreatU4
import Derived.Test.YtbknacpdcdkjiaaGreatVM37
import Derived.Test.YtbknacpdcdkjiaaGreatVM42
/- Devices that can be grabbed, and frozen. No condition. -/
namespace Go.Proofs.YtbknacpdcdkjiaaGreat
open Go Go.VM
set_option maxRecDepth 100000
attribute [local irreducible] PurV Pur Step RL W D ACalls Then InBlock Fini
set_option linter.unusedVariables false
set_option linter.unusedSimpArgs false
set_option maxHeartbeats 20000000
structure IN where
 (k c x y t n:Int)
def IN.z:IN:=⟨0,0,0,0,0,0⟩
def IN.enc (i:IN):AV:=.agg [.val (.int .i64 (i.k)),.val (.int .i64 (i.c)),.val (.int .i64 (i.x)),.val (.int .i64 (i.y)),.val (.int .u32 (i.t)),.val (.int .i64 (i.n))]
theorem IN.enc_eq (i:IN):i.enc=.agg [.val (.int .i64 ((i).k)),.val (.int .i64 ((i).c)),.val (.int .i64 ((i).x)),.val (.int .i64 ((i).y)),.val (.int .u32 ((i).t)),.val (.int .i64 ((i).n))]:=rfl
structure AC where
 (cl w:Int) (ow:Bool) (mask:Int) (au pa:Bool) (code time:Int)
def AC.z:AC:=⟨0,0,false,0,false,false,0,0⟩
def AC.enc (a:AC):AV:=.agg [.val (.int .i64 (a.cl)),.val (.int .u32 (a.w)),.val (.bool (a.ow)),.val (.int .i64 (a.mask)),.val (.bool (a.au)),.val (.bool (a.pa)),.val (.int .i64 (a.code)),.val (.int .u32 (a.time))]
structure DV where
 (a:AC) (g f s:Bool) (held:IN) (hs:Bool) (ws:List IN)
def DV.enc (d:DV):AV:=.agg [.val (.int .i64 (d.a.cl)),.val (.int .u32 (d.a.w)),.val (.bool (d.a.ow)),.val (.int .i64 (d.a.mask)),.val (.bool (d.a.au)),.val (.bool (d.a.pa)),.val (.int .i64 (d.a.code)),.val (.int .u32 (d.a.time)),.val (.bool (d.g)),.val (.bool (d.f)),.val (.bool (d.s)),.val (.int .i64 (d.held.k)),.val (.int .i64 (d.held.c)),.val (.int .i64 (d.held.x)),.val (.int .i64 (d.held.y)),.val (.int .u32 (d.held.t)),.val (.int .i64 (d.held.n)),.val (.bool (d.hs)),.ro 6 (d.ws.map IN.enc)]
def DV.begin (d:DV) (a:AC) (f:Bool):DV:=⟨a,true,f,false,IN.z,false,d.ws⟩
def DV.freeze (d:DV):DV:=⟨d.a,d.g,true,false,d.held,d.hs,d.ws⟩
def DV.end_ (d:DV):DV:=⟨AC.z,false,false,false,IN.z,false,d.ws⟩
def DV.thaw (d:DV):DV:=⟨d.a,d.g,false,false,IN.z,false,d.ws⟩
def DV.step (d:DV):DV:=⟨d.a,d.g,false,true,IN.z,false,d.ws⟩
def DV.hold (d:DV) (i:IN):DV:=⟨d.a,d.g,d.f,d.s,i,true,d.ws⟩
theorem begin_c (d:DV) (a:AC) (f:Bool) (h:Heap):ACalls Tryz.prog 9 [d.enc,a.enc,.val (.bool (f))] h (fun r h'=>r=(d.begin a f).enc∧h'=h):=by
 unfold DV.enc AC.enc
 refine ACalls.intro Tryz.func9 rfl Tryz.ntmps9 Tryz.results9 (Nat.le_of_ble_eq_true rfl) ?_
 (repeat' first|refine svz ⟨fun b hq=>?_⟩|refine svE ⟨?_⟩|refine .b fun b=>?_|refine .u fun u=>?_|refine .d ?_ ?_|(refine .g fun hg=>?_;try exact svx)|fail)
 refine fin_r (h':=h) (Q:=fun r h'=>r=_∧h'=h) ?_;exact⟨rfl,rfl⟩
theorem freeze_c (d:DV) (h:Heap):ACalls Tryz.prog 52 [d.enc] h (fun r h'=>r=d.freeze.enc∧h'=h):=by
 unfold DV.enc
 refine ACalls.intro Tryz.func52 rfl Tryz.ntmps52 Tryz.results52 (Nat.le_of_ble_eq_true rfl) ?_
 (repeat' first|refine svz ⟨fun b hq=>?_⟩|refine svE ⟨?_⟩|refine .b fun b=>?_|refine .u fun u=>?_|refine .d ?_ ?_|(refine .g fun hg=>?_;try exact svx)|fail)
 refine fin_r (h':=h) (Q:=fun r h'=>r=_∧h'=h) ?_;exact⟨rfl,rfl⟩
theorem active_c (d:DV) (h:Heap):ACalls Tryz.prog 53 [d.enc] h (fun r h'=>r=.tup [d.a.enc,.val (.bool (d.g))]∧h'=h):=by
 unfold DV.enc AC.enc
 refine ACalls.intro Tryz.func53 rfl Tryz.ntmps53 Tryz.results53 (Nat.le_of_ble_eq_true rfl) ?_
 (repeat' first|refine svz ⟨fun b hq=>?_⟩|refine svE ⟨?_⟩|refine .b fun b=>?_|refine .u fun u=>?_|refine .d ?_ ?_|(refine .g fun hg=>?_;try exact svx)|fail)
 refine W.dr (.rw (.ro (.done _))) ?_
 (repeat' first|refine svz ⟨fun b hq=>?_⟩|refine svE ⟨?_⟩|refine .b fun b=>?_|refine .u fun u=>?_|refine .d ?_ ?_|(refine .g fun hg=>?_;try exact svx)|fail)
 refine fin_r (h':=h) (Q:=fun r h'=>r=_∧h'=h) ?_;exact⟨rfl,rfl⟩
theorem frozen_c (d:DV) (h:Heap):ACalls Tryz.prog 91 [d.enc] h (fun r h'=>r=.val (.bool (d.f))∧h'=h):=by
 unfold DV.enc
 refine ACalls.intro Tryz.func91 rfl Tryz.ntmps91 Tryz.results91 (Nat.le_of_ble_eq_true rfl) ?_
 (repeat' first|refine svz ⟨fun b hq=>?_⟩|refine svE ⟨?_⟩|refine .b fun b=>?_|refine .u fun u=>?_|refine .d ?_ ?_|(refine .g fun hg=>?_;try exact svx)|fail)
 refine fin_r (h':=h) (Q:=fun r h'=>r=_∧h'=h) ?_;exact⟨rfl,rfl⟩
theorem stepping_c (d:DV) (h:Heap):ACalls Tryz.prog 118 [d.enc] h (fun r h'=>r=.val (.bool (d.s))∧h'=h):=by
 unfold DV.enc
 refine ACalls.intro Tryz.func118 rfl Tryz.ntmps118 Tryz.results118 (Nat.le_of_ble_eq_true rfl) ?_
 (repeat' first|refine svz ⟨fun b hq=>?_⟩|refine svE ⟨?_⟩|refine .b fun b=>?_|refine .u fun u=>?_|refine .d ?_ ?_|(refine .g fun hg=>?_;try exact svx)|fail)
 refine fin_r (h':=h) (Q:=fun r h'=>r=_∧h'=h) ?_;exact⟨rfl,rfl⟩
theorem thaw_c (d:DV) (h:Heap):ACalls Tryz.prog 92 [d.enc] h (fun r h'=>r=.tup [d.thaw.enc,IN.z.enc,.val (.bool (false))]∧h'=h):=by
 unfold DV.enc
 refine ACalls.intro Tryz.func92 rfl Tryz.ntmps92 Tryz.results92 (Nat.le_of_ble_eq_true rfl) ?_
 (repeat' first|refine svz ⟨fun b hq=>?_⟩|refine svE ⟨?_⟩|refine .b fun b=>?_|refine .u fun u=>?_|refine .d ?_ ?_|(refine .g fun hg=>?_;try exact svx)|fail)
 refine S.store_any ?_ (hl:=Nat.le_of_ble_eq_true rfl)
 (repeat' first|refine svz ⟨fun b hq=>?_⟩|refine svE ⟨?_⟩|refine .b fun b=>?_|refine .u fun u=>?_|refine .d ?_ ?_|(refine .g fun hg=>?_;try exact svx)|fail)
 refine fin_r (h':=h) (Q:=fun r h'=>r=_∧h'=h) ?_;exact⟨rfl,rfl⟩
theorem step_c (d:DV) (h:Heap):ACalls Tryz.prog 93 [d.enc] h (fun r h'=>r=.tup [d.step.enc,IN.z.enc,.val (.bool (false))]∧h'=h):=by
 have tc:=fun h=>thaw_c d h
 unfold DV.enc at *
 refine ACalls.intro Tryz.func93 rfl Tryz.ntmps93 Tryz.results93 (Nat.le_of_ble_eq_true rfl) ?_
 (repeat' first|refine svz ⟨fun b hq=>?_⟩|refine svE ⟨?_⟩|refine .b fun b=>?_|refine .u fun u=>?_|refine .d ?_ ?_|(refine .g fun hg=>?_;try exact svx)|fail)
 refine S.call ?_;refine (tc _).mono ?_;rintro r h' ⟨rfl,hh⟩;subst hh
 (repeat' first|refine svz ⟨fun b hq=>?_⟩|refine svE ⟨?_⟩|refine .b fun b=>?_|refine .u fun u=>?_|refine .d ?_ ?_|(refine .g fun hg=>?_;try exact svx)|fail)
 refine fin_r (h':=h) (Q:=fun r h'=>r=_∧h'=h) ?_;exact⟨rfl,rfl⟩
theorem hold_c (d:DV) (i:IN) (h:Heap):ACalls Tryz.prog 119 [d.enc,i.enc] h (fun r h'=>r=(d.hold i).enc∧h'=h):=by
 unfold DV.enc
 rw[IN.enc_eq i]
 refine ACalls.intro Tryz.func119 rfl Tryz.ntmps119 Tryz.results119 (Nat.le_of_ble_eq_true rfl) ?_
 (repeat' first|refine svz ⟨fun b hq=>?_⟩|refine svE ⟨?_⟩|refine .b fun b=>?_|refine .u fun u=>?_|refine .d ?_ ?_|(refine .g fun hg=>?_;try exact svx)|fail)
 refine S.store_any ?_ (hl:=Nat.le_of_ble_eq_true rfl)
 (repeat' first|refine svz ⟨fun b hq=>?_⟩|refine svE ⟨?_⟩|refine .b fun b=>?_|refine .u fun u=>?_|refine .d ?_ ?_|(refine .g fun hg=>?_;try exact svx)|fail)
 refine fin_r (h':=h) (Q:=fun r h'=>r=_∧h'=h) ?_;exact⟨rfl,rfl⟩
theorem dend_c (d:DV) (h:Heap):ACalls Tryz.prog 121 [d.enc] h (fun r h'=>r=d.end_.enc∧h'=h):=by
 unfold DV.enc
 refine ACalls.intro Tryz.func121 rfl Tryz.ntmps121 Tryz.results121 (Nat.le_of_ble_eq_true rfl) ?_
 (repeat' first|refine svz ⟨fun b hq=>?_⟩|refine svE ⟨?_⟩|refine .b fun b=>?_|refine .u fun u=>?_|refine .d ?_ ?_|(refine .g fun hg=>?_;try exact svx)|fail)
 refine fin_r (h':=h) (Q:=fun r h'=>r=_∧h'=h) ?_;exact⟨rfl,rfl⟩
theorem clnin_c0 (l:List IN) (h:Heap) (hl:l.length≤1000000000):ACalls Tryz.prog 57 [.ro 6 (l.map IN.enc)] h (fun r h'=>(r=.val (.slice none 0 0)∧l=[]∧h'=h)∨∃v,r=.val v∧h'=.own v 6 (l.map IN.enc) 47::h):=by
 refine ACalls.intro Tryz.func57 rfl Tryz.ntmps57 Tryz.results57 (Nat.le_of_ble_eq_true rfl) ?_
 (repeat' first|refine svz ⟨fun b hq=>?_⟩|refine svE ⟨?_⟩|refine .b fun b=>?_|refine .u fun u=>?_|refine .d ?_ ?_|(refine .g fun hg=>?_;try exact svx)|fail)
 ·have:l=[]:=by simpa using hq (by assumption)
  exact fin_r (h':=h) (.inl ⟨rfl,this,rfl⟩)
 ·exact fin_r (h':=.own u 6 (l.map IN.enc) 47::h) (.inr ⟨u,rfl,rfl⟩)
theorem clnin_c (l:List IN) (h:Heap) (hl:l.length≤1000000000):ACalls Tryz.prog 57 [.ro 6 (l.map IN.enc)] h (fun r h'=>r=.ro 6 (l.map IN.enc)∧h'=h):=by
 refine ((clnin_c0 l h hl).wk (Q':=fun r h'=>(r=.ro 6 (l.map IN.enc)∧h'=h)∨∃v,r=.val v∧h'=.own v 6 (l.map IN.enc) 47::h) ?_).frzo ?_
 ·rintro r h' (⟨rfl,rfl,rfl⟩|⟨v,rfl,rfl⟩)
  ·exact⟨_,.nilr 6,.inl ⟨rfl,rfl⟩⟩
  ·exact⟨_,.refl _,.inr ⟨v,rfl,rfl⟩⟩
 ·rintro r h' (⟨rfl,rfl⟩|⟨v,rfl,rfl⟩)
  ·exact .inl ⟨rfl,rfl⟩
  ·exact .inr ⟨v,6,_,_,_,h,.here,.hit,rfl,rfl⟩
theorem waiting_c (d:DV) (h:Heap) (hl:d.ws.length≤1000000):ACalls Tryz.prog 25 [d.enc] h (fun r h'=>r=.ro 6 (d.ws.map IN.enc)∧h'=h):=by
 have cl:=fun h=>clnin_c d.ws h (by omega)
 unfold DV.enc
 refine ACalls.intro Tryz.func25 rfl Tryz.ntmps25 Tryz.results25 (Nat.le_of_ble_eq_true rfl) ?_
 (repeat' first|refine svz ⟨fun b hq=>?_⟩|refine svE ⟨?_⟩|refine .b fun b=>?_|refine .u fun u=>?_|refine .d ?_ ?_|(refine .g fun hg=>?_;try exact svx)|fail)
 refine S.call ?_;refine (cl _).mono ?_;rintro r h' ⟨rfl,hh⟩;subst hh
 (repeat' first|refine svz ⟨fun b hq=>?_⟩|refine svE ⟨?_⟩|refine .b fun b=>?_|refine .u fun u=>?_|refine .d ?_ ?_|(refine .g fun hg=>?_;try exact svx)|fail)
 refine fin_r (h':=h) (Q:=fun r h'=>r=_∧h'=h) ?_;exact⟨rfl,rfl⟩
end Go.Proofs.YtbknacpdcdkjiaaGreat

/- Devices: Next, Feed, Allow. No condition. -/
namespace Go.Proofs.YtbknacpdcdkjiaaGreat
open Go Go.VM
set_option maxRecDepth 100000
attribute [local irreducible] PurV Pur Step RL W D ACalls Then InBlock Fini
set_option linter.unusedVariables false
set_option linter.unusedSimpArgs false
set_option maxHeartbeats 20000000
def DV.wait (d:DV) (l:List IN):DV:=⟨d.a,d.g,d.f,d.s,d.held,d.hs,l⟩
def DV.next (d:DV):Option (DV × IN):=match d.ws with
 | []=>none
 | i::l=>if d.f then none else some (if d.s&&decide (1≤i.k∧i.k≤4) then (d.wait l).freeze else d.wait l,i)
def nextV (d:DV):AV:=match d.next with
 | none=>.tup [d.enc,IN.z.enc,.val (.bool (false))]
 | some p=>.tup [p.1.enc,p.2.enc,.val (.bool (true))]
theorem next_c (d:DV) (h:Heap) (hl:d.ws.length≤1000000):ACalls Tryz.prog 81 [d.enc] h (fun r h'=>r=nextV d∧h'=h):=by
 by_cases hf:d.f=true
 ·have e:nextV d=.tup [d.enc,IN.z.enc,.val (.bool (false))]:=by
   unfold nextV DV.next
   cases d.ws with
   | nil=>rfl
   | cons i l=>rw[hf];rfl
  rw[e]
  unfold DV.enc
  refine ACalls.intro Tryz.func81 rfl Tryz.ntmps81 Tryz.results81 (Nat.le_of_ble_eq_true rfl) ?_
  rw[hf]
  (repeat' first|refine svz ⟨fun b hq=>?_⟩|refine svE ⟨?_⟩|refine .b fun b=>?_|refine .u fun u=>?_|refine .d ?_ ?_|(refine .g fun hg=>?_;try exact svx)|fail)
  refine fin_r (h':=h) (Q:=fun r h'=>r=_∧h'=h) ?_;exact⟨rfl,rfl⟩
 have hf:d.f=false:=by simpa using hf
 cases hw:d.ws with
 | nil=>
  have e:nextV d=.tup [d.enc,IN.z.enc,.val (.bool (false))]:=by unfold nextV DV.next;rw[hw]
  rw[e]
  unfold DV.enc
  rw[hw]
  refine ACalls.intro Tryz.func81 rfl Tryz.ntmps81 Tryz.results81 (Nat.le_of_ble_eq_true rfl) ?_
  rw[hf]
  (repeat' first|refine svz ⟨fun b hq=>?_⟩|refine svE ⟨?_⟩|refine .b fun b=>?_|refine .u fun u=>?_|refine .d ?_ ?_|(refine .g fun hg=>?_;try exact svx)|fail)
  refine fin_r (h':=h) (Q:=fun r h'=>r=_∧h'=h) ?_;exact⟨rfl,rfl⟩
 | cons i l=>
  have cl:=fun h=>clnin_c l h (by rw[hw] at hl;simp at hl;omega)
  have fz:=fun h=>freeze_c ⟨d.a,d.g,false,true,d.held,d.hs,l⟩ h
  have e:nextV d=.tup [(if d.s&&decide (1≤i.k∧i.k≤4) then (d.wait l).freeze else d.wait l).enc,i.enc,.val (.bool (true))]:=by unfold nextV DV.next;rw[hw,hf];rfl
  rw[e]
  clear e
  have hn:(i::l).length=l.length+1:=rfl
  have e1:List.take ((List.map IN.enc (i::l)).length - 1) (List.drop 1 (List.map IN.enc (i::l)))=l.map IN.enc:=by rw[List.map_cons,List.drop_succ_cons,List.drop_zero];exact List.take_of_length_le (by simp)
  by_cases hs:d.s=true
  ·by_cases h1:1≤i.k
   ·by_cases h2:i.k≤4
    ·rw[if_pos (by rw[hs,decide_eq_true ⟨h1,h2⟩];rfl)]
     unfold DV.enc at *
     dsimp only[DV.wait,DV.freeze] at *;rw[hw] at *;rw[hf];(try rw[hs]);refine ACalls.intro Tryz.func81 rfl Tryz.ntmps81 Tryz.results81 (Nat.le_of_ble_eq_true rfl) ?_;(repeat' first|refine svz ⟨fun b hq=>?_⟩|refine svE ⟨?_⟩|refine .b fun b=>?_|refine .u fun u=>?_|refine .d ?_ ?_|(refine .g fun hg=>?_;try exact svx)|fail);rw[e1];refine S.call ?_;refine (cl _).mono ?_;rintro r h' ⟨rfl,hh⟩;subst hh;(repeat' first|refine svz ⟨fun b hq=>?_⟩|refine svE ⟨?_⟩|refine .b fun b=>?_|refine .u fun u=>?_|refine .d ?_ ?_|(refine .g fun hg=>?_;try exact svx)|fail)
     refine S.call ?_;refine (fz _).mono ?_;rintro r h' ⟨rfl,hh⟩;subst hh
     (repeat' first|refine svz ⟨fun b hq=>?_⟩|refine svE ⟨?_⟩|refine .b fun b=>?_|refine .u fun u=>?_|refine .d ?_ ?_|(refine .g fun hg=>?_;try exact svx)|fail)
     refine W.dr (.ro (.rw (.rw (.ro (.done _))))) ?_;(repeat' first|refine svz ⟨fun b hq=>?_⟩|refine svE ⟨?_⟩|refine .b fun b=>?_|refine .u fun u=>?_|refine .d ?_ ?_|(refine .g fun hg=>?_;try exact svx)|fail);refine fin_r (h':=h) (Q:=fun r h'=>r=_∧h'=h) ?_;exact⟨rfl,rfl⟩
    ·rw[if_neg (by rw[decide_eq_false (fun q=>h2 q.2)];simp)]
     unfold DV.enc at *
     dsimp only[DV.wait,DV.freeze] at *;rw[hw] at *;rw[hf];(try rw[hs]);refine ACalls.intro Tryz.func81 rfl Tryz.ntmps81 Tryz.results81 (Nat.le_of_ble_eq_true rfl) ?_;(repeat' first|refine svz ⟨fun b hq=>?_⟩|refine svE ⟨?_⟩|refine .b fun b=>?_|refine .u fun u=>?_|refine .d ?_ ?_|(refine .g fun hg=>?_;try exact svx)|fail);rw[e1];refine S.call ?_;refine (cl _).mono ?_;rintro r h' ⟨rfl,hh⟩;subst hh;(repeat' first|refine svz ⟨fun b hq=>?_⟩|refine svE ⟨?_⟩|refine .b fun b=>?_|refine .u fun u=>?_|refine .d ?_ ?_|(refine .g fun hg=>?_;try exact svx)|fail)
     refine W.dr (.ro (.rw (.rw (.ro (.done _))))) ?_;(repeat' first|refine svz ⟨fun b hq=>?_⟩|refine svE ⟨?_⟩|refine .b fun b=>?_|refine .u fun u=>?_|refine .d ?_ ?_|(refine .g fun hg=>?_;try exact svx)|fail);refine fin_r (h':=h) (Q:=fun r h'=>r=_∧h'=h) ?_;exact⟨rfl,rfl⟩
   ·rw[if_neg (by rw[decide_eq_false (fun q=>h1 q.1)];simp)]
    unfold DV.enc at *
    dsimp only[DV.wait,DV.freeze] at *;rw[hw] at *;rw[hf];(try rw[hs]);refine ACalls.intro Tryz.func81 rfl Tryz.ntmps81 Tryz.results81 (Nat.le_of_ble_eq_true rfl) ?_;(repeat' first|refine svz ⟨fun b hq=>?_⟩|refine svE ⟨?_⟩|refine .b fun b=>?_|refine .u fun u=>?_|refine .d ?_ ?_|(refine .g fun hg=>?_;try exact svx)|fail);rw[e1];refine S.call ?_;refine (cl _).mono ?_;rintro r h' ⟨rfl,hh⟩;subst hh;(repeat' first|refine svz ⟨fun b hq=>?_⟩|refine svE ⟨?_⟩|refine .b fun b=>?_|refine .u fun u=>?_|refine .d ?_ ?_|(refine .g fun hg=>?_;try exact svx)|fail)
    refine W.dr (.ro (.rw (.rw (.ro (.done _))))) ?_;(repeat' first|refine svz ⟨fun b hq=>?_⟩|refine svE ⟨?_⟩|refine .b fun b=>?_|refine .u fun u=>?_|refine .d ?_ ?_|(refine .g fun hg=>?_;try exact svx)|fail);refine fin_r (h':=h) (Q:=fun r h'=>r=_∧h'=h) ?_;exact⟨rfl,rfl⟩
  ·have hs:d.s=false:=by simpa using hs
   rw[if_neg (by rw[hs];simp)]
   unfold DV.enc at *
   dsimp only[DV.wait,DV.freeze] at *;rw[hw] at *;rw[hf];(try rw[hs]);refine ACalls.intro Tryz.func81 rfl Tryz.ntmps81 Tryz.results81 (Nat.le_of_ble_eq_true rfl) ?_;(repeat' first|refine svz ⟨fun b hq=>?_⟩|refine svE ⟨?_⟩|refine .b fun b=>?_|refine .u fun u=>?_|refine .d ?_ ?_|(refine .g fun hg=>?_;try exact svx)|fail);rw[e1];refine S.call ?_;refine (cl _).mono ?_;rintro r h' ⟨rfl,hh⟩;subst hh;(repeat' first|refine svz ⟨fun b hq=>?_⟩|refine svE ⟨?_⟩|refine .b fun b=>?_|refine .u fun u=>?_|refine .d ?_ ?_|(refine .g fun hg=>?_;try exact svx)|fail)
   refine W.dr (.ro (.rw (.rw (.ro (.done _))))) ?_;(repeat' first|refine svz ⟨fun b hq=>?_⟩|refine svE ⟨?_⟩|refine .b fun b=>?_|refine .u fun u=>?_|refine .d ?_ ?_|(refine .g fun hg=>?_;try exact svx)|fail);refine fin_r (h':=h) (Q:=fun r h'=>r=_∧h'=h) ?_;exact⟨rfl,rfl⟩
end Go.Proofs.YtbknacpdcdkjiaaGreat

/- Arrays made of parts. No condition. -/
namespace Go.VM
open Go
set_option maxRecDepth 100000
set_option linter.unusedVariables false
set_option linter.unusedSimpArgs false
theorem fill_congr {f g:Nat→Option (Nat × Nat)} (hfg:∀i x,f i=some x→g i=some x):∀(vs:List (Nat × Value)) (cs cs':Array Value),Instr.fill f cs vs=some cs'→Instr.fill g cs vs=some cs'
 | [],cs,cs',h=>by simpa[Instr.fill] using h
 | (i,u)::vs,cs,cs',h=>by
  simp only[Instr.fill] at h ⊢
  cases hf:f i with
  | none=>rw[hf] at h;cases h
  | some p=>
   rw[hf] at h
   rw[hfg i p hf]
   dsimp only at h ⊢
   split at h
   ·cases h
   ·rename_i hc
    rw[if_neg hc]
    exact fill_congr hfg vs _ cs' h
section
variable {P:Program} {d:Option Nat} {ty:Nat} {pos:String} {af:Array Edge} {gd:Option (Nat × Bool)} {tm:List (Nat × AV)} {h:Heap}
theorem pur_buildarr {bt nn e:Nat} {g:Bool} {z z':List AV} {ps:Array (Nat × Operand)} {vs:List (Nat × AV)} [hz:TZero P bt z] [ha:TArr P bt nn e 1 g] (hx:EvalP tm ps.toList vs) (hf:fillA ((List.range nn).map fun i=>(i,1)) z vs=some z'):PurV P ⟨d,.build bt ps,ty,pos,af,gd⟩ tm h (.agg z'):=by
 intro m a w0 ht g1 g2
 obtain⟨i,v,hi,hv,rfl,hsz,hone⟩:=zeroQ_spec hz.h
 obtain⟨h1,h2⟩:=hx.spec ht
 obtain⟨cs',h3,h4⟩:=fill_rel vs (ps.toList.map fun (i,x)=>(i,a.eval x)) _ z' v.cells (relL_vals m _ hone) h1 h2 hf
 refine⟨.agg cs',by simp only[Rel];exact⟨_,rfl,h4⟩,fun w=>?_⟩
 obtain⟨_,⟨ie,hie,hs⟩,_⟩:=valQ_spec ha.v
 have h5:=fill_congr (g:=fun i=>some (i * ie.size,ie.size)) (fun i x hx=>by
  rw[hs,Nat.mul_one]
  rw[List.getElem?_map] at hx
  cases hr:(List.range nn)[i]? with
  | none=>rw[hr] at hx;cases hx
  | some j=>
   rw[hr] at hx
   obtain⟨hj,e⟩:=List.getElem?_eq_some_iff.1 hr
   rw[List.getElem_range] at e
   subst e
   exact hx) _ _ _ h3
 have hb:P.built bt (ps.map fun (i,x)=>(i,a.eval x)).toList=some cs':=by
  simp only[Program.built,hi,ha.h,hv,hie]
  simpa using h5
 simp[execOp,run_build w bt _ cs' hb]
end
end Go.VM

/- Method values: functions with their first arguments. No condition. -/
namespace Go.VM
open Go
set_option maxRecDepth 100000
set_option linter.unusedVariables false
set_option linter.unusedSimpArgs false
section
variable {ro:Option Nat} {P:Program} {n:Nat} {t:List (Nat × AV)} {h:Heap} {K:St→Prop} {d:Nat} {ty:Nat} {pos:String} {af:Array Edge} {gd:Option (Nat × Bool)} {x y:Operand}
theorem pur_makeBnd {dd:Option Nat} {tm:List (Nat × AV)} {f:Fn} {caps:Array Operand} {l:List AV} (hx:Evals tm caps.toList l):PurV P ⟨dd,.makeFunc f caps #[],ty,pos,af,gd⟩ tm h (.bnd f l):=by
 intro m a w0 ht g1 g2
 refine⟨.func f (caps.map a.eval) #[],?_,fun w=>by simp[execOp,Instr.makeFunc]⟩
 simp only[Rel]
 exact⟨_,rfl,by simpa using hx.rel ht⟩
theorem S.mkb {f:Fn} {caps:Array Operand} {l:List AV} (hK:K ⟨n,(d,.bnd f l)::t,h⟩) (hx:Evals t caps.toList l:=by (repeat (first|exact Evals.nil|(apply Evals.cons;rfl)))) (hn:Nat.blt d n=true:=by rfl):Step P ⟨some d,.makeFunc f caps #[],ty,pos,af,gd⟩ ⟨n,t,h⟩ K:=step_v (pur_makeBnd hx) hn hK
theorem S.call_bnd {f:Nat} {args:Array Operand} {ats:Array Nat} {vs bs:List AV} [TFun P f] (hc:ACalls P f (bs++vs) h (fun r h'=>K ⟨n,(d,r)::t,h'⟩)) (hg:evalA t x=some (.bnd (.func f) bs):=by rfl) (hx:Evals t args.toList vs:=by (repeat (first|exact Evals.nil|(apply Evals.cons;rfl)))) (hn:Nat.blt d n=true:=by rfl) :
  Step P ⟨some d,.call { callee:=.value x,args:=args,argTypes:=ats },ty,pos,af,gd⟩ ⟨n,t,h⟩ K:=by
 refine step_of_calls (s:=⟨n,t,h⟩) (f:=f) (vs:=bs++vs) (fun m0 w0 m a w hs=>?_) hn hc
 have hg':=hs.tmps.eval hg
 simp only[Rel] at hg'
 obtain⟨cs,hg',hcs⟩:=hg'
 refine⟨cs.toList++args.toList.map a.eval,hcs.append (hx.rel hs.tmps),?_⟩
 have e:(cs.toList++args.toList.map a.eval).toArray=cs++args.map a.eval:=by apply Array.ext';simp
 rw[e]
 simp[execOp,resolve,Deferred.ofValue,hg',invoke,run_callF]
end
end Go.VM

/- Arrays made of parts that have several cells. No condition. -/
namespace Go.VM
open Go
set_option maxRecDepth 100000
set_option linter.unusedVariables false
set_option linter.unusedSimpArgs false
section
variable {P:Program} {d:Option Nat} {ty:Nat} {pos:String} {af:Array Edge} {gd:Option (Nat × Bool)} {tm:List (Nat × AV)} {h:Heap}
theorem pur_buildark {bt nn e k:Nat} {g:Bool} {z z':List AV} {ps:Array (Nat × Operand)} {vs:List (Nat × AV)} [hz:TZero P bt z] [ha:TArr P bt nn e k g] (hx:EvalP tm ps.toList vs) (hf:fillA ((List.range nn).map fun i=>(i * k,k)) z vs=some z'):PurV P ⟨d,.build bt ps,ty,pos,af,gd⟩ tm h (.agg z'):=by
 intro m a w0 ht g1 g2
 obtain⟨i,v,hi,hv,rfl,hsz,hone⟩:=zeroQ_spec hz.h
 obtain⟨h1,h2⟩:=hx.spec ht
 obtain⟨cs',h3,h4⟩:=fill_rel vs (ps.toList.map fun (i,x)=>(i,a.eval x)) _ z' v.cells (relL_vals m _ hone) h1 h2 hf
 refine⟨.agg cs',by simp only[Rel];exact⟨_,rfl,h4⟩,fun w=>?_⟩
 obtain⟨_,⟨ie,hie,hs⟩,_⟩:=valQ_spec ha.v
 have h5:=fill_congr (g:=fun i=>some (i * ie.size,ie.size)) (fun i x hx=>by
  rw[hs]
  rw[List.getElem?_map] at hx
  cases hr:(List.range nn)[i]? with
  | none=>rw[hr] at hx;cases hx
  | some j=>
   rw[hr] at hx
   obtain⟨hj,e⟩:=List.getElem?_eq_some_iff.1 hr
   rw[List.getElem_range] at e
   subst e
   exact hx) _ _ _ h3
 have hb:P.built bt (ps.map fun (i,x)=>(i,a.eval x)).toList=some cs':=by
  simp only[Program.built,hi,ha.h,hv,hie]
  simpa using h5
 simp[execOp,run_build w bt _ cs' hb]
end
end Go.VM

/- Three variables made in a region that draws its order. No condition. -/
namespace Go.VM
open Go
set_option maxRecDepth 100000
set_option linter.unusedVariables false
set_option linter.unusedSimpArgs false
section
variable {ro:Option Nat} {P:Program} {n:Nat} {t:List (Nat × AV)} {h:Heap} {K:St→Prop} {ops:Array Oper} {hro:Heap} {todo:List Nat} {i:Nat} {d:Nat} {ty:Nat} {pos:String} {af:Array Edge}
theorem inL_tail {j:Nat} {l:List Nat} (h:inL (j::l) i=false):inL l i=false:=by
 cases q:inL l i with
 | false=>rfl
 | true=>rw[←h];exact (inL_iff.2 (.tail _ (inL_iff.1 q))).symm ▸ rfl
end
end Go.VM

/- Three things of any kinds made in a region that draws its order. No condition. -/
namespace Go.VM
open Go
set_option maxRecDepth 100000
set_option linter.unusedVariables false
set_option linter.unusedSimpArgs false
section
variable {ro:Option Nat} {P:Program} {n:Nat} {t:List (Nat × AV)} {h:Heap} {K:St→Prop} {ops:Array Oper} {hro:Heap} {todo:List Nat}
def Mk (P:Program) (ops:Array Oper) (n:Nat) (t:List (Nat × AV)) (o:Oper) (d:Nat) (v:Nat→AV) (e:Nat→OE):Prop:=
 ∀(tr:List (Nat × AV)) (h:Heap) (K:St→Prop),(∀x∈readsOf ops o,get tr x=get t x)→(∀b,K ⟨n,(d,v b)::tr,e b::h⟩)→Step P o ⟨n,tr,h⟩ K
theorem Mk.alloc {d ty e:Nat} {pos:String} {af:Array Edge} {gd:Option (Nat × Bool)} {z:List AV} [TZero P e z] (hn:Nat.blt d n=true:=by rfl):Mk P ops n t ⟨some d,.alloc e,ty,pos,af,gd⟩ d (fun b=>.val (.pointer (some ⟨b,0,none⟩))) (fun b=>.box b z e):=
 fun tr h K _ hK=>S.alloc hK hn
theorem Mk.mapk {α:Type} {d ty mt kt et r:Nat} {pos:String} {af:Array Edge} {gd:Option (Nat × Bool)} {kk:IntKind} {nn:Int} [hm:TMapK P mt kt et] (f:α→AV) (hr:r∈readsOf ops ⟨some d,.makeMap mt (some (.tmp r)),ty,pos,af,gd⟩:=by decide +kernel) (hq:get t r=some (.val (.int kk nn)):=by rfl) (hn:Nat.blt d n=true:=by rfl) :
  Mk P ops n t ⟨some d,.makeMap mt (some (.tmp r)),ty,pos,af,gd⟩ d (fun b=>.val (.map (some b))) (fun b=>mpK b f []):=
 fun tr h K hg hK=>S.mkk f hK (hq:=(hg r hr).trans hq) (hn:=hn)
theorem Mk.map {α:Type} {d ty mt kt et r:Nat} {kd:IntKind} {pos:String} {af:Array Edge} {gd:Option (Nat × Bool)} {kk:IntKind} {nn:Int} [hm:TMap P mt kt et kd] (f:α→AV) (hr:r∈readsOf ops ⟨some d,.makeMap mt (some (.tmp r)),ty,pos,af,gd⟩:=by decide +kernel) (hq:get t r=some (.val (.int kk nn)):=by rfl) (hn:Nat.blt d n=true:=by rfl) :
  Mk P ops n t ⟨some d,.makeMap mt (some (.tmp r)),ty,pos,af,gd⟩ d (fun b=>.val (.map (some b))) (fun b=>mpV b kd f []):=
 fun tr h K hg hK=>S.mkm f hK (hq:=(hg r hr).trans hq) (hn:=hn)
theorem get_off {o:Oper} {x y:Nat} {v:AV} (hx:x∈readsOf ops o) (hy:inL (readsOf ops o) y=false):get ((y,v)::t) x=get t x:=by
 rw[get_eq,if_neg]
 intro e
 subst e
 rw[inL_iff.2 hx] at hy;cases hy
theorem get_rd {o:Oper} {x:Nat} (hx:x∈readsOf ops o) (t:List (Nat × AV)):get (restr (readsOf ops o) t) x=get t x:=by rw[get_restr,if_pos hx]
theorem R2.fork2 {i j d d':Nat} {oi oj:Oper} (ki:Step P oi ⟨n,restr (readsOf ops oi) t,h⟩ (fun s'=>∃v,get s'.t d=some v∧R2 ro P ops K n hro (j::todo) ((d,v)::t) s'.h)) (kj:Step P oj ⟨n,restr (readsOf ops oj) t,h⟩ (fun s'=>∃v,get s'.t d'=some v∧R2 ro P ops K n hro (i::todo) ((d',v)::t) s'.h))
  (hi:ops[i]?=some oi:=by rfl) (hj:ops[j]?=some oj:=by rfl) (hdi:oi.dst=some d:=by rfl) (hdj:oj.dst=some d':=by rfl) (gi:oi.guard=none:=by rfl) (gj:oj.guard=none:=by rfl)
  (hr:(i::j::todo).filter (rdy ops (i::j::todo))=[i,j]:=by decide +kernel) (hn:Nat.blt d n=true:=by rfl) (hn':Nat.blt d' n=true:=by rfl) (hni:inL (j::todo) i=false:=by rfl) (hnj:inL (i::todo) j=false:=by rfl):R2 ro P ops K n hro (i::j::todo) t h:=by
 refine .mk fun hok=>DR.core hok (fun e=>by cases e) fun q hq hrq=>?_
 have:q∈(i::j::todo).filter (rdy ops (i::j::todo)):=List.mem_filter.2 ⟨hq,hrq⟩
 rw[hr] at this
 simp at this
 rcases this with rfl|rfl
 ·rw[readsAt_eq hi]
  refine⟨_,eop_step hi (wanted_n gi) ki hdi hn,fun v h' hv=>?_⟩
  rw[dstAt_eq hi,hdi]
  exact (hv.go hok).congr (mem_filter_ne hni)
 ·rw[readsAt_eq hj]
  refine⟨_,eop_step hj (wanted_n gj) kj hdj hn',fun v h' hv=>?_⟩
  rw[dstAt_eq hj,hdj]
  refine (hv.go hok).congr fun x=>?_
  rw[←mem_filter_ne hnj x]
  simp only[List.mem_filter,List.mem_cons]
  constructor
  ·rintro⟨h1,h2⟩;exact⟨by rcases h1 with h1|h1|h1<;>simp[h1],h2⟩
  ·rintro⟨h1,h2⟩;exact⟨by rcases h1 with h1|h1|h1<;>simp[h1],h2⟩
theorem R2.make3 {i j l d d' d2:Nat} {oi oj ol:Oper} {vi vj vl:Nat→AV} {ei ej el:Nat→OE} (mi:Mk P ops n t oi d vi ei) (mj:Mk P ops n t oj d' vj ej) (ml:Mk P ops n t ol d2 vl el)
  (k:∀b b' b2,R2 ro P ops K n hro todo ((d2,vl b2)::(d',vj b')::(d,vi b)::t) (el b2::ej b'::ei b::h))
  (kL:∀b b',R2 ro P ops K n hro (l::todo) ((d',vj b')::(d,vi b)::t) (ej b'::ei b::h))
  (hi:ops[i]?=some oi:=by rfl) (hj:ops[j]?=some oj:=by rfl) (hl:ops[l]?=some ol:=by rfl) (hdi:oi.dst=some d:=by rfl) (hdj:oj.dst=some d':=by rfl) (hdl:ol.dst=some d2:=by rfl) (gi:oi.guard=none:=by rfl) (gj:oj.guard=none:=by rfl) (gl:ol.guard=none:=by rfl)
  (hr:(i::j::l::todo).filter (rdy ops (i::j::l::todo))=[i,j,l]:=by decide +kernel)
  (r1:(j::l::todo).filter (rdy ops (j::l::todo))=[j,l]:=by decide +kernel) (r2:(i::l::todo).filter (rdy ops (i::l::todo))=[i,l]:=by decide +kernel) (r3:(i::j::todo).filter (rdy ops (i::j::todo))=[i,j]:=by decide +kernel)
  (s1:(i::todo).filter (rdy ops (i::todo))=[i]:=by decide +kernel) (s2:(j::todo).filter (rdy ops (j::todo))=[j]:=by decide +kernel)
  (hn:Nat.blt d n=true:=by rfl) (hn':Nat.blt d' n=true:=by rfl) (hn2:Nat.blt d2 n=true:=by rfl) (h1:Nat.beq d d'=false:=by rfl) (h2:Nat.beq d d2=false:=by rfl) (h3:Nat.beq d' d2=false:=by rfl)
  (q1:inL (j::l::todo) i=false:=by rfl) (q2:inL (i::l::todo) j=false:=by rfl) (q3:inL (i::j::todo) l=false:=by rfl)
  (p1:inL (readsOf ops oi) d'=false:=by decide +kernel) (p2:inL (readsOf ops oi) d2=false:=by decide +kernel) (p3:inL (readsOf ops oj) d=false:=by decide +kernel) (p4:inL (readsOf ops oj) d2=false:=by decide +kernel) (p5:inL (readsOf ops ol) d=false:=by decide +kernel) (p6:inL (readsOf ops ol) d'=false:=by decide +kernel):R2 ro P ops K n hro (i::j::l::todo) t h:=by
 have n1:d≠d':=fun e=>by subst e;simp at h1
 have n2:d≠d2:=fun e=>by subst e;simp at h2
 have n3:d'≠d2:=fun e=>by subst e;simp at h3
 have a1:inL (l::todo) i=false:=inL_tail q1
 have a3:inL (l::todo) j=false:=inL_tail q2
 have a5:inL (j::todo) l=false:=inL_tail q3
 have skip:∀{a b:Nat} {l:List Nat} {x:Nat},inL (a::b::l) x=false→inL (a::l) x=false:=fun {a b l x} hq=>by
  cases q:inL (a::l) x with
  | false=>rfl
  | true=>
   rw[←hq]
   refine (inL_iff.2 ?_).symm ▸ rfl
   rcases List.mem_cons.1 (inL_iff.1 q) with e|e
   ·rw[e];exact .head _
   ·exact .tail _ (.tail _ e)
 have a2:inL (j::todo) i=false:=skip q1
 have a4:inL (i::todo) j=false:=skip q2
 have a6:inL (i::todo) l=false:=skip q3
 have ki:Step P oi ⟨n,restr (readsOf ops oi) t,h⟩ (fun s'=>∃v,get s'.t d=some v∧R2 ro P ops K n hro (j::l::todo) ((d,v)::t) s'.h):=
  mi _ _ _ (fun x hx=>get_rd hx t) fun b=>kd (R2.fork2 (d:=d') (d':=d2)
   (mj _ _ _ (fun x hx=>(get_rd hx _).trans (get_off hx p3)) fun b'=>kd (kL b b'))
   (ml _ _ _ (fun x hx=>(get_rd hx _).trans (get_off hx p5)) fun b2=>kd (R2.B (mj _ _ _ (fun x hx=>(get_rd hx _).trans ((get_off hx p4).trans (get_off hx p3))) fun b'=>kd (((k b b' b2).permh (List.Perm.swap _ _ _)).congt fun x=>by
   simp only[get_eq]
   by_cases c1:d2=x
   ·have e1:d'≠x:=fun e=>n3 (e.trans c1.symm)
    have e2:d≠x:=fun e=>n2 (e.trans c1.symm)
    simp[c1,e1,e2]
   ·by_cases c2:d'=x
    ·have:d≠x:=fun e=>n1 (e.trans c2.symm)
     simp[c1,c2,this]
    ·simp[c1,c2])) hj hdj s2 (wanted_n gj) hn' (inL_tail (inL_tail q2))))
   hj hl hdj hdl gj gl r1 hn' hn2 a3 a5)
 have kj:Step P oj ⟨n,restr (readsOf ops oj) t,h⟩ (fun s'=>∃v,get s'.t d'=some v∧R2 ro P ops K n hro (i::l::todo) ((d',v)::t) s'.h):=
  mj _ _ _ (fun x hx=>get_rd hx t) fun b'=>kd (R2.fork2 (d:=d) (d':=d2)
   (mi _ _ _ (fun x hx=>(get_rd hx _).trans (get_off hx p1)) fun b=>kd (((kL b b').permh (List.Perm.swap _ _ _)).congt fun x=>by
   simp only[get_eq]
   by_cases c1:d2=x
   ·have e1:d'≠x:=fun e=>n3 (e.trans c1.symm)
    have e2:d≠x:=fun e=>n2 (e.trans c1.symm)
    simp[c1,e1,e2]
   ·by_cases c2:d'=x
    ·have:d≠x:=fun e=>n1 (e.trans c2.symm)
     simp[c1,c2,this]
    ·simp[c1,c2]))
   (ml _ _ _ (fun x hx=>(get_rd hx _).trans (get_off hx p6)) fun b2=>kd (R2.B (mi _ _ _ (fun x hx=>(get_rd hx _).trans ((get_off hx p2).trans (get_off hx p1))) fun b=>kd (((k b b' b2).permh ((List.Perm.cons _ (List.Perm.swap _ _ _)).trans (List.Perm.swap _ _ _))).congt fun x=>by
   simp only[get_eq]
   by_cases c1:d2=x
   ·have e1:d'≠x:=fun e=>n3 (e.trans c1.symm)
    have e2:d≠x:=fun e=>n2 (e.trans c1.symm)
    simp[c1,e1,e2]
   ·by_cases c2:d'=x
    ·have:d≠x:=fun e=>n1 (e.trans c2.symm)
     simp[c1,c2,this]
    ·simp[c1,c2])) hi hdi s1 (wanted_n gi) hn (inL_tail (inL_tail q1))))
   hi hl hdi hdl gi gl r2 hn hn2 a1 a6)
 have kl:Step P ol ⟨n,restr (readsOf ops ol) t,h⟩ (fun s'=>∃v,get s'.t d2=some v∧R2 ro P ops K n hro (i::j::todo) ((d2,v)::t) s'.h):=
  ml _ _ _ (fun x hx=>get_rd hx t) fun b2=>kd (R2.fork2 (d:=d) (d':=d')
   (mi _ _ _ (fun x hx=>(get_rd hx _).trans (get_off hx p2)) fun b=>kd (R2.B (mj _ _ _ (fun x hx=>(get_rd hx _).trans ((get_off hx p3).trans (get_off hx p4))) fun b'=>kd (((k b b' b2).permh ((List.Perm.swap _ _ _).trans (List.Perm.cons _ (List.Perm.swap _ _ _)))).congt fun x=>by
   simp only[get_eq]
   by_cases c1:d2=x
   ·have e1:d'≠x:=fun e=>n3 (e.trans c1.symm)
    have e2:d≠x:=fun e=>n2 (e.trans c1.symm)
    simp[c1,e1,e2]
   ·by_cases c2:d'=x
    ·have:d≠x:=fun e=>n1 (e.trans c2.symm)
     simp[c1,c2,this]
    ·simp[c1,c2])) hj hdj s2 (wanted_n gj) hn' (inL_tail (inL_tail q2))))
   (mj _ _ _ (fun x hx=>(get_rd hx _).trans (get_off hx p4)) fun b'=>kd (R2.B (mi _ _ _ (fun x hx=>(get_rd hx _).trans ((get_off hx p1).trans (get_off hx p2))) fun b=>kd (((k b b' b2).permh ((List.Perm.swap _ _ _).trans ((List.Perm.cons _ (List.Perm.swap _ _ _)).trans (List.Perm.swap _ _ _)))).congt fun x=>by
   simp only[get_eq]
   by_cases c1:d2=x
   ·have e1:d'≠x:=fun e=>n3 (e.trans c1.symm)
    have e2:d≠x:=fun e=>n2 (e.trans c1.symm)
    simp[c1,e1,e2]
   ·by_cases c2:d'=x
    ·have:d≠x:=fun e=>n1 (e.trans c2.symm)
     simp[c1,c2,this]
    ·simp[c1,c2])) hi hdi s1 (wanted_n gi) hn (inL_tail (inL_tail q1))))
   hi hj hdi hdj gi gj r3 hn hn' a2 a4)
 refine .mk fun hok=>DR.core hok (fun e=>by cases e) fun q hq hrq=>?_
 have:q∈(i::j::l::todo).filter (rdy ops (i::j::l::todo)):=List.mem_filter.2 ⟨hq,hrq⟩
 rw[hr] at this
 simp at this
 rcases this with rfl|rfl|rfl
 ·rw[readsAt_eq hi]
  refine⟨_,eop_step hi (wanted_n gi) ki hdi hn,fun v h' hv=>?_⟩
  rw[dstAt_eq hi,hdi]
  exact (hv.go hok).congr (mem_filter_ne q1)
 ·rw[readsAt_eq hj]
  refine⟨_,eop_step hj (wanted_n gj) kj hdj hn',fun v h' hv=>?_⟩
  rw[dstAt_eq hj,hdj]
  refine (hv.go hok).congr fun x=>?_
  rw[←mem_filter_ne q2 x]
  simp only[List.mem_filter,List.mem_cons]
  constructor
  ·rintro⟨h1,h2⟩;exact⟨by rcases h1 with h1|h1|h1|h1<;>simp[h1],h2⟩
  ·rintro⟨h1,h2⟩;exact⟨by rcases h1 with h1|h1|h1|h1<;>simp[h1],h2⟩
 ·rw[readsAt_eq hl]
  refine⟨_,eop_step hl (wanted_n gl) kl hdl hn2,fun v h' hv=>?_⟩
  rw[dstAt_eq hl,hdl]
  refine (hv.go hok).congr fun x=>?_
  rw[←mem_filter_ne q3 x]
  simp only[List.mem_filter,List.mem_cons]
  constructor
  ·rintro⟨h1,h2⟩;exact⟨by rcases h1 with h1|h1|h1|h1<;>simp[h1],h2⟩
  ·rintro⟨h1,h2⟩;exact⟨by rcases h1 with h1|h1|h1|h1<;>simp[h1],h2⟩
end
end Go.VM
