/- region's rows and columns. No condition. -/
import Derived.Test.YtbknacpdcdkjiaaGreatW1
namespace Go.Proofs.YtbknacpdcdkjiaaGreat
open Go Go.VM
set_option maxRecDepth 100000
attribute [local irreducible] PurV Pur Step RL W D ACalls Then InBlock Fini
set_option linter.unusedVariables false
set_option linter.unusedSimpArgs false
set_option maxHeartbeats 20000000
theorem across_c (R:List RC) (x:Int) (b:Nat) (h:Heap) (hl:R.length≤1000000) (hc:∀r∈R,r.cnt) :
  ACalls Tryz.prog 146 [.val (.pointer (some ⟨b,0,none⟩)),.val (.int .i64 x)] (.box b [.ro 4 (R.map RC.enc)] 112::h) (fun r h'=>r=.val (.bool (acrossF x R))∧h'=.box b [.ro 4 ((leftC x R).map RC.enc)] 112::h):=by
 refine ACalls.intro Tryz.func146 rfl Tryz.ntmps146 Tryz.results146 (Nat.le_of_ble_eq_true rfl) ?_
 (repeat' first|refine svE ⟨?_⟩|refine .b fun b=>?_|refine .u fun u=>?_|refine .d ?_ ?_|(refine .g fun hg=>?_;try exact svx)|fail)
 refine W.loop (J:=fun wl:List RC=>⟨48,[(0,.val (.pointer (some ⟨b,0,none⟩))),(1,.val (.int .i64 x))],.box b [.ro 4 (wl.map RC.enc)] 112::h⟩)
  (Φ:=fun wl=>leftC x wl=leftC x R∧(∀r∈wl,r.cnt)∧wl.length≤1000000) (μ:=fun wl=>wl.length) R lee ⟨rfl,hc,hl⟩ ?_
 rintro wl ⟨w1,w2,w3⟩
 cases wl with
 | nil=>
  have e1:leftC x R=[]:=w1.symm
  have e2:acrossF x R=false:=by unfold acrossF;rw[e1]
  rw[e1,e2]
  (repeat' first|refine svE ⟨?_⟩|refine .b fun b=>?_|refine .u fun u=>?_|refine .d ?_ ?_|(refine .g fun hg=>?_;try exact svx)|fail)
  exact fin_r (h':=_) ⟨rfl,rfl⟩
 | cons r wl=>
  have hx0:(r::wl)[0]?=some r:=rfl
  have hpos:(0:Int)<(((r::wl).length:Nat):Int):=by rw[List.length_cons];omega
  have hpos2:0<(r::wl).length:=by rw[List.length_cons];omega
  obtain⟨⟨a1,a2,a3⟩,⟨a4,a5,a6⟩⟩:=w2 r (.head _)
  have hlw:wl.length+1≤1000000:=w3
  have hsl:List.take ((List.map RC.enc (r::wl)).length - 1) (List.drop 1 (List.map RC.enc (r::wl)))=List.map RC.enc wl:=by simp;exact List.take_of_length_le (by simp)
  by_cases hb:r.x+r.w≤x
  ·have e:leftC x (r::wl)=leftC x wl:=by unfold leftC;rw[List.dropWhile_cons_of_pos (by simpa[past] using hb)]
   (repeat' first|refine svE ⟨?_⟩|refine .b fun b=>?_|refine .u fun u=>?_|refine .d ?_ ?_|(refine .g fun hg=>?_;try exact svx)|fail)
   rw[hsl]
   exact⟨wl,⟨by rw[←e];exact w1,fun q hq=>w2 q (.tail _ hq),by omega⟩,lee,by simp⟩
  ·have e:leftC x (r::wl)=r::wl:=by unfold leftC;rw[List.dropWhile_cons_of_neg (by simpa[past] using hb)]
   have e1:leftC x R=r::wl:=w1.symm.trans e
   have e2:acrossF x R=decide (r.x≤x):=by unfold acrossF;rw[e1]
   rw[e1,e2]
   (repeat' first|refine svE ⟨?_⟩|refine .b fun b=>?_|refine .u fun u=>?_|refine .d ?_ ?_|(refine .g fun hg=>?_;try exact svx)|fail)
   exact fin_r (h':=_) ⟨rfl,rfl⟩
theorem takeWhile_at {α:Type} {p:α→Bool}:∀{L:List α} {k:Nat},(∀r∈L.take k,p r=true)→(k=L.length∨∃r,L[k]?=some r∧p r=false)→L.takeWhile p=L.take k
 | [],k,_,_=>by simp
 | r::L,0,_,h=>by
  rcases h with h|⟨q,h1,h2⟩
  ·cases h
  ·simp at h1;subst h1
   rw[List.takeWhile_cons_of_neg (by simp[h2])];rfl
 | r::L,k+1,hp,h=>by
  rw[List.takeWhile_cons_of_pos (hp r (by simp)),List.take_succ_cons]
  congr 1
  refine takeWhile_at (fun q hq=>hp q (by rw[List.take_succ_cons];exact .tail _ hq)) ?_
  rcases h with h|⟨q,h1,h2⟩
  ·left;simp at h;exact h
  ·right;exact⟨q,by simpa using h1,h2⟩
theorem row_c (A:List RC) (y:Int) (b:Nat) (h:Heap) (hl:A.length≤1000000) (hc:∀r∈A,r.cnt) :
  ACalls Tryz.prog 144 [.val (.pointer (some ⟨b,0,none⟩)),.val (.int .i64 y)] (.box b [.ro 4 (A.map RC.enc)] 256::h) (fun r h'=>r=.ro 4 ((rowW y A).map RC.enc)∧h'=.box b [.ro 4 ((leftW y A).map RC.enc)] 256::h):=by
 refine ACalls.intro Tryz.func144 rfl Tryz.ntmps144 Tryz.results144 (Nat.le_of_ble_eq_true rfl) ?_
 (repeat' first|refine svE ⟨?_⟩|refine .b fun b=>?_|refine .u fun u=>?_|refine .d ?_ ?_|(refine .g fun hg=>?_;try exact svx)|fail)
 refine W.loop (J:=fun wl:List RC=>⟨66,[(0,.val (.pointer (some ⟨b,0,none⟩))),(1,.val (.int .i64 y))],.box b [.ro 4 (wl.map RC.enc)] 256::h⟩)
  (Φ:=fun wl=>leftW y wl=leftW y A∧(∀r∈wl,r.cnt)∧wl.length≤1000000) (μ:=fun wl=>wl.length) A lee ⟨rfl,hc,hl⟩ ?_
 rintro wl ⟨w1,w2,w3⟩
 have key:∀L:List RC,L=leftW y A→(∀r∈L,r.cnt)→L.length≤1000000→∀k,(∀r∈L.take k,begun y r=true)→(k=L.length∨∃r,L[k]?=some r∧begun y r=false)→(rowW y A).map RC.enc=(L.map RC.enc).take k:=by
  intro L hL _ _ k h1 h2
  unfold rowW
  rw[←hL,takeWhile_at h1 h2,List.map_take]
 cases wl with
 | nil=>
  have e1:leftW y A=[]:=w1.symm
  obtain⟨L,hL⟩:∃L:List RC,L=[]:=⟨_,rfl⟩
  have hLc:∀q∈L,q.cnt:=by rw[hL];exact w2
  have hLl:L.length≤1000000:=by rw[hL];exact w3
  have keyL:=key L (hL.trans e1.symm) hLc hLl
  rw[e1]
  (repeat' first|refine svE ⟨?_⟩|refine .b fun b=>?_|refine .u fun u=>?_|refine .d ?_ ?_|(refine .g fun hg=>?_;try exact svx)|fail)
  rw[←hL]
  refine W.loop (J:=fun k:Nat=>⟨66,[(5,.val (.int .i64 (k:Int))),(0,.val (.pointer (some ⟨b,0,none⟩))),(1,.val (.int .i64 y))],.box b [.ro 4 (L.map RC.enc)] 256::h⟩) (Φ:=fun k=>k≤L.length∧∀r∈L.take k,begun y r=true) (μ:=fun k=>L.length - k) 0 lee ⟨Nat.zero_le _,by simp⟩ ?_;rintro k ⟨k1,k2⟩;have hkl:(k:Int)≤(L.length:Int):=by omega
  rcases Nat.lt_or_ge k L.length with hlt|hge
  ·obtain⟨q,hq⟩:∃q,L[k]?=some q:=⟨_,List.getElem?_eq_getElem hlt⟩
   obtain⟨⟨c1,c2,c3⟩,⟨c4,c5,c6⟩⟩:=hLc q (List.mem_of_getElem? hq)
   by_cases hy:q.y≤y
   ·(repeat' first|refine svE ⟨?_⟩|refine .b fun b=>?_|refine .u fun u=>?_|refine .d ?_ ?_|(refine .g fun hg=>?_;try exact svx)|fail)
    refine⟨k+1,⟨hlt,fun s hs=>?_⟩,lee,by omega⟩
    rw[List.take_add_one,hq] at hs
    rcases List.mem_append.1 hs with hs|hs
    ·exact k2 s hs
    ·rw[List.mem_singleton.1 hs];exact decide_eq_true hy
   ·have kk:=keyL k k2 (.inr ⟨q,hq,decide_eq_false hy⟩)
    (repeat' first|refine svE ⟨?_⟩|refine .b fun b=>?_|refine .u fun u=>?_|refine .d ?_ ?_|(refine .g fun hg=>?_;try exact svx)|fail)
    refine fin_r (h':=_) ⟨?_,rfl⟩
    rw[kk];rfl
  ·have kk:=keyL k k2 (.inl (by omega))
   (repeat' first|refine svE ⟨?_⟩|refine .b fun b=>?_|refine .u fun u=>?_|refine .d ?_ ?_|(refine .g fun hg=>?_;try exact svx)|fail)
   refine fin_r (h':=_) ⟨?_,rfl⟩
   rw[kk];rfl
 | cons r wl=>
  have hx0:(r::wl)[0]?=some r:=rfl
  have hpos:(0:Int)<(((r::wl).length:Nat):Int):=by rw[List.length_cons];omega
  have hpos2:0<(r::wl).length:=by rw[List.length_cons];omega
  obtain⟨⟨a1,a2,a3⟩,⟨a4,a5,a6⟩⟩:=w2 r (.head _)
  have hlw:wl.length+1≤1000000:=w3
  have hsl:List.take ((List.map RC.enc (r::wl)).length - 1) (List.drop 1 (List.map RC.enc (r::wl)))=List.map RC.enc wl:=by simp;exact List.take_of_length_le (by simp)
  by_cases hb:r.y+r.h≤y
  ·have e:leftW y (r::wl)=leftW y wl:=by unfold leftW;rw[List.dropWhile_cons_of_pos (by simpa[over] using hb)]
   (repeat' first|refine svE ⟨?_⟩|refine .b fun b=>?_|refine .u fun u=>?_|refine .d ?_ ?_|(refine .g fun hg=>?_;try exact svx)|fail)
   rw[hsl]
   exact⟨wl,⟨by rw[←e];exact w1,fun q hq=>w2 q (.tail _ hq),by omega⟩,lee,by simp⟩
  ·have e:leftW y (r::wl)=r::wl:=by unfold leftW;rw[List.dropWhile_cons_of_neg (by simpa[over] using hb)]
   have e1:leftW y A=r::wl:=w1.symm.trans e
   obtain⟨L,hL⟩:∃L:List RC,L=r::wl:=⟨_,rfl⟩
   have hLc:∀q∈L,q.cnt:=by rw[hL];exact w2
   have hLl:L.length≤1000000:=by rw[hL];exact w3
   have keyL:=key L (hL.trans e1.symm) hLc hLl
   rw[e1]
   (repeat' first|refine svE ⟨?_⟩|refine .b fun b=>?_|refine .u fun u=>?_|refine .d ?_ ?_|(refine .g fun hg=>?_;try exact svx)|fail)
   rw[←hL]
   refine W.loop (J:=fun k:Nat=>⟨66,[(5,.val (.int .i64 (k:Int))),(0,.val (.pointer (some ⟨b,0,none⟩))),(1,.val (.int .i64 y))],.box b [.ro 4 (L.map RC.enc)] 256::h⟩) (Φ:=fun k=>k≤L.length∧∀r∈L.take k,begun y r=true) (μ:=fun k=>L.length - k) 0 lee ⟨Nat.zero_le _,by simp⟩ ?_;rintro k ⟨k1,k2⟩;have hkl:(k:Int)≤(L.length:Int):=by omega
   rcases Nat.lt_or_ge k L.length with hlt|hge
   ·obtain⟨q,hq⟩:∃q,L[k]?=some q:=⟨_,List.getElem?_eq_getElem hlt⟩
    obtain⟨⟨c1,c2,c3⟩,⟨c4,c5,c6⟩⟩:=hLc q (List.mem_of_getElem? hq)
    by_cases hy:q.y≤y
    ·(repeat' first|refine svE ⟨?_⟩|refine .b fun b=>?_|refine .u fun u=>?_|refine .d ?_ ?_|(refine .g fun hg=>?_;try exact svx)|fail)
     refine⟨k+1,⟨hlt,fun s hs=>?_⟩,lee,by omega⟩
     rw[List.take_add_one,hq] at hs
     rcases List.mem_append.1 hs with hs|hs
     ·exact k2 s hs
     ·rw[List.mem_singleton.1 hs];exact decide_eq_true hy
    ·have kk:=keyL k k2 (.inr ⟨q,hq,decide_eq_false hy⟩)
     (repeat' first|refine svE ⟨?_⟩|refine .b fun b=>?_|refine .u fun u=>?_|refine .d ?_ ?_|(refine .g fun hg=>?_;try exact svx)|fail)
     refine fin_r (h':=_) ⟨?_,rfl⟩
     rw[kk];rfl
   ·have kk:=keyL k k2 (.inl (by omega))
    (repeat' first|refine svE ⟨?_⟩|refine .b fun b=>?_|refine .u fun u=>?_|refine .d ?_ ?_|(refine .g fun hg=>?_;try exact svx)|fail)
    refine fin_r (h':=_) ⟨?_,rfl⟩
    rw[kk];rfl
end Go.Proofs.YtbknacpdcdkjiaaGreat
