import Derived.Test.YtbknacpdcdkjiaaGreatF17
/- All inputs that can be taken. No condition. -/
namespace Go.Proofs.YtbknacpdcdkjiaaGreat
open Go Go.VM
attribute [local irreducible] PurV Pur Step RL W D ACalls Then InBlock Fini
set_option linter.unusedVariables false
set_option linter.unusedSimpArgs false
set_option maxHeartbeats 20000000
def RT.wts (s:RT):Nat:=s.p.ws.length+s.q.ws.length
def pickF (s:RT):Option (Bool × DV × IN):=match s.p.next,s.q.next with
 | none,none=>none
 | some x,none=>some (true,x)
 | none,some y=>some (false,y)
 | some x,some y=>if x.2.n≤y.2.n then some (true,x) else some (false,y)
set_option maxRecDepth 100000 in
theorem all_c (Inv:RT→List SD→Prop) (hb:∀s L,Inv s L→s.p.ws.length≤1000000∧s.q.ws.length≤1000000)
  (hs:∀s L p n i,Inv s L→pickF s=some (p,n,i)→TakC 96 (s.setd p (hldF (s.dv p) n i)) i [] L (fun s' l=>Inv s' (L++l)∧s'.wts<s.wts))
  (b0:Nat) (v:Value) (s:RT) (L:List SD) (H:Heap) (hi:Inv s L) :
  ACalls Tryz.prog 41 [.val (.pointer (some ⟨b0,0,none⟩))] (runH b0 v s L H) (fun r h'=>∃v' s' L',Inv s' L'∧pickF s'=none∧r=.tup []∧h'=runH b0 v' s' L' H):=by
 unfold runH
 refine ACalls.intro Tryz.func41 rfl Tryz.ntmps41 Tryz.results41 (Nat.le_of_ble_eq_true rfl) ?_
 (repeat' first|refine svE ⟨?_⟩|refine .b fun b=>?_|refine .u fun u=>?_|refine .d ?_ ?_|(refine .g fun hg=>?_;try exact svx)|fail)
 refine W.loop (J:=fun z:Value × RT × List SD=>⟨48,[(0,.val (.pointer (some ⟨b0,0,none⟩)))],runH b0 z.1 z.2.1 z.2.2 H⟩) (Φ:=fun z=>Inv z.2.1 z.2.2) (μ:=fun z=>z.2.1.wts) (v,s,L) lee hi ?_
 rintro⟨v1,s1,L1⟩ hi
 dsimp only at hi ⊢
 obtain⟨hp,hq⟩:=hb s1 L1 hi
 have np:=fun h=>next_c s1.p h hp
 have nq:=fun h=>next_c s1.q h hq
 have nr:∀p n i,(s1.dv p).next=some (n,i)→pickF s1=some (p,n,i)→∀H,ACalls Tryz.prog 82 [.val (.pointer (some ⟨b0,0,none⟩)),AV.val (.bool (p))] (runH b0 v1 s1 L1 H) (RunTo b0 (fun s' l=>Inv s' (L1++l)∧s'.wts<s1.wts) L1 H):=
  fun p n i h1 h2 H=>nextr_c b0 v1 H h1 (by cases p<;>assumption) (hs s1 L1 p n i hi h2)
 unfold pickF at nr
 unfold nextV at np nq
 cases e1:s1.p.next with
 | none=>
  cases e2:s1.q.next with
  | none=>
   rw[e1] at np
   rw[e2] at nq
   dsimp only at np nq
   have hn:pickF s1=none:=by unfold pickF;rw[e1,e2]
   unfold runH runC DV.enc at *
   (repeat' first|refine svE ⟨?_⟩|refine .b fun b=>?_|refine .u fun u=>?_|refine .d ?_ ?_|(refine .g fun hg=>?_;try exact svx)|fail)
   refine S.call ?_;refine (np _).mono ?_;rintro r h' ⟨rfl,hh⟩;subst hh
   (repeat' first|refine svE ⟨?_⟩|refine .b fun b=>?_|refine .u fun u=>?_|refine .d ?_ ?_|(refine .g fun hg=>?_;try exact svx)|fail)
   refine S.call ?_;refine (nq _).mono ?_;rintro r h' ⟨rfl,hh⟩;subst hh
   (repeat' first|refine svE ⟨?_⟩|refine .b fun b=>?_|refine .u fun u=>?_|refine .d ?_ ?_|(refine .g fun hg=>?_;try exact svx)|fail)
   exact fin_r (vs:=[]) (h':=.box b0 (runC s1 (.val v1)) 135::.own v1 7 (L1.map SD.enc) 66::H) ⟨v1,s1,L1,hi,hn,rfl,rfl⟩
  | some y=>
   obtain⟨n,i⟩:=y
   rw[e1] at np
   rw[e2] at nq
   dsimp only at np nq
   have nr1:=nr false n i e2 (by rw[e1,e2])
   unfold runH runC DV.enc at *
   (repeat' first|refine svE ⟨?_⟩|refine .b fun b=>?_|refine .u fun u=>?_|refine .d ?_ ?_|(refine .g fun hg=>?_;try exact svx)|fail)
   refine S.call ?_;refine (np _).mono ?_;rintro r h' ⟨rfl,hh⟩;subst hh
   (repeat' first|refine svE ⟨?_⟩|refine .b fun b=>?_|refine .u fun u=>?_|refine .d ?_ ?_|(refine .g fun hg=>?_;try exact svx)|fail)
   refine S.call ?_;refine (nq _).mono ?_;rintro r h' ⟨rfl,hh⟩;subst hh
   (repeat' first|refine svE ⟨?_⟩|refine .b fun b=>?_|refine .u fun u=>?_|refine .d ?_ ?_|(refine .g fun hg=>?_;try exact svx)|fail)
   refine Step.le (s':=⟨48,[(0,.val (.pointer (some ⟨b0,0,none⟩))),(34,.val (.pointer (some ⟨b0,0,none⟩))),(46,AV.val (.bool (false)))],.box b0 (runC s1 (.val v1)) 135::.own v1 7 (L1.map SD.enc) 66::H⟩) lee ?_;refine S.call ?_;refine (nr1 H).mono ?_;rintro r h' ⟨v2,s2,l2,⟨hI,hw⟩,rfl,hh⟩;unfold runH at hh;subst hh;(repeat' first|refine svE ⟨?_⟩|refine .b fun b=>?_|refine .u fun u=>?_|refine .d ?_ ?_|(refine .g fun hg=>?_;try exact svx)|fail);exact⟨(v2,s2,L1++l2),hI,lee,hw⟩
 | some x=>
  obtain⟨n,i⟩:=x
  cases e2:s1.q.next with
  | none=>
   rw[e1] at np
   rw[e2] at nq
   dsimp only at np nq
   have nr1:=nr true n i e1 (by rw[e1,e2])
   unfold runH runC DV.enc at *
   (repeat' first|refine svE ⟨?_⟩|refine .b fun b=>?_|refine .u fun u=>?_|refine .d ?_ ?_|(refine .g fun hg=>?_;try exact svx)|fail)
   refine S.call ?_;refine (np _).mono ?_;rintro r h' ⟨rfl,hh⟩;subst hh
   (repeat' first|refine svE ⟨?_⟩|refine .b fun b=>?_|refine .u fun u=>?_|refine .d ?_ ?_|(refine .g fun hg=>?_;try exact svx)|fail)
   refine S.call ?_;refine (nq _).mono ?_;rintro r h' ⟨rfl,hh⟩;subst hh
   (repeat' first|refine svE ⟨?_⟩|refine .b fun b=>?_|refine .u fun u=>?_|refine .d ?_ ?_|(refine .g fun hg=>?_;try exact svx)|fail)
   refine Step.le (s':=⟨48,[(0,.val (.pointer (some ⟨b0,0,none⟩))),(34,.val (.pointer (some ⟨b0,0,none⟩))),(46,AV.val (.bool (true)))],.box b0 (runC s1 (.val v1)) 135::.own v1 7 (L1.map SD.enc) 66::H⟩) lee ?_;refine S.call ?_;refine (nr1 H).mono ?_;rintro r h' ⟨v2,s2,l2,⟨hI,hw⟩,rfl,hh⟩;unfold runH at hh;subst hh;(repeat' first|refine svE ⟨?_⟩|refine .b fun b=>?_|refine .u fun u=>?_|refine .d ?_ ?_|(refine .g fun hg=>?_;try exact svx)|fail);exact⟨(v2,s2,L1++l2),hI,lee,hw⟩
  | some y=>
   obtain⟨m,j⟩:=y
   rw[e1] at np
   rw[e2] at nq
   dsimp only at np nq
   by_cases hc:i.n≤j.n
   ·have nr1:=nr true n i e1 (by rw[e1,e2];dsimp only;rw[if_pos hc])
    unfold runH runC DV.enc at *
    rw[IN.enc_eq] at np nq
    (repeat' first|refine svE ⟨?_⟩|refine .b fun b=>?_|refine .u fun u=>?_|refine .d ?_ ?_|(refine .g fun hg=>?_;try exact svx)|fail)
    refine S.call ?_;refine (np _).mono ?_;rintro r h' ⟨rfl,hh⟩;subst hh
    (repeat' first|refine svE ⟨?_⟩|refine .b fun b=>?_|refine .u fun u=>?_|refine .d ?_ ?_|(refine .g fun hg=>?_;try exact svx)|fail)
    refine S.call ?_;refine (nq _).mono ?_;rintro r h' ⟨rfl,hh⟩;subst hh
    (repeat' first|refine svE ⟨?_⟩|refine .b fun b=>?_|refine .u fun u=>?_|refine .d ?_ ?_|(refine .g fun hg=>?_;try exact svx)|fail)
    rw[decide_eq_true hc]
    refine Step.le (s':=⟨48,[(0,.val (.pointer (some ⟨b0,0,none⟩))),(34,.val (.pointer (some ⟨b0,0,none⟩))),(46,AV.val (.bool (true)))],.box b0 (runC s1 (.val v1)) 135::.own v1 7 (L1.map SD.enc) 66::H⟩) lee ?_;refine S.call ?_;refine (nr1 H).mono ?_;rintro r h' ⟨v2,s2,l2,⟨hI,hw⟩,rfl,hh⟩;unfold runH at hh;subst hh;(repeat' first|refine svE ⟨?_⟩|refine .b fun b=>?_|refine .u fun u=>?_|refine .d ?_ ?_|(refine .g fun hg=>?_;try exact svx)|fail);exact⟨(v2,s2,L1++l2),hI,lee,hw⟩
   ·have nr1:=nr false m j e2 (by rw[e1,e2];dsimp only;rw[if_neg hc])
    unfold runH runC DV.enc at *
    rw[IN.enc_eq] at np nq
    (repeat' first|refine svE ⟨?_⟩|refine .b fun b=>?_|refine .u fun u=>?_|refine .d ?_ ?_|(refine .g fun hg=>?_;try exact svx)|fail)
    refine S.call ?_;refine (np _).mono ?_;rintro r h' ⟨rfl,hh⟩;subst hh
    (repeat' first|refine svE ⟨?_⟩|refine .b fun b=>?_|refine .u fun u=>?_|refine .d ?_ ?_|(refine .g fun hg=>?_;try exact svx)|fail)
    refine S.call ?_;refine (nq _).mono ?_;rintro r h' ⟨rfl,hh⟩;subst hh
    (repeat' first|refine svE ⟨?_⟩|refine .b fun b=>?_|refine .u fun u=>?_|refine .d ?_ ?_|(refine .g fun hg=>?_;try exact svx)|fail)
    rw[decide_eq_false hc]
    refine Step.le (s':=⟨48,[(0,.val (.pointer (some ⟨b0,0,none⟩))),(34,.val (.pointer (some ⟨b0,0,none⟩))),(46,AV.val (.bool (false)))],.box b0 (runC s1 (.val v1)) 135::.own v1 7 (L1.map SD.enc) 66::H⟩) lee ?_;refine S.call ?_;refine (nr1 H).mono ?_;rintro r h' ⟨v2,s2,l2,⟨hI,hw⟩,rfl,hh⟩;unfold runH at hh;subst hh;(repeat' first|refine svE ⟨?_⟩|refine .b fun b=>?_|refine .u fun u=>?_|refine .d ?_ ?_|(refine .g fun hg=>?_;try exact svx)|fail);exact⟨(v2,s2,L1++l2),hI,lee,hw⟩
end Go.Proofs.YtbknacpdcdkjiaaGreat

/- What a run leaves. No condition. -/
namespace Go.Proofs.YtbknacpdcdkjiaaGreat
open Go Go.VM
attribute [local irreducible] PurV Pur Step RL W D ACalls Then InBlock Fini
set_option linter.unusedVariables false
set_option linter.unusedSimpArgs false
set_option maxHeartbeats 20000000
set_option maxRecDepth 100000 in
theorem done_c (b0:Nat) (v:Value) (s:RT) (L:List SD) (H:Heap):ACalls Tryz.prog 42 [.val (.pointer (some ⟨b0,0,none⟩))] (runH b0 v s L H) (fun r h'=>r=.tup [s.enc,.val v]∧h'=runH b0 v s L H):=by
 unfold runH runC RT.enc
 refine ACalls.intro Tryz.func42 rfl Tryz.ntmps42 Tryz.results42 (Nat.le_of_ble_eq_true rfl) ?_
 (repeat' first|refine svE ⟨?_⟩|refine .b fun b=>?_|refine .u fun u=>?_|refine .d ?_ ?_|(refine .g fun hg=>?_;try exact svx)|fail)
 refine W.dr (.rw (.ro (.done _))) ?_
 (repeat' first|refine svE ⟨?_⟩|refine .b fun b=>?_|refine .u fun u=>?_|refine .d ?_ ?_|(refine .g fun hg=>?_;try exact svx)|fail)
 refine fin_r (h':=.box b0 (runC s (.val v)) 135::.own v 7 (L.map SD.enc) 66::H) (Q:=fun r h'=>r=.tup [s.enc,.val v]∧h'=.box b0 (runC s (.val v)) 135::.own v 7 (L.map SD.enc) 66::H) ?_
 exact⟨rfl,rfl⟩
end Go.Proofs.YtbknacpdcdkjiaaGreat

/- What a device does. No condition. -/
namespace Go.Proofs.YtbknacpdcdkjiaaGreat
open Go Go.VM
attribute [local irreducible] PurV Pur Step RL W D ACalls Then InBlock Fini
set_option linter.unusedVariables false
set_option linter.unusedSimpArgs false
set_option maxHeartbeats 20000000
def IN.num (i:IN) (n:Int):IN:=⟨i.k,i.c,i.x,i.y,i.t,n⟩
def RT.cn (s:RT) (ct nw:Int):RT:={ s with ct:=ct,nw:=nw }
def fedF (s:RT) (p:Bool) (i:IN):RT:=(s.setd p ((s.dv p).wait ((s.dv p).ws++[i.num (s.ct+1)]))).cn (s.ct+1) (max s.nw i.t)
set_option maxRecDepth 100000 in
theorem step1_c0 (Inv:RT→List SD→Prop) (hb:∀s L,Inv s L→s.p.ws.length≤1000000∧s.q.ws.length≤1000000)
  (hs:∀s L p n i,Inv s L→pickF s=some (p,n,i)→TakC 96 (s.setd p (hldF (s.dv p) n i)) i [] L (fun s' l=>Inv s' (L++l)∧s'.wts<s.wts))
  (s:RT) (i:IN) (h:Heap) (hk:i.k=1) (hc:1≤i.c∧i.c<248) (ht:0≤i.t∧i.t<2147483648) (hnw:0≤s.nw∧s.nw<2147483648) (hct:0≤s.ct∧s.ct<1000000) (hw:s.q.ws.length<256) (hi:Inv (fedF s false i) []) :
  ACalls Tryz.prog 11 [s.enc,i.enc] h (fun r h'=>∃v s' L,Inv s' L∧pickF s'=none∧r=.tup [s'.enc,.val v,AV.val (.int .i64 (0))]∧h'=.own v 7 (L.map SD.enc) 66::h):=by
 have kc:=fun h=>kind_c i.k h (by omega)
 rw[show kdF i.k=⟨false,1,true,false,77⟩ by rw[hk];rfl] at kc
 have cok:=fun h=>codeok_c ⟨false,1,true,false,77⟩ i.c h
 rw[show witF ⟨false,1,true,false,77⟩ i.c=true by unfold witF;simp;omega] at cok
 have dc:=fun b h=>device_c b false h
 have fd:=fun h=>feed_c s.q (i.num (s.ct+1)) h hw
 have al:=fun b0 v H=>all_c Inv hb hs b0 v (fedF s false i) [] H hi
 have dn:=fun b0 v s L H=>done_c b0 v s L H
 clear hb hs hi
 unfold RT.enc runH runC KD.enc DV.enc fedF RT.cn RT.setd RT.dv DV.wait at *
 rw[IN.enc_eq] at *
 refine ACalls.intro Tryz.func11 rfl Tryz.ntmps11 Tryz.results11 (Nat.le_of_ble_eq_true rfl) ?_
 refine W.nil_ 7 66 ?_
 (repeat' first|refine svE ⟨?_⟩|refine .b fun b=>?_|refine .u fun u=>?_|refine .d ?_ ?_|(refine .g fun hg=>?_;try exact svx)|fail)
 refine S.call ?_;refine (kc _).mono ?_;rintro r h' ⟨rfl,hh⟩;subst hh
 (repeat' first|refine svE ⟨?_⟩|refine .b fun b=>?_|refine .u fun u=>?_|refine .d ?_ ?_|(refine .g fun hg=>?_;try exact svx)|fail)
 refine S.call ?_;refine (cok _).mono ?_;rintro r h' ⟨rfl,hh⟩;subst hh
 (repeat' first|refine svE ⟨?_⟩|refine .b fun b=>?_|refine .u fun u=>?_|refine .d ?_ ?_|(refine .g fun hg=>?_;try exact svx)|fail)
 refine S.call ?_;refine (dc _ _).mono ?_;rintro r h' ⟨rfl,hh⟩;subst hh
 (repeat' first|refine svE ⟨?_⟩|refine .b fun b=>?_|refine .u fun u=>?_|refine .d ?_ ?_|(refine .g fun hg=>?_;try exact svx)|fail)
 refine R2.C (fd _) ?_
 (repeat' first|refine svE ⟨?_⟩|refine .b fun b=>?_|refine .u fun u=>?_|refine .d ?_ ?_|(refine .g fun hg=>?_;try exact svx)|fail)
 refine S.store_any ?_ (hl:=Nat.le_of_ble_eq_true rfl)
 (repeat' first|refine svE ⟨?_⟩|refine .b fun b=>?_|refine .u fun u=>?_|refine .d ?_ ?_|(refine .g fun hg=>?_;try exact svx)|fail)
 rename_i b2 b3 b4 b7 b9
 refine Step.le (s':=⟨108,[(9,.val (.pointer (some ⟨b9,0,none⟩))),(4,.val (.pointer (some ⟨b4,0,none⟩)))],.box b9 (runC (fedF s false i) (.val (.slice none 0 0))) 135::.own (.slice none 0 0) 7 (([]:List SD).map SD.enc) 66::.box b4 _ 52::h⟩) lee ?_
 refine S.call ?_
 refine (al _ _ _).mono ?_
 rintro r h' ⟨v1,s1,L1,hI,hn,rfl,hh⟩
 subst hh
 (repeat' first|refine svE ⟨?_⟩|refine .b fun b=>?_|refine .u fun u=>?_|refine .d ?_ ?_|(refine .g fun hg=>?_;try exact svx)|fail)
 refine S.call ?_;refine (dn _ _ _ _ _).mono ?_;rintro r h' ⟨rfl,hh⟩;subst hh
 (repeat' first|refine svE ⟨?_⟩|refine .b fun b=>?_|refine .u fun u=>?_|refine .d ?_ ?_|(refine .g fun hg=>?_;try exact svx)|fail)
 exact fin_r (h':=.own v1 7 (L1.map SD.enc) 66::h) ⟨v1,s1,L1,hI,hn,rfl,rfl⟩
end Go.Proofs.YtbknacpdcdkjiaaGreat

/- A key that goes down, where nothing waits. No condition. -/
namespace Go.Proofs.YtbknacpdcdkjiaaGreat
open Go Go.VM
attribute [local irreducible] PurV Pur Step RL W D ACalls Then InBlock Fini
set_option linter.unusedVariables false
set_option linter.unusedSimpArgs false
set_option maxHeartbeats 20000000
def tellF (s:RT) (i:IN) (ch st sx sy:Int):List SD:=(namesF s false 1).2.map fun c=>⟨c,i.k,[(namesF s false 1).1,ch,i.c,st,sx,sy,s.x,s.y,i.t]⟩
theorem pressK_t (s:RT) (i:IN) (Wo:List Int) (L:List SD) (ok:s.Ok) (hk:i.k=1) (how:s.q.a.ow=false)
  (hw:0≤(namesF s false 1).1∧(namesF s false 1).1≤4294967295) (hl:L.length+(namesF s false 1).2.length≤1000000000) (ht:0≤i.t∧i.t≤4294967295) (hic:-1000000≤i.c∧i.c≤1000000) :
  TakC 77 s i Wo L (fun s' l=>∃bt md ch sx sy,s'=s.bm bt md∧l=tellF s i ch (stF s) sx sy):=fun b0 v H=>
 (pressK_c b0 v s i Wo L H ok hk how hw hl ht hic).mono (by
  rintro r h' ⟨v',bt,md,ch,sx,sy,rfl,rfl⟩
  exact⟨v',_,_,⟨bt,md,ch,sx,sy,rfl,rfl⟩,rfl,rfl⟩)
theorem TakC.mono {f:FuncId} {s:RT} {i:IN} {Wo:List Int} {L:List SD} {R R':RT→List SD→Prop} (h:TakC f s i Wo L R) (hr:∀s' l,R s' l→R' s' l):TakC f s i Wo L R':=fun b0 v H=>
 (h b0 v H).mono (by rintro r h' ⟨v',s',l,q,e1,e2⟩;exact⟨v',s',l,hr s' l q,e1,e2⟩)
end Go.Proofs.YtbknacpdcdkjiaaGreat

/- TopFocus: the plain facts. No condition. -/
namespace Go.Proofs.YtbknacpdcdkjiaaGreat
open Go Go.VM
attribute [local irreducible] PurV Pur Step RL W D ACalls Then InBlock Fini
set_option linter.unusedVariables false
set_option linter.unusedSimpArgs false
set_option maxHeartbeats 20000000
theorem find_spec (M:CM) (N:CS) (mask:Int):∀L:List Int,findF M N mask L=(0,[])∨∃id∈L,findF M N mask L=(id,whoF M id (msk mask))∧whoF M id (msk mask)≠[]
 | []=>.inl rfl
 | id::r=>by
  unfold findF
  by_cases h:whoF M id (msk mask)≠[]
  ·rw[if_pos h];exact .inr ⟨id,List.mem_cons_self ..,rfl,h⟩
  ·rw[if_neg h]
   by_cases h2:bitsI .and .i64 ((lkF N id).getD 0) (msk mask)≠0
   ·rw[if_pos h2];exact .inl rfl
   ·rw[if_neg h2]
    rcases find_spec M N mask r with q|⟨x,hx,q⟩
    ·exact .inl q
    ·exact .inr ⟨x,List.mem_cons_of_mem _ hx,q⟩
theorem Pth.mem_has {up:UP} {id:Int} {R:List Int} (h:Pth up id R):∀x∈R,hasT up x=true:=by
 induction h with
 | root=>intro x hx;cases hx
 | up h1 h r ih=>
  intro x hx
  rcases List.mem_cons.1 hx with rfl|hx
  ·exact r.has
  ·exact ih x hx
theorem pathA_has {k:SVT} {up:UP} (w:TW k up) {id x:Int} (h:x∈pathA up id):hasT up x=true:=by
 unfold pathA at h
 split at h
 ·next e=>
  rcases List.mem_cons.1 h with rfl|h
  ·exact e
  ·exact (w.pthR e).1.mem_has x h
 ·cases h
theorem wayF_has {k:SVT} {up:UP} (w:TW k up) {fw un x:Int} (h:x∈wayF up fw un):hasT up x=true:=by
 unfold wayF at h
 split at h
 ·cases h
 ·split at h
  ·cases h
  ·next e=>
   split at h
   ·exact pathA_has w (List.mem_of_mem_take h)
   ·rw[List.mem_singleton.1 h];simpa using e
end Go.Proofs.YtbknacpdcdkjiaaGreat
