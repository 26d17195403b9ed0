import Derived.Test.YtbknacpdcdkjiaaGreatF14
/- A press of a key. No condition. -/
namespace Go.Proofs.YtbknacpdcdkjiaaGreat
open Go Go.VM
set_option maxRecDepth 100000
attribute [local irreducible] PurV Pur Step RL W D ACalls Then InBlock Fini
set_option linter.unusedVariables false
set_option linter.unusedSimpArgs false
set_option maxHeartbeats 20000000
def stF (s:RT):Int:=IntKind.wrap .i64 (s.md+IntKind.wrap .i64 (256 * s.bt))
theorem state_c (s:RT) (h:Heap):ACalls Tryz.prog 90 [s.enc] h (fun r h'=>r=AV.val (.int .i64 (stF s))∧h'=h):=by
 unfold RT.enc stF
 refine ACalls.intro Tryz.func90 rfl Tryz.ntmps90 Tryz.results90 (Nat.le_of_ble_eq_true rfl) ?_
 (repeat' first|refine svE ⟨?_⟩|refine .b fun b=>?_|refine .u fun u=>?_|refine .d ?_ ?_|(refine .g fun hg=>?_;try exact svx)|fail)
 refine fin_r (h':=h) (Q:=fun r h'=>r=_∧h'=h) ?_;exact⟨rfl,rfl⟩
theorem pressK_c (b0:Nat) (v:Value) (s:RT) (i:IN) (Wo:List Int) (L:List SD) (H:Heap) (ok:s.Ok) (hk:i.k=1) (how:s.q.a.ow=false)
  (hw:0≤(namesF s false 1).1∧(namesF s false 1).1≤4294967295) (hl:L.length+(namesF s false 1).2.length≤1000000000) (ht:0≤i.t∧i.t≤4294967295) (hic:-1000000≤i.c∧i.c≤1000000) :
  ACalls Tryz.prog 77 [.val (.pointer (some ⟨b0,0,none⟩)),i.enc,AV.ro 1 (ints .u32 (Wo))] (.box b0 (runC s (.val v)) 135::.own v 7 (L.map SD.enc) 66::H)
   (fun r h'=>∃v' bt md ch sx sy,r=.tup []∧h'=.box b0 (runC (s.bm bt md) (.val v')) 135::.own v' 7 ((L++(namesF s false 1).2.map fun c=>(⟨c,i.k,[(namesF s false 1).1,ch,i.c,stF s,sx,sy,s.x,s.y,i.t]⟩:SD)).map SD.enc) 66::H):=by
 have kc:=fun h=>kind_c i.k h (by omega)
 have dc:=fun h=>device_c b0 false h
 have ac:=fun h=>active_c s.q h
 have stc:=fun h=>state_c s h
 have wc:=fun H hm=>windows_c b0 (.val v) s false Wo H hm ok
 have fc:=fun h=>pfind_c (winF s false Wo) false i.c s.md h
 have nc:=fun H hm=>names_c b0 (.val v) s ⟨false,1,true,false,77⟩ H hm ok how
 have ec:=fun H'=>event_c b0 v s i (namesF s false 1).1 (namesF s false 1).2 (stF s) L H' ok hl hw ht
 have dn:=fun v H=>down_c b0 v s false i.c true H hic
 rw[show kdF i.k=⟨false,1,true,false,77⟩ by rw[hk];rfl] at kc
 dsimp only at nc
 generalize (namesF s false 1).1=w at *
 generalize (namesF s false 1).2=cl at *
 generalize winF s false Wo=WL at *
 generalize stF s=st at *
 cases hg:s.q.g with
 | true=>
  unfold runC RT.enc KD.enc DV.enc AC.enc at *
  rw[hg] at ac stc wc nc ec dn ⊢
  rw[IN.enc_eq i] at *
  refine ACalls.intro Tryz.func77 rfl Tryz.ntmps77 Tryz.results77 (Nat.le_of_ble_eq_true rfl) ?_
  (repeat' first|refine svE ⟨?_⟩|refine .b fun b=>?_|refine .u fun u=>?_|refine .d ?_ ?_|(refine .g fun hg=>?_;try exact svx)|fail)
  refine S.call ?_;refine (kc _).mono ?_;rintro r h' ⟨rfl,hh⟩;subst hh
  (repeat' first|refine svE ⟨?_⟩|refine .b fun b=>?_|refine .u fun u=>?_|refine .d ?_ ?_|(refine .g fun hg=>?_;try exact svx)|fail)
  refine S.call ?_;refine (stc _).mono ?_;rintro r h' ⟨rfl,hh⟩;subst hh
  (repeat' first|refine svE ⟨?_⟩|refine .b fun b=>?_|refine .u fun u=>?_|refine .d ?_ ?_|(refine .g fun hg=>?_;try exact svx)|fail)
  refine S.call ?_;refine (dc _).mono ?_;rintro r h' ⟨rfl,hh⟩;subst hh
  (repeat' first|refine svE ⟨?_⟩|refine .b fun b=>?_|refine .u fun u=>?_|refine .d ?_ ?_|(refine .g fun hg=>?_;try exact svx)|fail)
  refine S.call ?_;refine (ac _).mono ?_;rintro r h' ⟨rfl,hh⟩;subst hh
  (repeat' first|refine svE ⟨?_⟩|refine .b fun b=>?_|refine .u fun u=>?_|refine .d ?_ ?_|(refine .g fun hg=>?_;try exact svx)|fail)
  refine S.call ?_;refine (nc _ (by (fail_if_success (apply memG));repeat (first|exact List.Mem.head _|assumption|refine List.Mem.tail _ ?_))).mono ?_;rintro r h' ⟨rfl,hh⟩;subst hh
  (repeat' first|refine svE ⟨?_⟩|refine .b fun b=>?_|refine .u fun u=>?_|refine .d ?_ ?_|(refine .g fun hg=>?_;try exact svx)|fail)
  rename_i b4 b6 b10
  revert b;intro b14
  refine Step.le (s':=⟨125,[(0,.val (.pointer (some ⟨b0,0,none⟩))),(4,.val (.pointer (some ⟨b4,0,none⟩))),(6,.val (.pointer (some ⟨b6,0,none⟩))),(11,AV.val (.bool (true))),(14,.val (.pointer (some ⟨b14,0,none⟩))),(73,.val (.pointer (some ⟨b0,0,none⟩))),(74,.agg [AV.val (.int .i64 ((i).k)),AV.val (.int .i64 ((i).c)),AV.val (.int .i64 ((i).x)),AV.val (.int .i64 ((i).y)),AV.val (.int .u32 ((i).t)),AV.val (.int .i64 ((i).n))]),(75,.agg [AV.val (.int .u32 (w)),.ro 1 (ints .i64 cl)]),(76,AV.val (.int .i64 (st)))],.box b0 (mapV .u32 vIds s.k::mapV .u32 (vI .u32) s.up::AV.ro 1 (ints .u32 (s.o))::mapV .u32 vSW s.V::mapK (vI .i64) s.M::mapV .u32 (vI .i64) s.N::AV.val (.int .u32 (s.fw))::AV.val (.int .i64 (s.fr))::AV.val (.int .u32 (s.ft))::AV.ro 9 []::AV.val (.int .i64 ((s.p).a.cl))::AV.val (.int .u32 ((s.p).a.w))::AV.val (.bool ((s.p).a.ow))::AV.val (.int .i64 ((s.p).a.mask))::AV.val (.bool ((s.p).a.au))::AV.val (.bool ((s.p).a.pa))::AV.val (.int .i64 ((s.p).a.code))::AV.val (.int .u32 ((s.p).a.time))::AV.val (.bool ((s.p).g))::AV.val (.bool ((s.p).f))::AV.val (.bool ((s.p).s))::AV.val (.int .i64 ((s.p).held.k))::AV.val (.int .i64 ((s.p).held.c))::AV.val (.int .i64 ((s.p).held.x))::AV.val (.int .i64 ((s.p).held.y))::AV.val (.int .u32 ((s.p).held.t))::AV.val (.int .i64 ((s.p).held.n))::AV.val (.bool ((s.p).hs))::AV.ro 6 ((s.p).ws.map IN.enc)::AV.val (.int .i64 (s.q.a.cl))::AV.val (.int .u32 (s.q.a.w))::AV.val (.bool (s.q.a.ow))::AV.val (.int .i64 (s.q.a.mask))::AV.val (.bool (s.q.a.au))::AV.val (.bool (s.q.a.pa))::AV.val (.int .i64 (s.q.a.code))::AV.val (.int .u32 (s.q.a.time))::AV.val (.bool (true))::AV.val (.bool (s.q.f))::AV.val (.bool (s.q.s))::AV.val (.int .i64 (s.q.held.k))::AV.val (.int .i64 (s.q.held.c))::AV.val (.int .i64 (s.q.held.x))::AV.val (.int .i64 (s.q.held.y))::AV.val (.int .u32 (s.q.held.t))::AV.val (.int .i64 (s.q.held.n))::AV.val (.bool (s.q.hs))::AV.ro 6 (s.q.ws.map IN.enc)::AV.val (.int .i64 (s.x))::AV.val (.int .i64 (s.y))::AV.val (.int .i64 (s.bt))::AV.val (.int .i64 (s.md))::AV.val (.int .i64 (s.ct))::AV.val (.int .u32 (s.nw))::AV.val (.int .u32 (s.un))::.val v::[]) 135::.own v 7 (L.map SD.enc) 66::.box b14 [AV.val (.int .u32 (w)),.ro 1 (ints .i64 cl)] 225::.box b6 [AV.val (.bool (false)),AV.val (.int .i64 (1)),AV.val (.bool (true)),AV.val (.bool (false)),.val (.func (.func 77) #[] #[])] 130::.box b4 [AV.val (.int .i64 ((i).k)),AV.val (.int .i64 ((i).c)),AV.val (.int .i64 ((i).x)),AV.val (.int .i64 ((i).y)),AV.val (.int .u32 ((i).t)),AV.val (.int .i64 ((i).n))] 47::H⟩) lee ?_
  refine S.call ?_
  refine (ec _).mono ?_
  rintro r h' ⟨v1,ch,sx,sy,rfl,hh⟩
  subst hh
  (repeat' first|refine svE ⟨?_⟩|refine .b fun b=>?_|refine .u fun u=>?_|refine .d ?_ ?_|(refine .g fun hg=>?_;try exact svx)|fail)
  refine R2.melt ?_
  refine R2.B ?_
  refine S.call ?_
  refine (dn _ _).mono ?_
  rintro r h' ⟨bt,md,rfl,hh⟩
  subst hh
  refine kd ?_
  (repeat' first|refine svE ⟨?_⟩|refine .b fun b=>?_|refine .u fun u=>?_|refine .d ?_ ?_|(refine .g fun hg=>?_;try exact svx)|fail)
  exact fin_n (vs:=[]) (h':=.box b0 (runC (s.bm bt md) (.val v1)) 135::.own v1 7 ((L++cl.map fun c=>(⟨c,i.k,[w,ch,i.c,st,sx,sy,s.x,s.y,i.t]⟩:SD)).map SD.enc) 66::H) ⟨v1,bt,md,ch,sx,sy,rfl,rfl⟩
 | false=>
  unfold runC RT.enc KD.enc DV.enc AC.enc at *
  rw[hg] at ac stc wc nc ec dn ⊢
  rw[IN.enc_eq i] at *
  refine ACalls.intro Tryz.func77 rfl Tryz.ntmps77 Tryz.results77 (Nat.le_of_ble_eq_true rfl) ?_
  (repeat' first|refine svE ⟨?_⟩|refine .b fun b=>?_|refine .u fun u=>?_|refine .d ?_ ?_|(refine .g fun hg=>?_;try exact svx)|fail)
  refine S.call ?_;refine (kc _).mono ?_;rintro r h' ⟨rfl,hh⟩;subst hh
  (repeat' first|refine svE ⟨?_⟩|refine .b fun b=>?_|refine .u fun u=>?_|refine .d ?_ ?_|(refine .g fun hg=>?_;try exact svx)|fail)
  refine S.call ?_;refine (stc _).mono ?_;rintro r h' ⟨rfl,hh⟩;subst hh
  (repeat' first|refine svE ⟨?_⟩|refine .b fun b=>?_|refine .u fun u=>?_|refine .d ?_ ?_|(refine .g fun hg=>?_;try exact svx)|fail)
  refine S.call ?_;refine (dc _).mono ?_;rintro r h' ⟨rfl,hh⟩;subst hh
  (repeat' first|refine svE ⟨?_⟩|refine .b fun b=>?_|refine .u fun u=>?_|refine .d ?_ ?_|(refine .g fun hg=>?_;try exact svx)|fail)
  refine S.call ?_;refine (ac _).mono ?_;rintro r h' ⟨rfl,hh⟩;subst hh
  (repeat' first|refine svE ⟨?_⟩|refine .b fun b=>?_|refine .u fun u=>?_|refine .d ?_ ?_|(refine .g fun hg=>?_;try exact svx)|fail)
  refine R2.C (wc _ (by (fail_if_success (apply memG));repeat (first|exact List.Mem.head _|assumption|refine List.Mem.tail _ ?_))) ?_
  (repeat' first|refine svE ⟨?_⟩|refine .b fun b=>?_|refine .u fun u=>?_|refine .d ?_ ?_|(refine .g fun hg=>?_;try exact svx)|fail)
  refine R2.C (fc _) ?_
  (repeat' first|refine svE ⟨?_⟩|refine .b fun b=>?_|refine .u fun u=>?_|refine .d ?_ ?_|(refine .g fun hg=>?_;try exact svx)|fail)
  refine S.call ?_;refine (nc _ (by (fail_if_success (apply memG));repeat (first|exact List.Mem.head _|assumption|refine List.Mem.tail _ ?_))).mono ?_;rintro r h' ⟨rfl,hh⟩;subst hh
  (repeat' first|refine svE ⟨?_⟩|refine .b fun b=>?_|refine .u fun u=>?_|refine .d ?_ ?_|(refine .g fun hg=>?_;try exact svx)|fail)
  rename_i b4 b6 b10 b12
  revert b;intro b14
  refine Step.le (s':=⟨125,[(0,.val (.pointer (some ⟨b0,0,none⟩))),(4,.val (.pointer (some ⟨b4,0,none⟩))),(6,.val (.pointer (some ⟨b6,0,none⟩))),(11,AV.val (.bool (false))),(14,.val (.pointer (some ⟨b14,0,none⟩))),(73,.val (.pointer (some ⟨b0,0,none⟩))),(74,.agg [AV.val (.int .i64 ((i).k)),AV.val (.int .i64 ((i).c)),AV.val (.int .i64 ((i).x)),AV.val (.int .i64 ((i).y)),AV.val (.int .u32 ((i).t)),AV.val (.int .i64 ((i).n))]),(75,.agg [AV.val (.int .u32 (w)),.ro 1 (ints .i64 cl)]),(76,AV.val (.int .i64 (st)))],.box b0 (mapV .u32 vIds s.k::mapV .u32 (vI .u32) s.up::AV.ro 1 (ints .u32 (s.o))::mapV .u32 vSW s.V::mapK (vI .i64) s.M::mapV .u32 (vI .i64) s.N::AV.val (.int .u32 (s.fw))::AV.val (.int .i64 (s.fr))::AV.val (.int .u32 (s.ft))::AV.ro 9 []::AV.val (.int .i64 ((s.p).a.cl))::AV.val (.int .u32 ((s.p).a.w))::AV.val (.bool ((s.p).a.ow))::AV.val (.int .i64 ((s.p).a.mask))::AV.val (.bool ((s.p).a.au))::AV.val (.bool ((s.p).a.pa))::AV.val (.int .i64 ((s.p).a.code))::AV.val (.int .u32 ((s.p).a.time))::AV.val (.bool ((s.p).g))::AV.val (.bool ((s.p).f))::AV.val (.bool ((s.p).s))::AV.val (.int .i64 ((s.p).held.k))::AV.val (.int .i64 ((s.p).held.c))::AV.val (.int .i64 ((s.p).held.x))::AV.val (.int .i64 ((s.p).held.y))::AV.val (.int .u32 ((s.p).held.t))::AV.val (.int .i64 ((s.p).held.n))::AV.val (.bool ((s.p).hs))::AV.ro 6 ((s.p).ws.map IN.enc)::AV.val (.int .i64 (s.q.a.cl))::AV.val (.int .u32 (s.q.a.w))::AV.val (.bool (s.q.a.ow))::AV.val (.int .i64 (s.q.a.mask))::AV.val (.bool (s.q.a.au))::AV.val (.bool (s.q.a.pa))::AV.val (.int .i64 (s.q.a.code))::AV.val (.int .u32 (s.q.a.time))::AV.val (.bool (false))::AV.val (.bool (s.q.f))::AV.val (.bool (s.q.s))::AV.val (.int .i64 (s.q.held.k))::AV.val (.int .i64 (s.q.held.c))::AV.val (.int .i64 (s.q.held.x))::AV.val (.int .i64 (s.q.held.y))::AV.val (.int .u32 (s.q.held.t))::AV.val (.int .i64 (s.q.held.n))::AV.val (.bool (s.q.hs))::AV.ro 6 (s.q.ws.map IN.enc)::AV.val (.int .i64 (s.x))::AV.val (.int .i64 (s.y))::AV.val (.int .i64 (s.bt))::AV.val (.int .i64 (s.md))::AV.val (.int .i64 (s.ct))::AV.val (.int .u32 (s.nw))::AV.val (.int .u32 (s.un))::.val v::[]) 135::.own v 7 (L.map SD.enc) 66::.box b14 [AV.val (.int .u32 (w)),.ro 1 (ints .i64 cl)] 225::.box b6 [AV.val (.bool (false)),AV.val (.int .i64 (1)),AV.val (.bool (true)),AV.val (.bool (false)),.val (.func (.func 77) #[] #[])] 130::.box b4 [AV.val (.int .i64 ((i).k)),AV.val (.int .i64 ((i).c)),AV.val (.int .i64 ((i).x)),AV.val (.int .i64 ((i).y)),AV.val (.int .u32 ((i).t)),AV.val (.int .i64 ((i).n))] 47::H⟩) lee ?_
  refine S.call ?_
  refine (ec _).mono ?_
  rintro r h' ⟨v1,ch,sx,sy,rfl,hh⟩
  subst hh
  (repeat' first|refine svE ⟨?_⟩|refine .b fun b=>?_|refine .u fun u=>?_|refine .d ?_ ?_|(refine .g fun hg=>?_;try exact svx)|fail)
  refine R2.melt ?_
  refine R2.B ?_
  refine S.call ?_
  refine (dn _ _).mono ?_
  rintro r h' ⟨bt,md,rfl,hh⟩
  subst hh
  refine kd ?_
  (repeat' first|refine svE ⟨?_⟩|refine .b fun b=>?_|refine .u fun u=>?_|refine .d ?_ ?_|(refine .g fun hg=>?_;try exact svx)|fail)
  exact fin_n (vs:=[]) (h':=.box b0 (runC (s.bm bt md) (.val v1)) 135::.own v1 7 ((L++cl.map fun c=>(⟨c,i.k,[w,ch,i.c,st,sx,sy,s.x,s.y,i.t]⟩:SD)).map SD.enc) 66::H) ⟨v1,bt,md,ch,sx,sy,rfl,rfl⟩
end Go.Proofs.YtbknacpdcdkjiaaGreat

/- An input is taken. No condition. -/
namespace Go.Proofs.YtbknacpdcdkjiaaGreat
open Go Go.VM
set_option maxRecDepth 100000
attribute [local irreducible] PurV Pur Step RL W D ACalls Then InBlock Fini
set_option linter.unusedVariables false
set_option linter.unusedSimpArgs false
set_option maxHeartbeats 20000000
def runH (b0:Nat) (v:Value) (s:RT) (L:List SD) (H:Heap):Heap:=.box b0 (runC s (.val v)) 135::.own v 7 (L.map SD.enc) 66::H
def RunTo (b0:Nat) (R:RT→List SD→Prop) (L:List SD) (H:Heap) (r:AV) (h':Heap):Prop:=∃v' s' l,R s' l∧r=.tup []∧h'=runH b0 v' s' (L++l) H
def TakC (f:FuncId) (s:RT) (i:IN) (Wo:List Int) (L:List SD) (R:RT→List SD→Prop):Prop:=∀b0 v H,ACalls Tryz.prog f [.val (.pointer (some ⟨b0,0,none⟩)),i.enc,AV.ro 1 (ints .u32 (Wo))] (runH b0 v s L H) (RunTo b0 R L H)
instance tf_pr:TFun Tryz.prog (kdF 1).fn:=⟨by kernel_rfl⟩
instance tf_rl:TFun Tryz.prog (kdF 2).fn:=⟨by kernel_rfl⟩
instance tf_mo:TFun Tryz.prog (kdF 5).fn:=⟨by kernel_rfl⟩
theorem take_c {s:RT} {i:IN} {Wo:List Int} {L:List SD} {R:RT→List SD→Prop} (hk:1≤i.k∧i.k≤5) (hc:TakC (kdF i.k).fn s i Wo L R):TakC 96 s i Wo L R:=by
 intro b0 v H
 have hf:TFun Tryz.prog (kdF i.k).fn:=by
  obtain e|e|e|e|e:i.k=1∨i.k=2∨i.k=3∨i.k=4∨i.k=5:=by omega
  all_goals rw[e];first|exact tf_pr|exact tf_rl|exact tf_mo
 have kc:=fun h=>kind_c i.k h hk
 have hc1:=hc b0 v
 unfold runH at hc1 ⊢
 generalize OE.box b0 (runC s (.val v)) 135=X at *
 generalize OE.own v 7 (L.map SD.enc) 66=Y at *
 generalize kdF i.k=kd at *
 unfold KD.enc at *
 rw[IN.enc_eq i] at *
 refine ACalls.intro Tryz.func96 rfl Tryz.ntmps96 Tryz.results96 (Nat.le_of_ble_eq_true rfl) ?_
 (repeat' first|refine svE ⟨?_⟩|refine .b fun b=>?_|refine .u fun u=>?_|refine .d ?_ ?_|(refine .g fun hg=>?_;try exact svx)|fail)
 refine S.call ?_;refine (kc _).mono ?_;rintro r h' ⟨rfl,hh⟩;subst hh
 (repeat' first|refine svE ⟨?_⟩|refine .b fun b=>?_|refine .u fun u=>?_|refine .d ?_ ?_|(refine .g fun hg=>?_;try exact svx)|fail)
 rename_i b4
 revert b;intro b6
 refine Step.le (s':=⟨21,[(16,.val (.func (.func kd.fn) #[] #[])),(17,.val (.pointer (some ⟨b0,0,none⟩))),(18,.agg [AV.val (.int .i64 ((i).k)),AV.val (.int .i64 ((i).c)),AV.val (.int .i64 ((i).x)),AV.val (.int .i64 ((i).y)),AV.val (.int .u32 ((i).t)),AV.val (.int .i64 ((i).n))]),(19,AV.ro 1 (ints .u32 (Wo)))],X::Y::.box b6 (AV.agg [AV.val (.bool (kd.p)),AV.val (.int .i64 (kd.m)),AV.val (.bool (kd.pr)),AV.val (.bool (kd.rl)),.val (.func (.func kd.fn) #[] #[])]).cells 130::.box b4 (AV.agg [AV.val (.int .i64 ((i).k)),AV.val (.int .i64 ((i).c)),AV.val (.int .i64 ((i).x)),AV.val (.int .i64 ((i).y)),AV.val (.int .u32 ((i).t)),AV.val (.int .i64 ((i).n))]).cells 47::H⟩) lee ?_
 refine S.callv (.fn _) ((hc1 _).mono ?_)
 rintro r h' ⟨v',s',l,hR,rfl,hh⟩
 unfold runH at hh
 subst hh
 (repeat' first|refine svE ⟨?_⟩|refine .b fun b=>?_|refine .u fun u=>?_|refine .d ?_ ?_|(refine .g fun hg=>?_;try exact svx)|fail)
 exact fin_n (vs:=[]) (h':=.box b0 (runC s' (.val v')) 135::.own v' 7 ((L++l).map SD.enc) 66::H) ⟨v',s',l,hR,rfl,rfl⟩
end Go.Proofs.YtbknacpdcdkjiaaGreat
