/- A press of a button. No condition. -/
import Derived.Test.YtbknacpdcdkjiaaGreatF22
namespace Go.Proofs.YtbknacpdcdkjiaaGreat
open Go Go.VM
attribute [local irreducible] PurV Pur Step RL W D ACalls Then InBlock Fini
set_option linter.unusedVariables false
set_option linter.unusedSimpArgs false
set_option maxHeartbeats 20000000
def autF (s:RT) (i:IN) (w:Int):List Int→RT
 | []=>s
 | c::_=>s.setd true (s.p.begin ⟨c,w,false,mkF s.M c w,true,false,i.c,i.t⟩ false)
set_option maxRecDepth 100000 in
theorem pressP_c (b0:Nat) (v:Value) (s:RT) (i:IN) (Wo:List Int) (L:List SD) (H:Heap) (ok:s.Ok) (hk:i.k=3) (how:s.p.a.ow=false)
  (hw:0≤(namesF s true 4).1∧(namesF s true 4).1≤4294967295) (hl:L.length+(namesF s true 4).2.length≤1000000000) (ht:0≤i.t∧i.t≤4294967295) (hic:-1000000≤i.c∧i.c≤1000000) :
  ACalls Tryz.prog 77 [.val (.pointer (some ⟨b0,0,none⟩)),i.enc,AV.ro 1 (ints .u32 (Wo))] (.box b0 (runC s (.val v)) 135::.own v 7 (L.map SD.enc) 66::H)
   (fun r h'=>∃v' bt md ch sx sy,r=.tup []∧h'=.box b0 (runC ((if s.p.g then s else autF s i (namesF s true 4).1 (namesF s true 4).2).bm bt md) (.val v')) 135::.own v' 7 ((L++(namesF s true 4).2.map fun c=>(⟨c,i.k,[(namesF s true 4).1,ch,i.c,stF s,sx,sy,s.x,s.y,i.t]⟩:SD)).map SD.enc) 66::H):=by
 have kc:=fun h=>kind_c i.k h (by omega)
 have dc:=fun h=>device_c b0 true h
 have ac:=fun h=>active_c s.p h
 have stc:=fun h=>state_c s h
 have wc:=fun H hm=>windows_c b0 (.val v) s true Wo H hm ok
 have fc:=fun h=>pfind_c (winF s true Wo) true i.c s.md h
 have nc:=fun H hm=>names_c b0 (.val v) s ⟨true,4,true,false,77⟩ H hm ok how
 have ec:=fun H'=>event_c b0 v s i (namesF s true 4).1 (namesF s true 4).2 (stF s) L H' ok hl hw ht
 have dn:=fun v s H=>down_c b0 v s true i.c true H hic
 have mc:=fun c h=>cmask_c s.M s.N c (namesF s true 4).1 h
 have bg:=fun a h=>begin_c s.p a false h
 rw[show kdF i.k=⟨true,4,true,false,77⟩ by rw[hk];rfl] at kc
 dsimp only at nc
 generalize (namesF s true 4).1=w at *
 generalize (namesF s true 4).2=cl at *
 generalize winF s true Wo=WL at *
 generalize stF s=st at *
 cases hg:s.p.g with
 | true=>
  rw[if_pos rfl]
  have dn1:=fun v H=>dn v s H
  unfold runC RT.enc KD.enc DV.enc AC.enc at *
  rw[hg] at ac stc wc nc ec dn1 ⊢
  rw[IN.enc_eq i] at *
  refine ACalls.intro Tryz.func77 rfl Tryz.ntmps77 Tryz.results77 (Nat.le_of_ble_eq_true rfl) ?_
  (repeat' first|refine svE ⟨?_⟩|refine .b fun b=>?_|refine .u fun u=>?_|refine .d ?_ ?_|(refine .g fun hg=>?_;try exact svx)|fail)
  refine S.call ?_;refine (kc _).mono ?_;rintro r h' ⟨rfl,hh⟩;subst hh
  (repeat' first|refine svE ⟨?_⟩|refine .b fun b=>?_|refine .u fun u=>?_|refine .d ?_ ?_|(refine .g fun hg=>?_;try exact svx)|fail)
  refine S.call ?_;refine (stc _).mono ?_;rintro r h' ⟨rfl,hh⟩;subst hh
  (repeat' first|refine svE ⟨?_⟩|refine .b fun b=>?_|refine .u fun u=>?_|refine .d ?_ ?_|(refine .g fun hg=>?_;try exact svx)|fail)
  refine S.call ?_;refine (dc _).mono ?_;rintro r h' ⟨rfl,hh⟩;subst hh
  (repeat' first|refine svE ⟨?_⟩|refine .b fun b=>?_|refine .u fun u=>?_|refine .d ?_ ?_|(refine .g fun hg=>?_;try exact svx)|fail)
  refine S.call ?_;refine (ac _).mono ?_;rintro r h' ⟨rfl,hh⟩;subst hh
  (repeat' first|refine svE ⟨?_⟩|refine .b fun b=>?_|refine .u fun u=>?_|refine .d ?_ ?_|(refine .g fun hg=>?_;try exact svx)|fail)
  refine S.call ?_;refine (nc _ (by (fail_if_success (apply memG));repeat (first|exact List.Mem.head _|assumption|refine List.Mem.tail _ ?_))).mono ?_;rintro r h' ⟨rfl,hh⟩;subst hh
  (repeat' first|refine svE ⟨?_⟩|refine .b fun b=>?_|refine .u fun u=>?_|refine .d ?_ ?_|(refine .g fun hg=>?_;try exact svx)|fail)
  rename_i b4 b6 b10
  revert b;intro b14
  refine Step.le (s':=⟨125,[(0,.val (.pointer (some ⟨b0,0,none⟩))),(4,.val (.pointer (some ⟨b4,0,none⟩))),(6,.val (.pointer (some ⟨b6,0,none⟩))),(9,.val (.pointer (some ⟨b0,10,none⟩))),(11,AV.val (.bool (true))),(14,.val (.pointer (some ⟨b14,0,none⟩))),(73,.val (.pointer (some ⟨b0,0,none⟩))),(74,.agg [AV.val (.int .i64 ((i).k)),AV.val (.int .i64 ((i).c)),AV.val (.int .i64 ((i).x)),AV.val (.int .i64 ((i).y)),AV.val (.int .u32 ((i).t)),AV.val (.int .i64 ((i).n))]),(75,.agg [AV.val (.int .u32 (w)),.ro 1 (ints .i64 (cl))]),(76,AV.val (.int .i64 (st)))],.box b0 (mapV .u32 vIds s.k::mapV .u32 (vI .u32) s.up::AV.ro 1 (ints .u32 (s.o))::mapV .u32 vSW s.V::mapK (vI .i64) s.M::mapV .u32 (vI .i64) s.N::AV.val (.int .u32 (s.fw))::AV.val (.int .i64 (s.fr))::AV.val (.int .u32 (s.ft))::AV.ro 9 []::AV.val (.int .i64 (s.p.a.cl))::AV.val (.int .u32 (s.p.a.w))::AV.val (.bool (s.p.a.ow))::AV.val (.int .i64 (s.p.a.mask))::AV.val (.bool (s.p.a.au))::AV.val (.bool (s.p.a.pa))::AV.val (.int .i64 (s.p.a.code))::AV.val (.int .u32 (s.p.a.time))::AV.val (.bool (true))::AV.val (.bool (s.p.f))::AV.val (.bool (s.p.s))::AV.val (.int .i64 (s.p.held.k))::AV.val (.int .i64 (s.p.held.c))::AV.val (.int .i64 (s.p.held.x))::AV.val (.int .i64 (s.p.held.y))::AV.val (.int .u32 (s.p.held.t))::AV.val (.int .i64 (s.p.held.n))::AV.val (.bool (s.p.hs))::AV.ro 6 (s.p.ws.map IN.enc)::AV.val (.int .i64 ((s.q).a.cl))::AV.val (.int .u32 ((s.q).a.w))::AV.val (.bool ((s.q).a.ow))::AV.val (.int .i64 ((s.q).a.mask))::AV.val (.bool ((s.q).a.au))::AV.val (.bool ((s.q).a.pa))::AV.val (.int .i64 ((s.q).a.code))::AV.val (.int .u32 ((s.q).a.time))::AV.val (.bool ((s.q).g))::AV.val (.bool ((s.q).f))::AV.val (.bool ((s.q).s))::AV.val (.int .i64 ((s.q).held.k))::AV.val (.int .i64 ((s.q).held.c))::AV.val (.int .i64 ((s.q).held.x))::AV.val (.int .i64 ((s.q).held.y))::AV.val (.int .u32 ((s.q).held.t))::AV.val (.int .i64 ((s.q).held.n))::AV.val (.bool ((s.q).hs))::AV.ro 6 ((s.q).ws.map IN.enc)::AV.val (.int .i64 (s.x))::AV.val (.int .i64 (s.y))::AV.val (.int .i64 (s.bt))::AV.val (.int .i64 (s.md))::AV.val (.int .i64 (s.ct))::AV.val (.int .u32 (s.nw))::AV.val (.int .u32 (s.un))::.val v::[]) 135::.own v 7 (L.map SD.enc) 66::.box b14 [AV.val (.int .u32 (w)),.ro 1 (ints .i64 (cl))] 225::.box b6 [AV.val (.bool (true)),AV.val (.int .i64 (4)),AV.val (.bool (true)),AV.val (.bool (false)),.val (.func (.func 77) #[] #[])] 130::.box b4 [AV.val (.int .i64 ((i).k)),AV.val (.int .i64 ((i).c)),AV.val (.int .i64 ((i).x)),AV.val (.int .i64 ((i).y)),AV.val (.int .u32 ((i).t)),AV.val (.int .i64 ((i).n))] 47::H⟩) lee ?_
  refine S.call ?_
  refine (ec _).mono ?_
  rintro r h' ⟨v1,ch,sx,sy,rfl,hh⟩
  subst hh
  (repeat' first|refine svE ⟨?_⟩|refine .b fun b=>?_|refine .u fun u=>?_|refine .d ?_ ?_|(refine .g fun hg=>?_;try exact svx)|fail)
  refine R2.melt ?_
  refine R2.B ?_
  refine S.call ?_
  refine (dn1 _ _).mono ?_
  rintro r h' ⟨bt,md,rfl,hh⟩
  subst hh
  refine kd ?_
  (repeat' first|refine svE ⟨?_⟩|refine .b fun b=>?_|refine .u fun u=>?_|refine .d ?_ ?_|(refine .g fun hg=>?_;try exact svx)|fail)
  exact fin_n (vs:=[]) (h':=.box b0 (runC ((s).bm bt md) (.val v1)) 135::.own v1 7 ((L++(cl).map fun c=>(⟨c,i.k,[w,ch,i.c,st,sx,sy,s.x,s.y,i.t]⟩:SD)).map SD.enc) 66::H) ⟨v1,bt,md,ch,sx,sy,rfl,rfl⟩
 | false=>
  rw[if_neg (by simp)]
  cases cl with
  | nil=>
   have dn1:=fun v H=>dn v s H
   unfold runC RT.enc KD.enc DV.enc AC.enc at *
   rw[hg] at ac stc wc nc ec dn1 ⊢
   rw[IN.enc_eq i] at *
   refine ACalls.intro Tryz.func77 rfl Tryz.ntmps77 Tryz.results77 (Nat.le_of_ble_eq_true rfl) ?_
   (repeat' first|refine svE ⟨?_⟩|refine .b fun b=>?_|refine .u fun u=>?_|refine .d ?_ ?_|(refine .g fun hg=>?_;try exact svx)|fail)
   refine S.call ?_;refine (kc _).mono ?_;rintro r h' ⟨rfl,hh⟩;subst hh
   (repeat' first|refine svE ⟨?_⟩|refine .b fun b=>?_|refine .u fun u=>?_|refine .d ?_ ?_|(refine .g fun hg=>?_;try exact svx)|fail)
   refine S.call ?_;refine (stc _).mono ?_;rintro r h' ⟨rfl,hh⟩;subst hh
   (repeat' first|refine svE ⟨?_⟩|refine .b fun b=>?_|refine .u fun u=>?_|refine .d ?_ ?_|(refine .g fun hg=>?_;try exact svx)|fail)
   refine S.call ?_;refine (dc _).mono ?_;rintro r h' ⟨rfl,hh⟩;subst hh
   (repeat' first|refine svE ⟨?_⟩|refine .b fun b=>?_|refine .u fun u=>?_|refine .d ?_ ?_|(refine .g fun hg=>?_;try exact svx)|fail)
   refine S.call ?_;refine (ac _).mono ?_;rintro r h' ⟨rfl,hh⟩;subst hh
   (repeat' first|refine svE ⟨?_⟩|refine .b fun b=>?_|refine .u fun u=>?_|refine .d ?_ ?_|(refine .g fun hg=>?_;try exact svx)|fail)
   refine R2.C (wc _ (by (fail_if_success (apply memG));repeat (first|exact List.Mem.head _|assumption|refine List.Mem.tail _ ?_))) ?_
   (repeat' first|refine svE ⟨?_⟩|refine .b fun b=>?_|refine .u fun u=>?_|refine .d ?_ ?_|(refine .g fun hg=>?_;try exact svx)|fail)
   refine R2.C (fc _) ?_
   (repeat' first|refine svE ⟨?_⟩|refine .b fun b=>?_|refine .u fun u=>?_|refine .d ?_ ?_|(refine .g fun hg=>?_;try exact svx)|fail)
   refine S.call ?_;refine (nc _ (by (fail_if_success (apply memG));repeat (first|exact List.Mem.head _|assumption|refine List.Mem.tail _ ?_))).mono ?_;rintro r h' ⟨rfl,hh⟩;subst hh
   (repeat' first|refine svE ⟨?_⟩|refine .b fun b=>?_|refine .u fun u=>?_|refine .d ?_ ?_|(refine .g fun hg=>?_;try exact svx)|fail)
   rename_i b4 b6 b10 b12
   revert b;intro b14
   refine Step.le (s':=⟨125,[(0,.val (.pointer (some ⟨b0,0,none⟩))),(4,.val (.pointer (some ⟨b4,0,none⟩))),(6,.val (.pointer (some ⟨b6,0,none⟩))),(9,.val (.pointer (some ⟨b0,10,none⟩))),(11,AV.val (.bool (false))),(14,.val (.pointer (some ⟨b14,0,none⟩))),(73,.val (.pointer (some ⟨b0,0,none⟩))),(74,.agg [AV.val (.int .i64 ((i).k)),AV.val (.int .i64 ((i).c)),AV.val (.int .i64 ((i).x)),AV.val (.int .i64 ((i).y)),AV.val (.int .u32 ((i).t)),AV.val (.int .i64 ((i).n))]),(75,.agg [AV.val (.int .u32 (w)),.ro 1 (ints .i64 (([]:List Int)))]),(76,AV.val (.int .i64 (st)))],.box b0 (mapV .u32 vIds s.k::mapV .u32 (vI .u32) s.up::AV.ro 1 (ints .u32 (s.o))::mapV .u32 vSW s.V::mapK (vI .i64) s.M::mapV .u32 (vI .i64) s.N::AV.val (.int .u32 (s.fw))::AV.val (.int .i64 (s.fr))::AV.val (.int .u32 (s.ft))::AV.ro 9 []::AV.val (.int .i64 (s.p.a.cl))::AV.val (.int .u32 (s.p.a.w))::AV.val (.bool (s.p.a.ow))::AV.val (.int .i64 (s.p.a.mask))::AV.val (.bool (s.p.a.au))::AV.val (.bool (s.p.a.pa))::AV.val (.int .i64 (s.p.a.code))::AV.val (.int .u32 (s.p.a.time))::AV.val (.bool (false))::AV.val (.bool (s.p.f))::AV.val (.bool (s.p.s))::AV.val (.int .i64 (s.p.held.k))::AV.val (.int .i64 (s.p.held.c))::AV.val (.int .i64 (s.p.held.x))::AV.val (.int .i64 (s.p.held.y))::AV.val (.int .u32 (s.p.held.t))::AV.val (.int .i64 (s.p.held.n))::AV.val (.bool (s.p.hs))::AV.ro 6 (s.p.ws.map IN.enc)::AV.val (.int .i64 ((s.q).a.cl))::AV.val (.int .u32 ((s.q).a.w))::AV.val (.bool ((s.q).a.ow))::AV.val (.int .i64 ((s.q).a.mask))::AV.val (.bool ((s.q).a.au))::AV.val (.bool ((s.q).a.pa))::AV.val (.int .i64 ((s.q).a.code))::AV.val (.int .u32 ((s.q).a.time))::AV.val (.bool ((s.q).g))::AV.val (.bool ((s.q).f))::AV.val (.bool ((s.q).s))::AV.val (.int .i64 ((s.q).held.k))::AV.val (.int .i64 ((s.q).held.c))::AV.val (.int .i64 ((s.q).held.x))::AV.val (.int .i64 ((s.q).held.y))::AV.val (.int .u32 ((s.q).held.t))::AV.val (.int .i64 ((s.q).held.n))::AV.val (.bool ((s.q).hs))::AV.ro 6 ((s.q).ws.map IN.enc)::AV.val (.int .i64 (s.x))::AV.val (.int .i64 (s.y))::AV.val (.int .i64 (s.bt))::AV.val (.int .i64 (s.md))::AV.val (.int .i64 (s.ct))::AV.val (.int .u32 (s.nw))::AV.val (.int .u32 (s.un))::.val v::[]) 135::.own v 7 (L.map SD.enc) 66::.box b14 [AV.val (.int .u32 (w)),.ro 1 (ints .i64 (([]:List Int)))] 225::.box b6 [AV.val (.bool (true)),AV.val (.int .i64 (4)),AV.val (.bool (true)),AV.val (.bool (false)),.val (.func (.func 77) #[] #[])] 130::.box b4 [AV.val (.int .i64 ((i).k)),AV.val (.int .i64 ((i).c)),AV.val (.int .i64 ((i).x)),AV.val (.int .i64 ((i).y)),AV.val (.int .u32 ((i).t)),AV.val (.int .i64 ((i).n))] 47::H⟩) lee ?_
   refine S.call ?_
   refine (ec _).mono ?_
   rintro r h' ⟨v1,ch,sx,sy,rfl,hh⟩
   subst hh
   (repeat' first|refine svE ⟨?_⟩|refine .b fun b=>?_|refine .u fun u=>?_|refine .d ?_ ?_|(refine .g fun hg=>?_;try exact svx)|fail)
   refine R2.melt ?_
   refine R2.B ?_
   refine S.call ?_
   refine (dn1 _ _).mono ?_
   rintro r h' ⟨bt,md,rfl,hh⟩
   subst hh
   refine kd ?_
   (repeat' first|refine svE ⟨?_⟩|refine .b fun b=>?_|refine .u fun u=>?_|refine .d ?_ ?_|(refine .g fun hg=>?_;try exact svx)|fail)
   exact fin_n (vs:=[]) (h':=.box b0 (runC ((s).bm bt md) (.val v1)) 135::.own v1 7 ((L++(([]:List Int)).map fun c=>(⟨c,i.k,[w,ch,i.c,st,sx,sy,s.x,s.y,i.t]⟩:SD)).map SD.enc) 66::H) ⟨v1,bt,md,ch,sx,sy,rfl,rfl⟩
  | cons c0 cr=>
   have dn1:=fun v H=>dn v (autF s i w (c0::cr)) H
   have bg1:=bg ⟨c0,w,false,mkF s.M c0 w,true,false,i.c,i.t⟩
   unfold autF RT.setd at dn1 ⊢
   unfold runC RT.enc KD.enc DV.enc AC.enc at *
   rw[hg] at ac stc wc nc ec bg1 ⊢
   rw[IN.enc_eq i] at *
   refine ACalls.intro Tryz.func77 rfl Tryz.ntmps77 Tryz.results77 (Nat.le_of_ble_eq_true rfl) ?_
   (repeat' first|refine svE ⟨?_⟩|refine .b fun b=>?_|refine .u fun u=>?_|refine .d ?_ ?_|(refine .g fun hg=>?_;try exact svx)|fail)
   refine S.call ?_;refine (kc _).mono ?_;rintro r h' ⟨rfl,hh⟩;subst hh
   (repeat' first|refine svE ⟨?_⟩|refine .b fun b=>?_|refine .u fun u=>?_|refine .d ?_ ?_|(refine .g fun hg=>?_;try exact svx)|fail)
   refine S.call ?_;refine (stc _).mono ?_;rintro r h' ⟨rfl,hh⟩;subst hh
   (repeat' first|refine svE ⟨?_⟩|refine .b fun b=>?_|refine .u fun u=>?_|refine .d ?_ ?_|(refine .g fun hg=>?_;try exact svx)|fail)
   refine S.call ?_;refine (dc _).mono ?_;rintro r h' ⟨rfl,hh⟩;subst hh
   (repeat' first|refine svE ⟨?_⟩|refine .b fun b=>?_|refine .u fun u=>?_|refine .d ?_ ?_|(refine .g fun hg=>?_;try exact svx)|fail)
   refine S.call ?_;refine (ac _).mono ?_;rintro r h' ⟨rfl,hh⟩;subst hh
   (repeat' first|refine svE ⟨?_⟩|refine .b fun b=>?_|refine .u fun u=>?_|refine .d ?_ ?_|(refine .g fun hg=>?_;try exact svx)|fail)
   refine R2.C (wc _ (by (fail_if_success (apply memG));repeat (first|exact List.Mem.head _|assumption|refine List.Mem.tail _ ?_))) ?_
   (repeat' first|refine svE ⟨?_⟩|refine .b fun b=>?_|refine .u fun u=>?_|refine .d ?_ ?_|(refine .g fun hg=>?_;try exact svx)|fail)
   refine R2.C (fc _) ?_
   (repeat' first|refine svE ⟨?_⟩|refine .b fun b=>?_|refine .u fun u=>?_|refine .d ?_ ?_|(refine .g fun hg=>?_;try exact svx)|fail)
   refine S.call ?_;refine (nc _ (by (fail_if_success (apply memG));repeat (first|exact List.Mem.head _|assumption|refine List.Mem.tail _ ?_))).mono ?_;rintro r h' ⟨rfl,hh⟩;subst hh
   (repeat' first|refine svE ⟨?_⟩|refine .b fun b=>?_|refine .u fun u=>?_|refine .d ?_ ?_|(refine .g fun hg=>?_;try exact svx)|fail)
   rename_i b4 b6 b10 b12
   revert b;intro b14
   refine Step.le (s':=⟨125,[(0,.val (.pointer (some ⟨b0,0,none⟩))),(4,.val (.pointer (some ⟨b4,0,none⟩))),(6,.val (.pointer (some ⟨b6,0,none⟩))),(9,.val (.pointer (some ⟨b0,10,none⟩))),(11,AV.val (.bool (false))),(14,.val (.pointer (some ⟨b14,0,none⟩))),(73,.val (.pointer (some ⟨b0,0,none⟩))),(74,.agg [AV.val (.int .i64 ((i).k)),AV.val (.int .i64 ((i).c)),AV.val (.int .i64 ((i).x)),AV.val (.int .i64 ((i).y)),AV.val (.int .u32 ((i).t)),AV.val (.int .i64 ((i).n))]),(75,.agg [AV.val (.int .u32 (w)),.ro 1 (ints .i64 ((c0::cr)))]),(76,AV.val (.int .i64 (st)))],.box b0 (mapV .u32 vIds s.k::mapV .u32 (vI .u32) s.up::AV.ro 1 (ints .u32 (s.o))::mapV .u32 vSW s.V::mapK (vI .i64) s.M::mapV .u32 (vI .i64) s.N::AV.val (.int .u32 (s.fw))::AV.val (.int .i64 (s.fr))::AV.val (.int .u32 (s.ft))::AV.ro 9 []::AV.val (.int .i64 (s.p.a.cl))::AV.val (.int .u32 (s.p.a.w))::AV.val (.bool (s.p.a.ow))::AV.val (.int .i64 (s.p.a.mask))::AV.val (.bool (s.p.a.au))::AV.val (.bool (s.p.a.pa))::AV.val (.int .i64 (s.p.a.code))::AV.val (.int .u32 (s.p.a.time))::AV.val (.bool (false))::AV.val (.bool (s.p.f))::AV.val (.bool (s.p.s))::AV.val (.int .i64 (s.p.held.k))::AV.val (.int .i64 (s.p.held.c))::AV.val (.int .i64 (s.p.held.x))::AV.val (.int .i64 (s.p.held.y))::AV.val (.int .u32 (s.p.held.t))::AV.val (.int .i64 (s.p.held.n))::AV.val (.bool (s.p.hs))::AV.ro 6 (s.p.ws.map IN.enc)::AV.val (.int .i64 ((s.q).a.cl))::AV.val (.int .u32 ((s.q).a.w))::AV.val (.bool ((s.q).a.ow))::AV.val (.int .i64 ((s.q).a.mask))::AV.val (.bool ((s.q).a.au))::AV.val (.bool ((s.q).a.pa))::AV.val (.int .i64 ((s.q).a.code))::AV.val (.int .u32 ((s.q).a.time))::AV.val (.bool ((s.q).g))::AV.val (.bool ((s.q).f))::AV.val (.bool ((s.q).s))::AV.val (.int .i64 ((s.q).held.k))::AV.val (.int .i64 ((s.q).held.c))::AV.val (.int .i64 ((s.q).held.x))::AV.val (.int .i64 ((s.q).held.y))::AV.val (.int .u32 ((s.q).held.t))::AV.val (.int .i64 ((s.q).held.n))::AV.val (.bool ((s.q).hs))::AV.ro 6 ((s.q).ws.map IN.enc)::AV.val (.int .i64 (s.x))::AV.val (.int .i64 (s.y))::AV.val (.int .i64 (s.bt))::AV.val (.int .i64 (s.md))::AV.val (.int .i64 (s.ct))::AV.val (.int .u32 (s.nw))::AV.val (.int .u32 (s.un))::.val v::[]) 135::.own v 7 (L.map SD.enc) 66::.box b14 [AV.val (.int .u32 (w)),.ro 1 (ints .i64 ((c0::cr)))] 225::.box b6 [AV.val (.bool (true)),AV.val (.int .i64 (4)),AV.val (.bool (true)),AV.val (.bool (false)),.val (.func (.func 77) #[] #[])] 130::.box b4 [AV.val (.int .i64 ((i).k)),AV.val (.int .i64 ((i).c)),AV.val (.int .i64 ((i).x)),AV.val (.int .i64 ((i).y)),AV.val (.int .u32 ((i).t)),AV.val (.int .i64 ((i).n))] 47::H⟩) lee ?_
   refine S.call ?_
   refine (ec _).mono ?_
   rintro r h' ⟨v1,ch,sx,sy,rfl,hh⟩
   subst hh
   (repeat' first|refine svE ⟨?_⟩|refine .b fun b=>?_|refine .u fun u=>?_|refine .d ?_ ?_|(refine .g fun hg=>?_;try exact svx)|fail)
   all_goals first|(exfalso;rw[List.length_cons] at hg;omega)|skip
   refine R2.C (mc c0 _) ?_
   (repeat' first|refine svE ⟨?_⟩|refine .b fun b=>?_|refine .u fun u=>?_|refine .d ?_ ?_|(refine .g fun hg=>?_;try exact svx)|fail)
   refine R2.C (bg1 _) ?_
   (repeat' first|refine svE ⟨?_⟩|refine .b fun b=>?_|refine .u fun u=>?_|refine .d ?_ ?_|(refine .g fun hg=>?_;try exact svx)|fail)
   refine S.store_any ?_ (hl:=Nat.le_of_ble_eq_true rfl)
   (repeat' first|refine svE ⟨?_⟩|refine .b fun b=>?_|refine .u fun u=>?_|refine .d ?_ ?_|(refine .g fun hg=>?_;try exact svx)|fail)
   refine R2.melt ?_
   refine R2.B ?_
   refine S.call ?_
   refine (dn1 _ _).mono ?_
   rintro r h' ⟨bt,md,rfl,hh⟩
   subst hh
   refine kd ?_
   (repeat' first|refine svE ⟨?_⟩|refine .b fun b=>?_|refine .u fun u=>?_|refine .d ?_ ?_|(refine .g fun hg=>?_;try exact svx)|fail)
   exact fin_n (vs:=[]) (h':=.box b0 (runC (((autF s i w (c0::cr))).bm bt md) (.val v1)) 135::.own v1 7 ((L++((c0::cr)).map fun c=>(⟨c,i.k,[w,ch,i.c,st,sx,sy,s.x,s.y,i.t]⟩:SD)).map SD.enc) 66::H) ⟨v1,bt,md,ch,sx,sy,rfl,rfl⟩
end Go.Proofs.YtbknacpdcdkjiaaGreat
