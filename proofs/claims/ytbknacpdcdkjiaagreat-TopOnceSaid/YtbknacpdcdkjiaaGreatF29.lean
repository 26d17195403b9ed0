import Derived.Test.YtbknacpdcdkjiaaGreatF24
/- A grab's end. No condition. -/
namespace Go.Proofs.YtbknacpdcdkjiaaGreat
open Go Go.VM
set_option maxRecDepth 100000
attribute [local irreducible] PurV Pur Step RL W D ACalls Then InBlock Fini
set_option linter.unusedVariables false
set_option linter.unusedSimpArgs false
set_option maxHeartbeats 20000000
def endF (s:RT) (p:Bool):RT:=(s.setd p (s.dv p).end_).setd (!p) (lgF ((s.setd p (s.dv p).end_).dv (!p)))
theorem end_c (b0:Nat) (v:AV) (s:RT) (p:Bool) (H:Heap):ACalls Tryz.prog 86 [.val (.pointer (some ⟨b0,0,none⟩)),AV.val (.bool (p))] (.box b0 (runC s v) 135::H) (fun r h'=>r=.tup []∧h'=.box b0 (runC (endF s p) v) 135::H):=by
 have dc:=fun p h=>device_c b0 p h
 have ec:=fun h=>dend_c (s.dv p) h
 have lc:=fun H=>letgo_c b0 v (s.setd p (s.dv p).end_) (!p) H
 unfold endF
 generalize (s.setd p (s.dv p).end_).setd (!p) _=s2 at *
 cases p with
 | true=>
  have dc1:=fun h=>dc true h
  have dc2:=fun h=>dc false h
  simp only[Bool.not_true,Bool.not_false,Bool.false_eq_true,↓reduceIte] at dc1 dc2 lc
  unfold runC DV.enc at *
  refine ACalls.intro Tryz.func86 rfl Tryz.ntmps86 Tryz.results86 (Nat.le_of_ble_eq_true rfl) ?_
  (repeat' first|refine svE ⟨?_⟩|refine .b fun b=>?_|refine .u fun u=>?_|refine .d ?_ ?_|(refine .g fun hg=>?_;try exact svx)|fail)
  refine S.call ?_;refine (dc1 _).mono ?_;rintro r h' ⟨rfl,hh⟩;subst hh
  (repeat' first|refine svE ⟨?_⟩|refine .b fun b=>?_|refine .u fun u=>?_|refine .d ?_ ?_|(refine .g fun hg=>?_;try exact svx)|fail)
  refine S.call ?_;refine (ec _).mono ?_;rintro r h' ⟨rfl,hh⟩;subst hh
  (repeat' first|refine svE ⟨?_⟩|refine .b fun b=>?_|refine .u fun u=>?_|refine .d ?_ ?_|(refine .g fun hg=>?_;try exact svx)|fail)
  refine S.store_any ?_ (hl:=Nat.le_of_ble_eq_true rfl)
  (repeat' first|refine svE ⟨?_⟩|refine .b fun b=>?_|refine .u fun u=>?_|refine .d ?_ ?_|(refine .g fun hg=>?_;try exact svx)|fail)
  refine S.call ?_;refine (dc2 _).mono ?_;rintro r h' ⟨rfl,hh⟩;subst hh
  (repeat' first|refine svE ⟨?_⟩|refine .b fun b=>?_|refine .u fun u=>?_|refine .d ?_ ?_|(refine .g fun hg=>?_;try exact svx)|fail)
  refine S.call ?_;refine (lc _).mono ?_;rintro r h' ⟨rfl,hh⟩;subst hh
  (repeat' first|refine svE ⟨?_⟩|refine .b fun b=>?_|refine .u fun u=>?_|refine .d ?_ ?_|(refine .g fun hg=>?_;try exact svx)|fail)
  exact fin_n (vs:=[]) (h':=.box b0 (runC s2 v) 135::H) ⟨rfl,rfl⟩
 | false=>
  have dc1:=fun h=>dc false h
  have dc2:=fun h=>dc true h
  simp only[Bool.not_true,Bool.not_false,Bool.false_eq_true,↓reduceIte] at dc1 dc2 lc
  unfold runC DV.enc at *
  refine ACalls.intro Tryz.func86 rfl Tryz.ntmps86 Tryz.results86 (Nat.le_of_ble_eq_true rfl) ?_
  (repeat' first|refine svE ⟨?_⟩|refine .b fun b=>?_|refine .u fun u=>?_|refine .d ?_ ?_|(refine .g fun hg=>?_;try exact svx)|fail)
  refine S.call ?_;refine (dc1 _).mono ?_;rintro r h' ⟨rfl,hh⟩;subst hh
  (repeat' first|refine svE ⟨?_⟩|refine .b fun b=>?_|refine .u fun u=>?_|refine .d ?_ ?_|(refine .g fun hg=>?_;try exact svx)|fail)
  refine S.call ?_;refine (ec _).mono ?_;rintro r h' ⟨rfl,hh⟩;subst hh
  (repeat' first|refine svE ⟨?_⟩|refine .b fun b=>?_|refine .u fun u=>?_|refine .d ?_ ?_|(refine .g fun hg=>?_;try exact svx)|fail)
  refine S.store_any ?_ (hl:=Nat.le_of_ble_eq_true rfl)
  (repeat' first|refine svE ⟨?_⟩|refine .b fun b=>?_|refine .u fun u=>?_|refine .d ?_ ?_|(refine .g fun hg=>?_;try exact svx)|fail)
  refine S.call ?_;refine (dc2 _).mono ?_;rintro r h' ⟨rfl,hh⟩;subst hh
  (repeat' first|refine svE ⟨?_⟩|refine .b fun b=>?_|refine .u fun u=>?_|refine .d ?_ ?_|(refine .g fun hg=>?_;try exact svx)|fail)
  refine S.call ?_;refine (lc _).mono ?_;rintro r h' ⟨rfl,hh⟩;subst hh
  (repeat' first|refine svE ⟨?_⟩|refine .b fun b=>?_|refine .u fun u=>?_|refine .d ?_ ?_|(refine .g fun hg=>?_;try exact svx)|fail)
  exact fin_n (vs:=[]) (h':=.box b0 (runC s2 v) 135::H) ⟨rfl,rfl⟩
theorem endif_c (b0:Nat) (v:AV) (s:RT) (p q:Bool) (H:Heap) {f:Nat} {fv:AV} {caps:List AV} [TFun Tryz.prog f] (hF:Fv fv f caps)
  (hq:(s.dv p).g=true→∀b6,ACalls Tryz.prog f ([(s.dv p).a.enc]++caps) (.box b6 (s.dv p).a.enc.cells 45::.box b0 (runC s v) 135::H) (fun r h'=>r=AV.val (.bool (q))∧h'=.box b6 (s.dv p).a.enc.cells 45::.box b0 (runC s v) 135::H)) :
  ACalls Tryz.prog 47 [.val (.pointer (some ⟨b0,0,none⟩)),AV.val (.bool (p)),fv] (.box b0 (runC s v) 135::H) (fun r h'=>r=.tup []∧h'=.box b0 (runC (if (s.dv p).g&&q then endF s p else s) v) 135::H):=by
 have ec:=fun H=>end_c b0 v s p H
 generalize endF s p=s2 at *
 cases p with
 | true=>
  have dc1:=fun h=>device_c b0 true h
  have ac:=fun h=>active_c s.p h
  simp only[Bool.not_true,Bool.not_false,Bool.false_eq_true,↓reduceIte] at dc1
  rw[show s.dv true=s.p from rfl] at *
  cases hg:s.p.g with
  | true=>
   have hq1:=hq hg
   rw[hg] at ac
   unfold runC DV.enc AC.enc at *
   refine ACalls.intro Tryz.func47 rfl Tryz.ntmps47 Tryz.results47 (Nat.le_of_ble_eq_true rfl) ?_
   (repeat' first|refine svE ⟨?_⟩|refine .b fun b=>?_|refine .u fun u=>?_|refine .d ?_ ?_|(refine .g fun hg=>?_;try exact svx)|fail)
   refine S.call ?_;refine (dc1 _).mono ?_;rintro r h' ⟨rfl,hh⟩;subst hh
   (repeat' first|refine svE ⟨?_⟩|refine .b fun b=>?_|refine .u fun u=>?_|refine .d ?_ ?_|(refine .g fun hg=>?_;try exact svx)|fail)
   refine S.call ?_;refine (ac _).mono ?_;rintro r h' ⟨rfl,hh⟩;subst hh
   (repeat' first|refine svE ⟨?_⟩|refine .b fun b=>?_|refine .u fun u=>?_|refine .d ?_ ?_|(refine .g fun hg=>?_;try exact svx)|fail)
   refine S.callv hF ((hq1 _).mono ?_)
   rintro r h' ⟨rfl,hh⟩
   subst hh
   cases q with
   | true=>
    (repeat' first|refine svE ⟨?_⟩|refine .b fun b=>?_|refine .u fun u=>?_|refine .d ?_ ?_|(refine .g fun hg=>?_;try exact svx)|fail)
    refine Step.le (s':=⟨26,[(23,.val (.pointer (some ⟨b0,0,none⟩))),(24,AV.val (.bool (true)))],.box b0 (runC s v) 135::H⟩) lee ?_
    refine S.call ?_;refine (ec _).mono ?_;rintro r h' ⟨rfl,hh⟩;subst hh
    (repeat' first|refine svE ⟨?_⟩|refine .b fun b=>?_|refine .u fun u=>?_|refine .d ?_ ?_|(refine .g fun hg=>?_;try exact svx)|fail)
    exact fin_n (vs:=[]) (h':=.box b0 (runC s2 v) 135::H) ⟨rfl,rfl⟩
   | false=>
    (repeat' first|refine svE ⟨?_⟩|refine .b fun b=>?_|refine .u fun u=>?_|refine .d ?_ ?_|(refine .g fun hg=>?_;try exact svx)|fail)
    exact fin_n (vs:=[]) (h':=.box b0 (runC s v) 135::H) ⟨rfl,rfl⟩
  | false=>
   rw[hg] at ac
   unfold runC DV.enc AC.enc at *
   refine ACalls.intro Tryz.func47 rfl Tryz.ntmps47 Tryz.results47 (Nat.le_of_ble_eq_true rfl) ?_
   (repeat' first|refine svE ⟨?_⟩|refine .b fun b=>?_|refine .u fun u=>?_|refine .d ?_ ?_|(refine .g fun hg=>?_;try exact svx)|fail)
   refine S.call ?_;refine (dc1 _).mono ?_;rintro r h' ⟨rfl,hh⟩;subst hh
   (repeat' first|refine svE ⟨?_⟩|refine .b fun b=>?_|refine .u fun u=>?_|refine .d ?_ ?_|(refine .g fun hg=>?_;try exact svx)|fail)
   refine S.call ?_;refine (ac _).mono ?_;rintro r h' ⟨rfl,hh⟩;subst hh
   (repeat' first|refine svE ⟨?_⟩|refine .b fun b=>?_|refine .u fun u=>?_|refine .d ?_ ?_|(refine .g fun hg=>?_;try exact svx)|fail)
   exact fin_n (vs:=[]) (h':=.box b0 (runC s v) 135::H) ⟨rfl,rfl⟩
 | false=>
  have dc1:=fun h=>device_c b0 false h
  have ac:=fun h=>active_c s.q h
  simp only[Bool.not_true,Bool.not_false,Bool.false_eq_true,↓reduceIte] at dc1
  rw[show s.dv false=s.q from rfl] at *
  cases hg:s.q.g with
  | true=>
   have hq1:=hq hg
   rw[hg] at ac
   unfold runC DV.enc AC.enc at *
   refine ACalls.intro Tryz.func47 rfl Tryz.ntmps47 Tryz.results47 (Nat.le_of_ble_eq_true rfl) ?_
   (repeat' first|refine svE ⟨?_⟩|refine .b fun b=>?_|refine .u fun u=>?_|refine .d ?_ ?_|(refine .g fun hg=>?_;try exact svx)|fail)
   refine S.call ?_;refine (dc1 _).mono ?_;rintro r h' ⟨rfl,hh⟩;subst hh
   (repeat' first|refine svE ⟨?_⟩|refine .b fun b=>?_|refine .u fun u=>?_|refine .d ?_ ?_|(refine .g fun hg=>?_;try exact svx)|fail)
   refine S.call ?_;refine (ac _).mono ?_;rintro r h' ⟨rfl,hh⟩;subst hh
   (repeat' first|refine svE ⟨?_⟩|refine .b fun b=>?_|refine .u fun u=>?_|refine .d ?_ ?_|(refine .g fun hg=>?_;try exact svx)|fail)
   refine S.callv hF ((hq1 _).mono ?_)
   rintro r h' ⟨rfl,hh⟩
   subst hh
   cases q with
   | true=>
    (repeat' first|refine svE ⟨?_⟩|refine .b fun b=>?_|refine .u fun u=>?_|refine .d ?_ ?_|(refine .g fun hg=>?_;try exact svx)|fail)
    refine Step.le (s':=⟨26,[(23,.val (.pointer (some ⟨b0,0,none⟩))),(24,AV.val (.bool (false)))],.box b0 (runC s v) 135::H⟩) lee ?_
    refine S.call ?_;refine (ec _).mono ?_;rintro r h' ⟨rfl,hh⟩;subst hh
    (repeat' first|refine svE ⟨?_⟩|refine .b fun b=>?_|refine .u fun u=>?_|refine .d ?_ ?_|(refine .g fun hg=>?_;try exact svx)|fail)
    exact fin_n (vs:=[]) (h':=.box b0 (runC s2 v) 135::H) ⟨rfl,rfl⟩
   | false=>
    (repeat' first|refine svE ⟨?_⟩|refine .b fun b=>?_|refine .u fun u=>?_|refine .d ?_ ?_|(refine .g fun hg=>?_;try exact svx)|fail)
    exact fin_n (vs:=[]) (h':=.box b0 (runC s v) 135::H) ⟨rfl,rfl⟩
  | false=>
   rw[hg] at ac
   unfold runC DV.enc AC.enc at *
   refine ACalls.intro Tryz.func47 rfl Tryz.ntmps47 Tryz.results47 (Nat.le_of_ble_eq_true rfl) ?_
   (repeat' first|refine svE ⟨?_⟩|refine .b fun b=>?_|refine .u fun u=>?_|refine .d ?_ ?_|(refine .g fun hg=>?_;try exact svx)|fail)
   refine S.call ?_;refine (dc1 _).mono ?_;rintro r h' ⟨rfl,hh⟩;subst hh
   (repeat' first|refine svE ⟨?_⟩|refine .b fun b=>?_|refine .u fun u=>?_|refine .d ?_ ?_|(refine .g fun hg=>?_;try exact svx)|fail)
   refine S.call ?_;refine (ac _).mono ?_;rintro r h' ⟨rfl,hh⟩;subst hh
   (repeat' first|refine svE ⟨?_⟩|refine .b fun b=>?_|refine .u fun u=>?_|refine .d ?_ ?_|(refine .g fun hg=>?_;try exact svx)|fail)
   exact fin_n (vs:=[]) (h':=.box b0 (runC s v) 135::H) ⟨rfl,rfl⟩
end Go.Proofs.YtbknacpdcdkjiaaGreat

/- A release. No condition. -/
namespace Go.Proofs.YtbknacpdcdkjiaaGreat
open Go Go.VM
set_option maxRecDepth 100000
attribute [local irreducible] PurV Pur Step RL W D ACalls Then InBlock Fini
set_option linter.unusedVariables false
set_option linter.unusedSimpArgs false
set_option maxHeartbeats 20000000
def relF (bt:Int) (p:Bool) (c:Int) (a:AC):Bool:=if p then decide (bt=0)&&(a.au||a.pa) else a.pa&&decide (a.code=c)
theorem rel1_c (b0 b3 b4 b6:Nat) (v:AV) (s:RT) (kd:KD) (i:IN) (a:AC) (H:Heap) (h0:OE.box b0 (runC s v) 135∈H) (h3:OE.box b3 [.val (.pointer (some ⟨b0,0,none⟩))] 185∈H) (h4:OE.box b4 [AV.val (.int .i64 ((i).k)),AV.val (.int .i64 ((i).c)),AV.val (.int .i64 ((i).x)),AV.val (.int .i64 ((i).y)),AV.val (.int .u32 ((i).t)),AV.val (.int .i64 ((i).n))] 47∈H) (h6:OE.box b6 kd.enc.cells 130∈H) :
  ACalls Tryz.prog 116 [a.enc,.val (.pointer (some ⟨b6,0,none⟩)),.val (.pointer (some ⟨b3,0,none⟩)),.val (.pointer (some ⟨b4,0,none⟩))] H (fun r h'=>r=AV.val (.bool (relF s.bt kd.p i.c a))∧h'=H):=by
 obtain⟨p,m,pr,rl,fn⟩:=kd
 obtain⟨acl,aw,aow,am,aau,apa,aco,ati⟩:=a
 unfold relF KD.enc AC.enc runC at *
 dsimp only
 cases p<;>cases aau<;>cases apa
 all_goals
  refine ACalls.intro Tryz.func116 rfl Tryz.ntmps116 Tryz.results116 (Nat.le_of_ble_eq_true rfl) ?_
  (repeat' first|refine svE ⟨?_⟩|refine .b fun b=>?_|refine .u fun u=>?_|refine .d ?_ ?_|(refine .g fun hg=>?_;try exact svx)|fail)
  all_goals refine fin_r (h':=H) (Q:=fun r h'=>r=_∧h'=H) ⟨?_,rfl⟩
  all_goals first|rfl|(refine congrArg (fun q=>AV.val (.bool q)) ?_;simp;done)|(refine congrArg (fun q=>AV.val (.bool q)) ?_;simp;omega)
end Go.Proofs.YtbknacpdcdkjiaaGreat

/- A key, or a button, that goes up. No condition. -/
namespace Go.Proofs.YtbknacpdcdkjiaaGreat
open Go Go.VM
set_option maxRecDepth 100000
attribute [local irreducible] PurV Pur Step RL W D ACalls Then InBlock Fini
set_option linter.unusedVariables false
set_option linter.unusedSimpArgs false
set_option maxHeartbeats 20000000
def relS (s:RT) (p:Bool) (c:Int):RT:=if (s.dv p).g&&relF s.bt p c (s.dv p).a then endF s p else s
instance tf_rel1:TFun Tryz.prog 116:=⟨by kernel_rfl⟩
theorem releaseK_c (b0:Nat) (v:Value) (s:RT) (i:IN) (Wo:List Int) (L:List SD) (H:Heap) (ok:s.Ok) (hk:i.k=2) (how:s.q.a.ow=false)
  (hw:0≤(namesF s false 2).1∧(namesF s false 2).1≤4294967295) (hl:L.length+(namesF s false 2).2.length≤1000000000) (ht:0≤i.t∧i.t≤4294967295) (hic:-1000000≤i.c∧i.c≤1000000) :
  ACalls Tryz.prog 78 [.val (.pointer (some ⟨b0,0,none⟩)),i.enc,AV.ro 1 (ints .u32 (Wo))] (.box b0 (runC s (.val v)) 135::.own v 7 (L.map SD.enc) 66::H)
   (fun r h'=>∃v' bt md ch sx sy,r=.tup []∧h'=.box b0 (runC (relS (s.bm bt md) false i.c) (.val v')) 135::.own v' 7 ((L++(namesF s false 2).2.map fun c=>(⟨c,i.k,[(namesF s false 2).1,ch,i.c,stF s,sx,sy,s.x,s.y,i.t]⟩:SD)).map SD.enc) 66::H):=by
 have kc:=fun h=>kind_c i.k h (by omega)
 have stc:=fun h=>state_c s h
 have nc:=fun H hm=>names_c b0 (.val v) s ⟨false,2,false,true,78⟩ H hm ok how
 have ec:=fun H'=>event_c b0 v s i (namesF s false 2).1 (namesF s false 2).2 (stF s) L H' ok hl hw ht
 have dn:=fun v H=>down_c b0 v s false i.c false H hic
 rw[show kdF i.k=⟨false,2,false,true,78⟩ by rw[hk];rfl] at kc
 dsimp only at nc
 generalize (namesF s false 2).1=w at *
 generalize (namesF s false 2).2=cl at *
 generalize stF s=st at *
 have nc1:=nc
 unfold runC RT.enc KD.enc at *
 rw[IN.enc_eq i] at *
 refine ACalls.intro Tryz.func78 rfl Tryz.ntmps78 Tryz.results78 (Nat.le_of_ble_eq_true rfl) ?_
 (repeat' first|refine svE ⟨?_⟩|refine .b fun b=>?_|refine .u fun u=>?_|refine .d ?_ ?_|(refine .g fun hg=>?_;try exact svx)|fail)
 refine S.call ?_;refine (kc _).mono ?_;rintro r h' ⟨rfl,hh⟩;subst hh
 (repeat' first|refine svE ⟨?_⟩|refine .b fun b=>?_|refine .u fun u=>?_|refine .d ?_ ?_|(refine .g fun hg=>?_;try exact svx)|fail)
 refine R2.C (nc _ (by (fail_if_success (apply memG));repeat (first|exact List.Mem.head _|assumption|refine List.Mem.tail _ ?_))) ?_
 (repeat' first|refine svE ⟨?_⟩|refine .b fun b=>?_|refine .u fun u=>?_|refine .d ?_ ?_|(refine .g fun hg=>?_;try exact svx)|fail)
 refine R2.C (stc _) ?_
 (repeat' first|refine svE ⟨?_⟩|refine .b fun b=>?_|refine .u fun u=>?_|refine .d ?_ ?_|(refine .g fun hg=>?_;try exact svx)|fail)
 rename_i b3 b4
 revert b;intro b6
 refine R2.melt ?_
 refine R2.B ?_
 refine Step.le (s':=⟨38,[(14,.val (.pointer (some ⟨b0,0,none⟩))),(15,.agg [AV.val (.int .i64 ((i).k)),AV.val (.int .i64 ((i).c)),AV.val (.int .i64 ((i).x)),AV.val (.int .i64 ((i).y)),AV.val (.int .u32 ((i).t)),AV.val (.int .i64 ((i).n))]),(18,.agg [AV.val (.int .u32 (w)),.ro 1 (ints .i64 cl)]),(23,AV.val (.int .i64 (st)))],.box b0 (runC s (.val v)) 135::.own v 7 (L.map SD.enc) 66::.box b6 (AV.agg [AV.val (.bool (false)),AV.val (.int .i64 (2)),AV.val (.bool (false)),AV.val (.bool (true)),.val (.func (.func 78) #[] #[])]).cells 130::.box b4 [AV.val (.int .i64 ((i).k)),AV.val (.int .i64 ((i).c)),AV.val (.int .i64 ((i).x)),AV.val (.int .i64 ((i).y)),AV.val (.int .u32 ((i).t)),AV.val (.int .i64 ((i).n))] 47::.box b3 [.val (.pointer (some ⟨b0,0,none⟩))] 185::H⟩) lee ?_
 refine S.call ?_
 refine (ec _).mono ?_
 rintro r h' ⟨v1,ch,sx,sy,rfl,hh⟩
 subst hh
 refine kd ?_
 (repeat' first|refine svE ⟨?_⟩|refine .b fun b=>?_|refine .u fun u=>?_|refine .d ?_ ?_|(refine .g fun hg=>?_;try exact svx)|fail)
 refine R2.melt ?_
 refine R2.B ?_
 refine S.call ?_
 refine (dn _ _).mono ?_
 rintro r h' ⟨bt,md,rfl,hh⟩
 subst hh
 refine kd ?_
 (repeat' first|refine svE ⟨?_⟩|refine .b fun b=>?_|refine .u fun u=>?_|refine .d ?_ ?_|(refine .g fun hg=>?_;try exact svx)|fail)
 refine S.call ?_
 refine (endif_c b0 (.val v1) (s.bm bt md) false (relF bt false i.c s.q.a) _ (Fv.clo 116 [.val (.pointer (some ⟨b6,0,none⟩)),.val (.pointer (some ⟨b3,0,none⟩)),.val (.pointer (some ⟨b4,0,none⟩))]) (fun _ b7=>rel1_c b0 b3 b4 b6 (.val v1) (s.bm bt md) ⟨false,2,false,true,78⟩ i s.q.a _ (.tail _ (.head _)) (.tail _ (.tail _ (.tail _ (.tail _ (.tail _ (.head _)))))) (.tail _ (.tail _ (.tail _ (.tail _ (.head _))))) (.tail _ (.tail _ (.tail _ (.head _)))))).mono ?_
 rintro r h' ⟨rfl,hh⟩
 subst hh
 (repeat' first|refine svE ⟨?_⟩|refine .b fun b=>?_|refine .u fun u=>?_|refine .d ?_ ?_|(refine .g fun hg=>?_;try exact svx)|fail)
 exact fin_n (vs:=[]) (h':=.box b0 (runC (relS (s.bm bt md) false i.c) (.val v1)) 135::.own v1 7 ((L++cl.map fun c=>(⟨c,i.k,[w,ch,i.c,st,sx,sy,s.x,s.y,i.t]⟩:SD)).map SD.enc) 66::H) ⟨v1,bt,md,ch,sx,sy,rfl,rfl⟩
end Go.Proofs.YtbknacpdcdkjiaaGreat

/- A button that goes up. No condition. -/
namespace Go.Proofs.YtbknacpdcdkjiaaGreat
open Go Go.VM
set_option maxRecDepth 100000
attribute [local irreducible] PurV Pur Step RL W D ACalls Then InBlock Fini
set_option linter.unusedVariables false
set_option linter.unusedSimpArgs false
set_option maxHeartbeats 20000000
theorem releaseP_c (b0:Nat) (v:Value) (s:RT) (i:IN) (Wo:List Int) (L:List SD) (H:Heap) (ok:s.Ok) (hk:i.k=4) (how:s.p.a.ow=false)
  (hw:0≤(namesF s true 8).1∧(namesF s true 8).1≤4294967295) (hl:L.length+(namesF s true 8).2.length≤1000000000) (ht:0≤i.t∧i.t≤4294967295) (hic:-1000000≤i.c∧i.c≤1000000) :
  ACalls Tryz.prog 78 [.val (.pointer (some ⟨b0,0,none⟩)),i.enc,AV.ro 1 (ints .u32 (Wo))] (.box b0 (runC s (.val v)) 135::.own v 7 (L.map SD.enc) 66::H)
   (fun r h'=>∃v' bt md ch sx sy,r=.tup []∧h'=.box b0 (runC (relS (s.bm bt md) true i.c) (.val v')) 135::.own v' 7 ((L++(namesF s true 8).2.map fun c=>(⟨c,i.k,[(namesF s true 8).1,ch,i.c,stF s,sx,sy,s.x,s.y,i.t]⟩:SD)).map SD.enc) 66::H):=by
 have kc:=fun h=>kind_c i.k h (by omega)
 have stc:=fun h=>state_c s h
 have nc:=fun H hm=>names_c b0 (.val v) s ⟨true,8,false,true,78⟩ H hm ok how
 have ec:=fun H'=>event_c b0 v s i (namesF s true 8).1 (namesF s true 8).2 (stF s) L H' ok hl hw ht
 have dn:=fun v H=>down_c b0 v s true i.c false H hic
 rw[show kdF i.k=⟨true,8,false,true,78⟩ by rw[hk];rfl] at kc
 dsimp only at nc
 generalize (namesF s true 8).1=w at *
 generalize (namesF s true 8).2=cl at *
 generalize stF s=st at *
 have nc1:=nc
 unfold runC RT.enc KD.enc at *
 rw[IN.enc_eq i] at *
 refine ACalls.intro Tryz.func78 rfl Tryz.ntmps78 Tryz.results78 (Nat.le_of_ble_eq_true rfl) ?_
 (repeat' first|refine svE ⟨?_⟩|refine .b fun b=>?_|refine .u fun u=>?_|refine .d ?_ ?_|(refine .g fun hg=>?_;try exact svx)|fail)
 refine S.call ?_;refine (kc _).mono ?_;rintro r h' ⟨rfl,hh⟩;subst hh
 (repeat' first|refine svE ⟨?_⟩|refine .b fun b=>?_|refine .u fun u=>?_|refine .d ?_ ?_|(refine .g fun hg=>?_;try exact svx)|fail)
 refine R2.C (nc _ (by (fail_if_success (apply memG));repeat (first|exact List.Mem.head _|assumption|refine List.Mem.tail _ ?_))) ?_
 (repeat' first|refine svE ⟨?_⟩|refine .b fun b=>?_|refine .u fun u=>?_|refine .d ?_ ?_|(refine .g fun hg=>?_;try exact svx)|fail)
 refine R2.C (stc _) ?_
 (repeat' first|refine svE ⟨?_⟩|refine .b fun b=>?_|refine .u fun u=>?_|refine .d ?_ ?_|(refine .g fun hg=>?_;try exact svx)|fail)
 rename_i b3 b4
 revert b;intro b6
 refine R2.melt ?_
 refine R2.B ?_
 refine Step.le (s':=⟨38,[(14,.val (.pointer (some ⟨b0,0,none⟩))),(15,.agg [AV.val (.int .i64 ((i).k)),AV.val (.int .i64 ((i).c)),AV.val (.int .i64 ((i).x)),AV.val (.int .i64 ((i).y)),AV.val (.int .u32 ((i).t)),AV.val (.int .i64 ((i).n))]),(18,.agg [AV.val (.int .u32 (w)),.ro 1 (ints .i64 cl)]),(23,AV.val (.int .i64 (st)))],.box b0 (runC s (.val v)) 135::.own v 7 (L.map SD.enc) 66::.box b6 (AV.agg [AV.val (.bool (true)),AV.val (.int .i64 (8)),AV.val (.bool (false)),AV.val (.bool (true)),.val (.func (.func 78) #[] #[])]).cells 130::.box b4 [AV.val (.int .i64 ((i).k)),AV.val (.int .i64 ((i).c)),AV.val (.int .i64 ((i).x)),AV.val (.int .i64 ((i).y)),AV.val (.int .u32 ((i).t)),AV.val (.int .i64 ((i).n))] 47::.box b3 [.val (.pointer (some ⟨b0,0,none⟩))] 185::H⟩) lee ?_
 refine S.call ?_
 refine (ec _).mono ?_
 rintro r h' ⟨v1,ch,sx,sy,rfl,hh⟩
 subst hh
 refine kd ?_
 (repeat' first|refine svE ⟨?_⟩|refine .b fun b=>?_|refine .u fun u=>?_|refine .d ?_ ?_|(refine .g fun hg=>?_;try exact svx)|fail)
 refine R2.melt ?_
 refine R2.B ?_
 refine S.call ?_
 refine (dn _ _).mono ?_
 rintro r h' ⟨bt,md,rfl,hh⟩
 subst hh
 refine kd ?_
 (repeat' first|refine svE ⟨?_⟩|refine .b fun b=>?_|refine .u fun u=>?_|refine .d ?_ ?_|(refine .g fun hg=>?_;try exact svx)|fail)
 refine S.call ?_
 refine (endif_c b0 (.val v1) (s.bm bt md) true (relF bt true i.c s.p.a) _ (Fv.clo 116 [.val (.pointer (some ⟨b6,0,none⟩)),.val (.pointer (some ⟨b3,0,none⟩)),.val (.pointer (some ⟨b4,0,none⟩))]) (fun _ b7=>rel1_c b0 b3 b4 b6 (.val v1) (s.bm bt md) ⟨true,8,false,true,78⟩ i s.p.a _ (.tail _ (.head _)) (.tail _ (.tail _ (.tail _ (.tail _ (.tail _ (.head _)))))) (.tail _ (.tail _ (.tail _ (.tail _ (.head _))))) (.tail _ (.tail _ (.tail _ (.head _)))))).mono ?_
 rintro r h' ⟨rfl,hh⟩
 subst hh
 (repeat' first|refine svE ⟨?_⟩|refine .b fun b=>?_|refine .u fun u=>?_|refine .d ?_ ?_|(refine .g fun hg=>?_;try exact svx)|fail)
 exact fin_n (vs:=[]) (h':=.box b0 (runC (relS (s.bm bt md) true i.c) (.val v1)) 135::.own v1 7 ((L++cl.map fun c=>(⟨c,i.k,[w,ch,i.c,st,sx,sy,s.x,s.y,i.t]⟩:SD)).map SD.enc) 66::H) ⟨v1,bt,md,ch,sx,sy,rfl,rfl⟩
end Go.Proofs.YtbknacpdcdkjiaaGreat

/- A time from a grab's to now. No condition. -/
namespace Go.Proofs.YtbknacpdcdkjiaaGreat
open Go Go.VM
set_option maxRecDepth 100000
attribute [local irreducible] PurV Pur Step RL W D ACalls Then InBlock Fini
set_option linter.unusedVariables false
set_option linter.unusedSimpArgs false
set_option maxHeartbeats 20000000
theorem since0_c (s:RT) (a:AC) (h:Heap):ACalls Tryz.prog 54 [s.enc,a.enc,AV.val (.int .u32 (0))] h (fun r h'=>r=AV.val (.bool (decide (a.time≤s.nw)))∧h'=h):=by
 unfold RT.enc AC.enc
 by_cases ha:a.time≤s.nw
 ·rw[decide_eq_true ha]
  refine ACalls.intro Tryz.func54 rfl Tryz.ntmps54 Tryz.results54 (Nat.le_of_ble_eq_true rfl) ?_
  (repeat' first|refine svE ⟨?_⟩|refine .b fun b=>?_|refine .u fun u=>?_|refine .d ?_ ?_|(refine .g fun hg=>?_;try exact svx)|fail)
  all_goals first|(exfalso;omega)|skip
  all_goals refine fin_r (h':=h) (Q:=fun r h'=>r=_∧h'=h) ⟨?_,rfl⟩
  all_goals first|rfl|(refine congrArg (fun q=>AV.val (.bool q)) ?_;simp;done)|(refine congrArg (fun q=>AV.val (.bool q)) ?_;simp;omega)
 ·rw[decide_eq_false ha]
  refine ACalls.intro Tryz.func54 rfl Tryz.ntmps54 Tryz.results54 (Nat.le_of_ble_eq_true rfl) ?_
  (repeat' first|refine svE ⟨?_⟩|refine .b fun b=>?_|refine .u fun u=>?_|refine .d ?_ ?_|(refine .g fun hg=>?_;try exact svx)|fail)
  all_goals first|(exfalso;omega)|skip
  all_goals refine fin_r (h':=h) (Q:=fun r h'=>r=_∧h'=h) ⟨?_,rfl⟩
  all_goals first|rfl|(refine congrArg (fun q=>AV.val (.bool q)) ?_;simp;done)|(refine congrArg (fun q=>AV.val (.bool q)) ?_;simp;omega)
end Go.Proofs.YtbknacpdcdkjiaaGreat
