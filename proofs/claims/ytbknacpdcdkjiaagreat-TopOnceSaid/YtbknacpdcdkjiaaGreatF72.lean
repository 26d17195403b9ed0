import Derived.Test.YtbknacpdcdkjiaaGreatF64
import Derived.Test.YtbknacpdcdkjiaaGreatF53
import Derived.Test.YtbknacpdcdkjiaaGreatF71
/- What a device does: any input. No condition. -/
namespace Go.Proofs.YtbknacpdcdkjiaaGreat
open Go Go.VM
set_option maxRecDepth 100000
attribute [local irreducible] PurV Pur Step RL W D ACalls Then InBlock Fini
set_option linter.unusedVariables false
set_option linter.unusedSimpArgs false
set_option maxHeartbeats 20000000
theorem stepn2 (Inv:RT→List SD→Prop) (hb:∀s L,Inv s L→s.p.ws.length≤1000000∧s.q.ws.length≤1000000)
  (hs:∀s L p n i,Inv s L→pickF s=some (p,n,i)→TakC 96 (s.setd p (hldF (s.dv p) n i)) i [] L (fun s' l=>Inv s' (L++l)∧s'.wts<s.wts))
  (s:RT) (i:IN) (h:Heap) (hk:i.k=2∧1≤i.c∧i.c<248) (ht:0≤i.t∧i.t<2147483648) (hnw:0≤s.nw∧s.nw<2147483648) (hct:0≤s.ct∧s.ct<1000000) (hw:s.q.ws.length<256) (hi:Inv (fedF s false i) []) :
  ACalls Tryz.prog 11 [s.enc,i.enc] h (StR Inv s h):=by
 have kc:=fun h=>kind_c i.k h (by omega);rw[show kdF i.k=⟨false,2,false,true,78⟩ by rw[hk.1];rfl] at kc;have cok:=fun h=>codeok_c ⟨false,2,false,true,78⟩ i.c h;rw[show witF ⟨false,2,false,true,78⟩ i.c=true by unfold witF;simp;omega] at cok;have dc:=fun b h=>device_c b false h;have fd:=fun h=>feed_c s.q (i.num (s.ct+1)) h hw;have al:=fun b0 v H=>all_c Inv hb hs b0 v (fedF s false i) [] H hi;have dn:=fun b0 v s L H=>done_c b0 v s L H;clear hb hs hi;unfold RT.enc runH runC KD.enc DV.enc fedF RT.cn RT.setd RT.dv DV.wait at *;rw[IN.enc_eq] at *;dsimp only at kc cok;refine ACalls.intro Tryz.func11 rfl Tryz.ntmps11 Tryz.results11 (Nat.le_of_ble_eq_true rfl) ?_;refine W.nil_ 7 66 ?_;(repeat' first|refine svE ⟨?_⟩|refine .b fun b=>?_|refine .u fun u=>?_|refine .d ?_ ?_|(refine .g fun hg=>?_;try exact svx)|fail);refine S.call ?_;refine (kc _).mono ?_;rintro r h' ⟨rfl,hh⟩;subst hh;(repeat' first|refine svE ⟨?_⟩|refine .b fun b=>?_|refine .u fun u=>?_|refine .d ?_ ?_|(refine .g fun hg=>?_;try exact svx)|fail);refine S.call ?_;refine (cok _).mono ?_;rintro r h' ⟨rfl,hh⟩;subst hh;(repeat' first|refine svE ⟨?_⟩|refine .b fun b=>?_|refine .u fun u=>?_|refine .d ?_ ?_|(refine .g fun hg=>?_;try exact svx)|fail);rename_i b2 b3 b4 b7;revert b;intro b9
 refine S.call ?_;refine (dc _ _).mono ?_;rintro r h' ⟨rfl,hh⟩;subst hh;(repeat' first|refine svE ⟨?_⟩|refine .b fun b=>?_|refine .u fun u=>?_|refine .d ?_ ?_|(refine .g fun hg=>?_;try exact svx)|fail);refine R2.C (fd _) ?_;(repeat' first|refine svE ⟨?_⟩|refine .b fun b=>?_|refine .u fun u=>?_|refine .d ?_ ?_|(refine .g fun hg=>?_;try exact svx)|fail);refine S.store_any ?_ (hl:=Nat.le_of_ble_eq_true rfl);(repeat' first|refine svE ⟨?_⟩|refine .b fun b=>?_|refine .u fun u=>?_|refine .d ?_ ?_|(refine .g fun hg=>?_;try exact svx)|fail);refine Step.le (s':=⟨108,[(9,.val (.pointer (some ⟨b9,0,none⟩))),(4,.val (.pointer (some ⟨b4,0,none⟩)))],.box b9 (runC (fedF s false i) (.val (.slice none 0 0))) 135::.own (.slice none 0 0) 7 (([]:List SD).map SD.enc) 66::.box b4 _ 52::h⟩) lee ?_;refine S.call ?_;refine (al _ _ _).mono ?_;rintro r h' ⟨v1,s1,L1,hI,hn,rfl,hh⟩;subst hh;(repeat' first|refine svE ⟨?_⟩|refine .b fun b=>?_|refine .u fun u=>?_|refine .d ?_ ?_|(refine .g fun hg=>?_;try exact svx)|fail);refine S.call ?_;refine (dn _ _ _ _ _).mono ?_;rintro r h' ⟨rfl,hh⟩;subst hh;(repeat' first|refine svE ⟨?_⟩|refine .b fun b=>?_|refine .u fun u=>?_|refine .d ?_ ?_|(refine .g fun hg=>?_;try exact svx)|fail);exact fin_r (h':=.own v1 7 (L1.map SD.enc) 66::h) (stR_ok hI hn)
theorem kind_no2 (k:Int) (h:Heap) (hk:k<1∨5<k):ACalls Tryz.prog 36 [AV.val (.int .i64 (k))] h (fun r h'=>(∃w:Value,r=.tup [.agg [AV.val (.bool (false)),AV.val (.int .i64 (0)),AV.val (.bool (false)),AV.val (.bool (false)),.val w],AV.val (.bool (false))])∧h'=h):=by
 refine ACalls.intro Tryz.func36 rfl Tryz.ntmps36 Tryz.results36 (Nat.le_of_ble_eq_true rfl) ?_
 (repeat' first|refine svE ⟨?_⟩|refine .b fun b=>?_|refine .u fun u=>?_|refine .d ?_ ?_|(refine .g fun hg=>?_;try exact svx)|fail)
 refine step_v (pur_buildark (by repeat (first|exact EvalP.nil|(apply EvalP.cons;rfl))) rfl) rfl ?_
 (repeat' first|refine svE ⟨?_⟩|refine .b fun b=>?_|refine .u fun u=>?_|refine .d ?_ ?_|(refine .g fun hg=>?_;try exact svx)|fail)
 all_goals exact fin_r (h':=h) (Q:=fun r h'=>(∃w:Value,r=.tup [.agg [AV.val (.bool (false)),AV.val (.int .i64 (0)),AV.val (.bool (false)),AV.val (.bool (false)),.val w],AV.val (.bool (false))])∧h'=h) ⟨⟨_,rfl⟩,rfl⟩
theorem stepe1 (Inv:RT→List SD→Prop) (s:RT) (i:IN) (h:Heap) (hk:i.k<1∨5<i.k) :
  ACalls Tryz.prog 11 [s.enc,i.enc] h (StR Inv s h):=by
 have kn:=fun h=>kind_no2 i.k h hk
 unfold RT.enc at *
 rw[IN.enc_eq] at *
 refine ACalls.intro Tryz.func11 rfl Tryz.ntmps11 Tryz.results11 (Nat.le_of_ble_eq_true rfl) ?_
 refine W.nil_ 7 66 ?_
 (repeat' first|refine svE ⟨?_⟩|refine .b fun b=>?_|refine .u fun u=>?_|refine .d ?_ ?_|(refine .g fun hg=>?_;try exact svx)|fail)
 refine S.call ?_
 refine (kn _).mono ?_
 rintro r h' ⟨⟨w,rfl⟩,hh⟩
 subst hh
 (repeat' first|refine svE ⟨?_⟩|refine .b fun b=>?_|refine .u fun u=>?_|refine .d ?_ ?_|(refine .g fun hg=>?_;try exact svx)|fail)
 exact fin_r (h':=.own (.slice none 0 0) 7 (([]:List SD).map SD.enc) 66::h) (stR_err (e:=10) (by decide))
theorem stepe2 (Inv:RT→List SD→Prop) (s:RT) (i:IN) (h:Heap) (hk:1≤i.k∧i.k≤5) (hwi:witF (kdF i.k) i.c=false) :
  ACalls Tryz.prog 11 [s.enc,i.enc] h (StR Inv s h):=by
 have kc:=fun h=>kind_c i.k h hk
 have cok:=fun h=>codeok_c (kdF i.k) i.c h
 rw[hwi] at cok
 clear hwi
 generalize kdF i.k=kd at *
 obtain⟨kp,km,kpr,krl,kfn⟩:=kd
 unfold RT.enc KD.enc at *
 rw[IN.enc_eq] at *
 dsimp only at kc cok
 refine ACalls.intro Tryz.func11 rfl Tryz.ntmps11 Tryz.results11 (Nat.le_of_ble_eq_true rfl) ?_
 refine W.nil_ 7 66 ?_
 (repeat' first|refine svE ⟨?_⟩|refine .b fun b=>?_|refine .u fun u=>?_|refine .d ?_ ?_|(refine .g fun hg=>?_;try exact svx)|fail)
 refine S.call ?_;refine (kc _).mono ?_;rintro r h' ⟨rfl,hh⟩;subst hh
 (repeat' first|refine svE ⟨?_⟩|refine .b fun b=>?_|refine .u fun u=>?_|refine .d ?_ ?_|(refine .g fun hg=>?_;try exact svx)|fail)
 refine S.call ?_;refine (cok _).mono ?_;rintro r h' ⟨rfl,hh⟩;subst hh
 (repeat' first|refine svE ⟨?_⟩|refine .b fun b=>?_|refine .u fun u=>?_|refine .d ?_ ?_|(refine .g fun hg=>?_;try exact svx)|fail)
 exact fin_r (h':=.own (.slice none 0 0) 7 (([]:List SD).map SD.enc) 66::h) (stR_err (e:=1) (by decide))
theorem stepe3 (Inv:RT→List SD→Prop) (s:RT) (i:IN) (h:Heap) (hk:1≤i.k∧i.k≤5) (hwi:witF (kdF i.k) i.c=true) (ht:2147483648≤i.t) :
  ACalls Tryz.prog 11 [s.enc,i.enc] h (StR Inv s h):=by
 have kc:=fun h=>kind_c i.k h hk
 have cok:=fun h=>codeok_c (kdF i.k) i.c h
 rw[hwi] at cok
 clear hwi
 generalize kdF i.k=kd at *
 obtain⟨kp,km,kpr,krl,kfn⟩:=kd
 unfold RT.enc KD.enc at *
 rw[IN.enc_eq] at *
 dsimp only at kc cok
 refine ACalls.intro Tryz.func11 rfl Tryz.ntmps11 Tryz.results11 (Nat.le_of_ble_eq_true rfl) ?_
 refine W.nil_ 7 66 ?_
 (repeat' first|refine svE ⟨?_⟩|refine .b fun b=>?_|refine .u fun u=>?_|refine .d ?_ ?_|(refine .g fun hg=>?_;try exact svx)|fail)
 refine S.call ?_;refine (kc _).mono ?_;rintro r h' ⟨rfl,hh⟩;subst hh
 (repeat' first|refine svE ⟨?_⟩|refine .b fun b=>?_|refine .u fun u=>?_|refine .d ?_ ?_|(refine .g fun hg=>?_;try exact svx)|fail)
 refine S.call ?_;refine (cok _).mono ?_;rintro r h' ⟨rfl,hh⟩;subst hh
 (repeat' first|refine svE ⟨?_⟩|refine .b fun b=>?_|refine .u fun u=>?_|refine .d ?_ ?_|(refine .g fun hg=>?_;try exact svx)|fail)
 exact fin_r (h':=.own (.slice none 0 0) 7 (([]:List SD).map SD.enc) 66::h) (stR_err (e:=18) (by decide))
def InW (i:IN):Prop:=(1≤i.k∧i.k≤5)∧(0≤i.c∧i.c≤255)∧(0≤i.t∧i.t<2147483648)
theorem stepAny_c (Inv:RT→List SD→Prop) (hb:∀s L,Inv s L→s.p.ws.length≤1000000∧s.q.ws.length≤1000000)
  (hs:∀s L p n i,Inv s L→pickF s=some (p,n,i)→TakC 96 (s.setd p (hldF (s.dv p) n i)) i [] L (fun s' l=>Inv s' (L++l)∧s'.wts<s.wts))
  (s:RT) (i:IN) (h:Heap) (ht:0≤i.t) (hnw:0≤s.nw∧s.nw<2147483648) (hct:0≤s.ct∧s.ct<1000000) (hw:∀p,(s.dv p).ws.length<256) (hq:∀p,∀j∈(s.dv p).ws,(1≤j.k∧j.k≤5)∧(-1000000≤j.c∧j.c≤1000000)) (hi:InW i→Inv (fedF s (decide (3≤i.k)) i) []) :
  ACalls Tryz.prog 11 [s.enc,i.enc] h (fun r h'=>(∃s' L e,((e≠0∧s'=s∧L=[])∨(e=0∧Inv s' L∧pickF s'=none))∧r=.tup [s'.enc,.ro 7 (L.map SD.enc),AV.val (.int .i64 (e))])∧h'=h):=by
 suffices hh:ACalls Tryz.prog 11 [s.enc,i.enc] h (StR Inv s h) by
  refine hh.frzo ?_
  rintro r h' ⟨v,s',L,e,hc,rfl,rfl⟩
  exact .inr ⟨v,7,_,_,_,h,.here,.tupc (.keep _) (.tupc .hit (.keep _)),⟨s',L,e,hc,rfl⟩,rfl⟩
 by_cases hk:i.k<1∨5<i.k
 ·exact stepe1 Inv s i h hk
 have hk:1≤i.k∧i.k≤5:=by omega
 cases hwi:witF (kdF i.k) i.c with
 | false=>exact stepe2 Inv s i h hk hwi
 | true=>
  by_cases ht2:2147483648≤i.t
  ·exact stepe3 Inv s i h hk hwi ht2
  have ht':0≤i.t∧i.t<2147483648:=⟨ht,by omega⟩
  obtain e|e|e|e|e:i.k=1∨i.k=2∨i.k=3∨i.k=4∨i.k=5:=by omega
  ·have hc:1≤i.c∧i.c≤255:=by rw[e] at hwi;simpa[witF,kdF] using hwi
   have hi':Inv (fedF s false i) []:=by have:=hi ⟨hk,⟨by omega,by omega⟩,ht'⟩;rwa[decide_eq_false (by omega)] at this
   by_cases h2:i.c<248
   ·refine (step1_c0 Inv hb hs s i h e ⟨hc.1,h2⟩ ht' hnw hct (hw false) hi').mono ?_
    rintro r h' ⟨v,s',L,k1,k2,rfl,rfl⟩
    exact stR_ok k1 k2
   ·exact stepc1 Inv hb hs s i h ⟨e,by omega,hc.2⟩ ht' hnw hct (hw false) (hq false) hi'
  ·have hc:1≤i.c∧i.c≤255:=by rw[e] at hwi;simpa[witF,kdF] using hwi
   have hi':Inv (fedF s false i) []:=by have:=hi ⟨hk,⟨by omega,by omega⟩,ht'⟩;rwa[decide_eq_false (by omega)] at this
   by_cases h2:i.c<248
   ·exact stepn2 Inv hb hs s i h ⟨e,hc.1,h2⟩ ht' hnw hct (hw false) hi'
   ·exact stepc2 Inv hb hs s i h ⟨e,by omega,hc.2⟩ ht' hnw hct (hw false) (hq false) hi'
  ·have hc:1≤i.c∧i.c≤5:=by rw[e] at hwi;simpa[witF,kdF] using hwi
   have hi':Inv (fedF s true i) []:=by have:=hi ⟨hk,⟨by omega,by omega⟩,ht'⟩;rwa[decide_eq_true (by omega)] at this
   exact stepc3 Inv hb hs s i h ⟨e,hc⟩ ht' hnw hct (hw true) (hq true) hi'
  ·have hc:1≤i.c∧i.c≤5:=by rw[e] at hwi;simpa[witF,kdF] using hwi
   have hi':Inv (fedF s true i) []:=by have:=hi ⟨hk,⟨by omega,by omega⟩,ht'⟩;rwa[decide_eq_true (by omega)] at this
   exact stepc4 Inv hb hs s i h ⟨e,hc⟩ ht' hnw hct (hw true) (hq true) hi'
  ·have hc:i.c=0:=by rw[e] at hwi;simpa[witF,kdF] using hwi
   have hi':Inv (fedF s true i) []:=by have:=hi ⟨hk,⟨by omega,by omega⟩,ht'⟩;rwa[decide_eq_true (by omega)] at this
   refine (step5_c0 Inv hb hs s i h e hc ht' hnw hct (hw true) hi').mono ?_
   rintro r h' ⟨v,s',L,k1,k2,rfl,rfl⟩
   exact stR_ok k1 k2
end Go.Proofs.YtbknacpdcdkjiaaGreat

/- What each act of TopOnce does. No condition. -/
namespace Go.Proofs.YtbknacpdcdkjiaaGreat
open Go Go.VM
set_option maxRecDepth 100000
set_option linter.unusedVariables false
set_option linter.unusedSimpArgs false
set_option linter.unusedSectionVars false
set_option maxHeartbeats 4000000
structure PI (gr:Bool) (s:RT) (Ls:List SD) (T:List IN):Prop where
 om:OM gr s
 nx:pickF s=none
 good:∀d∈Ls,SdOk gr d
 cons:∀p,trip p Ls++wtr (s.dv p)=tkn p T
 len:Ls.length+s.wts=T.length
 ct:s.ct=T.length
 tt:∀i∈T,0≤i.t∧i.t≤4294967295
theorem PI.of_ai {gr:Bool} {fl:Bool→Bool} {s s0 s':RT} {Ls L:List SD} {T T':List IN} (h:PI gr s Ls T) (a:AI gr fl s0 s' L) (hn:pickF s'=none) (X:Bool→List TR)
  (hw:∀q,wtr (s0.dv q)=wtr (s.dv q)++X q) (ht:∀q,tkn q T'=tkn q T++X q) (m:Nat) (h1:s0.wts=s.wts+m) (h2:T'.length=T.length+m) (h3:s0.ct=s.ct+m) (hT:∀i∈T',0≤i.t∧i.t≤4294967295):PI gr s' (Ls++L) T':=by
 refine⟨a.om,hn,fun d hd=>?_,fun q=>?_,?_,?_,hT⟩
 ·rcases List.mem_append.1 hd with hd|hd
  ·exact h.good d hd
  ·exact a.good d hd
 ·rw[trip_app,List.append_assoc,a.cons q,hw q,←List.append_assoc,h.cons q,ht q]
 ·have:=a.len
  have:=h.len
  rw[List.length_append];omega
 ·have:=h.ct
  rw[a.ct,h3,this,h2];push_cast;rfl
theorem AI.emp {gr:Bool} {fl:Bool→Bool} {s0 s:RT} {L:List SD} (h:AI gr fl s0 s L) {q:Bool} (he:(s0.dv q).ws=[]):(s.dv q).ws=[]:=by
 have:=h.cons q
 unfold wtr at this
 rw[he,List.map_nil] at this
 exact List.map_eq_nil_iff.1 (List.append_eq_nil_iff.1 this).2
theorem DM.up {gr p:Bool} {nw nw':Int} {d:DV} (h:DM gr p nw d) (hn:nw≤nw'):DM gr p nw' d:=by
 unfold DM at *
 cases gr with
 | true=>rw[if_pos rfl] at *;exact⟨h.g,h.cl,h.w,h.ow,h.mask,h.au,h.pa,h.time.1,by have:=h.time.2;omega⟩
 | false=>rw[if_neg (by decide)] at *;exact h
theorem DM.wait {gr p:Bool} {nw:Int} {d:DV} (h:DM gr p nw d) (l:List IN):DM gr p nw (d.wait l):=by
 unfold DM at *
 cases gr with
 | true=>rw[if_pos rfl] at *;exact⟨h.g,h.cl,h.w,h.ow,h.mask,h.au,h.pa,h.time⟩
 | false=>rw[if_neg (by decide)] at *;exact⟨h.f,h.s,h.ow,h.w,h.g⟩
theorem fed_dv (s:RT) (p q:Bool) (i:IN):(fedF s p i).dv q=if q=p then (s.dv p).wait ((s.dv p).ws++[i.num (s.ct+1)]) else s.dv q:=by cases p<;>cases q<;>rfl
theorem OM.fed {gr:Bool} {s:RT} (h:OM gr s) {i:IN} {p:Bool} (hp:decide (3≤i.k)=p) (hi:InW i) (hx:I64 i.x) (hy:I64 i.y) (hc:s.ct≤900):OM gr (fedF s p i):=by
 obtain⟨hk,hcc,ht⟩:=hi
 have hnw:=h.nw
 have hct:=h.ct
 have enw:(fedF s p i).nw=max s.nw i.t:=by cases p<;>rfl
 have ect:(fedF s p i).ct=s.ct+1:=by cases p<;>rfl
 have e:∀{α:Type} (f:RT→α),(∀s q d a b,f ((s.setd q d).cn a b)=f s)→f (fedF s p i)=f s:=fun f hf=>hf _ _ _ _ _
 refine⟨(e RT.k (fun s q d a b=>by cases q<;>rfl)).trans h.k,(e RT.up (fun s q d a b=>by cases q<;>rfl)).trans h.up,(e RT.o (fun s q d a b=>by cases q<;>rfl)).trans h.o,(e RT.V (fun s q d a b=>by cases q<;>rfl)).trans h.V,(e RT.M (fun s q d a b=>by cases q<;>rfl)).trans h.M,(e RT.N (fun s q d a b=>by cases q<;>rfl)).trans h.N,(e RT.fw (fun s q d a b=>by cases q<;>rfl)).trans h.fw,?_,?_,?_,fun q j hj=>?_,fun q=>?_⟩
 ·rw[e RT.un (fun s q d a b=>by cases q<;>rfl)];exact h.un
 ·rw[enw];omega
 ·rw[ect];omega
 ·rw[fed_dv] at hj
  split at hj
  ·next q1=>
   subst q1
   rcases List.mem_append.1 (show j∈(s.dv q).ws++[i.num (s.ct+1)] from hj) with hj|hj
   ·exact h.qs q j hj
   ·rw[List.mem_singleton.1 hj]
    exact⟨hk,hp,hcc,ht,hx,hy⟩
  ·exact h.qs q j hj
 ·rw[enw,fed_dv]
  split
  ·next q1=>subst q1;exact ((h.dm q).wait _).up (by omega)
  ·exact (h.dm q).up (by omega)
theorem fed_wts (s:RT) (p:Bool) (i:IN):(fedF s p i).wts=s.wts+1:=by
 have h1:=wts_dv (fedF s p i) p
 have h2:=wts_dv s p
 rw[fed_dv,fed_dv,if_pos rfl,if_neg (by cases p<;>decide)] at h1
 have:((s.dv p).wait ((s.dv p).ws++[i.num (s.ct+1)])).ws.length=(s.dv p).ws.length+1:=by
  show ((s.dv p).ws++[i.num (s.ct+1)]).length=_
  rw[List.length_append];rfl
 omega
theorem AI.start {gr:Bool} {fl:Bool→Bool} {s:RT} (h:OM gr s) (hf:∀p,fl p=true→(s.dv p).f=false∧(s.dv p).s=false):AI gr fl s s []:=⟨h,(fun d hd=>by cases hd),fun p=>rfl,Nat.zero_add _,rfl,rfl,hf⟩
theorem once_step {gr:Bool} {s:RT} {Ls:List SD} {T:List IN} (k:PI gr s Ls T) (hT:T.length≤100) (i:IN) (h:Heap) (hx:I64 i.x) (hy:I64 i.y) (ht:0≤i.t∧i.t≤4294967295) :
  ACalls Tryz.prog 11 [s.enc,i.enc] h (fun r h'=>(∃s' L e,((e≠0∧s'=s∧L=[])∨(e=0∧PI gr s' (Ls++L) (T++[i])))∧r=.tup [s'.enc,.ro 7 (L.map SD.enc),AV.val (.int .i64 (e))])∧h'=h):=by
 obtain⟨p,hp⟩:∃p,decide (3≤i.k)=p:=⟨_,rfl⟩
 have hl:=k.len
 have hct:=k.ct
 have hw:∀p,(s.dv p).ws.length≤s.wts:=fun p=>by rw[wts_dv s p];omega
 have hfw:=fed_wts s p i
 refine (stepAny_c (fun s' L=>AI gr (fun _=>false) (fedF s p i) s' L∧InW i) (fun s' L a=>?_) (fun s' L q n j a hq=>?_) s i h ht.1 k.om.nw ⟨k.om.ct.1,by have:=k.om.ct;omega⟩ (fun q=>by have:=hw q;omega) (fun q j hj=>?_) (fun hi=>?_)).mono ?_
 ·have:=a.1.len
  have h1:s'.wts=s'.p.ws.length+s'.q.ws.length:=rfl
  omega
 ·exact (a.1.next hq (by omega)).mono fun s2 l ⟨b1,b2⟩=>⟨⟨b1,a.2⟩,b2⟩
 ·have:=k.om.qs q j hj
  exact⟨this.k,by have:=this.c;omega⟩
 ·rw[hp]
  exact⟨AI.start (k.om.fed hp hi hx hy (by omega)) (fun q e=>nomatch e),hi⟩
 ·rintro r h' ⟨⟨s',L,e,hc,rfl⟩,rfl⟩
  refine⟨⟨s',L,e,?_,rfl⟩,rfl⟩
  rcases hc with hc|⟨e0,⟨a,hi⟩,hn⟩
  ·exact .inl hc
  ·refine .inr ⟨e0,k.of_ai a hn (fun q=>if q=p then [inT i] else []) (fun q=>?_) (fun q=>?_) 1 hfw (by rw[List.length_append];rfl) (by cases p<;>rfl) (fun j hj=>?_)⟩
   ·rw[fed_dv]
    split
    ·next q1=>subst q1;unfold wtr;show ((s.dv q).ws++[i.num (s.ct+1)]).map inT=_;rw[List.map_append];rfl
    ·rw[List.append_nil]
   ·rw[tkn_app]
    congr 1
    unfold tkn inP
    rw[List.filter_cons,hp,List.filter_nil]
    by_cases e:q=p
    ·rw[if_pos (decide_eq_true e.symm),if_pos e];rfl
    ·rw[if_neg (by simp[Ne.symm e]),if_neg e];rfl
   ·rcases List.mem_append.1 hj with hj|hj
    ·exact k.tt j hj
    ·rw[List.mem_singleton.1 hj];exact ht
theorem st0_root:(lkF (vwF k0 up0 t0) 1).isSome=true:=by
 obtain⟨_,_,s,h2,_⟩:=om_pw.onP (w:=12) (h:=9) rfl (x:=1) (y:=1) (by omega) (by omega)
 rw[st0_look] at h2
 rw[h2];rfl
theorem next_none {d:DV} (h:d.f=true):d.next=none:=by
 unfold DV.next
 split
 ·rfl
 ·rw[if_pos h]
theorem pick_none {s:RT} (h1:s.p.next=none) (h2:s.q.next=none):pickF s=none:=by
 unfold pickF
 rw[h1,h2]
theorem ga_gd (d:DV) (nw:Int) (f:Bool) (h:0≤nw):GD nw (d.begin (gaA nw) f):=⟨rfl,rfl,rfl,rfl,rfl,rfl,rfl,h,Int.le_refl _⟩
theorem PI.same {gr:Bool} {s s2:RT} {Ls:List SD} {T:List IN} (k:PI gr s Ls T) (o:OM gr s2) (hn:pickF s2=none) (hw:∀q,(s2.dv q).ws=(s.dv q).ws) (hc:s2.ct=s.ct):PI gr s2 Ls T:=by
 have:=k.of_ai (fl:=fun _=>false) (AI.start o (fun q e=>nomatch e)) hn (fun _=>[]) (fun q=>by unfold wtr;rw[hw q,List.append_nil]) (T':=T) (fun q=>by rw[List.append_nil]) 0 (by rw[wts_dv s2 true,wts_dv s true,hw,hw];rfl) rfl (by rw[hc];simp) k.tt
 rwa[List.append_nil] at this
theorem once_grab {s:RT} {Ls:List SD} {T:List IN} (k:PI true s Ls T) (hT:T.length≤100) (p:Bool) (h:Heap) :
  ACalls Tryz.prog 21 [s.enc,AV.val (.bool (p)),(gaA 0).enc,AV.val (.int .i64 (1)),AV.val (.int .i64 (1))] h (fun r h'=>(∃s',PI true s' Ls T∧r=.tup [s'.enc,AV.val (.int .i64 (0)),.ro 7 []])∧h'=h):=by
 have hl:=k.len
 have hw:=wts_dv s true
 have d1:GD s.nw (s.dv true):=by have:=k.om.dm true;unfold DM at this;rwa[if_pos rfl] at this
 have d2:GD s.nw (s.dv false):=by have:=k.om.dm false;unfold DM at this;rwa[if_pos rfl] at this
 have hv:(lkF s.V 1).isSome=true:=by rw[k.om.V];exact st0_root
 have hlw:s.p.ws.length≤1000000∧s.q.ws.length≤1000000:=by
  have:s.wts=s.p.ws.length+s.q.ws.length:=rfl
  omega
 have hd:∀d:DV,DM true true s.nw (d.begin (gaA s.nw) true)∧DM true false s.nw (d.begin (gaA s.nw) true):=fun d=>by
  unfold DM;rw[if_pos rfl];exact⟨ga_gd d s.nw true k.om.nw.1,ga_gd d s.nw true k.om.nw.1⟩
 have hf:∀d:DV,GD s.nw d→DM true true s.nw d.freeze∧DM true false s.nw d.freeze:=fun d g=>by
  unfold DM;rw[if_pos rfl]
  have:GD s.nw d.freeze:=⟨g.g,g.cl,g.w,g.ow,g.mask,g.au,g.pa,g.time⟩
  exact⟨this,this⟩
 cases p with
 | true=>
  have hn:pickF ((s.setd true ((s.dv true).begin (gaA s.nw) true)).setd false ((s.dv false).freeze))=none:=pick_none (next_none rfl) (next_none rfl)
  refine (grabP1 s h (fun b0 v H hm=>?_) hlw hn).mono ?_
  ·cases hff:s.p.f with
   | false=>exact refP1 b0 v s (gaA s.nw) H hm hv (Int.le_refl _) d1.g d2.g hff d1.cl d1.time.2 d2.cl
   | true=>exact refP2 b0 v s (gaA s.nw) H hm hv (Int.le_refl _) d1.g d2.g hff d1.cl d1.time.2 d2.cl
  ·rintro r h' ⟨rfl,rfl⟩
   refine⟨⟨_,k.same ?_ hn (fun q=>by cases q<;>rfl) rfl,rfl⟩,rfl⟩
   exact (k.om.setd (p:=true) (d:=(s.dv true).begin (gaA s.nw) true) (fun i hi=>k.om.qs true i hi) (hd _).1).setd (p:=false) (d:=(s.dv false).freeze) (fun i hi=>k.om.qs false i hi) (hf _ d2).2
 | false=>
  have hn:pickF ((s.setd false ((s.dv false).begin (gaA s.nw) true)).setd true ((s.dv true).freeze))=none:=pick_none (next_none rfl) (next_none rfl)
  refine (grabK1 s h (fun b0 v H hm=>?_) hlw hn).mono ?_
  ·cases hff:s.q.f with
   | false=>exact refK1 b0 v s (gaA s.nw) H hm hv (Int.le_refl _) d2.g d1.g hff d2.cl d2.time.2 d1.cl
   | true=>exact refK2 b0 v s (gaA s.nw) H hm hv (Int.le_refl _) d2.g d1.g hff d2.cl d2.time.2 d1.cl
  ·rintro r h' ⟨rfl,rfl⟩
   refine⟨⟨_,k.same ?_ hn (fun q=>by cases q<;>rfl) rfl,rfl⟩,rfl⟩
   exact (k.om.setd (p:=false) (d:=(s.dv false).begin (gaA s.nw) true) (fun i hi=>k.om.qs false i hi) (hd _).2).setd (p:=true) (d:=(s.dv true).freeze) (fun i hi=>k.om.qs true i hi) (hf _ d1).1
def st1:RT:=st0.setd true ((st0.dv true).begin (gaA 0) false)
def st2:RT:=st1.setd false ((st1.dv false).begin (gaA 0) false)
theorem once_first1 (h:Heap):ACalls Tryz.prog 21 [st0.enc,AV.val (.bool (true)),(gaA 0).enc,AV.val (.int .i64 (0)),AV.val (.int .i64 (0))] h (fun r h'=>r=.tup [st1.enc,AV.val (.int .i64 (0)),.ro 7 []]∧h'=h):=
 grabP0 st0 h (fun b0 v H hm=>refP0 b0 v st0 (gaA 0) H hm st0_root (Int.le_refl _) rfl rfl rfl) ⟨by decide,by decide⟩ (pick_none rfl rfl)
theorem once_first2 (h:Heap):ACalls Tryz.prog 21 [st1.enc,AV.val (.bool (false)),(gaA 0).enc,AV.val (.int .i64 (0)),AV.val (.int .i64 (0))] h (fun r h'=>r=.tup [st2.enc,AV.val (.int .i64 (0)),.ro 7 []]∧h'=h):=
 grabK0 st1 h (fun b0 v H hm=>refK0 b0 v st1 (gaA 0) H hm st0_root (Int.le_refl _) rfl rfl rfl rfl) ⟨by decide,by decide⟩ (pick_none rfl rfl)
theorem pi_st0:PI false st0 [] []:=by
 refine⟨⟨rfl,rfl,rfl,rfl,rfl,rfl,rfl,.inl rfl,by decide,by decide,fun p i hi=>?_,fun p=>?_⟩,pick_none rfl rfl,(fun d hd=>by cases hd),fun p=>by cases p<;>rfl,rfl,rfl,(fun i hi=>by cases hi)⟩
 ·cases p<;>cases hi
 ·unfold DM
  rw[if_neg (by decide)]
  cases p
  ·exact⟨rfl,rfl,rfl,by decide,(fun e=>nomatch e)⟩
  ·exact⟨rfl,rfl,rfl,by decide,(fun e=>nomatch e)⟩
theorem pi_st2:PI true st2 [] []:=by
 refine⟨⟨rfl,rfl,rfl,rfl,rfl,rfl,rfl,.inl rfl,by decide,by decide,fun p i hi=>?_,fun p=>?_⟩,pick_none rfl rfl,(fun d hd=>by cases hd),fun p=>by cases p<;>rfl,rfl,rfl,(fun i hi=>by cases hi)⟩
 ·cases p<;>cases hi
 ·unfold DM
  rw[if_pos rfl]
  cases p
  ·exact ga_gd _ 0 false (Int.le_refl _)
  ·exact ga_gd _ 0 false (Int.le_refl _)
def AlR (gr:Bool) (s:RT) (Ls:List SD) (T:List IN) (mode:Int) (s':RT) (L:List SD):Prop:=
 PI gr s' (Ls++L) T∧(∀q,(s.dv q).ws=[]→(s'.dv q).ws=[])∧(mode=0→s'.p.ws=[])∧(mode=3→s'.q.ws=[])
theorem al_len {gr:Bool} {fl:Bool→Bool} {s0 s:RT} {L:List SD} (a:AI gr fl s0 s L) (h:s0.wts≤1000):s.p.ws.length≤1000000∧s.q.ws.length≤1000000:=by
 have:=a.len
 have h1:s.wts=s.p.ws.length+s.q.ws.length:=rfl
 omega
theorem PI.alr {s s':RT} {Ls L:List SD} {T:List IN} (k:PI true s Ls T) (p:Bool) (d2:DV) (hws:d2.ws=(s.dv p).ws) (mode:Int) (hm:(mode=0→p=true)∧(mode=3→p=false)) (hfl:mode=0∨mode=3→d2.f=false∧(d2.s=true→(s.dv p).ws=[])) (a:AI true (fun q=>decide (q=p)&&(!d2.f&&!d2.s)) (s.setd p d2) s' L) (hn:pickF s'=none):AlR true s Ls T mode s' L:=by
 have e:∀q,((s.setd p d2).dv q).ws=(s.dv q).ws:=fun q=>by
  rw[setd_dv]
  split
  ·next q1=>rw[q1];exact hws
  ·rfl
 have hem:mode=0∨mode=3→(s'.dv p).ws=[]:=fun h=>by
  obtain⟨h1,h2⟩:=hfl h
  cases hs:d2.s with
  | true=>exact a.emp (by rw[e];exact h2 hs)
  | false=>exact pick_done hn p (a.fl p (by rw[decide_eq_true rfl,h1,hs];rfl)).1
 refine⟨k.of_ai a hn (fun _=>[]) (fun q=>by unfold wtr;rw[e,List.append_nil]) (fun q=>by rw[List.append_nil]) 0 (by rw[wts_dv _ true,wts_dv s true,e,e];rfl) rfl (by cases p<;>simp[RT.setd]) k.tt,fun q hq=>a.emp (by rw[e];exact hq),fun h=>?_,fun h=>?_⟩
 ·have:=hem (.inl h);rw[hm.1 h] at this;exact this
 ·have:=hem (.inr h);rw[hm.2 h] at this;exact this
theorem once_allow {gr:Bool} {s:RT} {Ls:List SD} {T:List IN} (k:PI gr s Ls T) (hT:T.length≤100) (mode:Int) (hm:mode=0∨mode=3∨(gr=true∧(mode=1∨mode=4))) (h:Heap) :
  ACalls Tryz.prog 22 [s.enc,AV.val (.int .i64 (3)),AV.val (.int .i64 (mode)),AV.val (.int .u32 (0))] h (fun r h'=>(∃s' L,AlR gr s Ls T mode s' L∧r=.tup [s'.enc,.ro 7 (L.map SD.enc)])∧h'=h):=by
 have hl:=k.len
 cases gr with
 | false=>
  have d1:FD true (s.dv true):=by have:=k.om.dm true;unfold DM at this;rwa[if_neg (by decide)] at this
  have d2:FD false (s.dv false):=by have:=k.om.dm false;unfold DM at this;rwa[if_neg (by decide)] at this
  have hq:s.q.g=false:=by
   cases hg:s.q.g with
   | false=>rfl
   | true=>exact absurd (d2.g hg).1 (by decide)
  have e1:=pick_done k.nx true d1.f
  have e2:=pick_done k.nx false d2.f
  have hA:AlR false s Ls T mode s []:=⟨by rw[List.append_nil];exact k,fun q hq=>hq,fun _=>e1,fun _=>e2⟩
  suffices hc:ACalls Tryz.prog 22 [s.enc,AV.val (.int .i64 (3)),AV.val (.int .i64 (mode)),AV.val (.int .u32 (0))] h (fun r h'=>r=.tup [s.enc,.ro 7 []]∧h'=h) by
   refine hc.mono ?_
   rintro r h' ⟨rfl,rfl⟩
   exact⟨⟨s,[],hA,rfl⟩,rfl⟩
  have hcl:s.p.g=true→s.p.a.cl≠3:=fun hg=>by
   have:=(d1.g hg).2.1
   have e:s.p.a.cl=1:=this
   rw[e];decide
  rcases hm with rfl|rfl|⟨hc,_⟩
  ·cases hg:s.p.g with
   | true=>exact alnA s h hg (hcl hg)
   | false=>exact alnB s h hg hq
  ·cases hg:s.p.g with
   | true=>exact alnC s h hq hg (hcl hg)
   | false=>exact alnD s h hq hg
  ·cases hc
 | true=>
  have d1:GD s.nw (s.dv true):=by have:=k.om.dm true;unfold DM at this;rwa[if_pos rfl] at this
  have d2:GD s.nw (s.dv false):=by have:=k.om.dm false;unfold DM at this;rwa[if_pos rfl] at this
  have hG:∀p (d d':DV),GD s.nw d→d'.a=d.a→d'.g=d.g→DM true p s.nw d':=fun p d d' g ea eg=>by
   unfold DM;rw[if_pos rfl]
   exact⟨eg.trans g.g,by rw[ea];exact g.cl,by rw[ea];exact g.w,by rw[ea];exact g.ow,by rw[ea];exact g.mask,by rw[ea];exact g.au,by rw[ea];exact g.pa,by rw[ea];exact g.time⟩
  have fin:∀p (d':DV),d'.a=(s.dv p).a→d'.g=(s.dv p).g→d'.ws=(s.dv p).ws→AI true (fun q=>decide (q=p)&&(!d'.f&&!d'.s)) (s.setd p d') (s.setd p d') []:=fun p d' ea eg ew=>by
   refine AI.start (k.om.setd (fun i hi=>k.om.qs p i (by rw[←ew];exact hi)) (hG p (s.dv p) d' (by cases p;exact d2;exact d1) ea eg)) fun q hq=>?_
   rw[Bool.and_eq_true,Bool.and_eq_true] at hq
   have hqp:=of_decide_eq_true hq.1
   rw[setd_dv,if_pos hqp]
   exact⟨by simpa using hq.2.1,by simpa using hq.2.2⟩
  have hw2:∀p (d':DV),d'.ws=(s.dv p).ws→(s.setd p d').wts≤1000:=fun p d' ew=>by
   have h1:=wts_dv (s.setd p d') p
   have h2:=wts_dv s p
   rw[setd_dv,setd_dv,if_pos rfl,if_neg (by cases p<;>decide),ew] at h1
   omega
  rcases hm with rfl|rfl|⟨_,rfl|rfl⟩
  ·obtain⟨d',ea,eg,ew,ha,hf,hs⟩:∃d':DV,d'.a=s.p.a∧d'.g=s.p.g∧d'.ws=s.p.ws∧(∀h,ACalls Tryz.prog 55 [s.p.enc,AV.val (.int .i64 (0))] h (fun r h'=>r=.tup [d'.enc,IN.z.enc,AV.val (.bool (false))]∧h'=h))∧d'.f=false∧(d'.s=true→s.p.ws=[]):=by
    cases hff:s.p.f with
    | true=>exact⟨s.p.thaw,rfl,rfl,rfl,fun h=>allow_0 s.p h hff,rfl,(fun e=>nomatch e)⟩
    | false=>exact⟨s.p,rfl,rfl,rfl,fun h=>allow_no s.p 0 h (.inl hff),hff,fun _=>pick_done k.nx true hff⟩
   refine (alw0 (fun s' L=>AI true (fun q=>decide (q=true)&&(!d'.f&&!d'.s)) (s.setd true d') s' L) (fun s' L a=>al_len a (hw2 true d' ew)) (fun s' L q n j a hq=>a.next hq (hw2 true d' ew)) s d' h ha d1.g d1.cl d1.time.2 (fin true d' ea eg ew)).mono ?_
   rintro r h' ⟨⟨s',L,a,hn,rfl⟩,rfl⟩
   exact⟨⟨s',L,k.alr true d' ew 0 ⟨fun _=>rfl,(fun e=>absurd e (by decide))⟩ (fun _=>⟨hf,hs⟩) a hn,rfl⟩,rfl⟩
  ·obtain⟨d',ea,eg,ew,ha,hf,hs⟩:∃d':DV,d'.a=s.q.a∧d'.g=s.q.g∧d'.ws=s.q.ws∧(∀h,ACalls Tryz.prog 55 [s.q.enc,AV.val (.int .i64 (0))] h (fun r h'=>r=.tup [d'.enc,IN.z.enc,AV.val (.bool (false))]∧h'=h))∧d'.f=false∧(d'.s=true→s.q.ws=[]):=by
    cases hff:s.q.f with
    | true=>exact⟨s.q.thaw,rfl,rfl,rfl,fun h=>allow_0 s.q h hff,rfl,(fun e=>nomatch e)⟩
    | false=>exact⟨s.q,rfl,rfl,rfl,fun h=>allow_no s.q 0 h (.inl hff),hff,fun _=>pick_done k.nx false hff⟩
   refine (alw3 (fun s' L=>AI true (fun q=>decide (q=false)&&(!d'.f&&!d'.s)) (s.setd false d') s' L) (fun s' L a=>al_len a (hw2 false d' ew)) (fun s' L q n j a hq=>a.next hq (hw2 false d' ew)) s d' h ha d2.g d2.cl d2.time.2 (fin false d' ea eg ew)).mono ?_
   rintro r h' ⟨⟨s',L,a,hn,rfl⟩,rfl⟩
   exact⟨⟨s',L,k.alr false d' ew 3 ⟨(fun e=>absurd e (by decide)),fun _=>rfl⟩ (fun _=>⟨hf,hs⟩) a hn,rfl⟩,rfl⟩
  ·obtain⟨d',ea,eg,ew,ha⟩:∃d':DV,d'.a=s.p.a∧d'.g=s.p.g∧d'.ws=s.p.ws∧(∀h,ACalls Tryz.prog 55 [s.p.enc,AV.val (.int .i64 (1))] h (fun r h'=>r=.tup [d'.enc,IN.z.enc,AV.val (.bool (false))]∧h'=h)):=by
    cases hff:s.p.f with
    | true=>exact⟨s.p.step,rfl,rfl,rfl,fun h=>allow_1 s.p h hff⟩
    | false=>exact⟨s.p,rfl,rfl,rfl,fun h=>allow_no s.p 1 h (.inl hff)⟩
   refine (alw1 (fun s' L=>AI true (fun q=>decide (q=true)&&(!d'.f&&!d'.s)) (s.setd true d') s' L) (fun s' L a=>al_len a (hw2 true d' ew)) (fun s' L q n j a hq=>a.next hq (hw2 true d' ew)) s d' h ha d1.g d1.cl d1.time.2 (fin true d' ea eg ew)).mono ?_
   rintro r h' ⟨⟨s',L,a,hn,rfl⟩,rfl⟩
   exact⟨⟨s',L,k.alr true d' ew 1 ⟨(fun e=>absurd e (by decide)),(fun e=>absurd e (by decide))⟩ (fun e=>absurd e (by decide)) a hn,rfl⟩,rfl⟩
  ·obtain⟨d',ea,eg,ew,ha⟩:∃d':DV,d'.a=s.q.a∧d'.g=s.q.g∧d'.ws=s.q.ws∧(∀h,ACalls Tryz.prog 55 [s.q.enc,AV.val (.int .i64 (1))] h (fun r h'=>r=.tup [d'.enc,IN.z.enc,AV.val (.bool (false))]∧h'=h)):=by
    cases hff:s.q.f with
    | true=>exact⟨s.q.step,rfl,rfl,rfl,fun h=>allow_1 s.q h hff⟩
    | false=>exact⟨s.q,rfl,rfl,rfl,fun h=>allow_no s.q 1 h (.inl hff)⟩
   refine (alw4 (fun s' L=>AI true (fun q=>decide (q=false)&&(!d'.f&&!d'.s)) (s.setd false d') s' L) (fun s' L a=>al_len a (hw2 false d' ew)) (fun s' L q n j a hq=>a.next hq (hw2 false d' ew)) s d' h ha d2.g d2.cl d2.time.2 (fin false d' ea eg ew)).mono ?_
   rintro r h' ⟨⟨s',L,a,hn,rfl⟩,rfl⟩
   exact⟨⟨s',L,k.alr false d' ew 4 ⟨(fun e=>absurd e (by decide)),(fun e=>absurd e (by decide))⟩ (fun e=>absurd e (by decide)) a hn,rfl⟩,rfl⟩
end Go.Proofs.YtbknacpdcdkjiaaGreat
