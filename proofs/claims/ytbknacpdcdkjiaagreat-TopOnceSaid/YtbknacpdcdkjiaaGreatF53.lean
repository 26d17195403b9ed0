import Derived.Test.YtbknacpdcdkjiaaGreatF45
import Derived.Test.YtbknacpdcdkjiaaGreatF29
import Derived.Test.YtbknacpdcdkjiaaGreatF43
import Derived.Test.YtbknacpdcdkjiaaGreatF3
import Derived.Test.YtbknacpdcdkjiaaGreatF10
import Derived.Test.YtbknacpdcdkjiaaGreatVM43
/- A motion. No condition. -/
namespace Go.Proofs.YtbknacpdcdkjiaaGreat
open Go Go.VM
attribute [local irreducible] PurV Pur Step RL W D ACalls Then InBlock Fini
set_option linter.unusedVariables false
set_option linter.unusedSimpArgs false
set_option maxHeartbeats 20000000
theorem findF_bd {M:CM} {N:CS} {m:Int} {L:List Int} (h:∀x∈L,1≤x∧x≤4294967295):(0≤(findF M N m L).1∧(findF M N m L).1≤4294967295)∧(findF M N m L).2.length≤8:=by
 rcases find_spec M N m L with e|⟨w,h1,e,_⟩<;>rw[e]
 ·exact⟨by decide,by decide⟩
 ·have:=h w h1
  exact⟨by dsimp only;omega,whoF_len _ _ _⟩
theorem names_bd {s:RT} (ok:s.Ok) (hi:IdOk s.up) (p:Bool) (m:Int) (hw:0≤(s.dv p).a.w∧(s.dv p).a.w≤4294967295):(0≤(namesF s p m).1∧(namesF s p m).1≤4294967295)∧(namesF s p m).2.length≤8:=by
 unfold namesF
 split
 ·refine findF_bd fun x hx=>hi x ?_
  cases p with
  | true=>exact pathA_has ok.tw hx
  | false=>exact wayF_has ok.tw hx
 ·split
  ·exact⟨hw,by simp⟩
  ·exact⟨by decide,by decide⟩
def motF (s:RT) (i:IN) (st ch sx sy:Int):List SD:=(namesF s true 16).2.map fun c=>⟨c,i.k,[(namesF s true 16).1,ch,i.c,st,sx,sy,s.x,s.y,i.t]⟩
set_option maxRecDepth 100000 in
theorem motion_t (s:RT) (i:IN) (Wo:List Int) (L:List SD) (wd hg:Int) (ok:s.Ok) (hi:IdOk s.up) (vin:VIn wd hg s.up s.o s.V) (hu:hasT s.up s.un=true) (hk:i.k=5) (how:s.p.a.ow=false) (hw:0≤s.p.a.w∧s.p.a.w≤4294967295) (hnw:0≤s.nw∧s.nw≤4294967295) (ht:0≤i.t∧i.t≤4294967295) (hl:L.length≤100000) (hix:I64 i.x) (hiy:I64 i.y) :
  TakC 79 s i Wo L (fun s' l=>∃x y n ch sx sy,((0≤x∧x<wd)∧0≤y∧y<hg)∧atF s.o s.V x y=some n∧hasT s.up n=true∧s'=(s.xy x y).ud n∧l=crsF (s.xy x y) n++motF ((s.xy x y).ud n) i (stF s) ch sx sy):=by
 intro b0 v H
 have kc:=fun h=>kind_c i.k h (by omega)
 rw[show kdF i.k=⟨true,16,false,false,79⟩ by rw[hk];rfl] at kc
 have stc:=fun h=>state_c s h
 have br:=fun h=>bring_c b0 (.val v) s i.x i.y wd hg h vin hix hiy
 have cr:=fun x y n hn ha H=>crossings_c b0 v (s.xy x y) n L H ⟨ok.tw,ok.ul,ok.vo,ok.ol⟩ hi hnw hu hn ha (by omega)
 have cl:∀x y n,(crsF (s.xy x y) n).length≤24000:=fun x y n=>by
  have h1:=crs_len (s.xy x y) (crossF (s.xy x y).up (s.xy x y).un n)
  have h2:=crossF_len ok.tw ok.ul s.un n
  exact Nat.le_trans h1 (by show 8 * (crossF s.up s.un n).length≤24000;omega)
 have nb:=fun x y n=>names_bd (s:=(s.xy x y).ud n) ⟨ok.tw,ok.ul,ok.vo,ok.ol⟩ hi true 16 hw
 have nc:=fun x y n v1 H hm=>names_c b0 (.val v1) ((s.xy x y).ud n) ⟨true,16,false,false,79⟩ H hm ⟨ok.tw,ok.ul,ok.vo,ok.ol⟩ how
 have ec:=fun x y n v1 L1 H' hl=>event_c b0 v1 ((s.xy x y).ud n) i (namesF ((s.xy x y).ud n) true 16).1 (namesF ((s.xy x y).ud n) true 16).2 (stF s) L1 H' ⟨ok.tw,ok.ul,ok.vo,ok.ol⟩ hl (nb x y n).1 ht
 have vat:=vin.at'
 clear vin hu how hw hnw ht hix hiy ok hi
 dsimp only at nc
 unfold runH
 unfold RT.enc at stc
 unfold KD.enc at kc nc
 generalize hst:stF s=st at *
 rw[IN.enc_eq i] at *
 have e0:runC s (.val v)=mapV .u32 vIds s.k::mapV .u32 (vI .u32) s.up::AV.ro 1 (ints .u32 (s.o))::mapV .u32 vSW s.V::mapK (vI .i64) s.M::mapV .u32 (vI .i64) s.N::AV.val (.int .u32 (s.fw))::AV.val (.int .i64 (s.fr))::AV.val (.int .u32 (s.ft))::AV.ro 9 []::AV.val (.int .i64 ((s.p).a.cl))::AV.val (.int .u32 ((s.p).a.w))::AV.val (.bool ((s.p).a.ow))::AV.val (.int .i64 ((s.p).a.mask))::AV.val (.bool ((s.p).a.au))::AV.val (.bool ((s.p).a.pa))::AV.val (.int .i64 ((s.p).a.code))::AV.val (.int .u32 ((s.p).a.time))::AV.val (.bool ((s.p).g))::AV.val (.bool ((s.p).f))::AV.val (.bool ((s.p).s))::AV.val (.int .i64 ((s.p).held.k))::AV.val (.int .i64 ((s.p).held.c))::AV.val (.int .i64 ((s.p).held.x))::AV.val (.int .i64 ((s.p).held.y))::AV.val (.int .u32 ((s.p).held.t))::AV.val (.int .i64 ((s.p).held.n))::AV.val (.bool ((s.p).hs))::AV.ro 6 ((s.p).ws.map IN.enc)::AV.val (.int .i64 ((s.q).a.cl))::AV.val (.int .u32 ((s.q).a.w))::AV.val (.bool ((s.q).a.ow))::AV.val (.int .i64 ((s.q).a.mask))::AV.val (.bool ((s.q).a.au))::AV.val (.bool ((s.q).a.pa))::AV.val (.int .i64 ((s.q).a.code))::AV.val (.int .u32 ((s.q).a.time))::AV.val (.bool ((s.q).g))::AV.val (.bool ((s.q).f))::AV.val (.bool ((s.q).s))::AV.val (.int .i64 ((s.q).held.k))::AV.val (.int .i64 ((s.q).held.c))::AV.val (.int .i64 ((s.q).held.x))::AV.val (.int .i64 ((s.q).held.y))::AV.val (.int .u32 ((s.q).held.t))::AV.val (.int .i64 ((s.q).held.n))::AV.val (.bool ((s.q).hs))::AV.ro 6 ((s.q).ws.map IN.enc)::AV.val (.int .i64 (s.x))::AV.val (.int .i64 (s.y))::AV.val (.int .i64 (s.bt))::AV.val (.int .i64 (s.md))::AV.val (.int .i64 (s.ct))::AV.val (.int .u32 (s.nw))::AV.val (.int .u32 (s.un))::.val v::[]:=rfl
 rw[e0]
 refine ACalls.intro Tryz.func79 rfl Tryz.ntmps79 Tryz.results79 (Nat.le_of_ble_eq_true rfl) ?_
 (repeat' first|refine svE ⟨?_⟩|refine .b fun b=>?_|refine .u fun u=>?_|refine .d ?_ ?_|(refine .g fun hg9=>?_;try exact svx)|fail)
 refine S.call ?_;refine (stc _).mono ?_;rintro r h' ⟨rfl,hh⟩;subst hh
 (repeat' first|refine svE ⟨?_⟩|refine .b fun b=>?_|refine .u fun u=>?_|refine .d ?_ ?_|(refine .g fun hg9=>?_;try exact svx)|fail)
 revert b;intro b4
 refine Step.le (s':=⟨35,[(14,.val (.pointer (some ⟨b0,0,none⟩))),(16,AV.val (.int .i64 (i.x))),(18,AV.val (.int .i64 (i.y))),(6,AV.val (.int .i64 (st))),(4,.val (.pointer (some ⟨b4,0,none⟩))),(0,.val (.pointer (some ⟨b0,0,none⟩)))],.box b0 (runC s (.val v)) 135::.own v 7 (L.map SD.enc) 66::.box b4 [AV.val (.int .i64 ((i).k)),AV.val (.int .i64 ((i).c)),AV.val (.int .i64 ((i).x)),AV.val (.int .i64 ((i).y)),AV.val (.int .u32 ((i).t)),AV.val (.int .i64 ((i).n))] 47::H⟩) lee ?_
 refine S.call ?_
 refine (br _).mono ?_
 rintro r h' ⟨x,y,hxy,rfl,hh⟩
 subst hh
 obtain⟨n,hat,hn⟩:=vat x y hxy
 have cr1:=fun H=>cr x y n hn hat H
 have cl1:=cl x y n
 have nb1:=(nb x y n).2
 have nc1:=nc x y n
 have ec1:=ec x y n
 clear br cr cl nb nc ec vat e0 stc
 (repeat' first|refine svE ⟨?_⟩|refine .b fun b=>?_|refine .u fun u=>?_|refine .d ?_ ?_|(refine .g fun hg9=>?_;try exact svx)|fail)
 refine S.call ?_
 refine (cr1 _).mono ?_
 rintro r h' ⟨v1,rfl,hh⟩
 subst hh
 (repeat' first|refine svE ⟨?_⟩|refine .b fun b=>?_|refine .u fun u=>?_|refine .d ?_ ?_|(refine .g fun hg9=>?_;try exact svx)|fail)
 refine S.call ?_;refine (kc _).mono ?_;rintro r h' ⟨rfl,hh⟩;subst hh
 (repeat' first|refine svE ⟨?_⟩|refine .b fun b=>?_|refine .u fun u=>?_|refine .d ?_ ?_|(refine .g fun hg9=>?_;try exact svx)|fail)
 refine R2.C (nc1 v1 _ (by (fail_if_success (apply memG));repeat (first|exact List.Mem.head _|assumption|refine List.Mem.tail _ ?_))) ?_
 (repeat' first|refine svE ⟨?_⟩|refine .b fun b=>?_|refine .u fun u=>?_|refine .d ?_ ?_|(refine .g fun hg9=>?_;try exact svx)|fail)
 revert b;intro b7
 refine R2.melt ?_
 refine R2.B ?_
 refine Step.le (s':=⟨35,[(28,.val (.pointer (some ⟨b0,0,none⟩))),(29,.agg [AV.val (.int .i64 ((i).k)),AV.val (.int .i64 ((i).c)),AV.val (.int .i64 ((i).x)),AV.val (.int .i64 ((i).y)),AV.val (.int .u32 ((i).t)),AV.val (.int .i64 ((i).n))]),(32,.agg [AV.val (.int .u32 ((namesF ((s.xy x y).ud n) true 16).1)),.ro 1 (ints .i64 (namesF ((s.xy x y).ud n) true 16).2)]),(33,AV.val (.int .i64 (st)))],.box b0 (runC ((s.xy x y).ud n) (.val v1)) 135::.own v1 7 ((L++crsF (s.xy x y) n).map SD.enc) 66::.box b7 (AV.agg [AV.val (.bool (true)),AV.val (.int .i64 (16)),AV.val (.bool (false)),AV.val (.bool (false)),.val (.func (.func 79) #[] #[])]).cells 130::.box b4 [AV.val (.int .i64 ((i).k)),AV.val (.int .i64 ((i).c)),AV.val (.int .i64 ((i).x)),AV.val (.int .i64 ((i).y)),AV.val (.int .u32 ((i).t)),AV.val (.int .i64 ((i).n))] 47::H⟩) lee ?_
 refine S.call ?_
 refine (ec1 v1 (L++crsF (s.xy x y) n) _ (by rw[List.length_append];omega)).mono ?_
 rintro r h' ⟨v2,ch,sx,sy,rfl,hh⟩
 subst hh
 refine kd ?_
 (repeat' first|refine svE ⟨?_⟩|refine .b fun b=>?_|refine .u fun u=>?_|refine .d ?_ ?_|(refine .g fun hg9=>?_;try exact svx)|fail)
 refine fin_n (vs:=[]) (h':=runH b0 v2 ((s.xy x y).ud n) (L++(crsF (s.xy x y) n++motF ((s.xy x y).ud n) i st ch sx sy)) H) ⟨v2,_,_,⟨x,y,n,ch,sx,sy,hxy,hat,hn,rfl,rfl⟩,rfl,rfl⟩ (h2:=?_)
 unfold runH motF
 rw[←List.append_assoc]
 (repeat (first|exact LeH.refl _|exact LeH.nil _|refine LeH.cons (by (fail_if_success (apply tkG));(repeat (first|exact Tk.here|apply Tk.there));first|done|fail) ?_|refine LeH.boxw (by (fail_if_success (apply tkG));(repeat (first|exact Tk.here|apply Tk.there));first|done|fail) (by (repeat (first|exact Wk.refl _|exact Wk.nilr _|exact Wk.nilm|apply Wk.aggc|apply Wk.tupc|exact Wk.aggn|exact Wk.tupn));first|done|fail) ?_|refine LeH.skip ?_))
end Go.Proofs.YtbknacpdcdkjiaaGreat

/- A motion, as a whole. No condition. -/
namespace Go.Proofs.YtbknacpdcdkjiaaGreat
open Go Go.VM
attribute [local irreducible] PurV Pur Step RL W D ACalls Then InBlock Fini
set_option linter.unusedVariables false
set_option linter.unusedSimpArgs false
set_option maxHeartbeats 20000000
set_option maxRecDepth 100000 in
theorem step5_c0 (Inv:RT→List SD→Prop) (hb:∀s L,Inv s L→s.p.ws.length≤1000000∧s.q.ws.length≤1000000)
  (hs:∀s L p n i,Inv s L→pickF s=some (p,n,i)→TakC 96 (s.setd p (hldF (s.dv p) n i)) i [] L (fun s' l=>Inv s' (L++l)∧s'.wts<s.wts))
  (s:RT) (i:IN) (h:Heap) (hk:i.k=5) (hc:i.c=0) (ht:0≤i.t∧i.t<2147483648) (hnw:0≤s.nw∧s.nw<2147483648) (hct:0≤s.ct∧s.ct<1000000) (hw:s.p.ws.length<256) (hi:Inv (fedF s true i) []) :
  ACalls Tryz.prog 11 [s.enc,i.enc] h (fun r h'=>∃v s' L,Inv s' L∧pickF s'=none∧r=.tup [s'.enc,.val v,AV.val (.int .i64 (0))]∧h'=.own v 7 (L.map SD.enc) 66::h):=by
 have kc:=fun h=>kind_c i.k h (by omega)
 rw[show kdF i.k=⟨true,16,false,false,79⟩ by rw[hk];rfl] at kc
 have cok:=fun h=>codeok_c ⟨true,16,false,false,79⟩ i.c h
 rw[show witF ⟨true,16,false,false,79⟩ i.c=true by unfold witF;simp[hc]] at cok
 have dc:=fun b h=>device_c b true h
 have fd:=fun h=>feed_c s.p (i.num (s.ct+1)) h hw
 have al:=fun b0 v H=>all_c Inv hb hs b0 v (fedF s true i) [] H hi
 have dn:=fun b0 v s L H=>done_c b0 v s L H
 clear hb hs hi
 unfold RT.enc runH runC KD.enc DV.enc fedF RT.cn RT.setd RT.dv DV.wait at *
 rw[IN.enc_eq] at *
 refine ACalls.intro Tryz.func11 rfl Tryz.ntmps11 Tryz.results11 (Nat.le_of_ble_eq_true rfl) ?_
 refine W.nil_ 7 66 ?_
 (repeat' first|refine svE ⟨?_⟩|refine .b fun b=>?_|refine .u fun u=>?_|refine .d ?_ ?_|(refine .g fun hg9=>?_;try exact svx)|fail)
 refine S.call ?_;refine (kc _).mono ?_;rintro r h' ⟨rfl,hh⟩;subst hh
 (repeat' first|refine svE ⟨?_⟩|refine .b fun b=>?_|refine .u fun u=>?_|refine .d ?_ ?_|(refine .g fun hg9=>?_;try exact svx)|fail)
 refine S.call ?_;refine (cok _).mono ?_;rintro r h' ⟨rfl,hh⟩;subst hh
 (repeat' first|refine svE ⟨?_⟩|refine .b fun b=>?_|refine .u fun u=>?_|refine .d ?_ ?_|(refine .g fun hg9=>?_;try exact svx)|fail)
 refine S.call ?_;refine (dc _ _).mono ?_;rintro r h' ⟨rfl,hh⟩;subst hh
 (repeat' first|refine svE ⟨?_⟩|refine .b fun b=>?_|refine .u fun u=>?_|refine .d ?_ ?_|(refine .g fun hg9=>?_;try exact svx)|fail)
 refine R2.C (fd _) ?_
 (repeat' first|refine svE ⟨?_⟩|refine .b fun b=>?_|refine .u fun u=>?_|refine .d ?_ ?_|(refine .g fun hg9=>?_;try exact svx)|fail)
 refine S.store_any ?_ (hl:=Nat.le_of_ble_eq_true rfl)
 (repeat' first|refine svE ⟨?_⟩|refine .b fun b=>?_|refine .u fun u=>?_|refine .d ?_ ?_|(refine .g fun hg9=>?_;try exact svx)|fail)
 rename_i b2 b3 b4 b7 b9
 refine Step.le (s':=⟨108,[(9,.val (.pointer (some ⟨b9,0,none⟩))),(4,.val (.pointer (some ⟨b4,0,none⟩)))],.box b9 (runC (fedF s true i) (.val (.slice none 0 0))) 135::.own (.slice none 0 0) 7 (([]:List SD).map SD.enc) 66::.box b4 _ 52::h⟩) lee ?_
 refine S.call ?_
 refine (al _ _ _).mono ?_
 rintro r h' ⟨v1,s1,L1,hI,hn,rfl,hh⟩
 subst hh
 (repeat' first|refine svE ⟨?_⟩|refine .b fun b=>?_|refine .u fun u=>?_|refine .d ?_ ?_|(refine .g fun hg9=>?_;try exact svx)|fail)
 refine S.call ?_;refine (dn _ _ _ _ _).mono ?_;rintro r h' ⟨rfl,hh⟩;subst hh
 (repeat' first|refine svE ⟨?_⟩|refine .b fun b=>?_|refine .u fun u=>?_|refine .d ?_ ?_|(refine .g fun hg9=>?_;try exact svx)|fail)
 exact fin_r (h':=.own v1 7 (L1.map SD.enc) 66::h) ⟨v1,s1,L1,hI,hn,rfl,rfl⟩
end Go.Proofs.YtbknacpdcdkjiaaGreat

/- What follows from a change of the view, where there is neither focus nor grab. No condition. -/
namespace Go.Proofs.YtbknacpdcdkjiaaGreat
open Go Go.VM
attribute [local irreducible] PurV Pur Step RL W D ACalls Then InBlock Fini
set_option linter.unusedVariables false
set_option linter.unusedSimpArgs false
set_option maxHeartbeats 20000000
end Go.Proofs.YtbknacpdcdkjiaaGreat

/- What holds between two acts of TopWays; motion and change. No condition. -/
namespace Go.Proofs.YtbknacpdcdkjiaaGreat
open Go Go.VM
attribute [local irreducible] PurV Pur Step RL W D ACalls Then InBlock Fini
set_option linter.unusedVariables false
set_option linter.unusedSimpArgs false
set_option maxHeartbeats 20000000
structure WInv (wd hg:Int) (i:Nat) (s:RT):Prop where
 ok:s.Ok
 ids:IdOk s.up
 vin:VIn wd hg s.up s.o s.V
 un:hasT s.up s.un=true
 xy:(0≤s.x∧s.x<wd)∧0≤s.y∧s.y<hg
 fw:s.fw=0
 pg:s.p.g=false
 qg:s.q.g=false
 pw:s.p.ws=[]
 qw:s.q.ws=[]
 pf:s.p.f=false
 ps:s.p.s=false
 po:s.p.a.ow=false
 pa:0≤s.p.a.w∧s.p.a.w≤4294967295
 ct:0≤s.ct∧s.ct≤i
 nw:0≤s.nw∧s.nw≤i
 w16:∀id,whoF s.M id 16=[]
 w32:∀id,hasT s.up id=true→whoF s.M id 32=[1]∧whoF s.M id 64=[1]
end Go.Proofs.YtbknacpdcdkjiaaGreat

/- Plain: the windows of TopFocus, one by one. No condition. -/
namespace Go.Proofs.YtbknacpdcdkjiaaGreat
open Go Go.VM
set_option linter.unusedVariables false
set_option linter.unusedSimpArgs false
set_option linter.unusedSectionVars false
set_option maxHeartbeats 4000000
structure FW where
 (u:Int) (m:Bool) (c:Int) (st:Bool) (x y:Int)
structure FW.Ok (w:FW):Prop where
 u:0≤w.u∧w.u≤255
 c:0≤w.c∧w.c≤255
 x:-128≤w.x∧w.x≤127
 y:-128≤w.y∧w.y≤127
def FW.up (w:FW) (i:Nat):Nat:=w.u.toNat % (i+1)
structure FS where
 (k:SVT) (up:UP) (t:PW) (M:CM) (N:CS)
structure ChOk (n:Nat) (M:CM) (N:CS):Prop where
 mn:(M.map (·.1)).Nodup
 nn:(N.map (·.1)).Nodup
 ml:M.length≤n
 nl:N.length≤n
 mv:∀c id,mkF M c id=0∨mkF M c id=3
theorem ChOk.hx {n:Nat} {M:CM} {N:CS} (h:ChOk n M N) (o id:Int):bitsI .and .i64 (bitsI .and .i64 (mkF M o id) 3) 2052=0:=by
 rcases h.mv o id with e|e<;>rw[e]<;>decide +kernel
structure FS.Ok (n:Nat) (s:FS):Prop where
 kw:KW n s.k s.up s.t
 ch:ChOk n s.M s.N
end Go.Proofs.YtbknacpdcdkjiaaGreat

/- Who is in, behind what is said. No condition. -/
namespace Go.Proofs.YtbknacpdcdkjiaaGreat
open Go Go.VM
attribute [local irreducible] PurV Pur Step RL W D ACalls Then InBlock Fini
set_option linter.unusedVariables false
set_option linter.unusedSimpArgs false
set_option maxHeartbeats 20000000
end Go.Proofs.YtbknacpdcdkjiaaGreat

/- TopFocus: what is made of the windows. No condition. -/
namespace Go.Proofs.YtbknacpdcdkjiaaGreat
open Go Go.VM
attribute [local irreducible] PurV Pur Step RL W D ACalls Then InBlock Fini
set_option linter.unusedVariables false
set_option linter.unusedSimpArgs false
set_option maxHeartbeats 20000000
def FW.enc (w:FW):AV:=.agg [AV.val (.int .u8 (w.u)),AV.val (.bool (w.m)),AV.val (.int .u8 (w.c)),AV.val (.bool (w.st)),AV.val (.int .i8 (w.x)),AV.val (.int .i8 (w.y))]
def DV.z:DV:=⟨AC.z,false,false,false,IN.z,false,[]⟩
end Go.Proofs.YtbknacpdcdkjiaaGreat

/- TopWays: what is made of the windows. No condition. -/
namespace Go.Proofs.YtbknacpdcdkjiaaGreat
open Go Go.VM
attribute [local irreducible] PurV Pur Step RL W D ACalls Then InBlock Fini
set_option linter.unusedVariables false
set_option linter.unusedSimpArgs false
set_option maxHeartbeats 20000000
structure SP where
 (x y w h:Int) (m:Bool)
structure SP.Ok (s:SP):Prop where
 x:-128≤s.x∧s.x≤127
 y:-128≤s.y∧s.y≤127
 w:0≤s.w∧s.w≤255
 h:0≤s.h∧s.h≤255
structure WN where
 (u:Int) (was now:SP)
structure WN.Ok (w:WN):Prop where
 u:0≤w.u∧w.u≤255
 was:w.was.Ok
 now:w.now.Ok
def WN.enc (w:WN):AV:=.agg [AV.val (.int .u8 (w.u)),AV.val (.int .i8 ((w.was).x)),AV.val (.int .i8 ((w.was).y)),AV.val (.int .u8 ((w.was).w)),AV.val (.int .u8 ((w.was).h)),AV.val (.bool ((w.was).m)),AV.val (.int .i8 ((w.now).x)),AV.val (.int .i8 ((w.now).y)),AV.val (.int .u8 ((w.now).w)),AV.val (.int .u8 ((w.now).h)),AV.val (.bool ((w.now).m))]
def WN.up (w:WN) (i:Nat):Nat:=w.u.toNat % (i+1)
structure GS where
 (k:SVT) (up:UP) (p q:PW)
structure GS.Ok (n:Nat) (s:GS):Prop where
 p:KW n s.k s.up s.p
 q:KW n s.k s.up s.q
end Go.Proofs.YtbknacpdcdkjiaaGreat

/- TopWays: the pointer at a place, somebody who watches. No condition. -/
namespace Go.Proofs.YtbknacpdcdkjiaaGreat
open Go Go.VM
attribute [local irreducible] PurV Pur Step RL W D ACalls Then InBlock Fini
set_option linter.unusedVariables false
set_option linter.unusedSimpArgs false
set_option maxHeartbeats 20000000
end Go.Proofs.YtbknacpdcdkjiaaGreat

/- Plain: what the views of TopWays are. No condition. -/
namespace Go.Proofs.YtbknacpdcdkjiaaGreat
open Go Go.VM
set_option linter.unusedVariables false
set_option linter.unusedSimpArgs false
set_option linter.unusedSectionVars false
set_option maxHeartbeats 4000000
theorem orF_of {k:SVT} {up:UP} {t:PW} {id:Int} (h1:(lkF (vwF k up t) id).isSome=true) (h2:id∈belF (ofS k) (up.length+1) 1):id∈orF k up t:=List.mem_filter.2 ⟨h2,h1⟩
theorem PWOk.vin {k:SVT} {up:UP} {t:PW} (Q:PWOk k up t) {wd hg:Nat} (hw:1≤wd∧wd≤16) (hh:1≤hg∧hg≤16) (hr:lkF t 1=some (rootB wd hg)):VIn wd hg up (orF k up t) (vwF k up t):=by
 have hbl:=bel_len Q.w (up.length+1)
 have hul:=Q.ul
 have ok:=Q.ok 1 _ hr
 have hb:bxF t 1=rootB wd hg:=by unfold bxF;rw[hr];rfl
 have har:∀x y,hasR (areaB (rootB wd hg)) x y=decide ((0≤x∧x<(wd:Int))∧0≤y∧y<(hg:Int)):=fun x y=>by
  rw[ok.area_has]
  show ((!false||hasR [] x y)&&decide ((0≤x∧x<(wd:Int))∧0≤y∧y<(hg:Int)))=_
  simp
 refine⟨by omega,by omega,Q.vok,?_,fun id x y h=>?_,fun x y h=>?_⟩
 ·have h2:=List.length_filter_le (fun id=>(lkF (vwF k up t) id).isSome) (belF (ofS k) (up.length+1) 1)
  unfold orF;omega
 ·unfold clF at h
  cases e:lkF (vwF k up t) id with
  | none=>rw[e] at h;cases h
  | some s=>
   rw[e] at h
   dsimp only at h
   have hc:Can (areaB (bxF t 1)):=Q.hp.bp.can
   cases ha:hasR (areaB (bxF t 1)) x y with
   | true=>
    rw[hb,har] at ha
    simpa using ha
   | false=>
    have:=hand_off (bx:=t) (K:=ofS k) (ox:=oX up t) (oy:=oY up t) (x:=x) (y:=y) (up.length+1) 1 _ _ hc hc ha (id,s) (lkF_mem e)
    rw[h] at this;cases this
 ·obtain⟨_,h1,s,h2,h3⟩:=Q.onP hr h.1 h.2
  have hbm:=top_bel (bx:=t) (ox:=oX up t) (oy:=oY up t) (x:=x) (y:=y) Q.w (up.length+1) 1 (by unfold rkF;omega)
  have hlo:lookF k up t x y∈orF k up t:=orF_of (by rw[h2];rfl) hbm
  refine⟨lookF k up t x y,?_,bel_has Q.w _ _ _ Q.has1 hbm⟩
  cases e:atF (orF k up t) (vwF k up t) x y with
  | none=>
   unfold atF at e
   have:=List.find?_eq_none.1 e _ hlo
   unfold clF at this
   rw[h2] at this
   exact absurd h3 this
  | some id=>
   unfold atF at e
   have g1:=List.find?_some e
   unfold clF at g1
   cases e2:lkF (vwF k up t) id with
   | none=>rw[e2] at g1;cases g1
   | some s'=>
    rw[e2] at g1
    rw[h1 id s' e2 g1]
structure WI2 (k:SVT) (up:UP) (i:Nat) (s:RT):Prop where
 inv:WInv 12 10 i s
 k:s.k=k
 up:s.up=up
end Go.Proofs.YtbknacpdcdkjiaaGreat
