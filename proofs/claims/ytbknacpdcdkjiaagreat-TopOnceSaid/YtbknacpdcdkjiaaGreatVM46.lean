import Derived.Test.YtbknacpdcdkjiaaGreatF68
import Derived.Test.YtbknacpdcdkjiaaGreatF53
import Derived.Test.YtbknacpdcdkjiaaGreatF29
import Derived.Test.YtbknacpdcdkjiaaGreatU4
import Derived.ChangeKeysEq
/- Plain: what holds between two acts of TopOnce. No condition. -/
namespace Go.Proofs.YtbknacpdcdkjiaaGreat
open Go Go.VM
set_option linter.unusedVariables false
set_option linter.unusedSimpArgs false
set_option linter.unusedSectionVars false
set_option maxHeartbeats 4000000
abbrev TR:=Int × Int × Int
def inT (i:IN):TR:=(i.k,i.c,i.t)
def inP (p:Bool) (i:IN):Bool:=decide (decide (3≤i.k)=p)
def sdT (d:SD):TR:=(d.code,d.n.getD 2 0,d.n.getD 8 0)
def sdP (p:Bool) (d:SD):Bool:=decide (decide (3≤d.code)=p)
def trip (p:Bool) (L:List SD):List TR:=(L.filter (sdP p)).map sdT
def tkn (p:Bool) (L:List IN):List TR:=(L.filter (inP p)).map inT
def wtr (d:DV):List TR:=d.ws.map inT
theorem trip_app (p:Bool) (L L':List SD):trip p (L++L')=trip p L++trip p L':=by unfold trip;rw[List.filter_append,List.map_append]
theorem tkn_app (p:Bool) (L L':List IN):tkn p (L++L')=tkn p L++tkn p L':=by unfold tkn;rw[List.filter_append,List.map_append]
structure InOk (p:Bool) (i:IN):Prop where
 k:1≤i.k∧i.k≤5
 p:decide (3≤i.k)=p
 c:0≤i.c∧i.c≤255
 t:0≤i.t∧i.t<2147483648
 x:I64 i.x
 y:I64 i.y
structure SdOk (gr:Bool) (d:SD):Prop where
 code:1≤d.code∧d.code≤5
 len:d.n.length=9
 cl:gr=true→d.cl=3
def k0:SVT:=[(1,[2097153])]
def up0:UP:=[(2097153,1)]
def t0:PW:=[(1,rootB 12 9),(2097153,⟨3,2,5,4,true,0,false,[]⟩)]
def M0:CM:=[((1,1),31),((2,2097153),19)]
structure GD (nw:Int) (d:DV):Prop where
 g:d.g=true
 cl:d.a.cl=3
 w:d.a.w=1
 ow:d.a.ow=false
 mask:d.a.mask=31
 au:d.a.au=false
 pa:d.a.pa=false
 time:0≤d.a.time∧d.a.time≤nw
structure FD (p:Bool) (d:DV):Prop where
 f:d.f=false
 s:d.s=false
 ow:d.a.ow=false
 w:0≤d.a.w∧d.a.w≤4294967295
 g:d.g=true→p=true∧d.a.cl=1∧d.a.w=1∧d.a.mask=31
def DM (gr p:Bool) (nw:Int) (d:DV):Prop:=if gr then GD nw d else FD p d
structure OM (gr:Bool) (s:RT):Prop where
 k:s.k=k0
 up:s.up=up0
 o:s.o=orF k0 up0 t0
 V:s.V=vwF k0 up0 t0
 M:s.M=M0
 N:s.N=[]
 fw:s.fw=1
 un:s.un=1∨s.un=2097153
 nw:0≤s.nw∧s.nw<2147483648
 ct:0≤s.ct∧s.ct≤1000
 qs:∀p,∀i∈(s.dv p).ws,InOk p i
 dm:∀p,DM gr p s.nw (s.dv p)
theorem up0_has (id:Int):hasT up0 id=true↔id=1∨id=2097153:=by
 unfold hasT up0 lkF
 rw[List.find?_cons]
 by_cases h:(2097153:Int)=id
 ·rw[decide_eq_true h];simp[h.symm]
 ·rw[decide_eq_false h];simp[Ne.symm h]
theorem om_tw:TW k0 up0:=by
 have:=TW.start.add (id:=2097153) (p:=1) (by decide) rfl (by decide +kernel)
 exact this
theorem om_ids:IdOk up0:=fun id h=>by
 rcases (up0_has id).1 h with rfl|rfl<;>omega
theorem om_pw:PWOk k0 up0 t0:=by
 have hb:(rootB 12 9).Ok:=⟨by unfold rootB;dsimp only;omega,by unfold rootB;dsimp only;omega,by unfold rootB;dsimp only;omega,by unfold rootB;dsimp only;omega,by unfold rootB;dsimp only;omega,Bx.nil _ _,fun _=>rfl⟩
 have hw:(⟨3,2,5,4,true,0,false,[]⟩:BW).Ok:=⟨by dsimp only;omega,by dsimp only;omega,by dsimp only;omega,by dsimp only;omega,by dsimp only;omega,Bx.nil _ _,fun _=>rfl⟩
 refine⟨om_tw,fun id h=>?_,fun id b h=>?_,⟨12,9,rfl⟩,by decide⟩
 ·rcases (up0_has id).1 h with rfl|rfl
  ·exact⟨_,rfl⟩
  ·exact⟨_,rfl⟩
 ·have:=lkF_mem h
  unfold t0 at this
  rcases List.mem_cons.1 this with e|e
  ·injection e with _ e2;rw[e2];exact hb
  ·rw[List.mem_singleton] at e
   injection e with _ e2;rw[e2];exact hw
theorem om_vin:VIn 12 9 up0 (orF k0 up0 t0) (vwF k0 up0 t0):=PWOk.vin om_pw (wd:=12) (hg:=9) (by omega) (by omega) rfl
section
variable {gr:Bool} {s:RT} (h:OM gr s)
include h
theorem OM.ok:s.Ok:=by
 have v:=om_vin
 refine⟨by rw[h.k,h.up];exact om_tw,by rw[h.up];decide,by rw[h.V];exact v.vo,by rw[h.o];exact v.ol⟩
theorem OM.ids:IdOk s.up:=by rw[h.up];exact om_ids
theorem OM.vin:VIn 12 9 s.up s.o s.V:=by rw[h.up,h.o,h.V];exact om_vin
theorem OM.hu:hasT s.up s.un=true:=by rw[h.up];exact (up0_has _).2 h.un
theorem OM.ow (p:Bool):(s.dv p).a.ow=false:=by
 have:=h.dm p
 unfold DM at this
 split at this
 ·exact this.ow
 ·exact this.ow
theorem OM.aw (p:Bool):0≤(s.dv p).a.w∧(s.dv p).a.w≤4294967295:=by
 have:=h.dm p
 unfold DM at this
 split at this
 ·rw[this.w];decide
 ·exact this.w
theorem OM.names (p:Bool) (m:Int) (hm:(p=false∧(m=1∨m=2))∨(p=true∧(m=4∨m=8∨m=16))) :
  ∃w c,namesF s p m=(w,[c])∧(0≤w∧w≤4294967295)∧(gr=true→c=3)∧(gr=false→p=true→m=4→w=1∧c=1):=by
 have h31:bitsI .and .i64 31 m≠0:=by
  rcases hm with ⟨_,rfl|rfl⟩|⟨_,rfl|rfl|rfl⟩<;>decide +kernel
 have hd:=h.dm p
 unfold DM at hd
 cases gr with
 | true=>
  rw[if_pos rfl] at hd
  refine⟨1,3,?_,by decide,fun _=>rfl,(fun e=>nomatch e)⟩
  unfold namesF
  rw[hd.g,if_neg (by decide),hd.mask,if_pos h31,hd.w,hd.cl]
 | false=>
  rw[if_neg (by decide)] at hd
  cases hg:(s.dv p).g with
  | true=>
   obtain⟨_,h1,h2,h3⟩:=hd.g hg
   refine⟨1,1,?_,by decide,(fun e=>nomatch e),fun _ _ _=>⟨rfl,rfl⟩⟩
   unfold namesF
   rw[hg,if_neg (by decide),h3,if_pos h31,h2,h1]
  | false=>
   have e:namesF s p m=findF M0 [] m (if p then pathA up0 s.un else wayF up0 1 s.un):=by
    unfold namesF
    rw[if_pos hg,h.M,h.N,h.up,h.fw]
   rw[e]
   rcases h.un with hu|hu<;>rw[hu]<;>rcases hm with ⟨rfl,rfl|rfl⟩|⟨rfl,rfl|rfl|rfl⟩
   ·exact⟨1,1,by decide +kernel,by decide,(fun e=>nomatch e),(fun _ e=>nomatch e)⟩
   ·exact⟨1,1,by decide +kernel,by decide,(fun e=>nomatch e),(fun _ e=>nomatch e)⟩
   ·exact⟨1,1,by decide +kernel,by decide,(fun e=>nomatch e),fun _ _ _=>⟨rfl,rfl⟩⟩
   ·exact⟨1,1,by decide +kernel,by decide,(fun e=>nomatch e),fun _ _ _=>⟨rfl,rfl⟩⟩
   ·exact⟨1,1,by decide +kernel,by decide,(fun e=>nomatch e),fun _ _ _=>⟨rfl,rfl⟩⟩
   ·exact⟨2097153,2,by decide +kernel,by decide,(fun e=>nomatch e),(fun _ e=>nomatch e)⟩
   ·exact⟨2097153,2,by decide +kernel,by decide,(fun e=>nomatch e),(fun _ e=>nomatch e)⟩
   ·exact⟨1,1,by decide +kernel,by decide,(fun e=>nomatch e),fun _ _ _=>⟨rfl,rfl⟩⟩
   ·exact⟨1,1,by decide +kernel,by decide,(fun e=>nomatch e),fun _ _ _=>⟨rfl,rfl⟩⟩
   ·exact⟨2097153,2,by decide +kernel,by decide,(fun e=>nomatch e),(fun _ _ e=>absurd e (by decide))⟩
theorem OM.crs (x y n:Int):crsF (s.xy x y) n=[]:=by
 have hw:∀id,whoF s.M id 32=[]∧whoF s.M id 64=[]:=fun id=>by
  rw[h.M]
  have hb:∀c,mkF M0 c id=0∨mkF M0 c id=31∨mkF M0 c id=19:=fun c=>by
   unfold mkF lkK M0
   rw[List.find?_cons]
   by_cases e1:((1,1):KY)=(c,id)
   ·rw[decide_eq_true e1];exact .inr (.inl rfl)
   ·rw[decide_eq_false e1]
    dsimp only
    rw[List.find?_cons]
    by_cases e2:((2,2097153):KY)=(c,id)
    ·rw[decide_eq_true e2];exact .inr (.inr rfl)
    ·rw[decide_eq_false e2];exact .inl rfl
  constructor
  ·unfold whoF
   refine List.filter_eq_nil_iff.2 fun c _=>?_
   rcases hb c with e|e|e<;>rw[e]<;>decide +kernel
  ·unfold whoF
   refine List.filter_eq_nil_iff.2 fun c _=>?_
   rcases hb c with e|e|e<;>rw[e]<;>decide +kernel
 unfold crsF
 rw[List.flatMap_eq_nil_iff]
 intro st _
 unfold crsC
 have h1:=hw st.1
 have h2:whoF s.M st.1 (if st.2.1 then 32 else 64)=[]:=by
  cases st.2.1 with
  | true=>exact h1.1
  | false=>exact h1.2
 show (whoF s.M st.1 (if st.2.1 then 32 else 64)).map _=[]
 rw[h2];rfl
end
end Go.Proofs.YtbknacpdcdkjiaaGreat
/- An input is taken: it is told once. No condition. -/
namespace Go.Proofs.YtbknacpdcdkjiaaGreat
open Go Go.VM
set_option linter.unusedVariables false
set_option linter.unusedSimpArgs false
set_option linter.unusedSectionVars false
set_option maxHeartbeats 4000000
structure Fr (s s':RT):Prop where
 ws:∀p,(s'.dv p).ws=(s.dv p).ws
 f:∀p,(s'.dv p).f=(s.dv p).f
 st:∀p,(s'.dv p).s=(s.dv p).s
 ct:s'.ct=s.ct
 nw:s'.nw=s.nw
theorem Fr.refl (s:RT):Fr s s:=⟨fun _=>rfl,fun _=>rfl,fun _=>rfl,rfl,rfl⟩
theorem OM.bm {gr:Bool} {s:RT} (h:OM gr s) (bt md:Int):OM gr (s.bm bt md):=⟨h.k,h.up,h.o,h.V,h.M,h.N,h.fw,h.un,h.nw,h.ct,h.qs,h.dm⟩
theorem Fr.bm (s:RT) (bt md:Int):Fr s (s.bm bt md):=⟨fun p=>by cases p<;>rfl,fun p=>by cases p<;>rfl,fun p=>by cases p<;>rfl,rfl,rfl⟩
theorem lgF_same {d:DV} (h:d.f=false) (h2:d.s=false):lgF d=d:=by unfold lgF;rw[if_neg (by rw[h,h2];simp)]
theorem OM.rel {gr:Bool} {s:RT} (h:OM gr s) (p:Bool) (c:Int):OM gr (relS s p c)∧Fr s (relS s p c):=by
 have hd:=h.dm p
 unfold DM at hd
 unfold relS
 cases gr with
 | true=>
  rw[if_pos rfl] at hd
  have:relF s.bt p c (s.dv p).a=false:=by
   unfold relF
   rw[hd.au,hd.pa]
   cases p<;>simp
  rw[this,Bool.and_false,if_neg (by decide)]
  exact⟨h,Fr.refl s⟩
 | false=>
  rw[if_neg (by decide)] at hd
  split
  ·next e=>
   rw[Bool.and_eq_true] at e
   obtain⟨hp,_⟩:=hd.g e.1
   subst hp
   have hq:=h.dm false
   unfold DM at hq
   rw[if_neg (by decide)] at hq
   have e2:endF s true=s.setd true (s.p.end_):=by
    unfold endF
    rw[show (s.setd true (s.dv true).end_).dv (!true)=s.dv false from rfl,lgF_same hq.f hq.s];rfl
   rw[e2]
   refine⟨⟨h.k,h.up,h.o,h.V,h.M,h.N,h.fw,h.un,h.nw,h.ct,fun q=>?_,fun q=>?_⟩,⟨fun q=>?_,fun q=>?_,fun q=>?_,rfl,rfl⟩⟩
   ·cases q with
    | true=>exact h.qs true
    | false=>exact h.qs false
   ·cases q with
    | true=>exact⟨rfl,rfl,rfl,by show (0:Int)≤0∧(0:Int)≤4294967295;decide,(fun e=>nomatch e)⟩
    | false=>exact h.dm false
   ·cases q<;>rfl
   ·cases q with
    | true=>exact hd.f.symm
    | false=>rfl
   ·cases q with
    | true=>exact hd.s.symm
    | false=>rfl
  ·exact⟨h,Fr.refl s⟩
theorem OM.aut {s:RT} {gr:Bool} (h:OM gr s) (i:IN) (hc:0≤i.t) {w c:Int} (hn:gr=false→w=1∧c=1):OM gr (if s.p.g then s else autF s i w [c])∧Fr s (if s.p.g then s else autF s i w [c]):=by
 have hd:=h.dm true
 unfold DM at hd
 cases gr with
 | true=>
  rw[if_pos rfl] at hd
  rw[show s.p.g=true from hd.g,if_pos rfl]
  exact⟨h,Fr.refl s⟩
 | false=>
  rw[if_neg (by decide)] at hd
  split
  ·exact⟨h,Fr.refl s⟩
  ·obtain⟨rfl,rfl⟩:=hn rfl
   have hm:mkF s.M 1 1=31:=by rw[h.M];decide +kernel
   unfold autF
   dsimp only
   rw[hm]
   refine⟨⟨h.k,h.up,h.o,h.V,h.M,h.N,h.fw,h.un,h.nw,h.ct,fun q=>?_,fun q=>?_⟩,⟨fun q=>?_,fun q=>?_,fun q=>?_,rfl,rfl⟩⟩
   ·cases q with
    | true=>exact h.qs true
    | false=>exact h.qs false
   ·cases q with
    | true=>exact⟨rfl,rfl,rfl,by show (0:Int)≤1∧(1:Int)≤4294967295;decide,fun _=>⟨rfl,rfl,rfl,rfl⟩⟩
    | false=>exact h.dm false
   ·cases q<;>rfl
   ·cases q with
    | true=>exact hd.f.symm
    | false=>rfl
   ·cases q with
    | true=>exact hd.s.symm
    | false=>rfl
def OneEv (gr:Bool) (i:IN) (l:List SD):Prop:=∃d,l=[d]∧SdOk gr d∧sdT d=inT i
theorem one_ev {gr:Bool} {i:IN} (hk:1≤i.k∧i.k≤5) {w c ch st sx sy x y:Int} (hc:gr=true→c=3):OneEv gr i [⟨c,i.k,[w,ch,i.c,st,sx,sy,x,y,i.t]⟩]:=⟨_,rfl,⟨hk,rfl,hc⟩,rfl⟩
theorem takeO_c {gr:Bool} {s:RT} (h:OM gr s) (p:Bool) (i:IN) (L:List SD) (hi:InOk p i) (hl:L.length≤100000):TakC 96 s i [] L (fun s' l=>OM gr s'∧Fr s s'∧OneEv gr i l):=by
 have hk:=hi.k
 have hp:=hi.p
 have ht:0≤i.t∧i.t≤4294967295:=by have:=hi.t;omega
 have hic:-1000000≤i.c∧i.c≤1000000:=by have:=hi.c;omega
 refine take_c hk ?_
 obtain e|e|e|e|e:i.k=1∨i.k=2∨i.k=3∨i.k=4∨i.k=5:=by omega
 ·rw[show (kdF i.k).fn=77 by rw[e];rfl]
  obtain⟨w,c,hn,hw,h3,_⟩:=h.names false 1 (.inl ⟨rfl,.inl rfl⟩)
  refine (pressK_t s i [] L h.ok e (h.ow false) (by rw[hn];exact hw) (by rw[hn];simp;omega) ht hic).mono ?_
  rintro s' l ⟨bt,md,ch,sx,sy,rfl,rfl⟩
  refine⟨h.bm bt md,Fr.bm s bt md,?_⟩
  unfold tellF
  rw[hn]
  exact one_ev hk h3
 ·rw[show (kdF i.k).fn=78 by rw[e];rfl]
  obtain⟨w,c,hn,hw,h3,_⟩:=h.names false 2 (.inl ⟨rfl,.inr rfl⟩)
  intro b0 v H
  refine (releaseK_c b0 v s i [] L H h.ok e (h.ow false) (by rw[hn];exact hw) (by rw[hn];simp;omega) ht hic).mono ?_
  rintro r h' ⟨v',bt,md,ch,sx,sy,rfl,rfl⟩
  have:=(h.bm bt md).rel false i.c
  refine⟨v',relS (s.bm bt md) false i.c,[⟨c,i.k,[w,ch,i.c,stF s,sx,sy,s.x,s.y,i.t]⟩],⟨this.1,?_,one_ev hk h3⟩,rfl,?_⟩
  ·have f1:=Fr.bm s bt md
   exact⟨fun p=>(this.2.ws p).trans (f1.ws p),fun p=>(this.2.f p).trans (f1.f p),fun p=>(this.2.st p).trans (f1.st p),this.2.ct.trans f1.ct,this.2.nw.trans f1.nw⟩
  ·rw[hn];rfl
 ·rw[show (kdF i.k).fn=77 by rw[e];rfl]
  obtain⟨w,c,hn,hw,h3,h4⟩:=h.names true 4 (.inr ⟨rfl,.inl rfl⟩)
  intro b0 v H
  refine (pressP_c b0 v s i [] L H h.ok e (h.ow true) (by rw[hn];exact hw) (by rw[hn];simp;omega) ht hic).mono ?_
  rintro r h' ⟨v',bt,md,ch,sx,sy,rfl,rfl⟩
  have:=h.aut i ht.1 (w:=w) (c:=c) (fun q=>h4 q rfl rfl)
  rw[hn]
  refine⟨v',(if s.p.g then s else autF s i w [c]).bm bt md,[⟨c,i.k,[w,ch,i.c,stF s,sx,sy,s.x,s.y,i.t]⟩],⟨this.1.bm bt md,?_,one_ev hk h3⟩,rfl,rfl⟩
  have f1:=Fr.bm (if s.p.g then s else autF s i w [c]) bt md
  exact⟨fun p=>(f1.ws p).trans (this.2.ws p),fun p=>(f1.f p).trans (this.2.f p),fun p=>(f1.st p).trans (this.2.st p),f1.ct.trans this.2.ct,f1.nw.trans this.2.nw⟩
 ·rw[show (kdF i.k).fn=78 by rw[e];rfl]
  obtain⟨w,c,hn,hw,h3,_⟩:=h.names true 8 (.inr ⟨rfl,.inr (.inl rfl)⟩)
  intro b0 v H
  refine (releaseP_c b0 v s i [] L H h.ok e (h.ow true) (by rw[hn];exact hw) (by rw[hn];simp;omega) ht hic).mono ?_
  rintro r h' ⟨v',bt,md,ch,sx,sy,rfl,rfl⟩
  have:=(h.bm bt md).rel true i.c
  refine⟨v',relS (s.bm bt md) true i.c,[⟨c,i.k,[w,ch,i.c,stF s,sx,sy,s.x,s.y,i.t]⟩],⟨this.1,?_,one_ev hk h3⟩,rfl,?_⟩
  ·have f1:=Fr.bm s bt md
   exact⟨fun p=>(this.2.ws p).trans (f1.ws p),fun p=>(this.2.f p).trans (f1.f p),fun p=>(this.2.st p).trans (f1.st p),this.2.ct.trans f1.ct,this.2.nw.trans f1.nw⟩
  ·rw[hn];rfl
 ·rw[show (kdF i.k).fn=79 by rw[e];rfl]
  refine (motion_t s i [] L 12 9 h.ok h.ids h.vin h.hu e (h.ow true) (h.aw true) (by have:=h.nw;omega) ht hl hi.x hi.y).mono ?_
  rintro s' l ⟨x,y,n,ch,sx,sy,_,_,hn1,rfl,rfl⟩
  have hm:OM gr ((s.xy x y).ud n):=⟨h.k,h.up,h.o,h.V,h.M,h.N,h.fw,by rw[h.up] at hn1;exact (up0_has n).1 hn1,h.nw,h.ct,h.qs,h.dm⟩
  obtain⟨w,c,hn,hw,h3,_⟩:=hm.names true 16 (.inr ⟨rfl,.inr (.inr rfl)⟩)
  refine⟨hm,⟨fun p=>by cases p<;>rfl,fun p=>by cases p<;>rfl,fun p=>by cases p<;>rfl,rfl,rfl⟩,?_⟩
  rw[h.crs,List.nil_append]
  unfold motF
  rw[hn]
  exact one_ev hk h3
end Go.Proofs.YtbknacpdcdkjiaaGreat
/- All that can be taken is told, in order. No condition. -/
namespace Go.Proofs.YtbknacpdcdkjiaaGreat
open Go Go.VM
set_option linter.unusedVariables false
set_option linter.unusedSimpArgs false
set_option linter.unusedSectionVars false
set_option maxHeartbeats 4000000
structure AI (gr:Bool) (fl:Bool→Bool) (s0 s:RT) (L:List SD):Prop where
 om:OM gr s
 good:∀d∈L,SdOk gr d
 cons:∀p,trip p L++wtr (s.dv p)=wtr (s0.dv p)
 len:L.length+s.wts=s0.wts
 ct:s.ct=s0.ct
 nw:s.nw=s0.nw
 fl:∀p,fl p=true→(s.dv p).f=false∧(s.dv p).s=false
theorem pick_next {s:RT} {p:Bool} {n:DV} {i:IN} (h:pickF s=some (p,n,i)):(s.dv p).next=some (n,i):=by
 unfold pickF at h
 split at h
 ·cases h
 ·next x e1 e2=>injection h with h;injection h with h1 h2;subst h1;rw[show s.dv true=s.p from rfl,e1,h2]
 ·next y e1 e2=>injection h with h;injection h with h1 h2;subst h1;rw[show s.dv false=s.q from rfl,e2,h2]
 ·next x y e1 e2=>
  split at h
  ·injection h with h;injection h with h1 h2;subst h1;rw[show s.dv true=s.p from rfl,e1,h2]
  ·injection h with h;injection h with h1 h2;subst h1;rw[show s.dv false=s.q from rfl,e2,h2]
theorem next_spec {d n:DV} {i:IN} (h:d.next=some (n,i)):∃l,d.ws=i::l∧d.f=false∧(hldF d n i).ws=l∧(hldF d n i).a=d.a∧(hldF d n i).g=d.g∧(d.s=false→(hldF d n i).f=false∧(hldF d n i).s=false):=by
 unfold DV.next at h
 split at h
 ·cases h
 ·next j l e=>
  split at h
  ·cases h
  ·next hf=>
   injection h with h
   injection h with h1 h2
   subst h2
   have hf:d.f=false:=by simpa using hf
   refine⟨l,e,hf,?_⟩
   unfold hldF
   rw[←h1]
   cases hs:d.s with
   | false=>
    simp only[Bool.false_and,Bool.false_eq_true,↓reduceIte]
    exact⟨rfl,rfl,rfl,fun _=>⟨hf,hs⟩⟩
   | true=>
    simp only[Bool.true_and]
    split
    ·rename_i q
     split
     ·exact⟨rfl,rfl,rfl,(fun e=>nomatch e)⟩
     ·exact⟨rfl,rfl,rfl,(fun e=>nomatch e)⟩
    ·split
     ·exact⟨rfl,rfl,rfl,(fun e=>nomatch e)⟩
     ·exact⟨rfl,rfl,rfl,(fun e=>nomatch e)⟩
theorem setd_dv (s:RT) (p q:Bool) (d:DV):(s.setd p d).dv q=if q=p then d else s.dv q:=by cases p<;>cases q<;>rfl
theorem OM.setd {gr:Bool} {s:RT} (h:OM gr s) {p:Bool} {d:DV} (hq:∀i∈d.ws,InOk p i) (hd:DM gr p s.nw d):OM gr (s.setd p d):=by
 have e:∀q,(s.setd p d).dv q=if q=p then d else s.dv q:=fun q=>setd_dv s p q d
 have hq':∀q,∀i∈((s.setd p d).dv q).ws,InOk q i:=fun q i hi=>by
  rw[e] at hi
  split at hi
  ·next q1=>rw[q1];exact hq i hi
  ·exact h.qs q i hi
 have hd':∀q,DM gr q s.nw ((s.setd p d).dv q):=fun q=>by
  rw[e]
  split
  ·next q1=>rw[q1];exact hd
  ·exact h.dm q
 cases p with
 | true=>exact⟨h.k,h.up,h.o,h.V,h.M,h.N,h.fw,h.un,h.nw,h.ct,hq',hd'⟩
 | false=>exact⟨h.k,h.up,h.o,h.V,h.M,h.N,h.fw,h.un,h.nw,h.ct,hq',hd'⟩
theorem wts_dv (s:RT) (p:Bool):s.wts=(s.dv p).ws.length+(s.dv (!p)).ws.length:=by cases p<;>simp[RT.wts,RT.dv]<;>omega
theorem AI.next {gr:Bool} {fl:Bool→Bool} {s0 s:RT} {L:List SD} (h:AI gr fl s0 s L) {p:Bool} {n:DV} {i:IN} (hp:pickF s=some (p,n,i)) (h100:s0.wts≤1000) :
  TakC 96 (s.setd p (hldF (s.dv p) n i)) i [] L (fun s' l=>AI gr fl s0 s' (L++l)∧s'.wts<s.wts):=by
 obtain⟨l,e1,e2,e3,e4,e5,e6⟩:=next_spec (pick_next hp)
 have hin:InOk p i:=h.om.qs p i (by rw[e1];exact List.mem_cons_self ..)
 have hdm:=h.om.dm p
 have om1:OM gr (s.setd p (hldF (s.dv p) n i)):=by
  refine h.om.setd (fun j hj=>h.om.qs p j (by rw[e1];rw[e3] at hj;exact List.mem_cons_of_mem _ hj)) ?_
  unfold DM at hdm ⊢
  cases gr with
  | true=>
   rw[if_pos rfl] at hdm ⊢
   exact⟨e5.trans hdm.g,by rw[e4];exact hdm.cl,by rw[e4];exact hdm.w,by rw[e4];exact hdm.ow,by rw[e4];exact hdm.mask,by rw[e4];exact hdm.au,by rw[e4];exact hdm.pa,by rw[e4];exact hdm.time⟩
  | false=>
   rw[if_neg (by decide)] at hdm ⊢
   obtain⟨q1,q2⟩:=e6 hdm.s
   exact⟨q1,q2,by rw[e4];exact hdm.ow,by rw[e4];exact hdm.w,by rw[e4,e5];exact hdm.g⟩
 have hlen:=h.len
 refine (takeO_c om1 p i L hin (by omega)).mono ?_
 rintro s' l' ⟨om2,fr,d,rfl,hok,hsd⟩
 have ed:∀q,(s'.dv q).ws=if q=p then l else (s.dv q).ws:=fun q=>by
  rw[fr.ws,setd_dv]
  split
  ·exact e3
  ·rfl
 have hcode:d.code=i.k:=by
  have:=congrArg Prod.fst hsd
  exact this
 have w1:=wts_dv s p
 have w2:=wts_dv s' p
 rw[ed,ed,if_pos rfl,if_neg (by cases p<;>decide)] at w2
 rw[e1,List.length_cons] at w1
 have hc:s'.ct=s.ct:=by rw[fr.ct];cases p<;>rfl
 have hn:s'.nw=s.nw:=by rw[fr.nw];cases p<;>rfl
 refine⟨⟨om2,fun x hx=>?_,fun q=>?_,?_,hc.trans h.ct,hn.trans h.nw,fun q hq=>?_⟩,by omega⟩
 ·rcases List.mem_append.1 hx with hx|hx
  ·exact h.good x hx
  ·rw[List.mem_singleton.1 hx];exact hok
 ·rw[←h.cons q,trip_app,List.append_assoc]
  congr 1
  unfold wtr
  rw[ed]
  unfold trip sdP
  rw[List.filter_cons,hcode,hin.p]
  by_cases hqp:q=p
  ·subst hqp
   rw[decide_eq_true rfl,if_pos rfl,if_pos rfl,e1,List.filter_nil,List.map_cons,List.map_nil,hsd];rfl
  ·rw[decide_eq_false (fun e=>hqp e.symm),if_neg (by decide),if_neg hqp,List.filter_nil];rfl
 ·rw[List.length_append,List.length_singleton];omega
 ·rw[fr.f,fr.st,setd_dv]
  split
  ·next q1=>rw[q1] at hq;exact e6 (h.fl p hq).2
  ·exact h.fl q hq
theorem pick_done {s:RT} (h:pickF s=none) (p:Bool) (hf:(s.dv p).f=false):(s.dv p).ws=[]:=by
 have hn:(s.dv p).next=none:=by
  unfold pickF at h
  split at h
  ·next e1 e2=>cases p<;>assumption
  ·cases h
  ·cases h
  ·split at h<;>cases h
 unfold DV.next at hn
 split at hn
 ·next e=>exact e
 ·rw[hf,if_neg (by decide)] at hn;cases hn
end Go.Proofs.YtbknacpdcdkjiaaGreat
/- What was told of a device. No condition. -/
namespace Go.Proofs.YtbknacpdcdkjiaaGreat
open Go Go.VM
attribute [local irreducible] PurV Pur Step RL W D ACalls Then InBlock Fini
set_option linter.unusedVariables false
set_option linter.unusedSimpArgs false
set_option maxHeartbeats 20000000
def trE (t:TR):AV:=.agg [AV.val (.int .i64 (t.1)),AV.val (.int .i64 (t.2.1)),AV.val (.int .i64 (t.2.2))]
theorem trip_take {p:Bool} {L:List SD} {i:Nat} {d:SD} (h:L[i]?=some d):trip p (L.take (i+1))=trip p (L.take i)++(if sdP p d then [sdT d] else []):=by
 rw[List.take_add_one,h,Option.toList_some,trip_app]
 congr 1
 unfold trip
 rw[List.filter_cons]
 split<;>rfl
theorem trip_len (p:Bool) (L:List SD):(trip p L).length≤L.length:=by unfold trip;rw[List.length_map];exact List.length_filter_le _ _
set_option maxRecDepth 100000 in
theorem otold_c0 (gr p:Bool) (L:List SD) (TT:List AV) (H:Heap) (hl:TT.length=L.length) (hll:L.length≤1000000)
  (hT:∀(j:Nat) (d:SD),L[j]?=some d→∃NL:List Int,TT[j]?=some (.agg [AV.val (.int .i64 (d.cl)),AV.val (.int .i64 (2)),AV.val (.int .i64 (d.code)),AV.val (.int .i64 (0)),.ro 1 (ints .i64 (NL)),.val (.string ⟨#[]⟩),.val (.slice none 0 0)])∧NL.length=9∧NL[2]?=some (sdT d).2.1∧NL[8]?=some (sdT d).2.2)
  (hd:∀(j:Nat) (d:SD),L[j]?=some d→(1≤d.code∧d.code≤5)∧(gr=true→d.cl=3)) :
  ACalls Tryz.prog 23 [.ro 7 TT,AV.val (.bool (p)),AV.val (.int .i64 (if gr then 3 else 0))] H (fun r h'=>∃v,r=.tup [.val v,AV.val (.bool (true))]∧h'=.own v 3 ((trip p L).map trE) 165::H):=by
 refine ACalls.intro Tryz.func23 rfl Tryz.ntmps23 Tryz.results23 (Nat.le_of_ble_eq_true rfl) ?_
 refine W.nil_ 3 165 ?_
 (repeat' first|refine svE ⟨?_⟩|refine .b fun b=>?_|refine .u fun u=>?_|refine .d ?_ ?_|(refine .g fun hg=>?_;try exact svx)|fail)
 refine W.loop (J:=fun z:Nat × Value=>⟨61,[(14,AV.val (.int .i64 ((z.1:Nat)))),(13,AV.val (.int .i64 ((TT.length:Nat)))),(12,.ro 7 TT),(8,.val z.2),(1,AV.val (.bool (p))),(2,AV.val (.int .i64 (if gr then 3 else 0)))],.own z.2 3 ((trip p (L.take z.1)).map trE) 165::H⟩)
  (Φ:=fun z=>z.1≤L.length) (μ:=fun z=>L.length - z.1) (0,.slice none 0 0) lee (Nat.zero_le _) ?_
 rintro⟨i,v1⟩ hi
 dsimp only at hi ⊢
 rcases Nat.lt_or_ge i L.length with hlt|hge
 ·obtain⟨d,hst⟩:∃d,L[i]?=some d:=⟨_,List.getElem?_eq_getElem hlt⟩
  obtain⟨NL,hat,h9,hn2,hn8⟩:=hT i d hst
  obtain⟨hc5,hcl⟩:=hd i d hst
  have et:=trip_take (p:=p) hst
  have em:(sdT d)=(d.code,(sdT d).2.1,(sdT d).2.2):=rfl
  rw[em] at et
  generalize (sdT d).2.1=x2 at *
  generalize (sdT d).2.2=x8 at *
  have hp:sdP p d=decide (decide (3≤d.code)=p):=rfl
  rw[hp] at et
  obtain⟨dc,dk,dn⟩:=d
  dsimp only at *
  clear hT hd hp em
  by_cases h3:3≤dk
  ·rw[decide_eq_true h3] at et
   cases p with
   | true=>
    have hne:¬ (decide (3≤dk)≠true):=(by simp[h3]);rw[if_pos (decide_eq_true rfl)] at et;have et2:=congrArg (List.map trE) et;rw[List.map_append,show List.map trE [(dk,x2,x8)]=[.agg [AV.val (.int .i64 (dk)),AV.val (.int .i64 (x2)),AV.val (.int .i64 (x8))]] from rfl] at et2;have hlen:(trip true (L.take i)).length≤1000000:=Nat.le_trans (trip_len _ _) (by rw[List.length_take];omega);clear et hst
    cases gr with
    | true=>simp only[↓reduceIte,Bool.false_eq_true,true_imp_iff,false_imp_iff] at hcl ⊢;(repeat' (first|(refine iR2 ?_;refine r2b ?_;refine R2.one (kk:=3) ?_)|refine svF ⟨?_⟩|refine .b fun b=>?_|refine .u fun u=>?_|refine .d ?_ ?_|(refine .g fun hg=>?_;try exact svx)|refine sva ?_|refine sv3 ?_|fail));refine R2.T (v:=.agg [AV.val (.int .i64 (dk)),AV.val (.int .i64 (x2)),AV.val (.int .i64 (x8))]) ?_ (hp:=.l rfl (pur_buildarr (by repeat (first|exact EvalP.nil|(apply EvalP.cons;rfl))) rfl).pur);(repeat' (first|(refine iR2 ?_;refine r2b ?_;refine R2.one (kk:=3) ?_)|refine svF ⟨?_⟩|refine .b fun b=>?_|refine .u fun u=>?_|refine .d ?_ ?_|(refine .g fun hg=>?_;try exact svx)|refine sva ?_|refine sv3 ?_|fail));refine⟨(i+1,by assumption),hlt,?_,by dsimp only;omega⟩;dsimp only;rw[et2];exact lee
    | false=>simp only[↓reduceIte,Bool.false_eq_true,true_imp_iff,false_imp_iff] at hcl ⊢;(repeat' (first|(refine iR2 ?_;refine r2b ?_;refine R2.one (kk:=3) ?_)|refine svF ⟨?_⟩|refine .b fun b=>?_|refine .u fun u=>?_|refine .d ?_ ?_|(refine .g fun hg=>?_;try exact svx)|refine sva ?_|refine sv3 ?_|fail));refine R2.T (v:=.agg [AV.val (.int .i64 (dk)),AV.val (.int .i64 (x2)),AV.val (.int .i64 (x8))]) ?_ (hp:=.l rfl (pur_buildarr (by repeat (first|exact EvalP.nil|(apply EvalP.cons;rfl))) rfl).pur);(repeat' (first|(refine iR2 ?_;refine r2b ?_;refine R2.one (kk:=3) ?_)|refine svF ⟨?_⟩|refine .b fun b=>?_|refine .u fun u=>?_|refine .d ?_ ?_|(refine .g fun hg=>?_;try exact svx)|refine sva ?_|refine sv3 ?_|fail));refine⟨(i+1,by assumption),hlt,?_,by dsimp only;omega⟩;dsimp only;rw[et2];exact lee
   | false=>have hne:decide (3≤dk)≠false:=(by simp[h3]);rw[if_neg (by decide),List.append_nil] at et;clear hst hcl;(repeat' first|refine svE ⟨?_⟩|refine .b fun b=>?_|refine .u fun u=>?_|refine .d ?_ ?_|(refine .g fun hg=>?_;try exact svx)|fail);refine⟨(i+1,v1),hlt,?_,by dsimp only;omega⟩;dsimp only;rw[et];exact lee
  ·rw[decide_eq_false h3] at et
   cases p with
   | true=>have hne:decide (3≤dk)≠true:=(by simp[h3]);rw[if_neg (by decide),List.append_nil] at et;clear hst hcl;(repeat' first|refine svE ⟨?_⟩|refine .b fun b=>?_|refine .u fun u=>?_|refine .d ?_ ?_|(refine .g fun hg=>?_;try exact svx)|fail);refine⟨(i+1,v1),hlt,?_,by dsimp only;omega⟩;dsimp only;rw[et];exact lee
   | false=>
    have hne:¬ (decide (3≤dk)≠false):=(by simp[h3]);rw[if_pos (decide_eq_true rfl)] at et;have et2:=congrArg (List.map trE) et;rw[List.map_append,show List.map trE [(dk,x2,x8)]=[.agg [AV.val (.int .i64 (dk)),AV.val (.int .i64 (x2)),AV.val (.int .i64 (x8))]] from rfl] at et2;have hlen:(trip false (L.take i)).length≤1000000:=Nat.le_trans (trip_len _ _) (by rw[List.length_take];omega);clear et hst
    cases gr with
    | true=>simp only[↓reduceIte,Bool.false_eq_true,true_imp_iff,false_imp_iff] at hcl ⊢;(repeat' (first|(refine iR2 ?_;refine r2b ?_;refine R2.one (kk:=3) ?_)|refine svF ⟨?_⟩|refine .b fun b=>?_|refine .u fun u=>?_|refine .d ?_ ?_|(refine .g fun hg=>?_;try exact svx)|refine sva ?_|refine sv3 ?_|fail));refine R2.T (v:=.agg [AV.val (.int .i64 (dk)),AV.val (.int .i64 (x2)),AV.val (.int .i64 (x8))]) ?_ (hp:=.l rfl (pur_buildarr (by repeat (first|exact EvalP.nil|(apply EvalP.cons;rfl))) rfl).pur);(repeat' (first|(refine iR2 ?_;refine r2b ?_;refine R2.one (kk:=3) ?_)|refine svF ⟨?_⟩|refine .b fun b=>?_|refine .u fun u=>?_|refine .d ?_ ?_|(refine .g fun hg=>?_;try exact svx)|refine sva ?_|refine sv3 ?_|fail));refine⟨(i+1,by assumption),hlt,?_,by dsimp only;omega⟩;dsimp only;rw[et2];exact lee
    | false=>simp only[↓reduceIte,Bool.false_eq_true,true_imp_iff,false_imp_iff] at hcl ⊢;(repeat' (first|(refine iR2 ?_;refine r2b ?_;refine R2.one (kk:=3) ?_)|refine svF ⟨?_⟩|refine .b fun b=>?_|refine .u fun u=>?_|refine .d ?_ ?_|(refine .g fun hg=>?_;try exact svx)|refine sva ?_|refine sv3 ?_|fail));refine R2.T (v:=.agg [AV.val (.int .i64 (dk)),AV.val (.int .i64 (x2)),AV.val (.int .i64 (x8))]) ?_ (hp:=.l rfl (pur_buildarr (by repeat (first|exact EvalP.nil|(apply EvalP.cons;rfl))) rfl).pur);(repeat' (first|(refine iR2 ?_;refine r2b ?_;refine R2.one (kk:=3) ?_)|refine svF ⟨?_⟩|refine .b fun b=>?_|refine .u fun u=>?_|refine .d ?_ ?_|(refine .g fun hg=>?_;try exact svx)|refine sva ?_|refine sv3 ?_|fail));refine⟨(i+1,by assumption),hlt,?_,by dsimp only;omega⟩;dsimp only;rw[et2];exact lee
 ·rw[List.take_of_length_le hge]
  (repeat' first|refine svE ⟨?_⟩|refine .b fun b=>?_|refine .u fun u=>?_|refine .d ?_ ?_|(refine .g fun hg=>?_;try exact svx)|fail)
  exact fin_r (h':=.own v1 3 ((trip p L).map trE) 165::H) ⟨v1,rfl,rfl⟩
theorem otold_c (gr p:Bool) (L:List SD) (H:Heap) (hll:L.length≤1000000) (hd:∀d∈L,SdOk gr d) :
  ACalls Tryz.prog 23 [.ro 7 (L.map SD.enc),AV.val (.bool (p)),AV.val (.int .i64 (if gr then 3 else 0))] H (fun r h'=>r=.tup [.ro 3 ((trip p L).map trE),AV.val (.bool (true))]∧h'=H):=by
 have h0:=otold_c0 gr p L (L.map SD.enc) H (by rw[List.length_map]) hll (fun j d hj=>by
  have h9:=(hd d (List.mem_of_getElem? hj)).len
  have h2:d.n[2]?=some (sdT d).2.1:=by
   have:(sdT d).2.1=d.n.getD 2 0:=rfl
   rw[this,List.getD_eq_getElem?_getD,List.getElem?_eq_getElem (by omega)];rfl
  have h8:d.n[8]?=some (sdT d).2.2:=by
   have:(sdT d).2.2=d.n.getD 8 0:=rfl
   rw[this,List.getD_eq_getElem?_getD,List.getElem?_eq_getElem (by omega)];rfl
  exact⟨d.n,by rw[List.getElem?_map,hj];rfl,h9,h2,h8⟩) (fun j d hj=>by
  have k:=hd d (List.mem_of_getElem? hj)
  exact⟨k.code,k.cl⟩)
 refine h0.frzo ?_
 rintro r h' ⟨v,rfl,rfl⟩
 exact .inr ⟨v,3,_,_,_,H,.here,.tupc .hit (.keep _),rfl,rfl⟩
end Go.Proofs.YtbknacpdcdkjiaaGreat
/- Arrays of numbers alone: != of the same. No condition. -/
namespace Go.VM
open Go
set_option linter.unusedVariables false
set_option linter.unusedSimpArgs false
theorem eqItems_self {P:Program} {w:World} {d e:Nat} {k':IntKind} (hv:valQ P e=some (false,1)) (hk:P.underlying e=some (.int k')) (L:List (IntKind × Int)):∀is:List Nat,(∀i∈is,i<L.length) →
  (Op.eqItems (d+1) e 1 (L.map fun p=>Value.int p.1 p.2).toArray (L.map fun p=>Value.int p.1 p.2).toArray is).run P w=.ok true w
 | [],_=>by simp[Op.eqItems]
 | i::is,h=>by
  have hi:i<L.length:=h i (List.mem_cons_self ..)
  have p1:(part e (L.map fun p=>Value.int p.1 p.2).toArray (i * 1)).run P w=.ok (.int L[i].1 L[i].2) w:=by
   rw[run_part hv (by simp;omega)]
   have e0:((L.map fun p=>Value.int p.1 p.2).drop (i * 1)).take 1=[Value.int L[i].1 L[i].2]:=by
    rw[Nat.mul_one,List.drop_eq_getElem_cons (by rw[List.length_map];exact hi),List.take_succ_cons,List.take_zero,List.getElem_map]
   rw[List.toList_toArray,e0];rfl
  have ih:=eqItems_self (w:=w) (d:=d) hv hk L is fun j hj=>h j (List.mem_cons_of_mem _ hj)
  unfold Op.eqItems
  simp only[Sem.run_bind,p1,Result.andThen_ok,run_equalIn_int _ _ _ _ k' _ _ hk]
  simpa using ih
class TEqA (P:Program) (t:Nat) (e n:outParam Nat):Prop where
 h:P.underlying t=some (.array n e)
 v:valQ P e=some (false,1)
 c:P.cellsOf e=1
 u:(match P.underlying e with|some (.int _)=>true|_=>false)=true
 g:P.eqGuardType P.depth t=false
section
variable {P:Program} {d:Option Nat} {ty:Nat} {pos:String} {af:Array Edge} {gd:Option (Nat × Bool)} {tm:List (Nat × AV)} {h:Heap} {x y:Operand} {xt yt e n:Nat} {l:List AV} {L:List (IntKind × Int × Int)}
theorem pur_neqa [ht:TEqA P xt e n] (hx:evalA tm x=some (.agg l)) (hy:evalA tm y=some (.agg l)) (he:IEq l l L) (hn:L.length=n):PurV P ⟨d,.binOp .neq xt x y yt,ty,pos,af,gd⟩ tm h (.val (.bool false)):=fun m a w0 h1 h2 h3=>by
 have hx:=h1.eval hx
 have hy:=h1.eval hy
 simp only[Rel] at hx hy
 obtain⟨cs,hx,hxr⟩:=hx
 obtain⟨ds,hy,hyr⟩:=hy
 obtain⟨e1,_⟩:=he.rel hxr hyr
 obtain⟨e2,_⟩:=he.rel hyr hxr
 refine⟨.bool false,by simp[Rel];rfl,fun w=>?_⟩
 obtain⟨k',hk⟩:∃k',P.underlying e=some (.int k'):=by
  have:=ht.u
  split at this
  ·exact⟨_,by assumption⟩
  ·cases this
 obtain⟨i,hi,_⟩:=(valQ_spec ht.v).2.1
 have key:=eqItems_self (P:=P) (w:=w) (d:=9998) ht.v hk (L.map fun p=>(p.1,p.2.1)) (List.range n) (fun j hj=>by rw[List.length_map,hn];exact List.mem_range.1 hj)
 rw[List.map_map] at key
 have k0:(L.map ((fun p:IntKind × Int=>Value.int p.1 p.2) ∘ fun p=>(p.1,p.2.1)))=L.map (fun p=>Value.int p.1 p.2.1):=rfl
 rw[k0] at key
 have k2:=run_equalIn_array (P:=P) w 9999 cs ds ht.h hi
 have ec:cs=(L.map fun p=>Value.int p.1 p.2.1).toArray:=by rw[←e1]
 have ed:ds=(L.map fun p=>Value.int p.1 p.2.1).toArray:=by rw[←e2]
 rw[ec,ed,ht.c,key] at k2
 have k3:=run_neq_struct (P:=P) w xt cs ds
 rw[ec,ed,k2] at k3
 have k1:=run_eqGuard_agg (P:=P) w .neq xt x y cs ds ht.g
 rw[ec,ed] at k1
 rw[ec] at hx
 rw[ed] at hy
 simp[execOp,hx,hy,k1,k3]
end
end Go.VM
