import Derived.Test.YtbknacpdcdkjiaaGreatW1
import Derived.Test.YtbknacpdcdkjiaaGreatF41
import Derived.Test.YtbknacpdcdkjiaaGreatF10
import Derived.Test.YtbknacpdcdkjiaaGreatF44
import Derived.Test.YtbknacpdcdkjiaaGreatF22
/- A region's box; places counted in a rectangle. No condition. -/
namespace Go.Proofs.YtbknacpdcdkjiaaGreat
open Go Go.VM
set_option maxRecDepth 100000
set_option linter.unusedVariables false
set_option linter.unusedSimpArgs false
theorem minX_le:∀(l:List RC) (a:Int),minX a l≤a∧(∀r∈l,minX a l≤r.x)∧(minX a l=a∨∃r∈l,minX a l=r.x)
 | [],a=>⟨Int.le_refl _,fun r hr=>absurd hr (by simp),.inl rfl⟩
 | q::l,a=>by
  have e:minX a (q::l)=minX (min a q.x) l:=rfl
  obtain⟨h1,h2,h3⟩:=minX_le l (min a q.x)
  rw[e]
  refine⟨by omega,fun r hr=>?_,?_⟩
  ·rcases List.mem_cons.1 hr with rfl|hr
   ·omega
   ·exact h2 r hr
  ·rcases h3 with h3|⟨r,hr,h3⟩
   ·by_cases hq:a≤q.x
    ·left;omega
    ·exact .inr ⟨q,.head _,by omega⟩
   ·exact .inr ⟨r,.tail _ hr,h3⟩
theorem maxX_le:∀(l:List RC) (a:Int),a≤maxX a l∧(∀r∈l,r.x+r.w≤maxX a l)∧(maxX a l=a∨∃r∈l,maxX a l=r.x+r.w)
 | [],a=>⟨Int.le_refl _,fun r hr=>absurd hr (by simp),.inl rfl⟩
 | q::l,a=>by
  have e:maxX a (q::l)=maxX (max a (q.x+q.w)) l:=rfl
  obtain⟨h1,h2,h3⟩:=maxX_le l (max a (q.x+q.w))
  rw[e]
  refine⟨by omega,fun r hr=>?_,?_⟩
  ·rcases List.mem_cons.1 hr with rfl|hr
   ·omega
   ·exact h2 r hr
  ·rcases h3 with h3|⟨r,hr,h3⟩
   ·by_cases hq:q.x+q.w≤a
    ·left;omega
    ·exact .inr ⟨q,.head _,by omega⟩
   ·exact .inr ⟨r,.tail _ hr,h3⟩
theorem last_of {α:Type} {R:α→α→Prop} {a d:α} {l:List α} (h:(a::l).Pairwise R):(a::l).getLastD d∈a::l∧∀r∈a::l,r=(a::l).getLastD d∨R r ((a::l).getLastD d):=by
 have hne:a::l≠[]:=by simp
 have e:(a::l).getLastD d=(a::l).getLast hne:=by simp[List.getLastD,List.getLast?_eq_some_getLast]
 rw[e]
 refine⟨List.getLast_mem hne,fun r hr=>?_⟩
 have hd:=List.dropLast_concat_getLast hne
 rw[←hd,List.pairwise_append] at h
 rw[←hd] at hr
 rcases List.mem_append.1 hr with hr|hr
 ·exact .inr (h.2.2 r hr _ (List.mem_singleton.2 rfl))
 ·exact .inl (List.mem_singleton.1 hr)
theorem boxF_has {m:List RC} (hc:∀r∈m,r.cnt) (hf:m.Pairwise fol) {x y:Int} (h:hasR m x y=true) :
  ((boxF m).x≤x∧x<(boxF m).x+(boxF m).w∧InM (boxF m).x∧InM ((boxF m).x+(boxF m).w))∧(boxF m).y≤y∧y<(boxF m).y+(boxF m).h∧InM (boxF m).y∧InM ((boxF m).y+(boxF m).h):=by
 cases m with
 | nil=>cases h
 | cons f l=>
  obtain⟨r,hr,h1,h2,h3,h4⟩:=hasR_iff.1 h
  obtain⟨n1,n2,n3⟩:=minX_le (f::l) f.x
  obtain⟨p1,p2,p3⟩:=maxX_le (f::l) (f.x+f.w)
  obtain⟨m1,m2⟩:=last_of (d:=f) hf
  have n2r:=n2 r hr
  have p2r:=p2 r hr
  have hcf:=hc f (.head _)
  have hfx:InM f.x:=by obtain⟨⟨a1,a2,a3⟩,⟨a4,a5,a6⟩⟩:=hcf;unfold InM;omega
  have hfw:InM (f.x+f.w):=by obtain⟨⟨a1,a2,a3⟩,⟨a4,a5,a6⟩⟩:=hcf;unfold InM;omega
  have i1:=minX_in hfx (f::l) hc
  have i2:=maxX_in hfw (f::l) hc
  have hyr:f.y≤r.y:=by
   rcases List.mem_cons.1 hr with rfl|hr
   ·exact Int.le_refl _
   ·have:=hcf.2.2.1
    rcases (List.pairwise_cons.1 hf).1 r hr with ⟨k1,_⟩|k1<;>omega
  unfold boxF
  simp only
  generalize (f::l).getLastD f=e at *
  generalize minX f.x (f::l)=mi at *
  generalize maxX (f.x+f.w) (f::l)=ma at *
  have hce:=hc e m1
  obtain⟨⟨a1,a2,a3⟩,⟨a4,a5,a6⟩⟩:=hcf
  obtain⟨⟨c1,c2,c3⟩,⟨c4,c5,c6⟩⟩:=hce
  have hye:r.y+r.h≤e.y+e.h:=by
   rcases m2 r hr with rfl|⟨k1,k2,_⟩|k1
   ·exact Int.le_refl _
   ·omega
   ·omega
  unfold InM at *
  refine⟨⟨?_,?_,?_,?_⟩,?_,?_,?_,?_⟩<;>omega
theorem boxF_tight {m:List RC} (hm:Can m) (hne:m≠[]):(∃y,hasR m (boxF m).x y=true)∧(∃y,hasR m ((boxF m).x+(boxF m).w - 1) y=true)∧(∃x,hasR m x (boxF m).y=true)∧∃x,hasR m x ((boxF m).y+(boxF m).h - 1)=true:=by
 cases m with
 | nil=>exact absurd rfl hne
 | cons f l=>
  obtain⟨n1,n2,n3⟩:=minX_le (f::l) f.x
  obtain⟨p1,p2,p3⟩:=maxX_le (f::l) (f.x+f.w)
  obtain⟨m1,m2⟩:=last_of (d:=f) hm.fol
  have hc:=hm.cnt
  unfold boxF
  dsimp only
  refine⟨?_,?_,?_,?_⟩
  ·rcases n3 with e|⟨r,hr,e⟩
   ·rw[e];obtain⟨⟨_,a,_⟩,_,b,_⟩:=hc f (.head _);exact⟨f.y,hasR_iff.2 ⟨f,.head _,by unfold RC.has;omega⟩⟩
   ·rw[e];obtain⟨⟨_,a,_⟩,_,b,_⟩:=hc r hr;exact⟨r.y,hasR_iff.2 ⟨r,hr,by unfold RC.has;omega⟩⟩
  ·rcases p3 with e|⟨r,hr,e⟩
   ·rw[e];obtain⟨⟨_,a,_⟩,_,b,_⟩:=hc f (.head _);exact⟨f.y,hasR_iff.2 ⟨f,.head _,by unfold RC.has;omega⟩⟩
   ·rw[e];obtain⟨⟨_,a,_⟩,_,b,_⟩:=hc r hr;exact⟨r.y,hasR_iff.2 ⟨r,hr,by unfold RC.has;omega⟩⟩
  ·obtain⟨⟨_,a,_⟩,_,b,_⟩:=hc f (.head _);exact⟨f.x,hasR_iff.2 ⟨f,.head _,by unfold RC.has;omega⟩⟩
  ·generalize (f::l).getLastD f=e at *
   obtain⟨⟨_,a,_⟩,_,b,_⟩:=hc e m1;exact⟨e.x,hasR_iff.2 ⟨e,m1,by unfold RC.has;omega⟩⟩
/-! Places of a rectangle, counted row by row -/
end Go.Proofs.YtbknacpdcdkjiaaGreat

/- The pointer is brought onto the screen. No condition. -/
namespace Go.Proofs.YtbknacpdcdkjiaaGreat
open Go Go.VM
set_option maxRecDepth 100000
attribute [local irreducible] PurV Pur Step RL W D ACalls Then InBlock Fini
set_option linter.unusedVariables false
set_option linter.unusedSimpArgs false
set_option maxHeartbeats 20000000
theorem box_in {m:List RC} (hm:Can m) {wd hg:Int} (hin:∀x y,hasR m x y=true→(0≤x∧x<wd)∧0≤y∧y<hg):(boxF m).ok∧((boxF m).cnt→BxIn wd hg (boxF m))∧(m≠[]→(boxF m).cnt):=by
 by_cases h0:m=[]
 ·subst h0
  exact⟨⟨⟨by decide,by decide⟩,⟨by decide,by decide⟩,⟨by decide,by decide⟩,⟨by decide,by decide⟩⟩,fun h=>absurd rfl (RC.cnt_ne h),fun h=>absurd rfl h⟩
 ·obtain⟨⟨y1,t1⟩,⟨y2,t2⟩,⟨x3,t3⟩,x4,t4⟩:=boxF_tight hm h0
  have b1:=boxF_has hm.cnt hm.fol t1
  have b3:=boxF_has hm.cnt hm.fol t3
  have i1:=hin _ _ t1
  have i2:=hin _ _ t2
  have i3:=hin _ _ t3
  have i4:=hin _ _ t4
  unfold InM at b1 b3
  refine⟨⟨?_,?_,?_,?_⟩,fun _=>?_,fun _=>?_⟩
  ·unfold Proofs.YtbknacpdcdkjiaaGreat.I64;omega
  ·unfold Proofs.YtbknacpdcdkjiaaGreat.I64;omega
  ·unfold Proofs.YtbknacpdcdkjiaaGreat.I64;omega
  ·unfold Proofs.YtbknacpdcdkjiaaGreat.I64;omega
  ·unfold BxIn;omega
  ·unfold RC.cnt fitP;omega
theorem VOk.clp' {V:List (Int × SW)} (ok:VOk V) (id:Int):Can (clF V id):=by
 unfold clF
 cases e:lkF V id with
 | none=>exact can_nil
 | some s=>exact (ok id s e).1.can
structure VIn (wd hg:Int) (up:UP) (o:List Int) (V:List (Int × SW)):Prop where
 w:1≤wd∧wd≤1000
 h:1≤hg∧hg≤1000
 vo:VOk V
 ol:o.length≤1000
 hin:∀id x y,hasR (clF V id) x y=true→(0≤x∧x<wd)∧0≤y∧y<hg
 at':∀x y,(0≤x∧x<wd)∧0≤y∧y<hg→∃id,atF o V x y=some id∧hasT up id=true
theorem VIn.some {wd hg:Int} {up:UP} {o:List Int} {V:List (Int × SW)} (k:VIn wd hg up o V):∃id∈o,(boxF (clF V id)).cnt:=by
 have:=k.w;have:=k.h
 obtain⟨id,h,_⟩:=k.at' 0 0 (by omega)
 unfold atF at h
 have h1:=List.mem_of_find?_eq_some h
 have h2:=List.find?_some h
 refine⟨id,h1,(box_in (k.vo.clp' id) (k.hin id)).2.2 fun e=>?_⟩
 rw[e] at h2;cases h2
theorem screen_c (s:RT) (wd hg:Int) (h:Heap) (k:VIn wd hg s.up s.o s.V):ACalls Tryz.prog 154 [s.enc] h (fun v h'=>(∃q:RC,v=q.enc∧BxIn wd hg q)∧h'=h):=by
 have wc:=fun h=>vwin_c s.o s.V h (by have:=k.ol;omega)
 have cc:=fun id h=>vclip_c s.o s.V id h
 have bc:=fun id h=>bbox_c (clF s.V id) h (VOk.clp k.vo id).1 (VOk.clp k.vo id).2.1
 have hol:=k.ol
 have hrb:=fun h=>rbox_c (s.o.map fun id=>boxF (clF s.V id)) wd hg h k.w.2 k.h.2 (by rw[List.length_map];omega) (fun r hr=>by
  obtain⟨id,_,rfl⟩:=List.mem_map.1 hr
  have:=box_in (k.vo.clp' id) (k.hin id)
  exact⟨this.1,this.2.1⟩)
 have hsm:=k.some
 have st:∀i id,s.o[i]?=some id→((s.o.take (i+1)).map fun id=>boxF (clF s.V id)).map RC.enc=((s.o.take i).map fun id=>boxF (clF s.V id)).map RC.enc++[(boxF (clF s.V id)).enc]:=fun i id e=>by
  rw[List.take_add_one,e];simp
 unfold RT.enc
 unfold encW at wc cc
 refine ACalls.intro Tryz.func154 rfl Tryz.ntmps154 Tryz.results154 (Nat.le_of_ble_eq_true rfl) ?_
 (repeat' first|refine svE ⟨?_⟩|refine .b fun b=>?_|refine .u fun u=>?_|refine .d ?_ ?_|(refine .g fun hg9=>?_;try exact svx)|fail)
 rename_i b1
 revert b;intro b2
 refine S.call ?_;refine (wc _).mono ?_;rintro r h' ⟨rfl,hh⟩;subst hh
 (repeat' first|refine svE ⟨?_⟩|refine .b fun b=>?_|refine .u fun u=>?_|refine .d ?_ ?_|(refine .g fun hg9=>?_;try exact svx)|fail)
 clear wc k
 refine W.nil_ 4 200 ?_
 refine W.loop (J:=fun z:Nat × Value=>⟨25,[(10,AV.val (.int .i64 ((z.1:Nat)))),(9,AV.val (.int .i64 ((s.o.length:Nat)))),(8,AV.ro 1 (ints .u32 (s.o))),(3,.val z.2),(2,.val (.pointer (some ⟨b2,0,none⟩))),(1,.val (.pointer (some ⟨b1,0,none⟩)))],.own z.2 4 (((s.o.take z.1).map fun id=>boxF (clF s.V id)).map RC.enc) 200::.box b2 [AV.val (.int .i64 (0)),AV.val (.int .i64 (0)),AV.val (.int .i64 (0)),AV.val (.int .i64 (0))] 200::.box b1 (mapV .u32 vIds s.k::mapV .u32 (vI .u32) s.up::AV.ro 1 (ints .u32 (s.o))::mapV .u32 vSW s.V::mapK (vI .i64) s.M::mapV .u32 (vI .i64) s.N::AV.val (.int .u32 (s.fw))::AV.val (.int .i64 (s.fr))::AV.val (.int .u32 (s.ft))::AV.ro 9 []::AV.val (.int .i64 ((s.p).a.cl))::AV.val (.int .u32 ((s.p).a.w))::AV.val (.bool ((s.p).a.ow))::AV.val (.int .i64 ((s.p).a.mask))::AV.val (.bool ((s.p).a.au))::AV.val (.bool ((s.p).a.pa))::AV.val (.int .i64 ((s.p).a.code))::AV.val (.int .u32 ((s.p).a.time))::AV.val (.bool ((s.p).g))::AV.val (.bool ((s.p).f))::AV.val (.bool ((s.p).s))::AV.val (.int .i64 ((s.p).held.k))::AV.val (.int .i64 ((s.p).held.c))::AV.val (.int .i64 ((s.p).held.x))::AV.val (.int .i64 ((s.p).held.y))::AV.val (.int .u32 ((s.p).held.t))::AV.val (.int .i64 ((s.p).held.n))::AV.val (.bool ((s.p).hs))::AV.ro 6 ((s.p).ws.map IN.enc)::AV.val (.int .i64 ((s.q).a.cl))::AV.val (.int .u32 ((s.q).a.w))::AV.val (.bool ((s.q).a.ow))::AV.val (.int .i64 ((s.q).a.mask))::AV.val (.bool ((s.q).a.au))::AV.val (.bool ((s.q).a.pa))::AV.val (.int .i64 ((s.q).a.code))::AV.val (.int .u32 ((s.q).a.time))::AV.val (.bool ((s.q).g))::AV.val (.bool ((s.q).f))::AV.val (.bool ((s.q).s))::AV.val (.int .i64 ((s.q).held.k))::AV.val (.int .i64 ((s.q).held.c))::AV.val (.int .i64 ((s.q).held.x))::AV.val (.int .i64 ((s.q).held.y))::AV.val (.int .u32 ((s.q).held.t))::AV.val (.int .i64 ((s.q).held.n))::AV.val (.bool ((s.q).hs))::AV.ro 6 ((s.q).ws.map IN.enc)::AV.val (.int .i64 (s.x))::AV.val (.int .i64 (s.y))::AV.val (.int .i64 (s.bt))::AV.val (.int .i64 (s.md))::AV.val (.int .i64 (s.ct))::AV.val (.int .u32 (s.nw))::AV.val (.int .u32 (s.un))::[]) 52::h⟩)
  (Φ:=fun z=>z.1≤s.o.length) (μ:=fun z=>s.o.length - z.1) (0,.slice none 0 0) lee (Nat.zero_le _) ?_
 rintro z hi
 obtain⟨i,v1⟩:=z
 dsimp only at hi ⊢
 rcases Nat.lt_or_ge i s.o.length with hlt|hge
 ·obtain⟨a,ha⟩:∃a,s.o[i]?=some a:=⟨_,List.getElem?_eq_getElem hlt⟩
  have st1:=st i a ha
  have cc1:=fun h=>cc a h
  have bc1:=fun h=>bc a h
  have hlen:(((s.o.take i).map fun id=>boxF (clF s.V id)).map RC.enc).length=i:=by rw[List.length_map,List.length_map,List.length_take];omega
  unfold regE at cc1 bc1
  clear hrb hsm cc bc st
  generalize ((s.o.take i).map fun id=>boxF (clF s.V id)).map RC.enc=LL at *
  generalize boxF (clF s.V a)=q at *
  rw[show q.enc=.agg [AV.val (.int .i64 ((q).x)),AV.val (.int .i64 ((q).y)),AV.val (.int .i64 ((q).w)),AV.val (.int .i64 ((q).h))] from rfl] at st1 bc1
  (repeat' first|refine svE ⟨?_⟩|refine .b fun b=>?_|refine .u fun u=>?_|refine .d ?_ ?_|(refine .g fun hg9=>?_;try exact svx)|fail)
  refine S.call ?_;refine (cc1 _).mono ?_;rintro r h' ⟨rfl,hh⟩;subst hh
  (repeat' first|refine svE ⟨?_⟩|refine .b fun b=>?_|refine .u fun u=>?_|refine .d ?_ ?_|(refine .g fun hg9=>?_;try exact svx)|fail)
  refine S.call ?_;refine (bc1 _).mono ?_;rintro r h' ⟨rfl,hh⟩;subst hh
  (repeat' (first|(refine iR2 ?_;refine r2b ?_;refine R2.one ?_)|(refine iS ?_;refine iN ?_;refine S.build1r ?_)|(refine iS ?_;refine iMu ?_;refine S.mapU ?_)|refine svF ⟨?_⟩|refine .b fun b=>?_|refine .u fun u=>?_|refine .d ?_ ?_|(refine .g fun hg9=>?_;try exact svx)|refine sva ?_|refine sv3 ?_|fail))
  refine⟨(i+1,u),hlt,?_,by dsimp only;omega⟩
  dsimp only
  rw[st1]
  exact lee
 ·rw[List.take_of_length_le hge]
  refine W.frz (v:=v1) (by (fail_if_success (apply tkG));(repeat (first|exact Tk.here|apply Tk.there));first|done|fail) (by repeat' (first|apply FrzT.cons|exact FrzT.rest _|exact Frz.hit|apply Frz.aggc|apply Frz.tupc|exact Frz.aggn|exact Frz.tupn|exact Frz.keep _)) (by repeat' (first|apply FrzH.box|apply FrzH.keep|exact FrzH.rest _|exact Frz.hit|apply Frz.aggc|apply Frz.tupc|exact Frz.aggn|exact Frz.tupn|exact Frz.keep _)) ?_
  (repeat' first|refine svE ⟨?_⟩|refine .b fun b=>?_|refine .u fun u=>?_|refine .d ?_ ?_|(refine .g fun hg9=>?_;try exact svx)|fail)
  refine S.call ?_
  refine (hrb _).mono ?_
  rintro r h' ⟨⟨q,rfl,hq⟩,hh⟩
  subst hh
  have hb:BxIn wd hg q:=hq.resolve_left fun e=>by
   obtain⟨id,h1,h2⟩:=hsm
   exact e.2 _ (List.mem_map.2 ⟨id,h1,rfl⟩) h2
  (repeat' first|refine svE ⟨?_⟩|refine .b fun b=>?_|refine .u fun u=>?_|refine .d ?_ ?_|(refine .g fun hg9=>?_;try exact svx)|fail)
  exact fin_r (h':=_) ⟨⟨q,rfl,hb⟩,rfl⟩
def RT.xy (s:RT) (x y:Int):RT:={ s with x:=x,y:=y }
theorem bring_c (b0:Nat) (v:AV) (s:RT) (x y wd hg:Int) (H:Heap) (k:VIn wd hg s.up s.o s.V) (hx:I64 x) (hy:I64 y) :
  ACalls Tryz.prog 117 [.val (.pointer (some ⟨b0,0,none⟩)),AV.val (.int .i64 (x)),AV.val (.int .i64 (y))] (.box b0 (runC s v) 135::H) (fun r h'=>∃x' y',((0≤x'∧x'<wd)∧0≤y'∧y'<hg)∧r=.tup []∧h'=.box b0 (runC (s.xy x' y') v) 135::H):=by
 have sc:=fun h=>screen_c s wd hg h k
 have em:=fun q h ok=>rempty_c q h ok
 have k1:=k.w;have k2:=k.h
 clear k
 unfold RT.xy
 unfold RT.enc runC at *
 unfold I64 at hx hy
 refine ACalls.intro Tryz.func117 rfl Tryz.ntmps117 Tryz.results117 (Nat.le_of_ble_eq_true rfl) ?_
 (repeat' first|refine svE ⟨?_⟩|refine .b fun b=>?_|refine .u fun u=>?_|refine .d ?_ ?_|(refine .g fun hg9=>?_;try exact svx)|fail)
 refine S.call ?_
 refine (sc _).mono ?_
 rintro r h' ⟨⟨q,rfl,hq⟩,hh⟩
 subst hh
 have hc:=hq.cnt k1.2 k2.2
 have ok:q.ok:=by
  unfold BxIn at hq
  exact⟨by unfold Proofs.YtbknacpdcdkjiaaGreat.I64;omega,by unfold Proofs.YtbknacpdcdkjiaaGreat.I64;omega,by unfold Proofs.YtbknacpdcdkjiaaGreat.I64;omega,by unfold Proofs.YtbknacpdcdkjiaaGreat.I64;omega⟩
 have em1:=fun h=>em q h ok
 rw[decide_eq_false (fun e=>e hc)] at em1
 clear em hc ok sc
 obtain⟨a1,a2,a3,a4,a5,a6⟩:=hq
 rw[show q.enc=.agg [AV.val (.int .i64 ((q).x)),AV.val (.int .i64 ((q).y)),AV.val (.int .i64 ((q).w)),AV.val (.int .i64 ((q).h))] from rfl] at *
 (repeat' first|refine svE ⟨?_⟩|refine .b fun b=>?_|refine .u fun u=>?_|refine .d ?_ ?_|(refine .g fun hg9=>?_;try exact svx)|fail)
 refine S.call ?_;refine (em1 _).mono ?_;rintro r h' ⟨rfl,hh⟩;subst hh
 (repeat' first|refine svE ⟨?_⟩|refine .b fun b=>?_|refine .u fun u=>?_|refine .d ?_ ?_|(refine .g fun hg9=>?_;try exact svx)|fail)
 exact fin_n (vs:=[]) (h':=.box b0 (runC (s.xy (min (max x q.x) (q.x+q.w - 1)) (min (max y q.y) (q.y+q.h - 1))) v) 135::H) ⟨_,_,⟨⟨by omega,by omega⟩,by omega,by omega⟩,rfl,rfl⟩
end Go.Proofs.YtbknacpdcdkjiaaGreat

/- Whom the pointer leaves and enters. No condition. -/
namespace Go.Proofs.YtbknacpdcdkjiaaGreat
open Go Go.VM
set_option maxRecDepth 100000
attribute [local irreducible] PurV Pur Step RL W D ACalls Then InBlock Fini
set_option linter.unusedVariables false
set_option linter.unusedSimpArgs false
set_option maxHeartbeats 20000000
def RT.ud (s:RT) (n:Int):RT:={ s with un:=n }
def orgF (V:List (Int × SW)) (id:Int):Int × Int:=match lkF V id with
 | some t=>(t.x,t.y)
 | none=>(0,0)
def crsC (s:RT) (st:CS3):List SD:=(whoF s.M st.1 (if st.2.1 then 32 else 64)).map fun c=>⟨c,if st.2.1 then 6 else 7,[st.1,st.2.2,lessF s.x (orgF s.V st.1).1,lessF s.y (orgF s.V st.1).2,s.x,s.y,stF s,s.nw]⟩
def crsF (s:RT) (n:Int):List SD:=(crossF s.up s.un n).flatMap (crsC s)
theorem crossF_len {k:SVT} {up:UP} (w:TW k up) (hl:up.length≤1000) (a c:Int):(crossF up a c).length≤3000:=by
 have h1:=pathA_len w a
 have h2:=pathA_len w c
 have h3:=fun x=>aboveF_len (pathA up a) x
 have h4:=fun x=>aboveF_len (pathA up c) x
 unfold crossF
 split
 ·simp
 ·split
  ·simp
  ·rename_i m _
   split
   ·simp only[List.length_append,List.length_cons,List.length_map,List.length_reverse,List.length_nil];have:=h4 a;omega
   ·split
    ·simp only[List.length_append,List.length_cons,List.length_map,List.length_reverse,List.length_nil];have:=h3 c;omega
    ·simp only[List.length_append,List.length_cons,List.length_map,List.length_reverse,List.length_nil];have:=h3 m;have:=h4 m;omega
theorem flatC_snoc {g:CS3→List SD} {L:List CS3} {i:Nat} {a:CS3} (h:L[i]?=some a):(L.take (i+1)).flatMap g=(L.take i).flatMap g++g a:=by
 rw[List.take_add_one,h,Option.toList_some,List.flatMap_append];simp
theorem crs_len (s:RT):∀L:List CS3,(L.flatMap (crsC s)).length≤8 * L.length
 | []=>Nat.le_refl _
 | a::L=>by
  have:=crs_len s L
  have h2:(crsC s a).length≤8:=by unfold crsC;rw[List.length_map];exact whoF_len _ _ _
  rw[List.flatMap_cons,List.length_append,List.length_cons];omega
theorem crossings_c (b0:Nat) (v:Value) (s:RT) (n:Int) (L:List SD) (H:Heap) (ok:s.Ok) (hid:IdOk s.up) (hnw:0≤s.nw∧s.nw≤4294967295) (hu:hasT s.up s.un=true) (hn:hasT s.up n=true) (ha:atF s.o s.V s.x s.y=some n) (hl:L.length≤1000000) :
  ACalls Tryz.prog 48 [.val (.pointer (some ⟨b0,0,none⟩))] (.box b0 (runC s (.val (v))) 135::.own (v) 7 ((L).map SD.enc) 66::H) (fun r h'=>∃v',r=.tup []∧h'=.box b0 (runC (s.ud n) (.val v')) 135::.own v' 7 ((L++crsF s n).map SD.enc) 66::H):=by
 have at1:=fun h=>vat_c s.o s.V s.x s.y h ok.vo (by have:=ok.ol;omega)
 have cp:=fun h=>cpath_c ok.tw ok.ul hid.no0 s.un n hu hn h
 have hcl:=crossF_len ok.tw ok.ul s.un n
 have oc:=fun id h=>vorigN_c s.o s.V id h
 have ob:∀id,origV (lkF s.V id)=.tup [.agg [AV.val (.int .i64 ((orgF s.V id).1)),AV.val (.int .i64 ((orgF s.V id).2))],AV.val (.bool ((lkF s.V id).isSome))]∧(-1000000≤(orgF s.V id).1∧(orgF s.V id).1≤1000000)∧-1000000≤(orgF s.V id).2∧(orgF s.V id).2≤1000000:=fun id=>by
  unfold orgF
  cases e:lkF s.V id with
  | none=>exact⟨rfl,by dsimp only;omega,by dsimp only;omega⟩
  | some t=>have:=ok.vo id t e;exact⟨rfl,by dsimp only;omega,by dsimp only;omega⟩
 have wc:=fun id m h=>who_c s.M s.N id m h
 have lx:=fun id h=>less_c s.x (orgF s.V id).1 h (ob id).2.1
 have ly:=fun id h=>less_c s.y (orgF s.V id).2 h (ob id).2.2
 have stc:=fun h=>state_c s h
 have sc:=fun v L code cl n hl hn H=>say_c b0 v s code cl n L H hl hn
 have hcs:=crs_len s
 rw[ha] at at1
 unfold crsF atV at *
 have hids:=fun st h=>hid _ (crossF_has ok.tw hu hn st h)
 generalize hS:crossF s.up s.un n=ST at *
 have fs:=fun i a (h:ST[i]?=some a)=>flatC_snoc (g:=crsC s) h
 unfold encW encT encC RT.enc runC at *
 refine ACalls.intro Tryz.func48 rfl Tryz.ntmps48 Tryz.results48 (Nat.le_of_ble_eq_true rfl) ?_
 clear hid hu hn ha ok hS
 obtain⟨SL,hSL,hsl,hsa⟩:∃SL:List AV,ST.map csE=SL∧SL.length=ST.length∧∀(i:Nat) id en de,ST[i]?=some (id,en,de)→SL[i]?=some (.agg [AV.val (.int .u32 (id)),AV.val (.bool (en)),AV.val (.int .i64 (de))]):=⟨_,rfl,List.length_map _,fun i id en de h=>by rw[List.getElem?_map,h];rfl⟩
 rw[hSL] at cp
 clear hSL
 (repeat' first|refine svE ⟨?_⟩|refine .b fun b=>?_|refine .u fun u=>?_|refine .d ?_ ?_|(refine .g fun hg9=>?_;try exact svx)|fail)
 refine R2.C (at1 _) ?_
 (repeat' first|refine svE ⟨?_⟩|refine .b fun b=>?_|refine .u fun u=>?_|refine .d ?_ ?_|(refine .g fun hg9=>?_;try exact svx)|fail)
 refine R2.C (cp _) ?_
 (repeat' first|refine svE ⟨?_⟩|refine .b fun b=>?_|refine .u fun u=>?_|refine .d ?_ ?_|(refine .g fun hg9=>?_;try exact svx)|fail)
 clear at1 cp
 refine W.loop (J:=fun z:Nat × Value=>⟨120,[(42,AV.val (.int .i64 ((z.1:Nat)))),(41,AV.val (.int .i64 ((SL.length:Nat)))),(40,.ro 3 SL),(2,AV.val (.int .u32 (n))),(0,.val (.pointer (some ⟨b0,0,none⟩)))],.box b0 (mapV .u32 vIds s.k::mapV .u32 (vI .u32) s.up::AV.ro 1 (ints .u32 (s.o))::mapV .u32 vSW s.V::mapK (vI .i64) s.M::mapV .u32 (vI .i64) s.N::AV.val (.int .u32 (s.fw))::AV.val (.int .i64 (s.fr))::AV.val (.int .u32 (s.ft))::AV.ro 9 []::AV.val (.int .i64 ((s.p).a.cl))::AV.val (.int .u32 ((s.p).a.w))::AV.val (.bool ((s.p).a.ow))::AV.val (.int .i64 ((s.p).a.mask))::AV.val (.bool ((s.p).a.au))::AV.val (.bool ((s.p).a.pa))::AV.val (.int .i64 ((s.p).a.code))::AV.val (.int .u32 ((s.p).a.time))::AV.val (.bool ((s.p).g))::AV.val (.bool ((s.p).f))::AV.val (.bool ((s.p).s))::AV.val (.int .i64 ((s.p).held.k))::AV.val (.int .i64 ((s.p).held.c))::AV.val (.int .i64 ((s.p).held.x))::AV.val (.int .i64 ((s.p).held.y))::AV.val (.int .u32 ((s.p).held.t))::AV.val (.int .i64 ((s.p).held.n))::AV.val (.bool ((s.p).hs))::AV.ro 6 ((s.p).ws.map IN.enc)::AV.val (.int .i64 ((s.q).a.cl))::AV.val (.int .u32 ((s.q).a.w))::AV.val (.bool ((s.q).a.ow))::AV.val (.int .i64 ((s.q).a.mask))::AV.val (.bool ((s.q).a.au))::AV.val (.bool ((s.q).a.pa))::AV.val (.int .i64 ((s.q).a.code))::AV.val (.int .u32 ((s.q).a.time))::AV.val (.bool ((s.q).g))::AV.val (.bool ((s.q).f))::AV.val (.bool ((s.q).s))::AV.val (.int .i64 ((s.q).held.k))::AV.val (.int .i64 ((s.q).held.c))::AV.val (.int .i64 ((s.q).held.x))::AV.val (.int .i64 ((s.q).held.y))::AV.val (.int .u32 ((s.q).held.t))::AV.val (.int .i64 ((s.q).held.n))::AV.val (.bool ((s.q).hs))::AV.ro 6 ((s.q).ws.map IN.enc)::AV.val (.int .i64 (s.x))::AV.val (.int .i64 (s.y))::AV.val (.int .i64 (s.bt))::AV.val (.int .i64 (s.md))::AV.val (.int .i64 (s.ct))::AV.val (.int .u32 (s.nw))::AV.val (.int .u32 (s.un))::.val z.2::[]) 135::.own z.2 7 ((L++(ST.take z.1).flatMap (crsC s)).map SD.enc) 66::H⟩)
  (Φ:=fun z=>z.1≤ST.length) (μ:=fun z=>ST.length - z.1) (0,v) (by simp only[List.take_zero,List.flatMap_nil,List.append_nil];exact lee) (Nat.zero_le _) ?_
 rintro z hi
 obtain⟨i,v1⟩:=z
 dsimp only at hi ⊢
 rcases Nat.lt_or_ge i ST.length with hlt|hge
 ·obtain⟨⟨id,en,de⟩,hst⟩:∃st,ST[i]?=some st:=⟨_,List.getElem?_eq_getElem hlt⟩
  have fs1:=fs i _ hst
  have hid:=hids _ (List.mem_of_getElem? hst)
  dsimp only at hid
  have hat:=hsa i id en de hst
  have hll:(L++(ST.take i).flatMap (crsC s)).length≤2000000:=by
   have:=hcs (ST.take i)
   rw[List.length_take] at this
   rw[List.length_append];omega
  have obi:=ob id
  have oc1:=fun h=>oc id h
  rw[obi.1] at oc1
  have lx1:=fun h=>lx id h
  have ly1:=fun h=>ly id h
  have wl:=fun m=>whoF_len s.M id m
  have hcs1:crsC s (id,en,de)=(whoF s.M id (if en then 32 else 64)).map fun c=>⟨c,if en then 6 else 7,[id,de,lessF s.x (orgF s.V id).1,lessF s.y (orgF s.V id).2,s.x,s.y,stF s,s.nw]⟩:=rfl
  have fs2:L++(ST.take (i+1)).flatMap (crsC s)=(L++(ST.take i).flatMap (crsC s))++((whoF s.M id (if en then 32 else 64)).map fun c=>⟨c,if en then 6 else 7,[id,de,lessF s.x (orgF s.V id).1,lessF s.y (orgF s.V id).2,s.x,s.y,stF s,s.nw]⟩):=by rw[fs1,hcs1,List.append_assoc]
  generalize hL1:L++(ST.take i).flatMap (crsC s)=L1 at *
  clear fs1 hcs1 fs hcs hst hids oc lx ly ob obi hL1 hsa
  generalize hX:lessF s.x (orgF s.V id).1=X at *
  generalize hY:lessF s.y (orgF s.V id).2=Y at *
  generalize hSf:stF s=sf at *
  generalize (orgF s.V id).1=ox at *
  generalize (orgF s.V id).2=oy at *
  cases en with
  | true=>
   simp only[↓reduceIte] at fs2
   have wc1:=fun h=>wc id 32 h
   have wl1:=wl 32
   clear wc wl
   generalize whoF s.M id 32=cl at *
   (repeat' first|refine svE ⟨?_⟩|refine .b fun b=>?_|refine .u fun u=>?_|refine .d ?_ ?_|(refine .g fun hg9=>?_;try exact svx)|fail);refine R2.C (oc1 _) ?_;(repeat' first|refine svE ⟨?_⟩|refine .b fun b=>?_|refine .u fun u=>?_|refine .d ?_ ?_|(refine .g fun hg9=>?_;try exact svx)|fail);refine R2.C (wc1 _) ?_;(repeat' first|refine svE ⟨?_⟩|refine .b fun b=>?_|refine .u fun u=>?_|refine .d ?_ ?_|(refine .g fun hg9=>?_;try exact svx)|fail);refine R2.C (lx1 _) ?_;(repeat' first|refine svE ⟨?_⟩|refine .b fun b=>?_|refine .u fun u=>?_|refine .d ?_ ?_|(refine .g fun hg9=>?_;try exact svx)|fail);refine R2.C (ly1 _) ?_;(repeat' first|refine svE ⟨?_⟩|refine .b fun b=>?_|refine .u fun u=>?_|refine .d ?_ ?_|(refine .g fun hg9=>?_;try exact svx)|fail);refine R2.C (stc _) ?_;(repeat' first|refine svE ⟨?_⟩|refine .b fun b=>?_|refine .u fun u=>?_|refine .d ?_ ?_|(refine .g fun hg9=>?_;try exact svx)|fail);refine S.buildr (xs:=[.tmp 72,.tmp 74,.tmp 82,.tmp 90,.tmp 95,.tmp 100,.tmp 105,.tmp 111]) (vs:=ints .i64 [id,de,X,Y,s.x,s.y,sf,s.nw]) ⟨_,rfl,?_⟩ rfl rfl (by repeat (first|exact Evals.nil|(apply Evals.cons;rfl))) (by simp[ints,AV.cells]) (by repeat (first|exact Ones.nil|refine Ones.cons rfl ?_|refine Ones.own (by (fail_if_success (apply memG));repeat (first|exact List.Mem.head _|assumption|refine List.Mem.tail _ ?_)) ?_)) (by omega) rfl;rename_i b5;revert b;intro b8;refine R2.melt ?_;refine R2.B ?_;refine Step.le (s':=⟨120,[(59,.val (.pointer (some ⟨b0,0,none⟩))),(60,AV.val (.int .i64 (6))),(69,.ro 1 (ints .i64 cl)),(112,.ro 1 (ints .i64 [id,de,X,Y,s.x,s.y,sf,s.nw]))],.box b0 (runC s (.val v1)) 135::.own v1 7 (L1.map SD.enc) 66::.box b8 [AV.val (.int .i64 (ox)),AV.val (.int .i64 (oy))] 122::.box b5 [AV.val (.int .u32 (id)),AV.val (.bool (true)),AV.val (.int .i64 (de))] 194::H⟩) lee ?_;refine S.call ?_;refine (sc v1 L1 (6) cl [id,de,X,Y,s.x,s.y,sf,s.nw] (by omega) (by simp) _).mono ?_;rintro r h2 ⟨v2,rfl,hh⟩;subst hh;refine kd ?_;(repeat' first|refine svE ⟨?_⟩|refine .b fun b=>?_|refine .u fun u=>?_|refine .d ?_ ?_|(refine .g fun hg9=>?_;try exact svx)|fail);refine⟨(i+1,v2),hlt,?_,by dsimp only;omega⟩;dsimp only;rw[fs2];exact lee
  | false=>
   simp only[Bool.false_eq_true,↓reduceIte] at fs2
   have wc1:=fun h=>wc id 64 h
   have wl1:=wl 64
   clear wc wl
   generalize whoF s.M id 64=cl at *
   (repeat' first|refine svE ⟨?_⟩|refine .b fun b=>?_|refine .u fun u=>?_|refine .d ?_ ?_|(refine .g fun hg9=>?_;try exact svx)|fail);refine R2.C (oc1 _) ?_;(repeat' first|refine svE ⟨?_⟩|refine .b fun b=>?_|refine .u fun u=>?_|refine .d ?_ ?_|(refine .g fun hg9=>?_;try exact svx)|fail);refine R2.C (wc1 _) ?_;(repeat' first|refine svE ⟨?_⟩|refine .b fun b=>?_|refine .u fun u=>?_|refine .d ?_ ?_|(refine .g fun hg9=>?_;try exact svx)|fail);refine R2.C (lx1 _) ?_;(repeat' first|refine svE ⟨?_⟩|refine .b fun b=>?_|refine .u fun u=>?_|refine .d ?_ ?_|(refine .g fun hg9=>?_;try exact svx)|fail);refine R2.C (ly1 _) ?_;(repeat' first|refine svE ⟨?_⟩|refine .b fun b=>?_|refine .u fun u=>?_|refine .d ?_ ?_|(refine .g fun hg9=>?_;try exact svx)|fail);refine R2.C (stc _) ?_;(repeat' first|refine svE ⟨?_⟩|refine .b fun b=>?_|refine .u fun u=>?_|refine .d ?_ ?_|(refine .g fun hg9=>?_;try exact svx)|fail);refine S.buildr (xs:=[.tmp 72,.tmp 74,.tmp 82,.tmp 90,.tmp 95,.tmp 100,.tmp 105,.tmp 111]) (vs:=ints .i64 [id,de,X,Y,s.x,s.y,sf,s.nw]) ⟨_,rfl,?_⟩ rfl rfl (by repeat (first|exact Evals.nil|(apply Evals.cons;rfl))) (by simp[ints,AV.cells]) (by repeat (first|exact Ones.nil|refine Ones.cons rfl ?_|refine Ones.own (by (fail_if_success (apply memG));repeat (first|exact List.Mem.head _|assumption|refine List.Mem.tail _ ?_)) ?_)) (by omega) rfl;rename_i b5;revert b;intro b8;refine R2.melt ?_;refine R2.B ?_;refine Step.le (s':=⟨120,[(59,.val (.pointer (some ⟨b0,0,none⟩))),(60,AV.val (.int .i64 (7))),(69,.ro 1 (ints .i64 cl)),(112,.ro 1 (ints .i64 [id,de,X,Y,s.x,s.y,sf,s.nw]))],.box b0 (runC s (.val v1)) 135::.own v1 7 (L1.map SD.enc) 66::.box b8 [AV.val (.int .i64 (ox)),AV.val (.int .i64 (oy))] 122::.box b5 [AV.val (.int .u32 (id)),AV.val (.bool (false)),AV.val (.int .i64 (de))] 194::H⟩) lee ?_;refine S.call ?_;refine (sc v1 L1 (7) cl [id,de,X,Y,s.x,s.y,sf,s.nw] (by omega) (by simp) _).mono ?_;rintro r h2 ⟨v2,rfl,hh⟩;subst hh;refine kd ?_;(repeat' first|refine svE ⟨?_⟩|refine .b fun b=>?_|refine .u fun u=>?_|refine .d ?_ ?_|(refine .g fun hg9=>?_;try exact svx)|fail);refine⟨(i+1,v2),hlt,?_,by dsimp only;omega⟩;dsimp only;rw[fs2];exact lee
 ·rw[List.take_of_length_le hge]
  (repeat' first|refine svE ⟨?_⟩|refine .b fun b=>?_|refine .u fun u=>?_|refine .d ?_ ?_|(refine .g fun hg9=>?_;try exact svx)|fail)
  exact fin_n (vs:=[]) (h':=.box b0 (runC (s.ud n) (.val v1)) 135::.own v1 7 ((L++ST.flatMap (crsC s)).map SD.enc) 66::H) ⟨v1,rfl,rfl⟩
end Go.Proofs.YtbknacpdcdkjiaaGreat
