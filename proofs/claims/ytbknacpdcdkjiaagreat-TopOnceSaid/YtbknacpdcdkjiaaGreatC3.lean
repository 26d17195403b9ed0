import Derived.Test.YtbknacpdcdkjiaaGreatB14
import Derived.Scope
import Derived.Test.YtbknacpdcdkjiaaGreatW0
import Derived.Test.YtbknacpdcdkjiaaGreatB9
import Derived.Test.YtbknacpdcdkjiaaGreatB13
import Derived.Test.YtbknacpdcdkjiaaGreatU4
/- band's methods: Rects, Same, Canon, Has, Area, Empty, Box. No condition. -/
namespace Go.VM
open Go
set_option maxRecDepth 100000
def NoGoto (Q:Exit→St→Prop):Exit→St→Prop
 | .goto _,_=>False
 | e,s=>Q e s
theorem W.scope {P:Program} {c:Code} {Q:Exit→St→Prop} {s:St} (k:W none P c (NoGoto Q) s):W none P (.scope c) Q s:=by
 intro m0 w0 a w hs
 refine wpIn_wide.2 (wp_scope_straight (wp_mono (wpIn_wide.1 (k m0 w0 a w hs)) ?_))
 rintro e a' w' ⟨s',h1,h2⟩
 cases e with
 | goto l=>exact h1.elim
 | _=>exact⟨s',h1,h2⟩
end Go.VM
namespace Go.Proofs.YtbknacpdcdkjiaaGreat
open Go Go.VM
set_option maxRecDepth 100000
attribute [local irreducible] PurV Pur Step RL W D ACalls Then InBlock Fini
set_option linter.unusedVariables false
set_option linter.unusedSimpArgs false
set_option maxHeartbeats 20000000
def regE (l:List RC):AV:=.agg [.ro 4 (l.map RC.enc)]
theorem rects_c (l:List RC) (h:Heap) (hl:l.length≤1000000000000):ACalls Tryz.prog 103 [regE l] h (fun r h'=>r=.ro 4 (l.map RC.enc)∧h'=h):=by
 unfold regE
 refine ACalls.intro Tryz.func103 rfl Tryz.ntmps103 Tryz.results103 (Nat.le_of_ble_eq_true rfl) ?_
 (repeat' first|refine svE ⟨?_⟩|refine .b fun b=>?_|refine .u fun u=>?_|refine .d ?_ ?_|(refine .g fun hg=>?_;try exact svx)|fail)
 refine S.call ?_;refine (clone_c l _ hl).mono ?_;rintro r h' ⟨rfl,hh⟩;subst hh
 (repeat' first|refine svE ⟨?_⟩|refine .b fun b=>?_|refine .u fun u=>?_|refine .d ?_ ?_|(refine .g fun hg=>?_;try exact svx)|fail)
 exact fin_r (h':=h) ⟨rfl,rfl⟩
theorem empty_c (l:List RC) (h:Heap):ACalls Tryz.prog 64 [regE l] h (fun r h'=>r=.val (.bool (decide (l.length=0)))∧h'=h):=by
 unfold regE
 refine ACalls.intro Tryz.func64 rfl Tryz.ntmps64 Tryz.results64 (Nat.le_of_ble_eq_true rfl) ?_
 (repeat' first|refine svE ⟨?_⟩|refine .b fun b=>?_|refine .u fun u=>?_|refine .d ?_ ?_|(refine .g fun hg=>?_;try exact svx)|fail)
 refine fin_r (h':=h) ⟨?_,rfl⟩
 refine congrArg (fun b=>AV.val (.bool b)) (decide_eq_decide.2 ?_)
 omega
def hasR (l:List RC) (x y:Int):Bool:=l.any fun r=>decide (r.has x y)
theorem hasR_none {l:List RC} {x y:Int} (h:∀r∈l,¬ r.has x y):hasR l x y=false:=by
 unfold hasR;rw[List.any_eq_false];intro r hr;simpa using h r hr
theorem bhas_c (l:List RC) (x y:Int) (h:Heap) (hl:l.length≤1000000000000) (hcn:∀r∈l,r.cnt) (hsy:l.Pairwise fun a b=>a.y≤b.y) :
  ACalls Tryz.prog 49 [regE l,.val (.int .i64 x),.val (.int .i64 y)] h (fun v h'=>v=.val (.bool (hasR l x y))∧h'=h):=by
 unfold regE
 refine ACalls.intro Tryz.func49 rfl Tryz.ntmps49 Tryz.results49 (Nat.le_of_ble_eq_true rfl) ?_
 (repeat' first|refine svE ⟨?_⟩|refine .b fun b=>?_|refine .u fun u=>?_|refine .d ?_ ?_|(refine .g fun hg=>?_;try exact svx)|fail)
 refine W.scope ?_
 (repeat' first|refine svE ⟨?_⟩|refine .b fun b=>?_|refine .u fun u=>?_|refine .d ?_ ?_|(refine .g fun hg=>?_;try exact svx)|fail)
 refine W.label ?_
 (repeat' first|refine svE ⟨?_⟩|refine .b fun b=>?_|refine .u fun u=>?_|refine .d ?_ ?_|(refine .g fun hg=>?_;try exact svx)|fail)
 refine W.loop (J:=fun k:Nat=>⟨46,[(13,.val (.int .i64 (k:Int))),(12,.val (.int .i64 (l.length:Int))),(11,.ro 4 (l.map RC.enc)),(7,.val (.bool false)),(1,.val (.int .i64 x)),(2,.val (.int .i64 y))],h⟩)
  (Φ:=fun k=>k≤l.length∧∀r∈l.take k,¬ r.has x y) (μ:=fun k=>l.length - k) 0 lee ⟨Nat.zero_le _,by simp⟩ ?_
 rintro k ⟨hk,hn⟩
 rcases Nat.lt_or_ge k l.length with hlt|hge
 ·obtain⟨r,hx⟩:∃r,l[k]?=some r:=⟨_,List.getElem?_eq_getElem hlt⟩
  have hr:r∈l:=List.mem_of_getElem? hx
  obtain⟨⟨a1,a2,a3⟩,⟨a4,a5,a6⟩⟩:=hcn r hr
  have hsn:¬ r.has x y→∀q∈l.take (k+1),¬ q.has x y:=fun hh q hq=>by
   rw[List.take_add_one,hx] at hq
   rcases List.mem_append.1 hq with hq|hq
   ·exact hn q hq
   ·rw[List.mem_singleton.1 hq];exact hh
  by_cases h1:y<r.y
  ·have hno:hasR l x y=false:=hasR_none fun q hq=>by
    rw[←List.take_append_drop k l] at hq
    rcases List.mem_append.1 hq with hq|hq
    ·exact hn q hq
    ·have:r.y≤q.y:=by
      rw[drop_at hx] at hq
      rcases List.mem_cons.1 hq with rfl|hq
      ·exact Int.le_refl _
      ·have hp:=hsy.sublist (List.drop_sublist k l)
       rw[drop_at hx] at hp
       exact (List.pairwise_cons.1 hp).1 q hq
     unfold RC.has;omega
   rw[hno]
   (repeat' first|refine svE ⟨?_⟩|refine .b fun b=>?_|refine .u fun u=>?_|refine .d ?_ ?_|(refine .g fun hg=>?_;try exact svx)|fail)
   show Fini _ _ _ _ _
   exact fin_r (h':=_) ⟨rfl,rfl⟩
  by_cases h2:r.y+r.h≤y
  ·(repeat' first|refine svE ⟨?_⟩|refine .b fun b=>?_|refine .u fun u=>?_|refine .d ?_ ?_|(refine .g fun hg=>?_;try exact svx)|fail)
   exact⟨k+1,⟨hlt,hsn (by unfold RC.has;omega)⟩,lee,by omega⟩
  by_cases h3:r.x+r.w≤x
  ·(repeat' first|refine svE ⟨?_⟩|refine .b fun b=>?_|refine .u fun u=>?_|refine .d ?_ ?_|(refine .g fun hg=>?_;try exact svx)|fail)
   exact⟨k+1,⟨hlt,hsn (by unfold RC.has;omega)⟩,lee,by omega⟩
  by_cases h4:r.x≤x
  ·have hyes:hasR l x y=true:=List.any_eq_true.2 ⟨r,hr,decide_eq_true (by unfold RC.has;omega)⟩
   rw[hyes]
   (repeat' first|refine svE ⟨?_⟩|refine .b fun b=>?_|refine .u fun u=>?_|refine .d ?_ ?_|(refine .g fun hg=>?_;try exact svx)|fail)
   show Fini _ _ _ _ _
   exact fin_r (h':=_) ⟨rfl,rfl⟩
  ·(repeat' first|refine svE ⟨?_⟩|refine .b fun b=>?_|refine .u fun u=>?_|refine .d ?_ ?_|(refine .g fun hg=>?_;try exact svx)|fail)
   exact⟨k+1,⟨hlt,hsn (by unfold RC.has;omega)⟩,lee,by omega⟩
 ·rw[List.take_of_length_le hge] at hn
  rw[hasR_none hn]
  (repeat' first|refine svE ⟨?_⟩|refine .b fun b=>?_|refine .u fun u=>?_|refine .d ?_ ?_|(refine .g fun hg=>?_;try exact svx)|fail)
  show Fini _ _ _ _ _
  exact fin_r (h':=_) ⟨rfl,rfl⟩
def minX (a:Int) (l:List RC):Int:=l.foldl (fun m r=>min m r.x) a
def maxX (a:Int) (l:List RC):Int:=l.foldl (fun m r=>max m (r.x+r.w)) a
def boxF (l:List RC):RC:=match l with
 | []=>⟨0,0,0,0⟩
 | f::l'=>let e:=(f::l').getLastD f;⟨minX f.x (f::l'),f.y,maxX (f.x+f.w) (f::l') - minX f.x (f::l'),e.y+e.h - f.y⟩
theorem minX_snoc (a:Int) (l:List RC) (r:RC):minX a (l++[r])=min (minX a l) r.x:=by unfold minX;rw[List.foldl_append];rfl
theorem maxX_snoc (a:Int) (l:List RC) (r:RC):maxX a (l++[r])=max (maxX a l) (r.x+r.w):=by unfold maxX;rw[List.foldl_append];rfl
theorem minX_in {a:Int} (ha:InM a):∀(l:List RC),(∀r∈l,r.cnt)→InM (minX a l)
 | [],_=>ha
 | r::l,h=>by
  obtain⟨⟨h1,h2,h3⟩,_⟩:=h r (List.mem_cons_self ..)
  have:InM (min a r.x):=by unfold InM at *;omega
  exact minX_in this l fun q hq=>h q (.tail _ hq)
theorem maxX_in {a:Int} (ha:InM a):∀(l:List RC),(∀r∈l,r.cnt)→InM (maxX a l)
 | [],_=>ha
 | r::l,h=>by
  obtain⟨⟨h1,h2,h3⟩,_⟩:=h r (List.mem_cons_self ..)
  have:InM (max a (r.x+r.w)):=by unfold InM at *;omega
  exact maxX_in this l fun q hq=>h q (.tail _ hq)
theorem bbox_c (l:List RC) (h:Heap) (hl:l.length≤1000000000000) (hcn:∀r∈l,r.cnt):ACalls Tryz.prog 169 [regE l] h (fun v h'=>v=(boxF l).enc∧h'=h):=by
 unfold regE
 refine ACalls.intro Tryz.func169 rfl Tryz.ntmps169 Tryz.results169 (Nat.le_of_ble_eq_true rfl) ?_
 by_cases h0:l=[]
 ·subst h0
  (repeat' first|refine svE ⟨?_⟩|refine .b fun b=>?_|refine .u fun u=>?_|refine .d ?_ ?_|(refine .g fun hg=>?_;try exact svx)|fail)
  exact fin_r (h':=h) ⟨rfl,rfl⟩
 have hpos:0<l.length:=List.length_pos_iff.2 h0
 obtain⟨f,hf⟩:∃f,l[0]?=some f:=⟨_,List.getElem?_eq_getElem hpos⟩
 obtain⟨z,hz⟩:∃z,l[((l.length:Int) - 1).toNat]?=some z:=⟨_,List.getElem?_eq_getElem (by omega)⟩
 obtain⟨⟨a1,a2,a3⟩,⟨a4,a5,a6⟩⟩:=hcn f (List.mem_of_getElem? hf)
 obtain⟨⟨c1,c2,c3⟩,⟨c4,c5,c6⟩⟩:=hcn z (List.mem_of_getElem? hz)
 have hbox:boxF l=⟨minX f.x l,f.y,maxX (f.x+f.w) l - minX f.x l,z.y+z.h - f.y⟩:=by
  cases l with
  | nil=>exact absurd rfl h0
  | cons g l=>
   simp only[List.getElem?_cons_zero,Option.some.injEq] at hf
   subst hf
   have:(g::l).getLastD g=z:=by
    rw[List.getLastD_eq_getLast?,List.getLast?_eq_getElem?]
    rw[show (g::l).length - 1=((((g::l).length:Nat):Int) - 1).toNat by omega,hz];rfl
   unfold boxF
   simp only[this]
 (repeat' first|refine svE ⟨?_⟩|refine .b fun b=>?_|refine .u fun u=>?_|refine .d ?_ ?_|(refine .g fun hg=>?_;try exact svx)|fail)
 revert b;intro b2
 refine R2.alloc2 (fun b3 b4=>?_)
 (repeat' first|refine svE ⟨?_⟩|refine .b fun b=>?_|refine .u fun u=>?_|refine .d ?_ ?_|(refine .g fun hg=>?_;try exact svx)|fail)
 refine W.loop (J:=fun k:Nat=>⟨67,[(36,.val (.int .i64 (k:Int))),(35,.val (.int .i64 (l.length:Int))),(34,.ro 4 (l.map RC.enc)),(6,.val (.int .i64 (maxX (f.x+f.w) (l.take k)))),(5,.val (.int .i64 (minX f.x (l.take k)))),(4,.val (.pointer (some ⟨b4,0,none⟩))),(3,.val (.pointer (some ⟨b3,0,none⟩))),(2,.val (.pointer (some ⟨b2,0,none⟩)))],
   .box b3 [.val (.int .i64 f.x),.val (.int .i64 f.y),.val (.int .i64 f.w),.val (.int .i64 f.h)] 200::.box b4 [.val (.int .i64 z.x),.val (.int .i64 z.y),.val (.int .i64 z.w),.val (.int .i64 z.h)] 200::.box b2 [.val (.int .i64 0),.val (.int .i64 0),.val (.int .i64 0),.val (.int .i64 0)] 200::h⟩)
  (Φ:=fun k=>k≤l.length) (μ:=fun k=>l.length - k) 0 lee (Nat.zero_le _) ?_
 intro k hk
 have hm1:=minX_in (a:=f.x) ⟨a1,by omega⟩ (l.take k) fun r hr=>hcn r (List.mem_of_mem_take hr)
 have hm2:=maxX_in (a:=f.x+f.w) ⟨by omega,a3⟩ (l.take k) fun r hr=>hcn r (List.mem_of_mem_take hr)
 rcases Nat.lt_or_ge k l.length with hlt|hge
 ·obtain⟨r,hx⟩:∃r,l[k]?=some r:=⟨_,List.getElem?_eq_getElem hlt⟩
  obtain⟨⟨d1,d2,d3⟩,⟨d4,d5,d6⟩⟩:=hcn r (List.mem_of_getElem? hx)
  have e1:minX f.x (l.take (k+1))=min (minX f.x (l.take k)) r.x:=by rw[List.take_add_one,hx];exact minX_snoc ..
  have e2:maxX (f.x+f.w) (l.take (k+1))=max (maxX (f.x+f.w) (l.take k)) (r.x+r.w):=by rw[List.take_add_one,hx];exact maxX_snoc ..
  (repeat' first|refine svE ⟨?_⟩|refine .b fun b=>?_|refine .u fun u=>?_|refine .d ?_ ?_|(refine .g fun hg=>?_;try exact svx)|fail)
  exact⟨k+1,hlt,by rw[e1,e2];exact lee,by omega⟩
 ·rw[List.take_of_length_le hge] at hm1 hm2 ⊢
  rw[hbox]
  obtain⟨m1,m2⟩:=hm1
  obtain⟨m3,m4⟩:=hm2
  (repeat' first|refine svE ⟨?_⟩|refine .b fun b=>?_|refine .u fun u=>?_|refine .d ?_ ?_|(refine .g fun hg=>?_;try exact svx)|fail)
  exact fin_r (h':=h) ⟨rfl,rfl⟩
end Go.Proofs.YtbknacpdcdkjiaaGreat

/- The reference's spans, Rects, Box. No condition. -/
namespace Go.Proofs.YtbknacpdcdkjiaaGreat
open Go Go.VM
set_option maxRecDepth 100000
attribute [local irreducible] PurV Pur Step RL W D ACalls Then InBlock Fini
set_option linter.unusedVariables false
set_option linter.unusedSimpArgs false
set_option maxHeartbeats 20000000
end Go.Proofs.YtbknacpdcdkjiaaGreat

/- The reference's Rects and Box. No condition. -/
namespace Go.Proofs.YtbknacpdcdkjiaaGreat
open Go Go.VM
set_option maxRecDepth 100000
attribute [local irreducible] PurV Pur Step RL W D ACalls Then InBlock Fini
set_option linter.unusedVariables false
set_option linter.unusedSimpArgs false
set_option maxHeartbeats 20000000
end Go.Proofs.YtbknacpdcdkjiaaGreat

/- What the model of band.Of has: places, the one way to tell them, areas. No condition. -/
namespace Go.Proofs.YtbknacpdcdkjiaaGreat
open Go Go.VM
set_option maxRecDepth 100000
set_option linter.unusedVariables false
set_option linter.unusedSimpArgs false
/-! ### Places -/
theorem mem_flatB {B:List Bd} {r:RC}:r∈flatB B↔∃b∈B,∃p∈b.s,r=⟨p.1,b.y,p.2 - p.1,b.h⟩:=by
 unfold flatB Bd.rects
 rw[List.mem_flatMap]
 constructor
 ·rintro⟨b,hb,hr⟩
  obtain⟨p,hp,rfl⟩:=List.mem_map.1 hr
  exact⟨b,hb,p,hp,rfl⟩
 ·rintro⟨b,hb,p,hp,rfl⟩
  exact⟨b,hb,List.mem_map.2 ⟨p,hp,rfl⟩⟩
theorem hasR_iff {l:List RC} {x y:Int}:hasR l x y=true↔∃r∈l,r.has x y:=by
 unfold hasR;rw[List.any_eq_true];simp
theorem hasF_iff {l:List RC} {x y:Int}:hasF l x y=true↔∃r∈l,r.cnt∧r.has x y:=by
 unfold hasF;rw[List.any_eq_true];simp
theorem hasR_flatB {B:List Bd} {x y:Int}:hasR (flatB B) x y=true↔inB B x y:=by
 rw[hasR_iff]
 unfold inB inS RC.has
 constructor
 ·rintro⟨r,hr,h⟩
  obtain⟨b,hb,p,hp,rfl⟩:=mem_flatB.1 hr
  simp only at h
  exact⟨b,hb,h.2.2.1,h.2.2.2,p,hp,h.1,by omega⟩
 ·rintro⟨b,hb,h1,h2,p,hp,h3,h4⟩
  exact⟨_,mem_flatB.2 ⟨b,hb,p,hp,rfl⟩,h3,by simp only;omega,h1,h2⟩
theorem hasF_cnt {l:List RC} (h:∀r∈l,r.cnt) (x y:Int):hasF l x y=hasR l x y:=by
 rw[Bool.eq_iff_iff,hasF_iff,hasR_iff]
 exact⟨fun ⟨r,h1,_,h2⟩=>⟨r,h1,h2⟩,fun ⟨r,h1,h2⟩=>⟨r,h1,h r h1,h2⟩⟩
theorem up_between {ys:List Int} (hu:Up_ ys) {v:Int} (h1:∃a∈ys,a≤v) (h2:∃c∈ys,v<c):∃j,j+1<ys.length∧ys.getD j 0≤v∧v<ys.getD (j+1) 0:=by
 obtain⟨c,hc,h2⟩:=h2
 obtain⟨a,ha,h1⟩:=h1
 obtain⟨k,hk,rfl⟩:=List.getElem_of_mem hc
 obtain⟨m,hm,rfl⟩:=List.getElem_of_mem ha
 have hp:=List.pairwise_iff_getElem.1 hu
 have hgd:∀i (hi:i<ys.length),ys.getD i 0=ys[i]:=fun i hi=>by rw[List.getD_eq_getElem?_getD,List.getElem?_eq_getElem hi];rfl
 induction k with
 | zero=>
  exfalso
  rcases Nat.eq_zero_or_pos m with e|e
  ·subst e;omega
  ·have:=hp 0 m hk hm e;omega
 | succ k ih=>
  by_cases q:ys[k]'(by omega)≤v
  ·exact⟨k,hk,by rw[hgd k (by omega)];exact q,by rw[hgd _ hk];exact h2⟩
  ·exact ih (by omega) (List.getElem_mem _) (by omega)
theorem up_le_of {ys:List Int} (hu:Up_ ys) {j:Nat} (hj:j+1<ys.length) {e v:Int} (he:e∈ys) (h1:ys.getD j 0≤v) (h2:v<ys.getD (j+1) 0):e≤v↔e≤ys.getD j 0:=by
 obtain⟨k,hk,rfl⟩:=List.getElem_of_mem he
 have hp:=List.pairwise_iff_getElem.1 hu
 have hgd:∀i (hi:i<ys.length),ys.getD i 0=ys[i]:=fun i hi=>by rw[List.getD_eq_getElem?_getD,List.getElem?_eq_getElem hi];rfl
 rw[hgd j (by omega)] at h1 ⊢
 rw[hgd _ hj] at h2
 constructor
 ·intro h
  rcases Nat.lt_trichotomy k j with q|q|q
  ·have:=hp k j hk (by omega) q;omega
  ·subst q;exact Int.le_refl _
  ·rcases Nat.lt_or_ge (j+1) k with q2|q2
   ·have:=hp (j+1) k hj hk q2;omega
   ·have:k=j+1:=by omega
    subst this;omega
 ·intro h;omega
theorem bandsF_spec (l:List RC):CanB (bandsF l)∧∀x y,inB (bandsF l) x y↔hasF l x y=true:=by
 unfold bandsF
 have hc:∀r∈cntL l,r.cnt:=fun r hr=>by simpa using (List.mem_filter.1 hr).2
 have hw:∀r∈cntL l,0<r.w:=fun r hr=>(hc r hr).1.2.1
 have hm:∀x y,hasF l x y=true↔∃r∈cntL l,r.has x y:=fun x y=>by
  rw[hasF_iff]
  unfold cntL
  constructor
  ·rintro⟨r,h1,h2,h3⟩;exact⟨r,List.mem_filter.2 ⟨h1,by simpa using h2⟩,h3⟩
  ·rintro⟨r,h1,h3⟩;obtain⟨h1,h2⟩:=List.mem_filter.1 h1;exact⟨r,h1,by simpa using h2,h3⟩
 by_cases h0:(edF (cntL l)).length=0
 ·rw[h0]
  refine⟨show CanB [] from trivial,fun x y=>⟨fun h=>absurd h not_inB_nil,fun h=>?_⟩⟩
  obtain⟨r,hr,_⟩:=(hm x y).1 h
  have:=mem_edF.2 ⟨r,hr,.inl rfl⟩
  rw[List.eq_nil_of_length_eq_zero h0] at this
  cases this
 ·obtain⟨h1,_,h3⟩:=bnd_spec (ys:=edF (cntL l)) (f:=rowS (cntL l)) (up_edF _) (fun y _=>(rowS_spec hw).1) ((edF (cntL l)).length - 1) (by omega)
  refine⟨h1,fun x y=>?_⟩
  rw[h3,hm]
  constructor
  ·rintro⟨j,hj,k1,k2,k3⟩
   obtain⟨r,hr,q1,q2,q3,q4⟩:=((rowS_spec hw).2 x).1 k3
   refine⟨r,hr,q1,q2,by omega,?_⟩
   have:=up_le_of (up_edF (cntL l)) (by omega) (mem_edF.2 ⟨r,hr,.inr rfl⟩) k1 k2
   omega
  ·rintro⟨r,hr,q1,q2,q3,q4⟩
   obtain⟨j,hj,k1,k2⟩:=up_between (up_edF (cntL l)) ⟨r.y,mem_edF.2 ⟨r,hr,.inl rfl⟩,q3⟩ ⟨r.y+r.h,mem_edF.2 ⟨r,hr,.inr rfl⟩,q4⟩
   refine⟨j,by omega,k1,k2,((rowS_spec hw).2 x).2 ⟨r,hr,q1,q2,?_,by omega⟩⟩
   exact (up_le_of (up_edF (cntL l)) hj (mem_edF.2 ⟨r,hr,.inl rfl⟩) k1 k2).1 q3
theorem has_ofF (l:List RC) (x y:Int):hasR (ofF l) x y=hasF l x y:=by
 rw[Bool.eq_iff_iff,ofF,hasR_flatB,(bandsF_spec l).2]
theorem ofF_flat {l:List RC} {B:List Bd} (hB:CanB B) (h:∀x y,hasF l x y=true↔inB B x y):ofF l=flatB B:=by
 obtain⟨h1,h2⟩:=bandsF_spec l
 unfold ofF
 rw[canB_unique h1 hB fun x y=>(h2 x y).trans (h x y)]
theorem ofF_eq {l m:List RC}:ofF l=ofF m↔∀x y,hasF l x y=hasF m x y:=by
 constructor
 ·intro e x y;rw[←has_ofF,←has_ofF,e]
 ·intro h
  obtain⟨h1,h2⟩:=bandsF_spec m
  exact ofF_flat h1 fun x y=>by rw[h,h2]
theorem ofF_cnt (l:List RC):∀r∈ofF l,r.cnt:=by
 unfold ofF bandsF
 by_cases h0:(edF (cntL l)).length=0
 ·rw[h0];intro r hr;cases hr
 ·exact (bnd_all (fun r hr=>by simpa using (List.mem_filter.1 hr).2) _ (by omega)).2.2
theorem ofF_ofF (l:List RC):ofF (ofF l)=ofF l:=ofF_eq.2 fun x y=>by rw[hasF_cnt (ofF_cnt l),has_ofF]
/-! ### How they stand -/
def fol (a b:RC):Prop:=(a.y=b.y∧a.h=b.h∧a.x+a.w<b.x)∨a.y+a.h≤b.y
theorem flatB_fol:∀{B:List Bd},CanB B→(flatB B).Pairwise fol
 | [],_=>.nil
 | b::B,h=>by
  show (b.rects++flatB B).Pairwise fol
  rw[List.pairwise_append]
  refine⟨?_,flatB_fol h.tail,fun r hr q hq=>?_⟩
  ·unfold Bd.rects
   rw[List.pairwise_map]
   exact h.head.s.apart.imp fun {p q} hpq=>.inl ⟨rfl,rfl,by simp only;omega⟩
  ·unfold Bd.rects at hr
   obtain⟨p,hp,rfl⟩:=List.mem_map.1 hr
   obtain⟨c,hc,p',_,rfl⟩:=mem_flatB.1 hq
   exact .inr (h.below c hc)
theorem ofF_fol (l:List RC):(ofF l).Pairwise fol:=flatB_fol (bandsF_spec l).1
theorem fol_y {l:List RC} (hc:∀r∈l,r.cnt) (h:l.Pairwise fol):l.Pairwise fun a b=>a.y≤b.y:=by
 refine h.imp_of_mem fun {a b} ha hb hf=>?_
 have:=(hc a ha).2.2.1
 rcases hf with hf|hf<;>omega
theorem ofF_y (l:List RC):(ofF l).Pairwise fun a b=>a.y≤b.y:=fol_y (ofF_cnt l) (ofF_fol l)
end Go.Proofs.YtbknacpdcdkjiaaGreat

/- region's small closures. No condition. -/
namespace Go.Proofs.YtbknacpdcdkjiaaGreat
open Go Go.VM
set_option maxRecDepth 100000
attribute [local irreducible] PurV Pur Step RL W D ACalls Then InBlock Fini
set_option linter.unusedVariables false
set_option linter.unusedSimpArgs false
theorem meet1_c (p q:Bool) (h:Heap):ACalls Tryz.prog 107 [.val (.bool p),.val (.bool q)] h (fun r h'=>r=.val (.bool (p&&q))∧h'=h):=by
 refine ACalls.intro Tryz.func107 rfl Tryz.ntmps107 Tryz.results107 (Nat.le_of_ble_eq_true rfl) ?_
 cases p<;>cases q<;>((repeat' first|refine svE ⟨?_⟩|refine .b fun b=>?_|refine .u fun u=>?_|refine .d ?_ ?_|(refine .g fun hg=>?_;try exact svx)|fail);exact fin_r (h':=h) ⟨rfl,rfl⟩)
theorem minus1_c (p q:Bool) (h:Heap):ACalls Tryz.prog 109 [.val (.bool p),.val (.bool q)] h (fun r h'=>r=.val (.bool (p&&!q))∧h'=h):=by
 refine ACalls.intro Tryz.func109 rfl Tryz.ntmps109 Tryz.results109 (Nat.le_of_ble_eq_true rfl) ?_
 cases p<;>cases q<;>((repeat' first|refine svE ⟨?_⟩|refine .b fun b=>?_|refine .u fun u=>?_|refine .d ?_ ?_|(refine .g fun hg=>?_;try exact svx)|fail);exact fin_r (h':=h) ⟨rfl,rfl⟩)
theorem tellY_c (r:RC) (h:Heap):ACalls Tryz.prog 143 [r.enc] h (fun v h'=>v=.tup [.val (.int .i64 r.y),.val (.int .i64 r.h)]∧h'=h):=by
 refine ACalls.intro Tryz.func143 rfl Tryz.ntmps143 Tryz.results143 (Nat.le_of_ble_eq_true rfl) ?_
 (repeat' first|refine svE ⟨?_⟩|refine .b fun b=>?_|refine .u fun u=>?_|refine .d ?_ ?_|(refine .g fun hg=>?_;try exact svx)|fail)
 exact fin_r (h':=h) ⟨rfl,rfl⟩
theorem tellX_c (r:RC) (h:Heap):ACalls Tryz.prog 145 [r.enc] h (fun v h'=>v=.tup [.val (.int .i64 r.x),.val (.int .i64 r.w)]∧h'=h):=by
 refine ACalls.intro Tryz.func145 rfl Tryz.ntmps145 Tryz.results145 (Nat.le_of_ble_eq_true rfl) ?_
 (repeat' first|refine svE ⟨?_⟩|refine .b fun b=>?_|refine .u fun u=>?_|refine .d ?_ ?_|(refine .g fun hg=>?_;try exact svx)|fail)
 exact fin_r (h':=h) ⟨rfl,rfl⟩
theorem moved_c (a n d:Int) (h:Heap) (ha:-4000000≤a∧a≤4000000) (hn:-4000000≤n∧n≤4000000) (hd:-4000000≤d∧d≤4000000):ACalls Tryz.prog 104 [.val (.int .i64 a),.val (.int .i64 n),.val (.int .i64 d)] h
  (fun v h'=>v=.tup [.val (.int .i64 (max (a+d) (-1048576))),.val (.int .i64 (min (a+d+n) 1048576 - max (a+d) (-1048576)))]∧h'=h):=by
 refine ACalls.intro Tryz.func104 rfl Tryz.ntmps104 Tryz.results104 (Nat.le_of_ble_eq_true rfl) ?_
 (repeat' first|refine svE ⟨?_⟩|refine .b fun b=>?_|refine .u fun u=>?_|refine .d ?_ ?_|(refine .g fun hg=>?_;try exact svx)|fail)
 exact fin_r (h':=h) ⟨rfl,rfl⟩
end Go.Proofs.YtbknacpdcdkjiaaGreat

/- region's cuts. No condition. -/
namespace Go.Proofs.YtbknacpdcdkjiaaGreat
open Go Go.VM
set_option maxRecDepth 100000
attribute [local irreducible] PurV Pur Step RL W D ACalls Then InBlock Fini
set_option linter.unusedVariables false
set_option linter.unusedSimpArgs false
set_option maxHeartbeats 20000000
def stE (ab:RC→Int × Int) (l:List RC):List Int:=l.flatMap fun r=>[(ab r).1,(ab r).1+(ab r).2]
theorem len_stE (ab:RC→Int × Int) (l:List RC):(stE ab l).length=2 * l.length:=by
 induction l with
 | nil=>rfl
 | cons r l ih=>
  have e:stE ab (r::l)=[(ab r).1,(ab r).1+(ab r).2]++stE ab l:=rfl
  rw[e,List.length_append,ih,List.length_cons];simp;omega
theorem stE_snoc {ab:RC→Int × Int} {l:List RC} {k:Nat} {r:RC} (hx:l[k]?=some r):stE ab (l.take (k+1))=stE ab (l.take k)++[(ab r).1,(ab r).1+(ab r).2]:=by
 unfold stE;rw[List.take_add_one,hx,List.flatMap_append];simp
def listE (l:List RC):AV:=.ro 4 (l.map RC.enc)
theorem cuts_c (ab:RC→Int × Int) (fv:AV) (f:Nat) (caps:List AV) [TFun Tryz.prog f] (hF:Fv fv f caps) (P Q:List RC) (h:Heap) (hP:P.length≤200000) (hQ:Q.length≤200000)
  (hT:∀r,r∈P++Q→∀h,ACalls Tryz.prog f ([r.enc]++caps) h (fun v h'=>v=.tup [.val (.int .i64 (ab r).1),.val (.int .i64 (ab r).2)]∧h'=h))
  (hM:∀r∈P++Q,(-4000000≤(ab r).1∧(ab r).1≤4000000)∧-4000000≤(ab r).2∧(ab r).2≤4000000) :
  ACalls Tryz.prog 142 [fv,.ro 1 [listE P,listE Q]] h (fun r h'=>∃w,r=.val w∧h'=.own w 1 (ints .i64 (ddF (srt (stE ab P++stE ab Q)))) 3::h):=by
 refine ACalls.intro Tryz.func142 rfl Tryz.ntmps142 Tryz.results142 (Nat.le_of_ble_eq_true rfl) ?_
 (repeat' first|refine svE ⟨?_⟩|refine .b fun b=>?_|refine .u fun u=>?_|refine .d ?_ ?_|(refine .g fun hg=>?_;try exact svx)|fail)
 refine W.nil_ 1 3 ?_
 have hLs:∀(k:Nat) (L:List RC),[P,Q][k]?=some L→(∀r∈L,r∈P++Q)∧L.length≤200000:=by
  intro k L hk
  match k,hk with
  | 0,hk=>simp at hk;subst hk;exact⟨fun r hr=>List.mem_append.2 (.inl hr),hP⟩
  | 1,hk=>simp at hk;subst hk;exact⟨fun r hr=>List.mem_append.2 (.inr hr),hQ⟩
  | k+2,hk=>simp at hk
 refine W.loop (J:=fun q:Nat × Value=>⟨43,[(14,.val (.int .i64 (q.1:Int))),(13,.val (.int .i64 2)),(12,.ro 1 ([P,Q].map listE)),(5,.val q.2),(0,fv)],.own q.2 1 (ints .i64 (([P,Q].take q.1).flatMap (stE ab))) 3::h⟩)
  (Φ:=fun q=>q.1≤2) (μ:=fun q=>2 - q.1) (0,.slice none 0 0) lee (Nat.zero_le _) ?_
 rintro⟨i,v⟩ hi
 dsimp only at hi ⊢
 have hlen:(([P,Q].take i).flatMap (stE ab)).length≤800000:=by
  match i,hi with
  | 0,_=>simp
  | 1,_=>simp[len_stE];omega
  | 2,_=>simp[len_stE];omega
 rcases Nat.lt_or_ge i 2 with hlt|hge
 ·obtain⟨L,hL⟩:∃L,[P,Q][i]?=some L:=⟨_,List.getElem?_eq_getElem (by simpa using hlt)⟩
  obtain⟨hL1,hL2⟩:=hLs i L hL
  have hs:([P,Q].take (i+1)).flatMap (stE ab)=([P,Q].take i).flatMap (stE ab)++stE ab L:=by rw[List.take_add_one,hL,List.flatMap_append];simp
  have hil:i<[P,Q].length:=by simpa using hlt
  generalize ([P,Q].take i).flatMap (stE ab)=E0 at *
  generalize [P,Q]=Ls at *
  (repeat' first|refine svE ⟨?_⟩|refine .b fun b=>?_|refine .u fun u=>?_|refine .d ?_ ?_|(refine .g fun hg=>?_;try exact svx)|fail)
  refine W.loop (J:=fun q:Nat × Value=>⟨43,[(20,.val (.int .i64 (q.1:Int))),(19,.val (.int .i64 (L.length:Int))),(18,.ro 4 (L.map RC.enc)),(14,.val (.int .i64 (i:Int))),(13,.val (.int .i64 2)),(12,.ro 1 (Ls.map listE)),(5,.val q.2),(0,fv)],.own q.2 1 (ints .i64 (E0++stE ab (L.take q.1))) 3::h⟩)
   (Φ:=fun q=>q.1≤L.length) (μ:=fun q=>L.length - q.1) (0,v) (by dsimp only;rw[List.take_zero,show stE ab []=[] from rfl,List.append_nil];exact lee) (Nat.zero_le _) ?_
  rintro⟨k,v1⟩ hk
  dsimp only at hk ⊢
  have hlk:(E0++stE ab (L.take k)).length≤1200000:=by rw[List.length_append,len_stE,List.length_take];omega
  rcases Nat.lt_or_ge k L.length with hkl|hkg
  ·obtain⟨r,hr⟩:∃r,L[k]?=some r:=⟨_,List.getElem?_eq_getElem hkl⟩
   have hrm:=hL1 r (List.mem_of_getElem? hr)
   obtain⟨⟨m1,m2⟩,m3,m4⟩:=hM r hrm
   have hs2:=stE_snoc (ab:=ab) hr
   have hs3:ints .i64 (E0++stE ab (L.take (k+1)))=ints .i64 (E0++stE ab (L.take k))++ints .i64 [(ab r).1,(ab r).1+(ab r).2]:=by rw[hs2,←List.append_assoc];simp[ints]
   have hlk2:E0.length+(stE ab (L.take k)).length≤1200000:=by rw[←List.length_append];exact hlk
   (repeat' first|refine svE ⟨?_⟩|refine .b fun b=>?_|refine .u fun u=>?_|refine .d ?_ ?_|(refine .g fun hg=>?_;try exact svx)|fail)
   refine S.callv hF ?_
   refine (hT r hrm _).mono ?_
   rintro r' h' ⟨rfl,hh⟩;subst hh
   (repeat' first|refine svE ⟨?_⟩|refine .b fun b=>?_|refine .u fun u=>?_|refine .d ?_ ?_|(refine .g fun hg=>?_;try exact svx)|fail)
   exact⟨(k+1,u),hkl,by dsimp only;rw[hs3];exact lee,by dsimp only;omega⟩
  ·rw[List.take_of_length_le hkg] at hlk ⊢
   (repeat' first|refine svE ⟨?_⟩|refine .b fun b=>?_|refine .u fun u=>?_|refine .d ?_ ?_|(refine .g fun hg=>?_;try exact svx)|fail)
   exact⟨(i+1,v1),hlt,by dsimp only;rw[hs];exact lee,by dsimp only;omega⟩
 ·have e:i=2:=by omega
  subst e
  have e2:([P,Q].take 2).flatMap (stE ab)=stE ab P++stE ab Q:=by simp
  rw[e2] at hlen ⊢
  (repeat' first|refine svE ⟨?_⟩|refine .b fun b=>?_|refine .u fun u=>?_|refine .d ?_ ?_|(refine .g fun hg=>?_;try exact svx)|fail)
  refine S.call ?_;refine (sort_c (stE ab P++stE ab Q) v h (by omega)).mono ?_;rintro r h' ⟨rfl,hh⟩;subst hh
  (repeat' first|refine svE ⟨?_⟩|refine .b fun b=>?_|refine .u fun u=>?_|refine .d ?_ ?_|(refine .g fun hg=>?_;try exact svx)|fail)
  refine S.call ?_
  refine (compact_c (srt (stE ab P++stE ab Q)) v h (by rw[(srt_perm _).length_eq];omega)).mono ?_
  rintro r h' ⟨w,rfl,hh⟩;subst hh
  (repeat' first|refine svE ⟨?_⟩|refine .b fun b=>?_|refine .u fun u=>?_|refine .d ?_ ?_|(refine .g fun hg=>?_;try exact svx)|fail)
  exact fin_r (h':=_) ⟨w,rfl,rfl⟩
end Go.Proofs.YtbknacpdcdkjiaaGreat
