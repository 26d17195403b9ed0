import Derived.Test.YtbknacpdcdkjiaaGreatVM37
import Derived.Test.YtbknacpdcdkjiaaGreatU4
/- Plain: what the view has; the windows of TopFocus. No condition. -/
namespace Go.Proofs.YtbknacpdcdkjiaaGreat
open Go Go.VM
set_option maxRecDepth 100000
set_option linter.unusedVariables false
set_option linter.unusedSimpArgs false
set_option linter.unusedSectionVars false
set_option maxHeartbeats 4000000
def lookF (k:SVT) (up:UP) (t:PW) (x y:Int):Int:=topF t (ofS k) (oX up t) (oY up t) x y (up.length+1) 1
theorem lk_of_mem {α:Type}:∀{t:List (Int × α)} {i:Int} {a:α},(t.map (·.1)).Nodup→(i,a)∈t→lkF t i=some a
 | [],_,_,_,h=>by cases h
 | (j,c)::t,i,a,hn,h=>by
  rw[List.map_cons,List.nodup_cons] at hn
  unfold lkF
  rw[List.find?_cons]
  rcases List.mem_cons.1 h with e|h
  ·injection e with e1 e2
   subst e1;subst e2
   simp
  ·have:j≠i:=fun e=>hn.1 (by rw[e];exact List.mem_map.2 ⟨_,h,rfl⟩)
   rw[show decide (((j,c):Int × α).1=i)=false from decide_eq_false this]
   exact lk_of_mem hn.2 h
theorem bel_has {k:SVT} {up:UP} (w:TW k up):∀(f:Nat) (id x:Int),hasT up id=true→x∈belF (ofS k) f id→hasT up x=true
 | 0,_,_,_,h=>by cases h
 | f+1,id,x,hid,h=>by
  unfold belF at h
  rcases List.mem_cons.1 h with rfl|h
  ·exact hid
  ·obtain⟨c,h1,h2⟩:=List.mem_flatMap.1 h
   exact bel_has w f c x (w.has_kid h1) h2
theorem bel_nodup {k:SVT} {up:UP} (w:TW k up):∀(f:Nat) (id:Int),(belF (ofS k) f id).Nodup
 | 0,_=>by simp[belF]
 | f+1,id=>by
  unfold belF
  have hK:∀p c,c∈ofS k p→lkF up c=some p:=fun p c=>(w.kid p c).1
  rw[List.nodup_cons]
  refine⟨fun h=>?_,?_⟩
  ·obtain⟨c,h1,h2⟩:=List.mem_flatMap.1 h
   exact w.kid_above h1 (bel_anc hK f c id h2)
  ·have key:∀L:List Int,L.Nodup→(∀c∈L,c∈ofS k id)→(L.flatMap (belF (ofS k) f)).Nodup:=fun L=>by
    induction L with
    | nil=>intros;simp
    | cons c L ih=>
     intro hn hs
     rw[List.nodup_cons] at hn
     rw[List.flatMap_cons,List.nodup_append]
     refine⟨bel_nodup w f c,ih hn.2 fun c hc=>hs c (List.mem_cons_of_mem _ hc),fun x hx y hy e=>?_⟩
     subst e
     obtain⟨c',h1,h2⟩:=List.mem_flatMap.1 hy
     have:=w.apart (hs c (List.mem_cons_self ..)) (hs c' (List.mem_cons_of_mem _ h1)) (bel_anc hK f c x hx) (bel_anc hK f c' x h2)
     exact hn.1 (this ▸ h1)
   exact key _ (w.kd id) fun c hc=>hc
theorem bel_len {k:SVT} {up:UP} (w:TW k up) (f:Nat):(belF (ofS k) f 1).length≤up.length+1:=by
 have:=nodup_le (m:=1::up.map (·.1)) (bel_nodup w f 1) fun y hy=>by
  have h1:=bel_has w f 1 y (by unfold hasT;simp) hy
  unfold hasT at h1
  rw[Bool.or_eq_true,decide_eq_true_iff] at h1
  rcases h1 with h1|h1
  ·cases e:lkF up y with
   | none=>rw[e] at h1;cases h1
   | some p=>exact List.mem_cons_of_mem _ (key_lkF e)
  ·rw[h1];exact List.mem_cons_self ..
 simpa using this
theorem top_bel {k:SVT} {up:UP} (w:TW k up) {bx:PW} {ox oy:Int→Int} {x y:Int}:∀(f:Nat) (id:Int),rkF up id<f→topF bx (ofS k) ox oy x y f id∈belF (ofS k) f id
 | 0,_,h=>absurd h (Nat.not_lt_zero _)
 | f+1,id,h=>by
  unfold topF belF
  cases e:(ofS k id).reverse.find? (inW bx ox oy id x y) with
  | none=>exact List.mem_cons_self ..
  | some c=>
   have hc:c∈ofS k id:=List.mem_reverse.1 (List.mem_of_find?_eq_some e)
   exact List.mem_cons_of_mem _ (List.mem_flatMap.2 ⟨c,hc,top_bel w f c (by have:=w.rank hc;unfold rkF at h ⊢;omega)⟩)
section
variable {k:SVT} {up:UP} {t:PW} (Q:PWOk k up t)
structure HG (up:UP) (t:PW) (e:Int × SW):Prop where
 bx:Bx 0 16 e.2.clip
 x:e.2.x=oX up t e.1
 y:e.2.y=oY up t e.1
 has:hasT up e.1=true
 ar:∀x y,hasR e.2.clip x y=true→∃b,lkF t e.1=some b∧hasR (areaB b) (x - oX up t e.1) (y - oY up t e.1)=true
structure HP (up:UP) (t:PW) (id:Int) (pl lf:List RC):Prop where
 has:hasT up id=true
 bp:Bx 0 16 pl
 bl:Bx 0 16 lf
 sub:∀x y,hasR lf x y=true→hasR pl x y=true
 ar:∀x y,hasR pl x y=true→∃b,lkF t id=some b∧hasR (areaB b) (x - oX up t id) (y - oY up t id)=true
include Q in
theorem lp_all {hd:Int→List RC→List RC→List (Int × SW)} {id:Int} {pl:List RC} (hh:∀c a l,HP up t c a l→∀e∈hd c a l,HG up t e) :
  ∀(ks:List Int) (lf:List RC),(∀c∈ks,c∈ofS k id)→HP up t id pl lf→(∀e∈(lpF t (oX up t) (oY up t) hd id pl ks lf).1,HG up t e)∧HP up t id pl (lpF t (oX up t) (oY up t) hd id pl ks lf).2
 | [],lf,_,h=>⟨fun e he=>(by cases he),h⟩
 | c::ks,lf,hs,h=>by
  have hc:=hs c (List.mem_cons_self ..)
  have hs':=fun c hc=>hs c (List.mem_cons_of_mem _ hc)
  obtain⟨b0,hb0⟩:=Q.bt c (Q.w.has_kid hc)
  cases hm:b0.m with
  | false=>
   rw[lp_none hb0 hm]
   exact lp_all hh ks lf hs' h
  | true=>
   rw[lp_some hb0 hm]
   have cz:=Q.can_kid hc hb0
   have hA:Bx 0 16 (kidA (oX up t) (oY up t) id b0 pl):=Bx.right cz.can h.bp
   have hB:Bx 0 16 (AndJ (kidA (oX up t) (oY up t) id b0 pl) lf):=.left (fun b=>rfl) hA h.bl.can
   have hN:Bx 0 16 (NotJ lf (kidA (oX up t) (oY up t) id b0 pl)):=.left (fun b=>rfl) h.bl hA.can
   have ok:=Q.o_kid hc hb0
   have h1:HP up t c (kidA (oX up t) (oY up t) id b0 pl) (AndJ (kidA (oX up t) (oY up t) id b0 pl) lf):=⟨Q.w.has_kid hc,hA,hB,fun x y hx=>by
     rw[has_join hA.can h.bl.can rfl,Bool.and_eq_true] at hx;exact hx.1,fun x y hx=>by
     unfold kidA at hx
     rw[has_join cz.can h.bp.can rfl,Bool.and_eq_true,has_shF] at hx
     exact⟨b0,hb0,by rw[ok.1,ok.2];exact hx.1⟩⟩
   have h2:HP up t id pl (NotJ lf (kidA (oX up t) (oY up t) id b0 pl)):=⟨h.has,h.bp,hN,fun x y hx=>by
     rw[has_join h.bl.can hA.can rfl,Bool.and_eq_true] at hx;exact h.sub x y hx.1,h.ar⟩
   have ih:=lp_all hh ks _ hs' h2
   refine⟨fun e he=>?_,ih.2⟩
   rcases List.mem_append.1 he with he|he
   ·exact hh c _ _ h1 e he
   ·exact ih.1 e he
include Q in
theorem hand_all:∀(f:Nat) (id:Int) (pl lf:List RC),HP up t id pl lf→∀e∈handF t (ofS k) (oX up t) (oY up t) f id pl lf,HG up t e
 | 0,_,_,_,_,e,he=>by cases he
 | f+1,id,pl,lf,h,e,he=>by
  unfold handF at he
  have q:=lp_all Q (hand_all f) (ofS k id).reverse lf (fun c hc=>List.mem_reverse.1 hc) h
  rcases List.mem_append.1 he with he|he
  ·exact q.1 e he
  ·rw[List.mem_singleton.1 he]
   exact⟨q.2.bl,rfl,rfl,q.2.has,fun x y hx=>q.2.ar x y (q.2.sub x y hx)⟩
include Q in
theorem PWOk.hp:HP up t 1 (areaB (bxF t 1)) (areaB (bxF t 1)):=by
 obtain⟨rx,ry,hr⟩:=Q.root
 have hb:bxF t 1=rootB rx ry:=by unfold bxF;rw[hr];rfl
 have ok:=(Q.ok 1 _ hr).area
 obtain⟨o1,o2⟩:=Q.o_root
 rw[hb]
 exact⟨Q.has1,ok,ok,fun x y h=>h,fun x y h=>⟨_,hr,by rw[o1,o2,Int.sub_zero,Int.sub_zero];exact h⟩⟩
include Q in
theorem PWOk.vw {id:Int} {s:SW} (h:lkF (vwF k up t) id=some s):HG up t (id,s):=hand_all Q _ _ _ _ Q.hp _ (lkF_mem h)
include Q in
theorem PWOk.vok:VOk (vwF k up t):=fun id s h=>by
 have q:=Q.vw h
 have:=Q.o_bd (show hasT up id=true from q.has)
 have h1:=q.x;have h2:=q.y
 dsimp only at h1 h2
 exact⟨q.bx,by omega,by omega⟩
include Q in
theorem PWOk.onP {w h:Int} (hr:lkF t 1=some (rootB w h)) {x y:Int} (hx:0≤x∧x<w) (hy:0≤y∧y<h) :
  hasR (areaB (bxF t 1)) x y=true∧(∀id s,lkF (vwF k up t) id=some s→hasR s.clip x y=true→id=lookF k up t x y)∧∃s,lkF (vwF k up t) (lookF k up t x y)=some s∧hasR s.clip x y=true:=by
 have hb:bxF t 1=rootB w h:=by unfold bxF;rw[hr];rfl
 have ok:=Q.ok 1 _ hr
 have hA:hasR (areaB (bxF t 1)) x y=true:=by
  rw[hb,ok.area_has]
  show ((!false||hasR [] x y)&&decide ((0≤x∧x<w)∧0≤y∧y<h))=true
  rw[decide_eq_true ⟨hx,hy⟩];rfl
 have hc:Can (areaB (bxF t 1)):=Q.hp.bp.can
 have:=hand_on (bx:=t) (K:=ofS k) (ox:=oX up t) (oy:=oY up t) (x:=x) (y:=y) (rkF up) (fun id kid hk=>Q.w.rank hk) (fun id kid b hk hb=>(Q.can_kid hk hb).can) (up.length+1) 1 _ _ (by unfold rkF;omega) hc hc hA hA
 refine⟨hA,fun id s h1 h2=>this.1 (id,s) (lkF_mem h1) h2,?_⟩
 obtain⟨s,h1,h2⟩:=this.2
 exact⟨s,lk_of_mem (hand_nodup Q.w _ _ _ _) h1,h2⟩
end
def idT (n:Nat):Int:=if n=0 then 1 else 1048576+(n:Int)
structure KW (n:Nat) (k:SVT) (up:UP) (t:PW):Prop where
 tw:TW k up
 ul:up.length=n
 has:∀id,hasT up id=true→∃j,j≤n∧id=idT j
 has':∀j,j≤n→hasT up (idT j)=true
 tb:∀j,j≤n→∃b,lkF t (idT j)=some b
 tok:∀id b,lkF t id=some b→b.Ok
 tl:t.length≤n+1
 tne:t≠[]
 root:∃x y,lkF t 1=some (rootB x y)
section
variable {n:Nat} {k:SVT} {up:UP} {t:PW} (m:KW n k up t)
include m
end
end Go.Proofs.YtbknacpdcdkjiaaGreat

/- Plain: where the pointer is, told by crossings. No condition. -/
namespace Go.Proofs.YtbknacpdcdkjiaaGreat
open Go Go.VM
set_option maxRecDepth 100000
set_option linter.unusedVariables false
set_option linter.unusedSimpArgs false
set_option linter.unusedSectionVars false
set_option maxHeartbeats 4000000
abbrev CS3:=Int × Bool × Int
def aboveF (L:List Int) (e:Int):List Int:=match idxN e (L.drop 1) with
 | some i=>(L.drop 1).take i
 | none=>L.drop 1
def meetF (A B:List Int):Option Int:=A.find? fun a=>decide (a∈B)
def crossF (up:UP) (a b:Int):List CS3:=if a=b then [] else
 match meetF (pathA up a) (pathA up b) with
 | none=>[]
 | some m=>
  if m=a then (a,false,2)::((aboveF (pathA up b) a).reverse.map fun i=>(i,true,1))++[(b,true,0)]
  else if m=b then (a,false,0)::((aboveF (pathA up a) b).map fun i=>(i,false,1))++[(b,true,2)]
  else (a,false,3)::((aboveF (pathA up a) m).map fun i=>(i,false,4))++((aboveF (pathA up b) m).reverse.map fun i=>(i,true,4))++[(b,true,3)]
section
variable {k:SVT} {up:UP} (w:TW k up)
include w
theorem pathA_eq {id:Int} (h:hasT up id=true):pathA up id=id::rP up id:=by unfold pathA;rw[if_pos h]
theorem pth_split {id:Int} {R:List Int} (h:Pth up id R):∀x∈id::R,∃P,id::R=P++pathA up x∧hasT up x=true:=by
 induction h with
 | root=>
  intro x hx
  rw[List.mem_singleton] at hx
  subst hx
  have e:=(Pth.root (up:=up)).eq_path w.n1 up.length (Nat.zero_le _)
  exact⟨[],by rw[pathA_eq w (by unfold hasT;simp)];unfold rP;rw[e];rfl,by unfold hasT;simp⟩
 | @up id p R h1 h2 r ih=>
  intro x hx
  rcases List.mem_cons.1 hx with rfl|hx
  ·have hh:hasT up x=true:=by unfold hasT;rw[h2];rfl
   refine⟨[],?_,hh⟩
   have hk:=w.rP_kid ((w.kid p x).2 h2)
   have e2:=w.pthR hk.2
   rw[pathA_eq w hh,List.nil_append,hk.1]
   congr 1
   have:=r.eq_path w.n1 (max up.length R.length) (by omega)
   have h3:=e2.1.eq_path w.n1 (max up.length R.length) (by omega)
   rw[←this,h3]
  ·obtain⟨P,e,h3⟩:=ih x hx
   exact⟨id::P,by rw[e];rfl,h3⟩
theorem path_split {id x:Int} (h:x∈pathA up id):∃P,pathA up id=P++pathA up x∧hasT up x=true:=by
 unfold pathA at h
 split at h
 ·next e=>
  have:=pth_split w (w.pthR e).1 x h
  rw[pathA_eq w e];exact this
 ·cases h
theorem pth_nodup {id:Int} {R:List Int} (h:Pth up id R):(id::R).Nodup:=by
 induction h with
 | root=>simp
 | @up id p R h1 h2 r ih=>
  rw[List.nodup_cons]
  refine⟨fun hx=>?_,ih⟩
  obtain⟨P,e,h3⟩:=pth_split w r id hx
  have hk:=(w.rP_kid ((w.kid p id).2 h2)).1
  have e1:=r.eq_path w.n1 (max up.length R.length) (by omega)
  have e2:=(w.pthR r.has).1.eq_path w.n1 (max up.length R.length) (by have:=(w.pthR r.has).2;omega)
  have e3:R=rP up p:=by rw[←e1,e2]
  have:=congrArg List.length e
  rw[pathA_eq w h3,hk,←e3] at this
  simp at this
  omega
theorem path_nodup (id:Int):(pathA up id).Nodup:=by
 unfold pathA
 split
 ·next e=>exact pth_nodup w (w.pthR e).1
 ·simp
end
theorem idxN_mid {x:Int}:∀{P S:List Int},x∉P→idxN x (P++x::S)=some P.length
 | [],S,_=>by unfold idxN;rw[List.nil_append];dsimp only;rw[if_pos rfl];rfl
 | a::P,S,h=>by
  rw[List.mem_cons,not_or] at h
  rw[List.cons_append,idxN,if_neg (fun e=>h.1 e.symm),idxN_mid h.2];rfl
section
variable {k:SVT} {up:UP} (w:TW k up)
include w
theorem meet_split {a b:Int} (ha:hasT up a=true) (hb:hasT up b=true):∃m A B,meetF (pathA up a) (pathA up b)=some m∧hasT up m=true∧pathA up a=A++pathA up m∧pathA up b=B++pathA up m∧(∀x∈A,x∉pathA up b)∧∀x∈B,x∉pathA up a:=by
 have h1:(1:Int)∈pathA up a∧(1:Int)∈pathA up b:=by
  have key:∀{id R},Pth up id R→(1:Int)∈id::R:=fun h=>by
   induction h with
   | root=>exact List.mem_cons_self ..
   | up _ _ _ ih=>exact List.mem_cons_of_mem _ ih
  rw[pathA_eq w ha,pathA_eq w hb]
  exact⟨key (w.pthR ha).1,key (w.pthR hb).1⟩
 have na:=path_nodup w a
 have nb:=path_nodup w b
 cases hm:meetF (pathA up a) (pathA up b) with
 | none=>
  unfold meetF at hm
  have:=List.find?_eq_none.1 hm 1 h1.1
  simp[h1.2] at this
 | some m=>
  unfold meetF at hm
  obtain⟨hmb,A,S,e,hA⟩:=List.find?_eq_some_iff_append.1 hm
  have hmb:m∈pathA up b:=by simpa using hmb
  have hma:m∈pathA up a:=by rw[e];simp
  obtain⟨P,e1,hh⟩:=path_split w hma
  obtain⟨B,e2,_⟩:=path_split w hmb
  have hA':∀x∈A,x∉pathA up b:=fun x hx=>by have:=hA x hx;simpa using this
  have eP:A=P:=by
   rw[e1,pathA_eq w hh] at e
   rw[e1,pathA_eq w hh] at na
   have hmP:m∉P:=fun h=>by
    rw[List.nodup_append] at na
    exact na.2.2 m h m (List.mem_cons_self ..) rfl
   have hmA:m∉A:=fun h=>hA' m h hmb
   have i1:=idxN_mid (S:=rP up m) hmP
   have i2:=idxN_mid (S:=S) hmA
   rw[e,i2] at i1
   have hl:A.length=P.length:=Option.some.inj i1
   have:=congrArg (List.take P.length) e
   rw[List.take_append_of_le_length (Nat.le_refl _),List.take_length,List.take_append_of_le_length (by omega),←hl,List.take_length] at this
   exact this.symm
  subst eP
  refine⟨m,A,B,rfl,hh,e1,e2,hA',fun x hx hxa=>?_⟩
  rw[e1] at hxa
  rcases List.mem_append.1 hxa with h|h
  ·exact hA' x h (by rw[e2];exact List.mem_append_left _ hx)
  ·rw[e2,List.nodup_append] at nb
   exact nb.2.2 x hx x h rfl
end
end Go.Proofs.YtbknacpdcdkjiaaGreat

/- Steps from window to window: up, down, above, Meet. No condition. -/
namespace Go.Proofs.YtbknacpdcdkjiaaGreat
open Go Go.VM
set_option maxRecDepth 100000
attribute [local irreducible] PurV Pur Step RL W D ACalls Then InBlock Fini
set_option linter.unusedVariables false
set_option linter.unusedSimpArgs false
set_option maxHeartbeats 20000000
instance teq_step:TEqS Tryz.prog 194 [true,false,true]:=⟨by kernel_rfl,by kernel_rfl,by kernel_rfl,by kernel_rfl⟩
def csE (s:CS3):AV:=.agg [AV.val (.int .u32 (s.1)),AV.val (.bool (s.2.1)),AV.val (.int .i64 (s.2.2))]
theorem csE_eq (i:Int) (e:Bool) (d:Int):csE (i,e,d)=.agg [AV.val (.int .u32 (i)),AV.val (.bool (e)),AV.val (.int .i64 (d))]:=rfl
theorem path1_c (b7:Nat) (v:Value) (L:List CS3) (i:Int) (e:Bool) (d:Int) (H:Heap) (hi:i≠0) (hl:L.length≤1000000) :
  ACalls Tryz.prog 122 ([csE (i,e,d)]++[.val (.pointer (some ⟨b7,0,none⟩))]) (.box b7 [.val (v)] 191::.own (v) 3 ((L).map csE) 194::H) (fun r h'=>∃v',r=.tup []∧h'=.box b7 [.val (v')] 191::.own (v') 3 (((L++[(i,e,d)])).map csE) 194::H):=by
 have e1:(L++[(i,e,d)]).map csE=L.map csE++[.agg [AV.val (.int .u32 (i)),AV.val (.bool (e)),AV.val (.int .i64 (d))]]:=by rw[List.map_append];rfl
 rw[e1]
 rw[csE_eq]
 refine ACalls.intro Tryz.func122 rfl Tryz.ntmps122 Tryz.results122 (Nat.le_of_ble_eq_true rfl) ?_
 (repeat' first|refine svE ⟨?_⟩|refine .b fun b=>?_|refine .u fun u=>?_|refine .d ?_ ?_|(refine .g fun hg=>?_;try exact svx)|fail)
 refine S.V (v:=AV.val (.bool (true))) ?_ (pur_neqS (p:=false) (sh:=[true,false,true]) rfl rfl (by repeat (first|exact IEqS.nil|apply IEqS.i|apply IEqS.b)) rfl (by simp[Scl.eq,hi]))
 (repeat' (first|(refine iR2 ?_;refine r2b ?_;refine R2.one ?_)|(refine iS ?_;refine iN ?_;refine S.build1r ?_)|(refine iS ?_;refine iMu ?_;refine S.mapU ?_)|refine svF ⟨?_⟩|refine .b fun b=>?_|refine .u fun u=>?_|refine .d ?_ ?_|(refine .g fun hg=>?_;try exact svx)|refine sva ?_|refine sv3 ?_|fail))
 exact fin_n (vs:=[]) (h':=.box b7 [.val u] 191::.own u 3 (L.map csE++[.agg [AV.val (.int .u32 (i)),AV.val (.bool (e)),AV.val (.int .i64 (d))]]) 194::H) ⟨u,rfl,rfl⟩
theorem cup_c (b7:Nat) (v:Value) (L:List CS3) (P:List Int) (e:Bool) (d:Int) (H:Heap) (hP:∀i∈P,i≠0) (hl:L.length+P.length≤1000000) :
  ACalls Tryz.prog 124 [AV.ro 1 (ints .u32 (P)),AV.val (.bool (e)),AV.val (.int .i64 (d)),.clo (.func 122) [.val (.pointer (some ⟨b7,0,none⟩))]] (.box b7 [.val (v)] 191::.own (v) 3 ((L).map csE) 194::H) (fun r h'=>∃v',r=.tup []∧h'=.box b7 [.val (v')] 191::.own (v') 3 (((L++P.map fun i=>((i,e,d):CS3))).map csE) 194::H):=by
 have pc:=fun v L i hi hl=>path1_c b7 v L i e d H hi hl
 refine ACalls.intro Tryz.func124 rfl Tryz.ntmps124 Tryz.results124 (Nat.le_of_ble_eq_true rfl) ?_
 (repeat' first|refine svE ⟨?_⟩|refine .b fun b=>?_|refine .u fun u=>?_|refine .d ?_ ?_|(refine .g fun hg=>?_;try exact svx)|fail)
 refine W.loop (J:=fun z:Nat × Value=>⟨23,[(12,AV.val (.int .i64 ((z.1:Nat)))),(11,AV.val (.int .i64 ((P.length:Nat)))),(10,AV.ro 1 (ints .u32 (P))),(1,AV.val (.bool (e))),(2,AV.val (.int .i64 (d))),(3,.clo (.func 122) [.val (.pointer (some ⟨b7,0,none⟩))])],.box b7 [.val (z.2)] 191::.own (z.2) 3 (((L++(P.take z.1).map fun i=>((i,e,d):CS3))).map csE) 194::H⟩)
  (Φ:=fun z=>z.1≤P.length) (μ:=fun z=>P.length - z.1) (0,v) (by simp only[List.take_zero,List.map_nil,List.append_nil];exact lee) (Nat.zero_le _) ?_
 rintro⟨i,v1⟩ hi
 dsimp only at hi ⊢
 rcases Nat.lt_or_ge i P.length with hlt|hge
 ·obtain⟨a,ha⟩:∃a,P[i]?=some a:=⟨_,List.getElem?_eq_getElem hlt⟩
  have e1:(L++(P.take (i+1)).map fun i=>((i,e,d):CS3))=(L++(P.take i).map fun i=>((i,e,d):CS3))++[(a,e,d)]:=by
   rw[List.take_add_one,ha];simp
  have c1:=pc v1 (L++(P.take i).map fun i=>((i,e,d):CS3)) a (hP a (List.mem_of_getElem? ha)) (by rw[List.length_append,List.length_map,List.length_take];omega)
  rw[←e1,csE_eq] at c1
  (repeat' first|refine svE ⟨?_⟩|refine .b fun b=>?_|refine .u fun u=>?_|refine .d ?_ ?_|(refine .g fun hg=>?_;try exact svx)|fail)
  refine S.callv (.clo 122 [.val (.pointer (some ⟨b7,0,none⟩))]) (c1.mono ?_)
  rintro r h' ⟨v2,rfl,hh⟩
  subst hh
  (repeat' first|refine svE ⟨?_⟩|refine .b fun b=>?_|refine .u fun u=>?_|refine .d ?_ ?_|(refine .g fun hg=>?_;try exact svx)|fail)
  exact⟨(i+1,v2),hlt,lee,by dsimp only;omega⟩
 ·rw[List.take_of_length_le hge]
  (repeat' first|refine svE ⟨?_⟩|refine .b fun b=>?_|refine .u fun u=>?_|refine .d ?_ ?_|(refine .g fun hg=>?_;try exact svx)|fail)
  exact fin_n (vs:=[]) (h':=.box b7 [.val (v1)] 191::.own (v1) 3 (((L++P.map fun i=>((i,e,d):CS3))).map csE) 194::H) ⟨v1,rfl,rfl⟩
theorem cdown_c (b7:Nat) (v:Value) (L:List CS3) (P:List Int) (e:Bool) (d:Int) (H:Heap) (hP:∀i∈P,i≠0) (hl:L.length+P.length≤1000000) :
  ACalls Tryz.prog 126 [AV.ro 1 (ints .u32 (P)),AV.val (.bool (e)),AV.val (.int .i64 (d)),.clo (.func 122) [.val (.pointer (some ⟨b7,0,none⟩))]] (.box b7 [.val (v)] 191::.own (v) 3 ((L).map csE) 194::H) (fun r h'=>∃v',r=.tup []∧h'=.box b7 [.val (v')] 191::.own (v') 3 (((L++P.reverse.map fun i=>((i,e,d):CS3))).map csE) 194::H):=by
 have pc:=fun v L i hi hl=>path1_c b7 v L i e d H hi hl
 refine ACalls.intro Tryz.func126 rfl Tryz.ntmps126 Tryz.results126 (Nat.le_of_ble_eq_true rfl) ?_
 (repeat' first|refine svE ⟨?_⟩|refine .b fun b=>?_|refine .u fun u=>?_|refine .d ?_ ?_|(refine .g fun hg=>?_;try exact svx)|fail)
 refine W.loop (J:=fun z:Nat × Value=>⟨25,[(8,AV.val (.int .i64 ((z.1:Nat) - 1))),(0,AV.ro 1 (ints .u32 (P))),(1,AV.val (.bool (e))),(2,AV.val (.int .i64 (d))),(3,.clo (.func 122) [.val (.pointer (some ⟨b7,0,none⟩))])],.box b7 [.val (z.2)] 191::.own (z.2) 3 (((L++(P.drop z.1).reverse.map fun i=>((i,e,d):CS3))).map csE) 194::H⟩)
  (Φ:=fun z=>z.1≤P.length) (μ:=fun z=>z.1) (P.length,v) (by simp only[List.drop_length,List.reverse_nil,List.map_nil,List.append_nil];exact lee) (Nat.le_refl _) ?_
 rintro⟨i,v1⟩ hi
 dsimp only at hi ⊢
 cases i with
 | zero=>
  rw[List.drop_zero]
  (repeat' first|refine svE ⟨?_⟩|refine .b fun b=>?_|refine .u fun u=>?_|refine .d ?_ ?_|(refine .g fun hg=>?_;try exact svx)|fail)
  exact fin_n (vs:=[]) (h':=.box b7 [.val (v1)] 191::.own (v1) 3 (((L++P.reverse.map fun i=>((i,e,d):CS3))).map csE) 194::H) ⟨v1,rfl,rfl⟩
 | succ i=>
  obtain⟨a,ha⟩:∃a,P[i]?=some a:=⟨_,List.getElem?_eq_getElem hi⟩
  have e1:(L++(P.drop i).reverse.map fun i=>((i,e,d):CS3))=(L++(P.drop (i+1)).reverse.map fun i=>((i,e,d):CS3))++[(a,e,d)]:=by
   have:P.drop i=a::P.drop (i+1):=by
    rw[List.drop_eq_getElem_cons hi];congr 1;rw[List.getElem?_eq_getElem hi] at ha;injection ha
   rw[this];simp
  have c1:=pc v1 (L++(P.drop (i+1)).reverse.map fun i=>((i,e,d):CS3)) a (hP a (List.mem_of_getElem? ha)) (by rw[List.length_append,List.length_map,List.length_reverse,List.length_drop];omega)
  rw[←e1,csE_eq] at c1
  rw[show ((i+1:Nat):Int) - 1=(i:Int) by omega]
  (repeat' first|refine svE ⟨?_⟩|refine .b fun b=>?_|refine .u fun u=>?_|refine .d ?_ ?_|(refine .g fun hg=>?_;try exact svx)|fail)
  refine S.callv (.clo 122 [.val (.pointer (some ⟨b7,0,none⟩))]) (c1.mono ?_)
  rintro r h' ⟨v2,rfl,hh⟩
  subst hh
  (repeat' first|refine svE ⟨?_⟩|refine .b fun b=>?_|refine .u fun u=>?_|refine .d ?_ ?_|(refine .g fun hg=>?_;try exact svx)|fail)
  exact⟨(i,v2),by dsimp only;omega,lee,by dsimp only;omega⟩
theorem cabove_c (a x:Int) (P:List Int) (h:Heap) (hl:P.length≤1000000):ACalls Tryz.prog 125 [AV.ro 1 (ints .u32 (a::P)),AV.val (.int .u32 (x))] h (fun r h'=>r=AV.ro 1 (ints .u32 (aboveF (a::P) x))∧h'=h):=by
 have ic:=fun h=>idx_c P x h
 have e1:List.take ((ints .u32 (a::P)).length - 1) (List.drop 1 (ints .u32 (a::P)))=ints .u32 P:=by
  rw[show ints .u32 (a::P)=AV.val (.int .u32 (a))::ints .u32 P from rfl,List.drop_succ_cons,List.drop_zero]
  exact List.take_of_length_le (by simp)
 have hne:(a::P).length=P.length+1:=rfl
 unfold aboveF idxI at *
 rw[List.drop_succ_cons,List.drop_zero]
 cases hi:idxN x P with
 | none=>
  rw[hi] at ic
  dsimp only at ic ⊢
  refine ACalls.intro Tryz.func125 rfl Tryz.ntmps125 Tryz.results125 (Nat.le_of_ble_eq_true rfl) ?_
  (repeat' first|refine svE ⟨?_⟩|refine .b fun b=>?_|refine .u fun u=>?_|refine .d ?_ ?_|(refine .g fun hg=>?_;try exact svx)|fail)
  rw[e1]
  refine S.call ?_;refine (ic _).mono ?_;rintro r h' ⟨rfl,hh⟩;subst hh
  (repeat' first|refine svE ⟨?_⟩|refine .b fun b=>?_|refine .u fun u=>?_|refine .d ?_ ?_|(refine .g fun hg=>?_;try exact svx)|fail)
  exact fin_r (h':=_) ⟨rfl,rfl⟩
 | some i=>
  rw[hi] at ic
  dsimp only at ic ⊢
  have hlt:i<P.length:=(List.getElem?_eq_some_iff.1 (idxN_lt hi)).1
  have e2:ints .u32 (P.take i)=List.take (i - 0) (List.drop 0 (ints .u32 P)):=by simp[ints,List.map_take]
  rw[e2]
  refine ACalls.intro Tryz.func125 rfl Tryz.ntmps125 Tryz.results125 (Nat.le_of_ble_eq_true rfl) ?_
  (repeat' first|refine svE ⟨?_⟩|refine .b fun b=>?_|refine .u fun u=>?_|refine .d ?_ ?_|(refine .g fun hg=>?_;try exact svx)|fail)
  rw[e1]
  refine S.call ?_;refine (ic _).mono ?_;rintro r h' ⟨rfl,hh⟩;subst hh
  (repeat' first|refine svE ⟨?_⟩|refine .b fun b=>?_|refine .u fun u=>?_|refine .d ?_ ?_|(refine .g fun hg=>?_;try exact svx)|fail)
  exact fin_r (h':=_) ⟨rfl,rfl⟩
def meetV:Option Int→AV
 | some m=>.tup [AV.val (.int .u32 (m)),AV.val (.bool (true))]
 | none=>.tup [AV.val (.int .u32 (0)),AV.val (.bool (false))]
theorem tmeet_c {k:SVT} {up:UP} (w:TW k up) (hl:up.length≤1000) (a c:Int) (h:Heap):ACalls Tryz.prog 123 [encT k up,AV.val (.int .u32 (a)),AV.val (.int .u32 (c))] h (fun r h'=>r=meetV (meetF (pathA up a) (pathA up c))∧h'=h):=by
 have pa:=fun h=>path_all w (by omega) a h
 have pc:=fun h=>path_all w (by omega) c h
 have hl1:=pathA_len w a
 generalize pathA up a=A at *
 generalize pathA up c=C at *
 have ct:=fun x h=>contains_c C x h
 unfold encT at *
 refine ACalls.intro Tryz.func123 rfl Tryz.ntmps123 Tryz.results123 (Nat.le_of_ble_eq_true rfl) ?_
 (repeat' first|refine svE ⟨?_⟩|refine .b fun b=>?_|refine .u fun u=>?_|refine .d ?_ ?_|(refine .g fun hg=>?_;try exact svx)|fail)
 refine S.call ?_;refine (pc _).mono ?_;rintro r h' ⟨rfl,hh⟩;subst hh
 (repeat' first|refine svE ⟨?_⟩|refine .b fun b=>?_|refine .u fun u=>?_|refine .d ?_ ?_|(refine .g fun hg=>?_;try exact svx)|fail)
 refine S.call ?_;refine (pa _).mono ?_;rintro r h' ⟨rfl,hh⟩;subst hh
 (repeat' first|refine svE ⟨?_⟩|refine .b fun b=>?_|refine .u fun u=>?_|refine .d ?_ ?_|(refine .g fun hg=>?_;try exact svx)|fail)
 refine W.loop (J:=fun i:Nat=>⟨27,[(18,AV.val (.int .i64 ((i:Nat)))),(17,AV.val (.int .i64 ((A.length:Nat)))),(16,AV.ro 1 (ints .u32 (A))),(8,AV.ro 1 (ints .u32 (C)))],h⟩)
  (Φ:=fun i=>i≤A.length∧meetF A C=meetF (A.drop i) C) (μ:=fun i=>A.length - i) 0 lee ⟨Nat.zero_le _,rfl⟩ ?_
 rintro i ⟨hi,hn⟩
 rcases Nat.lt_or_ge i A.length with hlt|hge
 ·obtain⟨x,ha⟩:∃x,A[i]?=some x:=⟨_,List.getElem?_eq_getElem hlt⟩
  have hd:A.drop i=x::A.drop (i+1):=by
   rw[List.drop_eq_getElem_cons hlt];congr 1;rw[List.getElem?_eq_getElem hlt] at ha;injection ha
  have hst:meetF (A.drop i) C=if x∈C then some x else meetF (A.drop (i+1)) C:=by
   rw[hd];unfold meetF;rw[List.find?_cons]
   by_cases q:x∈C
   ·rw[if_pos q,decide_eq_true q]
   ·rw[if_neg q,decide_eq_false q]
  have ct1:=fun h=>ct x h
  rw[hn,hst]
  by_cases q:x∈C
  ·rw[decide_eq_true q] at ct1
   rw[if_pos q]
   clear hst hn
   (repeat' first|refine svE ⟨?_⟩|refine .b fun b=>?_|refine .u fun u=>?_|refine .d ?_ ?_|(refine .g fun hg=>?_;try exact svx)|fail)
   refine S.call ?_;refine (ct1 _).mono ?_;rintro r h' ⟨rfl,hh⟩;subst hh
   (repeat' first|refine svE ⟨?_⟩|refine .b fun b=>?_|refine .u fun u=>?_|refine .d ?_ ?_|(refine .g fun hg=>?_;try exact svx)|fail)
   exact fin_r (h':=_) ⟨rfl,rfl⟩
  ·rw[decide_eq_false q] at ct1
   rw[if_neg q] at hst
   rw[if_neg q]
   rw[hst] at hn
   rw[←hn]
   clear hst
   (repeat' first|refine svE ⟨?_⟩|refine .b fun b=>?_|refine .u fun u=>?_|refine .d ?_ ?_|(refine .g fun hg=>?_;try exact svx)|fail)
   refine S.call ?_;refine (ct1 _).mono ?_;rintro r h' ⟨rfl,hh⟩;subst hh
   (repeat' first|refine svE ⟨?_⟩|refine .b fun b=>?_|refine .u fun u=>?_|refine .d ?_ ?_|(refine .g fun hg=>?_;try exact svx)|fail)
   exact⟨i+1,⟨hlt,hn⟩,lee,by omega⟩
 ·rw[hn,List.drop_of_length_le hge,show meetF [] C=none from rfl]
  (repeat' first|refine svE ⟨?_⟩|refine .b fun b=>?_|refine .u fun u=>?_|refine .d ?_ ?_|(refine .g fun hg=>?_;try exact svx)|fail)
  exact fin_r (h':=_) ⟨rfl,rfl⟩
end Go.Proofs.YtbknacpdcdkjiaaGreat
