import Derived.Test.YtbknacpdcdkjiaaGreatVM29
import Derived.Test.YtbknacpdcdkjiaaGreatB9
import Derived.Laws.Strings
import Derived.Test.YtbknacpdcdkjiaaGreatU3

namespace Go.Proofs.YtbknacpdcdkjiaaGreat
open Go Go.VM
attribute [local irreducible] PurV Pur Step RL W D ACalls Then InBlock Fini
set_option linter.unusedVariables false
set_option linter.unusedSimpArgs false
set_option maxHeartbeats 20000000
abbrev SVT:=List (Int × List Int)
def vIds (l:List Int):AV:=.ro 1 (ints .u32 l)
end Go.Proofs.YtbknacpdcdkjiaaGreat


/- saveset.Set: Of, Drop, Change. No condition. -/
namespace Go.Proofs.YtbknacpdcdkjiaaGreat
open Go Go.VM
attribute [local irreducible] PurV Pur Step RL W D ACalls Then InBlock Fini
set_option linter.unusedVariables false
set_option linter.unusedSimpArgs false
set_option maxHeartbeats 20000000
def ofS (t:SVT) (c:Int):List Int:=(lkF t c).getD []
end Go.Proofs.YtbknacpdcdkjiaaGreat


/- The reference's Has, Wrong, Sorted; same. No condition. -/
namespace Go.Proofs.YtbknacpdcdkjiaaGreat
open Go Go.VM
attribute [local irreducible] PurV Pur Step RL W D ACalls Then InBlock Fini
set_option linter.unusedVariables false
set_option linter.unusedSimpArgs false
set_option maxHeartbeats 20000000
end Go.Proofs.YtbknacpdcdkjiaaGreat

/- Strings compared; bytes divided. No condition. -/
namespace Go.VM
open Go
set_option linter.unusedVariables false
set_option linter.unusedSimpArgs false
section
variable {P:Program} {tm:List (Nat × AV)} {h:Heap} {d:Option Nat} {x y:Operand} {xt yt ty:Nat} {pos:String} {af:Array Edge} {gd:Option (Nat × Bool)}
end
end Go.VM

/- Freezing an owned slice that lies in an owned map, too. No condition. -/
namespace Go.VM
open Go
set_option linter.unusedVariables false
set_option linter.unusedSimpArgs false
inductive FrzG (v:Value) (k:Nat) (l:List AV):Heap→Heap→Prop
 | rest (h:Heap):FrzG v k l h h
 | keep (x:OE) {h h':Heap} (r:FrzG v k l h h'):FrzG v k l (x::h) (x::h')
 | box {b ty:Nat} {c c':List AV} {h h':Heap} (q:Frz v k l (.agg c) (.agg c')) (r:FrzG v k l h h'):FrzG v k l (.box b c ty::h) (.box b c' ty::h')
 | mp {b:Nat} {ks:List Value} {c c':List AV} {h h':Heap} (q:Frz v k l (.agg c) (.agg c')) (r:FrzG v k l h h'):FrzG v k l (.mp b ks c::h) (.mp b ks c'::h')
 | own {u:Value} {k' e:Nat} {c c':List AV} {h h':Heap} (hl:c.length=c'.length) (q:∀(i:Nat) (x y:AV),c[i]?=some x→c'[i]?=some y→Frz v k l x y) (r:FrzG v k l h h'):FrzG v k l (.own u k' c e::h) (.own u k' c' e::h')
theorem FrzG.mem {v:Value} {k:Nat} {l:List AV} {h h':Heap} (q:FrzG v k l h h'):∀x∈h',∃y∈h,y.blk=x.blk∧(y=x∨(∃b c c' ty,y=.box b c ty∧x=.box b c' ty∧Frz v k l (.agg c) (.agg c'))∨(∃b ks c c',y=.mp b ks c∧x=.mp b ks c'∧Frz v k l (.agg c) (.agg c'))∨∃u k' e c c',y=.own u k' c e∧x=.own u k' c' e∧c.length=c'.length∧∀(i:Nat) (a b:AV),c[i]?=some a→c'[i]?=some b→Frz v k l a b):=by
 induction q with
 | rest h=>exact fun x hx=>⟨x,hx,rfl,.inl rfl⟩
 | keep x r ih=>
  intro z hz
  rcases List.mem_cons.1 hz with rfl|hz
  ·exact⟨z,.head _,rfl,.inl rfl⟩
  ·obtain⟨y,h1,h2⟩:=ih z hz;exact⟨y,.tail _ h1,h2⟩
 | box q r ih=>
  intro z hz
  rcases List.mem_cons.1 hz with rfl|hz
  ·exact⟨_,.head _,rfl,.inr (.inl ⟨_,_,_,_,rfl,rfl,q⟩)⟩
  ·obtain⟨y,h1,h2⟩:=ih z hz;exact⟨y,.tail _ h1,h2⟩
 | mp q r ih=>
  intro z hz
  rcases List.mem_cons.1 hz with rfl|hz
  ·exact⟨_,.head _,rfl,.inr (.inr (.inl ⟨_,_,_,_,rfl,rfl,q⟩))⟩
  ·obtain⟨y,h1,h2⟩:=ih z hz;exact⟨y,.tail _ h1,h2⟩
 | own hl q r ih=>
  intro z hz
  rcases List.mem_cons.1 hz with rfl|hz
  ·exact⟨_,.head _,rfl,.inr (.inr (.inr ⟨_,_,_,_,_,rfl,rfl,hl,q⟩))⟩
  ·obtain⟨y,h1,h2⟩:=ih z hz;exact⟨y,.tail _ h1,h2⟩
theorem FrzG.blks {v:Value} {k:Nat} {l:List AV} {h h':Heap} (q:FrzG v k l h h'):h'.filterMap OE.blk=h.filterMap OE.blk:=by
 induction q with
 | rest h=>rfl
 | keep x r ih=>simp only[List.filterMap_cons,ih]
 | box q r ih=>simp only[List.filterMap_cons,ih,OE.blk]
 | mp q r ih=>simp only[List.filterMap_cons,ih,OE.blk]
 | own hl q r ih=>simp only[List.filterMap_cons,ih,OE.blk]
theorem frz_relE {v:Value} {k k':Nat} {l:List AV} {m m':Ghost} (hm:Gle m m') (hv:Rel m' (.ro k l) v):∀{c c':List AV} {cs:List Value},c.length=c'.length→(∀(i:Nat) (x y:AV),c[i]?=some x→c'[i]?=some y→Frz v k l x y)→RelE m k' c cs→RelE m' k' c' cs
 | [],[],_,_,_,h=>by simpa only[RelE] using h
 | [],_::_,_,h,_,_=>by cases h
 | _::_,[],_,h,_,_=>by cases h
 | x::c,y::c',cs,h,q,r=>by
  simp only[RelE] at r ⊢
  obtain⟨u,r',rfl,h1,h2,h3⟩:=r
  exact⟨u,r',rfl,h1,(q 0 x y rfl rfl).rel hm hv u h2,frz_relE hm hv (by simpa using h) (fun i a b ha hb=>q (i+1) a b (by simpa using ha) (by simpa using hb)) h3⟩
theorem Frz.relL {v:Value} {k:Nat} {l:List AV} {c c':List AV} (h:Frz v k l (.agg c) (.agg c')) {m m':Ghost} (hm:Gle m m') (hv:Rel m' (.ro k l) v) {cs:List Value} (q:RelL m c cs):RelL m' c' cs:=by
 have r:=h.rel hm hv (.agg cs.toArray) (by simp only[Rel];exact⟨_,rfl,by simpa using q⟩)
 simp only[Rel] at r
 obtain⟨cs',e,r⟩:=r
 injection e with e
 rw[←e] at r
 simpa using r
theorem Sim.frzg {m0:GF} {w0:World} {n:Nat} {t t':List (Nat × AV)} {h h1 h2:Heap} {a:Act} {w:World} {v:Value} {k e:Nat} {l:List AV} (hs:Sim m0 w0 ⟨n,t,h⟩ a w)
  (tk:Tk h (.own v k l e) h1) (ht:FrzT v k l t t') (hh:FrzG v k l h1 h2):Sim m0 w0 ⟨n,t',h2⟩ a w:=by
 obtain⟨m,q⟩:=hs
 have hown:=q.heap.2 _ tk.old
 let m'':Ghost:=fun b=>if ownBlk v=some b then w.heap[b]? else m b
 have hle:Gle m m'':=fun b o hb=>by
  show (if ownBlk v=some b then w.heap[b]? else m b)=some o
  rw[if_neg (fun hv=>by rw[hown.1 b hv] at hb;cases hb)];exact hb
 have hat:∀b,ownBlk v=some b→m'' b=w.heap[b]?:=fun b hb=>if_pos hb
 have hro:=own_ro hown.2 hle hat
 refine⟨m'',⟨q.le.trans hle,fun b o hb=>?_,q.frame,fun x hx b hb=>?_,fun b o hb=>?_,q.same,q.defers.mono hle,q.size,fun i y hy=>?_,?_,fun x hx=>?_⟩⟩
 ·have hb:(if ownBlk v=some b then w.heap[b]? else m b)=some o:=hb
  split at hb
  ·rename_i hv;exact .inr (q.own _ tk.old b hv)
  ·exact q.grow b o hb
 ·obtain⟨y,g1,g2,_⟩:=hh.mem x hx
  exact q.own y (tk.sub.subset g1) b (g2.trans hb)
 ·have hb:(if ownBlk v=some b then w.heap[b]? else m b)=some o:=hb
  split at hb
  ·exact hb
  ·exact q.holds b o hb
 ·obtain⟨x,g1,g2⟩:=ht.get i y hy
  obtain⟨u,g3,g4⟩:=q.tmps i x g1
  exact⟨u,g3,g2.rel hle hro u g4⟩
 ·show (h2.filterMap OE.blk).Nodup
  rw[hh.blks];exact (tk.sub.filterMap _).nodup q.heap.1
 ·obtain⟨y,g1,g2,g3⟩:=hh.mem x hx
  have hy:=q.heap.2 y (tk.sub.subset g1)
  refine⟨fun b hb=>?_,?_⟩
  ·show (if ownBlk v=some b then w.heap[b]? else m b)=none
   rw[if_neg (show ¬ ownBlk v=some b from fun hv=>tk.nodup q.heap.1 b hv y g1 (g2.trans hb))]
   exact hy.1 b (g2.trans hb)
  ·rcases g3 with rfl|⟨b,c,c',ty,rfl,rfl,g3⟩|⟨b,ks,c,c',rfl,rfl,g3⟩|⟨u,k',e',c,c',rfl,rfl,gl,g3⟩
   ·exact hy.2.mono hle
   ·have:=hy.2
    simp only[OERel] at this ⊢
    obtain⟨cs,q1,q2⟩:=this
    exact⟨cs,q1,g3.relL hle hro q2⟩
   ·have:=hy.2
    simp only[OERel] at this ⊢
    obtain⟨es,clk,es',q0,q1,q2,q3⟩:=this
    exact⟨es,clk,es',q0,q1,q2,g3.relL hle hro q3⟩
   ·have:=hy.2
    simp only[OERel] at this ⊢
    rcases this with ⟨A,q1,q2⟩|⟨b,q1,xs,q2,q3,q4⟩
    ·subst q2
     exact .inl ⟨A,q1,List.length_eq_zero_iff.1 gl.symm⟩
    ·exact .inr ⟨b,q1,xs,gl ▸ q2,frz_relE hle hro gl g3 q3,q4⟩
section
variable {ro:Option Nat} {P:Program} {n:Nat} {t t':List (Nat × AV)} {h h1 h2:Heap} {v:Value} {k e:Nat} {l:List AV} {K:St→Prop}
theorem RL.frzg {ops:Array Oper} {rest:List Oper} (tk:Tk h (.own v k l e) h1) (ht:FrzT v k l t t') (hh:FrzG v k l h1 h2) (q:RL ro P ops rest ⟨n,t',h2⟩ K):RL ro P ops rest ⟨n,t,h⟩ K:=fun i hi m0 w0 a w hs=>q i hi m0 w0 a w (hs.frzg tk ht hh)
theorem frz_agg:∀{xs ys:List AV},xs.length=ys.length→(∀(i:Nat) (x y:AV),xs[i]?=some x→ys[i]?=some y→Frz v k l x y)→Frz v k l (.agg xs) (.agg ys)
 | [],[],_,_=>.aggn
 | [],_::_,h,_=>by cases h
 | _::_,[],h,_=>by cases h
 | x::xs,y::ys,h,he=>.aggc (he 0 x y rfl rfl) (frz_agg (by simpa using h) fun i a b ha hb=>he (i+1) a b (by simpa using ha) (by simpa using hb))
end
end Go.VM


/- Trees: Has, Parent, Path, other; New; maps.Copy. No condition. -/
namespace Go.Proofs.YtbknacpdcdkjiaaGreat
open Go Go.VM
attribute [local irreducible] PurV Pur Step RL W D ACalls Then InBlock Fini
set_option linter.unusedVariables false
set_option linter.unusedSimpArgs false
set_option maxHeartbeats 20000000
abbrev UP:=List (Int × Int)
def encT (k:SVT) (up:UP):AV:=.agg [mapV .u32 vIds k,mapV .u32 (vI .u32) up]
def hasT (up:UP) (id:Int):Bool:=(lkF up id).isSome||decide (id=1)
set_option maxRecDepth 100000 in
theorem thas_c (k:SVT) (up:UP) (id:Int) (h:Heap):ACalls Tryz.prog 33 [encT k up,.val (.int .u32 (id))] h (fun r h'=>r=.val (.bool (hasT up id))∧h'=h):=by
 unfold encT hasT
 cases hb:(lkF up id).isSome
 ·refine ACalls.intro Tryz.func33 rfl Tryz.ntmps33 Tryz.results33 (Nat.le_of_ble_eq_true rfl) ?_
  (repeat' first|refine svE ⟨?_⟩|refine .b fun b=>?_|refine .u fun u=>?_|refine .d ?_ ?_|(refine .g fun hg=>?_;try exact svx)|fail)
  rw[hb]
  (repeat' first|refine svE ⟨?_⟩|refine .b fun b=>?_|refine .u fun u=>?_|refine .d ?_ ?_|(refine .g fun hg=>?_;try exact svx)|fail)
  exact fin_r (h':=h) ⟨rfl,rfl⟩
 ·refine ACalls.intro Tryz.func33 rfl Tryz.ntmps33 Tryz.results33 (Nat.le_of_ble_eq_true rfl) ?_
  (repeat' first|refine svE ⟨?_⟩|refine .b fun b=>?_|refine .u fun u=>?_|refine .d ?_ ?_|(refine .g fun hg=>?_;try exact svx)|fail)
  rw[hb]
  (repeat' first|refine svE ⟨?_⟩|refine .b fun b=>?_|refine .u fun u=>?_|refine .d ?_ ?_|(refine .g fun hg=>?_;try exact svx)|fail)
  exact fin_r (h':=h) ⟨rfl,rfl⟩
inductive Pth (up:UP):Int→List Int→Prop
 | root:Pth up 1 []
 | up {id p:Int} {R:List Int} (h1:id≠1) (h:lkF up id=some p) (r:Pth up p R):Pth up id (p::R)
theorem Pth.has {up:UP} {id:Int} {R:List Int} (h:Pth up id R):hasT up id=true:=by
 cases h with
 | root=>unfold hasT;simp
 | up h1 h r=>unfold hasT;rw[h];rfl
set_option maxRecDepth 100000 in
theorem path_c (k:SVT) (up:UP) (id:Int) (R:List Int) (h:Heap) (hp:Pth up id R) (hR:R.length≤1000000):ACalls Tryz.prog 15 [encT k up,.val (.int .u32 (id))] h (fun r h'=>r=.ro 1 (ints .u32 (id::R))∧h'=h):=by
 have th:=fun h=>thas_c k up id h
 rw[hp.has] at th
 refine ACalls.frz (Q:=fun r h'=>∃v,r=.val v∧h'=.own v 1 (ints .u32 (id::R)) 38::h) ?_ (by rintro r h' ⟨v,rfl,rfl⟩;exact⟨v,1,_,_,_,h,.here,.hit,rfl,rfl⟩)
 unfold encT at *
 refine ACalls.intro Tryz.func15 rfl Tryz.ntmps15 Tryz.results15 (Nat.le_of_ble_eq_true rfl) ?_
 (repeat' first|refine svE ⟨?_⟩|refine .b fun b=>?_|refine .u fun u=>?_|refine .d ?_ ?_|(refine .g fun hg=>?_;try exact svx)|fail)
 refine S.call ?_;refine (th _).mono ?_;rintro r h' ⟨rfl,hh⟩;subst hh
 (repeat' first|refine svE ⟨?_⟩|refine .b fun b=>?_|refine .u fun u=>?_|refine .d ?_ ?_|(refine .g fun hg=>?_;try exact svx)|fail)
 revert b;intro b2
 refine W.loop (J:=fun z:Int × List Int × List Int × Value=>⟨23,[(5,.val z.2.2.2),(1,.val (.int .u32 (z.1))),(4,.val (.slice none 0 0)),(2,.val (.pointer (some ⟨b2,0,none⟩)))],.own z.2.2.2 1 (ints .u32 z.2.1) 38::.box b2 [mapV .u32 vIds k,mapV .u32 (vI .u32) up] 28::h⟩)
  (Φ:=fun z=>Pth up z.1 z.2.2.1∧z.2.1++z.2.2.1=id::R) (μ:=fun z=>z.2.2.1.length) (id,[id],R,u) lee ⟨hp,rfl⟩ ?_
 rintro⟨x,D,L,v⟩ ⟨hpx,hD⟩
 dsimp only at hpx hD ⊢
 have hDl:D.length≤1000001:=by
  have:=congrArg List.length hD
  rw[List.length_append,List.length_cons] at this
  omega
 cases hpx with
 | root=>
  rw[List.append_nil] at hD
  subst hD
  (repeat' first|refine svE ⟨?_⟩|refine .b fun b=>?_|refine .u fun u=>?_|refine .d ?_ ?_|(refine .g fun hg=>?_;try exact svx)|fail)
  exact fin_r (h':=.own v 1 (ints .u32 (id::R)) 38::h) ⟨v,rfl,rfl⟩
 | @up _ q L h1 h2 r=>
  have e:(lkF up x).getD 0=q:=by rw[h2];rfl
  (repeat' (first|(refine iR2 ?_;refine r2b ?_;refine R2.one ?_)|(refine iS ?_;refine iN ?_;refine S.build1r ?_)|(refine iS ?_;refine iMu ?_;refine S.mapU ?_)|refine svF ⟨?_⟩|refine .b fun b=>?_|refine .u fun u=>?_|refine .d ?_ ?_|(refine .g fun hg=>?_;try exact svx)|refine sva ?_|refine sv3 ?_|fail))
  rw[e]
  refine⟨(q,D++[q],L,u),⟨r,by dsimp only;rw[List.append_assoc];exact hD⟩,?_,by dsimp only;simp⟩
  dsimp only
  rw[show ints .u32 (D++[q])=ints .u32 D++[.val (.int .u32 q)] by simp[ints]]
  exact lee
set_option maxRecDepth 100000 in
theorem new_c (h:Heap):ACalls Tryz.prog 26 [] h (fun r h'=>r=encT [] []∧h'=h):=by
 refine ACalls.wk (Q:=fun v h'=>v=.agg [.val (.map none),.val (.map none)]∧h'=h) ?_ ?_
 ·refine ACalls.intro Tryz.func26 rfl Tryz.ntmps26 Tryz.results26 (Nat.le_of_ble_eq_true rfl) ?_
  (repeat' first|refine svE ⟨?_⟩|refine .b fun b=>?_|refine .u fun u=>?_|refine .d ?_ ?_|(refine .g fun hg=>?_;try exact svx)|fail)
  exact fin_r (h':=h) ⟨rfl,rfl⟩
 ·rintro v h' ⟨rfl,rfl⟩
  exact⟨_,(by (repeat (first|exact Wk.refl _|exact Wk.nilr _|exact Wk.nilm|apply Wk.aggc|apply Wk.tupc|exact Wk.aggn|exact Wk.tupn));first|done|fail),rfl,rfl⟩
set_option maxRecDepth 100000 in
theorem cpy_c (bm:Nat) (s:UP) (h:Heap) (hn:(s.map (·.1)).Nodup):ACalls Tryz.prog 98 [.val (.map (some bm)),mapV .u32 (vI .u32) s] (mpV bm .u32 (vI .u32) ([]:UP)::h) (fun r h'=>r=.tup []∧h'=mpV bm .u32 (vI .u32) s::h):=by
 refine ACalls.intro Tryz.func98 rfl Tryz.ntmps98 Tryz.results98 (Nat.le_of_ble_eq_true rfl) ?_
 (repeat' first|refine svE ⟨?_⟩|refine .b fun b=>?_|refine .u fun u=>?_|refine .d ?_ ?_|(refine .g fun hg=>?_;try exact svx)|fail)
 revert b;intro b7
 refine W.loop (J:=fun x:List Nat × Option Nat × UP=>⟨16,[(7,.val (.pointer (some ⟨b7,0,none⟩))),(0,.val (.map (some bm)))],mitV b7 .u32 (vI .u32) s x.1 x.2.1::mpV bm .u32 (vI .u32) x.2.2::h⟩)
  (Φ:=fun x=>(x.2.2++remL s x.1).Perm s) (μ:=fun x=>x.1.length) (List.range s.length,none,[]) lee (rng_start s) ?_
 rintro⟨left,last,done⟩ hp
 dsimp only at hp ⊢
 (repeat' first|refine svE ⟨?_⟩|refine .b fun b=>?_|refine .u fun u=>?_|refine .d ?_ ?_|(refine .g fun hg=>?_;try exact svx)|fail)
 refine S.next (fun hl=>?_) (fun i p hi hpi=>?_)
 ·have hd:=rng_end hp hl
  (repeat' first|refine svE ⟨?_⟩|refine .b fun b=>?_|refine .u fun u=>?_|refine .d ?_ ?_|(refine .g fun hg=>?_;try exact svx)|fail)
  exact fin_n (h':=mpV bm .u32 (vI .u32) s::h) ⟨rfl,rfl⟩ (h2:=.skip (leh_mp hd (.refl _)))
 ·have hst:=rng_step hp hi hpi
  have hnd:=(hst.map (·.1)).nodup_iff.2 hn
  rw[List.map_append,List.map_append,List.append_assoc,List.nodup_append] at hnd
  have hnew:p.1∉done.map (·.1):=fun hm=>hnd.2.2 p.1 hm p.1 (by simp) rfl
  (repeat' first|refine svE ⟨?_⟩|refine .b fun b=>?_|refine .u fun u=>?_|refine .d ?_ ?_|(refine .g fun hg=>?_;try exact svx)|fail)
  rw[putF_new p.2 hnew]
  exact⟨(left.erase i,some i,done++[p]),hst,lee,rng_less hi⟩
end Go.Proofs.YtbknacpdcdkjiaaGreat
