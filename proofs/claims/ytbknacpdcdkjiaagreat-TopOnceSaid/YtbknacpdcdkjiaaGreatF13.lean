import Derived.Test.YtbknacpdcdkjiaaGreatF11
/- Buttons and keys that are down. No condition. -/
namespace Go.Proofs.YtbknacpdcdkjiaaGreat
open Go Go.VM
set_option maxRecDepth 100000
attribute [local irreducible] PurV Pur Step RL W D ACalls Then InBlock Fini
set_option linter.unusedVariables false
set_option linter.unusedSimpArgs false
set_option maxHeartbeats 20000000
def RT.bm (s:RT) (bt md:Int):RT:={ s with bt:=bt,md:=md }
theorem down_c (b0:Nat) (v:AV) (s:RT) (p:Bool) (code:Int) (on:Bool) (H:Heap) (hc0:-1000000≤code∧code≤1000000) :
  ACalls Tryz.prog 80 [.val (.pointer (some ⟨b0,0,none⟩)),AV.val (.bool (p)),AV.val (.int .i64 (code)),AV.val (.bool (on))] (.box b0 (runC s v) 135::H) (fun r h'=>∃bt md,r=.tup []∧h'=.box b0 (runC (s.bm bt md) v) 135::H):=by
 unfold runC RT.bm
 dsimp only
 have fq:∀bt md,(fun r h'=>∃bt md,r=AV.tup []∧h'=.box b0 (mapV .u32 vIds s.k::mapV .u32 (vI .u32) s.up::AV.ro 1 (ints .u32 (s.o))::mapV .u32 vSW s.V::mapK (vI .i64) s.M::mapV .u32 (vI .i64) s.N::AV.val (.int .u32 (s.fw))::AV.val (.int .i64 (s.fr))::AV.val (.int .u32 (s.ft))::AV.ro 9 []::AV.val (.int .i64 ((s.p).a.cl))::AV.val (.int .u32 ((s.p).a.w))::AV.val (.bool ((s.p).a.ow))::AV.val (.int .i64 ((s.p).a.mask))::AV.val (.bool ((s.p).a.au))::AV.val (.bool ((s.p).a.pa))::AV.val (.int .i64 ((s.p).a.code))::AV.val (.int .u32 ((s.p).a.time))::AV.val (.bool ((s.p).g))::AV.val (.bool ((s.p).f))::AV.val (.bool ((s.p).s))::AV.val (.int .i64 ((s.p).held.k))::AV.val (.int .i64 ((s.p).held.c))::AV.val (.int .i64 ((s.p).held.x))::AV.val (.int .i64 ((s.p).held.y))::AV.val (.int .u32 ((s.p).held.t))::AV.val (.int .i64 ((s.p).held.n))::AV.val (.bool ((s.p).hs))::AV.ro 6 ((s.p).ws.map IN.enc)::AV.val (.int .i64 ((s.q).a.cl))::AV.val (.int .u32 ((s.q).a.w))::AV.val (.bool ((s.q).a.ow))::AV.val (.int .i64 ((s.q).a.mask))::AV.val (.bool ((s.q).a.au))::AV.val (.bool ((s.q).a.pa))::AV.val (.int .i64 ((s.q).a.code))::AV.val (.int .u32 ((s.q).a.time))::AV.val (.bool ((s.q).g))::AV.val (.bool ((s.q).f))::AV.val (.bool ((s.q).s))::AV.val (.int .i64 ((s.q).held.k))::AV.val (.int .i64 ((s.q).held.c))::AV.val (.int .i64 ((s.q).held.x))::AV.val (.int .i64 ((s.q).held.y))::AV.val (.int .u32 ((s.q).held.t))::AV.val (.int .i64 ((s.q).held.n))::AV.val (.bool ((s.q).hs))::AV.ro 6 ((s.q).ws.map IN.enc)::AV.val (.int .i64 (s.x))::AV.val (.int .i64 (s.y))::AV.val (.int .i64 (bt))::AV.val (.int .i64 (md))::AV.val (.int .i64 (s.ct))::AV.val (.int .u32 (s.nw))::AV.val (.int .u32 (s.un)):: v::[]) 135::H) (.tup []) (.box b0 (mapV .u32 vIds s.k::mapV .u32 (vI .u32) s.up::AV.ro 1 (ints .u32 (s.o))::mapV .u32 vSW s.V::mapK (vI .i64) s.M::mapV .u32 (vI .i64) s.N::AV.val (.int .u32 (s.fw))::AV.val (.int .i64 (s.fr))::AV.val (.int .u32 (s.ft))::AV.ro 9 []::AV.val (.int .i64 ((s.p).a.cl))::AV.val (.int .u32 ((s.p).a.w))::AV.val (.bool ((s.p).a.ow))::AV.val (.int .i64 ((s.p).a.mask))::AV.val (.bool ((s.p).a.au))::AV.val (.bool ((s.p).a.pa))::AV.val (.int .i64 ((s.p).a.code))::AV.val (.int .u32 ((s.p).a.time))::AV.val (.bool ((s.p).g))::AV.val (.bool ((s.p).f))::AV.val (.bool ((s.p).s))::AV.val (.int .i64 ((s.p).held.k))::AV.val (.int .i64 ((s.p).held.c))::AV.val (.int .i64 ((s.p).held.x))::AV.val (.int .i64 ((s.p).held.y))::AV.val (.int .u32 ((s.p).held.t))::AV.val (.int .i64 ((s.p).held.n))::AV.val (.bool ((s.p).hs))::AV.ro 6 ((s.p).ws.map IN.enc)::AV.val (.int .i64 ((s.q).a.cl))::AV.val (.int .u32 ((s.q).a.w))::AV.val (.bool ((s.q).a.ow))::AV.val (.int .i64 ((s.q).a.mask))::AV.val (.bool ((s.q).a.au))::AV.val (.bool ((s.q).a.pa))::AV.val (.int .i64 ((s.q).a.code))::AV.val (.int .u32 ((s.q).a.time))::AV.val (.bool ((s.q).g))::AV.val (.bool ((s.q).f))::AV.val (.bool ((s.q).s))::AV.val (.int .i64 ((s.q).held.k))::AV.val (.int .i64 ((s.q).held.c))::AV.val (.int .i64 ((s.q).held.x))::AV.val (.int .i64 ((s.q).held.y))::AV.val (.int .u32 ((s.q).held.t))::AV.val (.int .i64 ((s.q).held.n))::AV.val (.bool ((s.q).hs))::AV.ro 6 ((s.q).ws.map IN.enc)::AV.val (.int .i64 (s.x))::AV.val (.int .i64 (s.y))::AV.val (.int .i64 (bt))::AV.val (.int .i64 (md))::AV.val (.int .i64 (s.ct))::AV.val (.int .u32 (s.nw))::AV.val (.int .u32 (s.un)):: v::[]) 135::H):=fun bt md=>⟨bt,md,rfl,rfl⟩
 cases p<;>cases on
 all_goals
  refine ACalls.intro Tryz.func80 rfl Tryz.ntmps80 Tryz.results80 (Nat.le_of_ble_eq_true rfl) ?_
  (repeat' first|refine svE ⟨?_⟩|refine .b fun b=>?_|refine .u fun u=>?_|refine .d ?_ ?_|(refine .g fun hg=>?_;try exact svx)|fail)
  all_goals first|exact fin_r (vs:=[]) (fq _ _)|exact fin_n (vs:=[]) (fq _ _)
end Go.Proofs.YtbknacpdcdkjiaaGreat

/- No grabs lie ready. No condition. -/
namespace Go.Proofs.YtbknacpdcdkjiaaGreat
open Go Go.VM
set_option maxRecDepth 100000
attribute [local irreducible] PurV Pur Step RL W D ACalls Then InBlock Fini
set_option linter.unusedVariables false
set_option linter.unusedSimpArgs false
set_option maxHeartbeats 20000000
theorem idxf_c (f:AV) (h:Heap):ACalls Tryz.prog 148 [.ro 9 [],f] h (fun r h'=>r=AV.val (.int .i64 (-1))∧h'=h):=by
 refine ACalls.intro Tryz.func148 rfl Tryz.ntmps148 Tryz.results148 (Nat.le_of_ble_eq_true rfl) ?_
 (repeat' first|refine svE ⟨?_⟩|refine .b fun b=>?_|refine .u fun u=>?_|refine .d ?_ ?_|(refine .g fun hg=>?_;try exact svx)|fail)
 refine W.loop (J:=fun i:Nat=>⟨19,[(8,AV.val (.int .i64 (0))),(7,AV.val (.int .i64 (0)))],h⟩) (Φ:=fun _=>True) (μ:=fun _=>0) 0 lee trivial ?_
 rintro i -
 (repeat' first|refine svE ⟨?_⟩|refine .b fun b=>?_|refine .u fun u=>?_|refine .d ?_ ?_|(refine .g fun hg=>?_;try exact svx)|fail)
 refine fin_r (h':=h) (Q:=fun r h'=>r=_∧h'=h) ?_;exact⟨rfl,rfl⟩
theorem pressed_c (p:Bool) (c:Int) (h:Heap):ACalls Tryz.prog 147 [AV.val (.bool (p)),AV.val (.int .i64 (c))] h (fun r h'=>(∃q,r=AV.val (.bool (q)))∧h'=h):=by
 have fq:∀q,(fun r h'=>(∃q,r=AV.val (.bool (q)))∧h'=h) (tupA [AV.val (.bool (q))]) h:=fun q=>⟨⟨q,rfl⟩,rfl⟩
 cases p
 all_goals
  refine ACalls.intro Tryz.func147 rfl Tryz.ntmps147 Tryz.results147 (Nat.le_of_ble_eq_true rfl) ?_
  (repeat' first|refine svE ⟨?_⟩|refine .b fun b=>?_|refine .u fun u=>?_|refine .d ?_ ?_|(refine .g fun hg=>?_;try exact svx)|fail)
  all_goals exact fin_r (fq _)
theorem pfind_c (L:List Int) (p:Bool) (c m:Int) (h:Heap):ACalls Tryz.prog 110 [.agg [.ro 9 []],AV.ro 1 (ints .u32 (L)),AV.val (.bool (p)),AV.val (.int .i64 (c)),AV.val (.int .i64 (m))] h (fun r h'=>r=.tup [.agg [AV.val (.int .i64 (0)),AV.val (.int .u32 (0)),AV.val (.bool (false)),AV.val (.int .i64 (0)),AV.val (.int .i64 (0)),AV.val (.bool (false)),AV.val (.int .i64 (0)),AV.val (.int .i64 (0)),AV.val (.int .i64 (0))],AV.val (.bool (false))]∧h'=h):=by
 have pr:=fun h=>pressed_c p c h
 have ix:=fun f h=>idxf_c f h
 refine ACalls.intro Tryz.func110 rfl Tryz.ntmps110 Tryz.results110 (Nat.le_of_ble_eq_true rfl) ?_
 refine W.len 1 rfl (fun hl=>?_);simp only[ints,splice,List.length_map,List.length_append,List.length_cons,List.length_nil,List.length_take,List.length_drop,List.length_set,List.length_replicate] at hl
 (repeat' first|refine svE ⟨?_⟩|refine .b fun b=>?_|refine .u fun u=>?_|refine .d ?_ ?_|(refine .g fun hg=>?_;try exact svx)|fail)
 refine S.call ?_
 refine (pr _).mono ?_
 rintro r h' ⟨⟨q,rfl⟩,hh⟩
 subst hh
 cases q with
 | false=>
  (repeat' first|refine svE ⟨?_⟩|refine .b fun b=>?_|refine .u fun u=>?_|refine .d ?_ ?_|(refine .g fun hg=>?_;try exact svx)|fail)
  refine fin_r (h':=h) (Q:=fun r h'=>r=_∧h'=h) ?_;exact⟨rfl,rfl⟩
 | true=>
  (repeat' first|refine svE ⟨?_⟩|refine .b fun b=>?_|refine .u fun u=>?_|refine .d ?_ ?_|(refine .g fun hg=>?_;try exact svx)|fail)
  rename_i b5 b7 b8 b9
  revert b;intro b10
  refine W.loop (J:=fun i:Nat=>⟨39,[(22,AV.val (.int .i64 ((i:Nat)))),(21,AV.val (.int .i64 ((L.length:Nat)))),(20,AV.ro 1 (ints .u32 (L))),(5,.val (.pointer (some ⟨b5,0,none⟩))),(7,.val (.pointer (some ⟨b7,0,none⟩))),(8,.val (.pointer (some ⟨b8,0,none⟩))),(9,.val (.pointer (some ⟨b9,0,none⟩))),(10,.val (.pointer (some ⟨b10,0,none⟩))),(11,AV.val (.bool (false)))],.box b10 [AV.val (.int .i64 (0)),AV.val (.int .u32 (0)),AV.val (.bool (false)),AV.val (.int .i64 (0)),AV.val (.int .i64 (0)),AV.val (.bool (false)),AV.val (.int .i64 (0)),AV.val (.int .i64 (0)),AV.val (.int .i64 (0))] 219::.box b5 (AV.agg [.ro 9 []]).cells 43::.box b7 [AV.val (.bool (p))] 4::.box b8 [AV.val (.int .i64 (c))] 3::.box b9 [AV.val (.int .i64 (m))] 3::h⟩)
   (Φ:=fun i=>i≤L.length) (μ:=fun i=>L.length - i) 0 lee (Nat.zero_le _) ?_
  rintro i hi
  rcases Nat.lt_or_ge i L.length with hlt|hge
  ·obtain⟨a,ha⟩:∃a,L[i]?=some a:=⟨_,List.getElem?_eq_getElem hlt⟩
   (repeat' first|refine svE ⟨?_⟩|refine .b fun b=>?_|refine .u fun u=>?_|refine .d ?_ ?_|(refine .g fun hg=>?_;try exact svx)|fail)
   refine S.call ?_;refine (ix _ _).mono ?_;rintro r h' ⟨rfl,hh⟩;subst hh
   (repeat' first|refine svE ⟨?_⟩|refine .b fun b=>?_|refine .u fun u=>?_|refine .d ?_ ?_|(refine .g fun hg=>?_;try exact svx)|fail)
   exact⟨i+1,hlt,lee,by omega⟩
  ·(repeat' first|refine svE ⟨?_⟩|refine .b fun b=>?_|refine .u fun u=>?_|refine .d ?_ ?_|(refine .g fun hg=>?_;try exact svx)|fail)
   refine fin_r (h':=h) (Q:=fun r h'=>r=_∧h'=h) ?_;exact⟨rfl,rfl⟩
def RevI (l:List Int) (i:Nat) (l1:List Int):Prop:=l1.length=l.length∧∀j,j<l.length→l1[j]?=if j<i∨l.length<j+1+i then l[l.length - 1 - j]? else l[j]?
theorem RevI.zero (l:List Int):RevI l 0 l:=⟨rfl,fun j hj=>by rw[if_neg (by omega)]⟩
theorem RevI.step {l l1:List Int} {i:Nat} {a b:Int} (k:RevI l i l1) (h:i+1+i<l.length) (ha:l1[i]?=some a) (hb:l1[l.length - 1 - i]?=some b):RevI l (i+1) ((l1.set i b).set (l.length - 1 - i) a):=by
 obtain⟨k1,k2⟩:=k
 refine⟨by simp[k1],fun j hj=>?_⟩
 have e1:=k2 i (by omega)
 have e2:=k2 (l.length - 1 - i) (by omega)
 rw[if_neg (by omega),ha] at e1
 rw[if_neg (by omega),hb] at e2
 rw[List.getElem?_set,List.getElem?_set]
 simp only[List.length_set,k1]
 by_cases c1:l.length - 1 - i=j
 ·rw[if_pos c1,if_pos (by omega),if_pos (by omega),show l.length - 1 - j=i by omega];exact e1
 ·rw[if_neg c1]
  by_cases c2:i=j
  ·rw[if_pos c2,if_pos (by omega),if_pos (by omega),←c2];exact e2
  ·rw[if_neg c2,k2 j hj]
   by_cases c3:j<i∨l.length<j+1+i
   ·rw[if_pos c3,if_pos (by omega)]
   ·rw[if_neg c3,if_neg (by omega)]
theorem RevI.end_ {l l1:List Int} {i:Nat} (k:RevI l i l1) (h:l.length≤i+1+i):l1=l.reverse:=by
 obtain⟨k1,k2⟩:=k
 refine List.ext_getElem? fun j=>?_
 by_cases hj:j<l.length
 ·rw[k2 j hj,List.getElem?_reverse hj]
  by_cases c:j<i∨l.length<j+1+i
  ·rw[if_pos c]
  ·rw[if_neg c,show l.length - 1 - j=j by omega]
 ·rw[List.getElem?_eq_none (by omega),List.getElem?_eq_none (by simp;omega)]
theorem rev_c (v:Value) (l:List Int) (h:Heap) (hl:l.length≤1000000):ACalls Tryz.prog 151 [.val v] (.own v 1 (ints .u32 l) 38::h) (fun r h'=>r=.tup []∧h'=.own v 1 (ints .u32 l.reverse) 38::h):=by
 refine ACalls.intro Tryz.func151 rfl Tryz.ntmps151 Tryz.results151 (Nat.le_of_ble_eq_true rfl) ?_
 (repeat' first|refine svE ⟨?_⟩|refine .b fun b=>?_|refine .u fun u=>?_|refine .d ?_ ?_|(refine .g fun hg=>?_;try exact svx)|fail)
 refine W.loop (J:=fun z:Nat × List Int=>⟨28,[(0,.val v),(2,AV.val (.int .i64 ((z.1:Nat)))),(3,AV.val (.int .i64 ((l.length:Int) - 1 - (z.1:Nat))))],.own v 1 (ints .u32 z.2) 38::h⟩)
  (Φ:=fun z=>RevI l z.1 z.2∧z.1≤l.length) (μ:=fun z=>l.length - z.1) (0,l) (by simp only[Int.natCast_zero,Int.sub_zero];exact lee) ⟨RevI.zero l,Nat.zero_le _⟩ ?_
 rintro⟨i,l1⟩ ⟨hr,hi⟩
 dsimp only at hr hi ⊢
 have h1:=hr.1
 by_cases hlt:(i:Int)<(l.length:Int) - 1 - i
 ·obtain⟨a,ha⟩:∃a,l1[i]?=some a:=⟨_,List.getElem?_eq_getElem (by omega)⟩
  obtain⟨c,hc2⟩:∃c,l1[l.length - 1 - i]?=some c:=⟨_,List.getElem?_eq_getElem (by omega)⟩
  have hs:=hr.step (by omega) ha hc2
  have en:((l.length:Int) - 1 - i).toNat=l.length - 1 - i:=by omega
  have hc3:l1[((l.length:Int) - 1 - i).toNat]?=some c:=by rw[en];exact hc2
  (repeat' first|refine svE ⟨?_⟩|refine .b fun b=>?_|refine .u fun u=>?_|refine .d ?_ ?_|(refine .g fun hg=>?_;try exact svx)|fail)
  rw[ints_set]
  generalize hl2:l1.set i _=l2 at *
  have h2:l2.length=l.length:=by rw[←hl2,List.length_set];exact h1
  dsimp only
  refine R2.fix ?_
  (repeat' first|refine svE ⟨?_⟩|refine .b fun b=>?_|refine .u fun u=>?_|refine .d ?_ ?_|(refine .g fun hg=>?_;try exact svx)|fail)
  rw[ints_set,en]
  rw[show (l.length:Int) - 1 - i - 1=l.length - 1 - ((i+1:Nat):Int) by omega]
  exact⟨(i+1,l2.set (l.length - 1 - i) a),⟨hs,by dsimp only;omega⟩,lee,by dsimp only;omega⟩
 ·(repeat' first|refine svE ⟨?_⟩|refine .b fun b=>?_|refine .u fun u=>?_|refine .d ?_ ?_|(refine .g fun hg=>?_;try exact svx)|fail)
  have e:=hr.end_ (by omega)
  exact fin_n (vs:=[]) (h':=.own v 1 (ints .u32 l1) 38::h) (by rw[←e];exact⟨rfl,rfl⟩)
end Go.Proofs.YtbknacpdcdkjiaaGreat
