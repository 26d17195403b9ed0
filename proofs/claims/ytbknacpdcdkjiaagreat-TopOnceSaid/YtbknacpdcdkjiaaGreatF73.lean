/- TopOnce, its own walk. No condition. -/
import Derived.Test.YtbknacpdcdkjiaaGreatF72
namespace Go.Proofs.YtbknacpdcdkjiaaGreat
open Go Go.VM
attribute [local irreducible] PurV Pur Step RL W D ACalls Then InBlock Fini
set_option linter.unusedVariables false
set_option linter.unusedSimpArgs false
set_option maxHeartbeats 20000000
structure ON where
 (dO:Int) (i:IN)
def ON.enc (o:ON):AV:=.agg [AV.val (.int .u8 (o.dO)),AV.val (.int .i64 ((o.i).k)),AV.val (.int .i64 ((o.i).c)),AV.val (.int .i64 ((o.i).x)),AV.val (.int .i64 ((o.i).y)),AV.val (.int .u32 ((o.i).t)),AV.val (.int .i64 ((o.i).n))]
structure ON.Ok (o:ON):Prop where
 d:0≤o.dO∧o.dO≤255
 t:0≤o.i.t∧o.i.t≤4294967295
 x:I64 o.i.x
 y:I64 o.i.y
set_option maxRecDepth 100000 in
theorem tonce_c (l:List ON) (gr:Bool) (H:Heap) (hl:l.length≤9223372036854775807) (okl:∀o∈l,o.Ok) :
  ACalls Tryz.prog 5 [.ro 7 (l.map ON.enc),AV.val (.bool (gr))] H (fun r h'=>r=AV.val (.bool (true))∧h'=H):=by
 have os:=fun h=>ostart_c h
 have f1:=fun h=>once_first1 h
 have f2:=fun h=>once_first2 h
 have hP:PI gr (if gr then st2 else st0) [] []:=by
  cases gr with
  | true=>exact pi_st2
  | false=>exact pi_st0
 have hAa:∀(j:Nat) (o:ON),l[j]?=some o→(l.map ON.enc)[j]?=some (.agg [AV.val (.int .u8 (o.dO)),AV.val (.int .i64 ((o.i).k)),AV.val (.int .i64 ((o.i).c)),AV.val (.int .i64 ((o.i).x)),AV.val (.int .i64 ((o.i).y)),AV.val (.int .u32 ((o.i).t)),AV.val (.int .i64 ((o.i).n))]):=fun j o hj=>by rw[List.getElem?_map,hj];rfl
 have hAl:(l.map ON.enc).length=l.length:=List.length_map ..
 unfold RT.enc at os f1 f2
 rw[show (gaA 0).enc=.agg [AV.val (.int .i64 (3)),AV.val (.int .u32 (1)),AV.val (.bool (false)),AV.val (.int .i64 (31)),AV.val (.bool (false)),AV.val (.bool (false)),AV.val (.int .i64 (0)),AV.val (.int .u32 (0))] from rfl] at f1 f2
 generalize l.map ON.enc=AL at *
 generalize st0=s00 at *
 generalize st1=s01 at *
 generalize st2=s02 at *
 by_cases h60:l.length≤60
 rotate_left
 ·refine ACalls.intro Tryz.func5 rfl Tryz.ntmps5 Tryz.results5 (Nat.le_of_ble_eq_true rfl) ?_
  (repeat' first|refine svE ⟨?_⟩|refine .b fun b=>?_|refine .u fun u=>?_|refine .d ?_ ?_|(refine .g fun hg=>?_;try exact svx)|fail)
  exact fin_r (h':=H) ⟨rfl,rfl⟩
 refine ACalls.intro Tryz.func5 rfl Tryz.ntmps5 Tryz.results5 (Nat.le_of_ble_eq_true rfl) ?_
 (repeat' first|refine svE ⟨?_⟩|refine .b fun b=>?_|refine .u fun u=>?_|refine .d ?_ ?_|(refine .g fun hg=>?_;try exact svx)|fail)
 refine S.call ?_
 refine (os _).mono ?_
 rintro r h' ⟨rfl,hh⟩
 rw[hh]
 clear hh h' os
 (repeat' (first|(refine iS ?_;refine iMu ?_;refine S.mapU ?_)|refine svF ⟨?_⟩|refine .b fun b=>?_|refine .u fun u=>?_|refine .d ?_ ?_|(refine .g fun hg=>?_;try exact svx)|((fail_if_success (refine sva ?_));refine sv3 ?_)|fail))
 refine W.seq ?_;(repeat' (first|(refine iS ?_;refine iMu ?_;refine S.mapU ?_)|refine svF ⟨?_⟩|refine .b fun b=>?_|refine .u fun u=>?_|refine .d ?_ ?_|(refine .g fun hg=>?_;try exact svx)|fail))
 rename_i b5
 revert b;intro b8
 obtain⟨sI,hsI⟩:∃sI,sI=if gr then s02 else s00:=⟨_,rfl⟩
 rw[←hsI] at hP
 refine W.mid (J:=fun _:Unit=>⟨189,[(0,.ro 7 AL),(7,AV.val (.int .i64 (if gr then 3 else 0))),(8,.val (.pointer (some ⟨b8,0,none⟩))),(5,.val (.pointer (some ⟨b5,0,none⟩))),(1,AV.val (.bool (gr))),(4,AV.val (.bool (false)))],.box b5 (mapV .u32 vIds (sI).k::mapV .u32 (vI .u32) (sI).up::AV.ro 1 (ints .u32 ((sI).o))::mapV .u32 vSW (sI).V::mapK (vI .i64) (sI).M::mapV .u32 (vI .i64) (sI).N::AV.val (.int .u32 ((sI).fw))::AV.val (.int .i64 ((sI).fr))::AV.val (.int .u32 ((sI).ft))::AV.ro 9 []::AV.val (.int .i64 (((sI).p).a.cl))::AV.val (.int .u32 (((sI).p).a.w))::AV.val (.bool (((sI).p).a.ow))::AV.val (.int .i64 (((sI).p).a.mask))::AV.val (.bool (((sI).p).a.au))::AV.val (.bool (((sI).p).a.pa))::AV.val (.int .i64 (((sI).p).a.code))::AV.val (.int .u32 (((sI).p).a.time))::AV.val (.bool (((sI).p).g))::AV.val (.bool (((sI).p).f))::AV.val (.bool (((sI).p).s))::AV.val (.int .i64 (((sI).p).held.k))::AV.val (.int .i64 (((sI).p).held.c))::AV.val (.int .i64 (((sI).p).held.x))::AV.val (.int .i64 (((sI).p).held.y))::AV.val (.int .u32 (((sI).p).held.t))::AV.val (.int .i64 (((sI).p).held.n))::AV.val (.bool (((sI).p).hs))::AV.ro 6 (((sI).p).ws.map IN.enc)::AV.val (.int .i64 (((sI).q).a.cl))::AV.val (.int .u32 (((sI).q).a.w))::AV.val (.bool (((sI).q).a.ow))::AV.val (.int .i64 (((sI).q).a.mask))::AV.val (.bool (((sI).q).a.au))::AV.val (.bool (((sI).q).a.pa))::AV.val (.int .i64 (((sI).q).a.code))::AV.val (.int .u32 (((sI).q).a.time))::AV.val (.bool (((sI).q).g))::AV.val (.bool (((sI).q).f))::AV.val (.bool (((sI).q).s))::AV.val (.int .i64 (((sI).q).held.k))::AV.val (.int .i64 (((sI).q).held.c))::AV.val (.int .i64 (((sI).q).held.x))::AV.val (.int .i64 (((sI).q).held.y))::AV.val (.int .u32 (((sI).q).held.t))::AV.val (.int .i64 (((sI).q).held.n))::AV.val (.bool (((sI).q).hs))::AV.ro 6 (((sI).q).ws.map IN.enc)::AV.val (.int .i64 ((sI).x))::AV.val (.int .i64 ((sI).y))::AV.val (.int .i64 ((sI).bt))::AV.val (.int .i64 ((sI).md))::AV.val (.int .i64 ((sI).ct))::AV.val (.int .u32 ((sI).nw))::AV.val (.int .u32 ((sI).un))::[]) 52::.box b8 [AV.val (.int .i64 (3)),AV.val (.int .u32 (1)),AV.val (.bool (false)),AV.val (.int .i64 (31)),AV.val (.bool (false)),AV.val (.bool (false)),AV.val (.int .i64 (0)),AV.val (.int .u32 (0))] 45::H⟩) (Φ:=fun _=>True) ?_ ?_
 ·clear hP hAa okl
  cases gr with
  | false=>
   rw[if_neg (by decide)] at hsI
   subst hsI
   clear f1 f2
   (repeat' first|refine svE ⟨?_⟩|refine .b fun b=>?_|refine .u fun u=>?_|refine .d ?_ ?_|(refine .g fun hg=>?_;try exact svx)|fail)
   exact⟨(),trivial,lee⟩
  | true=>
   rw[if_pos rfl] at hsI
   subst hsI
   (repeat' first|refine svE ⟨?_⟩|refine .b fun b=>?_|refine .u fun u=>?_|refine .d ?_ ?_|(refine .g fun hg=>?_;try exact svx)|fail)
   refine S.call ?_;refine (f1 _).mono ?_;rintro r h' ⟨rfl,hh⟩;subst hh
   (repeat' first|refine svE ⟨?_⟩|refine .b fun b=>?_|refine .u fun u=>?_|refine .d ?_ ?_|(refine .g fun hg=>?_;try exact svx)|fail)
   refine S.call ?_;refine (f2 _).mono ?_;rintro r h' ⟨rfl,hh⟩;subst hh
   (repeat' first|refine svE ⟨?_⟩|refine .b fun b=>?_|refine .u fun u=>?_|refine .d ?_ ?_|(refine .g fun hg=>?_;try exact svx)|fail)
   exact⟨(),trivial,lee⟩
 rintro - -
 clear f1 f2 hsI
 (repeat' (first|(refine iS ?_;refine iMu ?_;refine S.mapU ?_)|refine svF ⟨?_⟩|refine .b fun b=>?_|refine .u fun u=>?_|refine .d ?_ ?_|(refine .g fun hg=>?_;try exact svx)|fail))
 refine W.nil_ 6 47 ?_
 refine W.nil_ 7 66 ?_
 (repeat' first|refine svE ⟨?_⟩|refine .b fun b=>?_|refine .u fun u=>?_|refine .d ?_ ?_|(refine .g fun hg=>?_;try exact svx)|fail)
 refine W.loop (J:=fun z:Nat × RT × Value × List SD × Value × List IN=>⟨189,[(69,AV.val (.int .i64 ((z.1:Nat)))),(68,AV.val (.int .i64 ((AL.length:Nat)))),(67,.ro 7 AL),(15,.val z.2.2.1),(16,.val z.2.2.2.2.1),(7,AV.val (.int .i64 (if gr then 3 else 0))),(8,.val (.pointer (some ⟨b8,0,none⟩))),(5,.val (.pointer (some ⟨b5,0,none⟩))),(1,AV.val (.bool (gr))),(4,AV.val (.bool (false)))],.own (z.2.2.1) 7 ((z.2.2.2.1).map SD.enc) 66::.own (z.2.2.2.2.1) 6 ((z.2.2.2.2.2).map IN.enc) 47::.box b5 (mapV .u32 vIds (z.2.1).k::mapV .u32 (vI .u32) (z.2.1).up::AV.ro 1 (ints .u32 ((z.2.1).o))::mapV .u32 vSW (z.2.1).V::mapK (vI .i64) (z.2.1).M::mapV .u32 (vI .i64) (z.2.1).N::AV.val (.int .u32 ((z.2.1).fw))::AV.val (.int .i64 ((z.2.1).fr))::AV.val (.int .u32 ((z.2.1).ft))::AV.ro 9 []::AV.val (.int .i64 (((z.2.1).p).a.cl))::AV.val (.int .u32 (((z.2.1).p).a.w))::AV.val (.bool (((z.2.1).p).a.ow))::AV.val (.int .i64 (((z.2.1).p).a.mask))::AV.val (.bool (((z.2.1).p).a.au))::AV.val (.bool (((z.2.1).p).a.pa))::AV.val (.int .i64 (((z.2.1).p).a.code))::AV.val (.int .u32 (((z.2.1).p).a.time))::AV.val (.bool (((z.2.1).p).g))::AV.val (.bool (((z.2.1).p).f))::AV.val (.bool (((z.2.1).p).s))::AV.val (.int .i64 (((z.2.1).p).held.k))::AV.val (.int .i64 (((z.2.1).p).held.c))::AV.val (.int .i64 (((z.2.1).p).held.x))::AV.val (.int .i64 (((z.2.1).p).held.y))::AV.val (.int .u32 (((z.2.1).p).held.t))::AV.val (.int .i64 (((z.2.1).p).held.n))::AV.val (.bool (((z.2.1).p).hs))::AV.ro 6 (((z.2.1).p).ws.map IN.enc)::AV.val (.int .i64 (((z.2.1).q).a.cl))::AV.val (.int .u32 (((z.2.1).q).a.w))::AV.val (.bool (((z.2.1).q).a.ow))::AV.val (.int .i64 (((z.2.1).q).a.mask))::AV.val (.bool (((z.2.1).q).a.au))::AV.val (.bool (((z.2.1).q).a.pa))::AV.val (.int .i64 (((z.2.1).q).a.code))::AV.val (.int .u32 (((z.2.1).q).a.time))::AV.val (.bool (((z.2.1).q).g))::AV.val (.bool (((z.2.1).q).f))::AV.val (.bool (((z.2.1).q).s))::AV.val (.int .i64 (((z.2.1).q).held.k))::AV.val (.int .i64 (((z.2.1).q).held.c))::AV.val (.int .i64 (((z.2.1).q).held.x))::AV.val (.int .i64 (((z.2.1).q).held.y))::AV.val (.int .u32 (((z.2.1).q).held.t))::AV.val (.int .i64 (((z.2.1).q).held.n))::AV.val (.bool (((z.2.1).q).hs))::AV.ro 6 (((z.2.1).q).ws.map IN.enc)::AV.val (.int .i64 ((z.2.1).x))::AV.val (.int .i64 ((z.2.1).y))::AV.val (.int .i64 ((z.2.1).bt))::AV.val (.int .i64 ((z.2.1).md))::AV.val (.int .i64 ((z.2.1).ct))::AV.val (.int .u32 ((z.2.1).nw))::AV.val (.int .u32 ((z.2.1).un))::[]) 52::.box b8 [AV.val (.int .i64 (3)),AV.val (.int .u32 (1)),AV.val (.bool (false)),AV.val (.int .i64 (31)),AV.val (.bool (false)),AV.val (.bool (false)),AV.val (.int .i64 (0)),AV.val (.int .u32 (0))] 45::H⟩)
  (Φ:=fun z=>z.1≤l.length∧PI gr z.2.1 z.2.2.2.1 z.2.2.2.2.2∧z.2.2.2.2.2.length≤z.1) (μ:=fun z=>l.length - z.1) (0,sI,.slice none 0 0,[],.slice none 0 0,[]) lee ⟨Nat.zero_le _,hP,Nat.le_refl _⟩ ?_
 clear hP sI
 rintro⟨i,s,v1,Ls,v2,T⟩ ⟨hi,k,hT⟩
 dsimp only at hi k hT ⊢
 rcases Nat.lt_or_ge i l.length with hlt|hge
 ·obtain⟨o,ho⟩:∃o,l[i]?=some o:=⟨_,List.getElem?_eq_getElem hlt⟩
  have oo:=okl o (List.mem_of_getElem? ho)
  have hat:=hAa i o ho
  obtain⟨⟨hd1,hd2⟩,ht,hx,hy⟩:=oo
  have hT1:T.length≤100:=by omega
  have hll:Ls.length≤100:=by have:=k.len;omega
  clear hAa okl ho
  (repeat' (first|(refine iS ?_;refine iMu ?_;refine S.mapU ?_)|refine svF ⟨?_⟩|refine .b fun b=>?_|refine .u fun u=>?_|refine .d ?_ ?_|(refine .g fun hg=>?_;try exact svx)|fail))
  refine W.seq ?_;(repeat' (first|(refine iS ?_;refine iMu ?_;refine S.mapU ?_)|refine svF ⟨?_⟩|refine .b fun b=>?_|refine .u fun u=>?_|refine .d ?_ ?_|(refine .g fun hg=>?_;try exact svx)|fail))
  refine W.seq ?_;(repeat' (first|(refine iS ?_;refine iMu ?_;refine S.mapU ?_)|refine svF ⟨?_⟩|refine .b fun b=>?_|refine .u fun u=>?_|refine .d ?_ ?_|(refine .g fun hg=>?_;try exact svx)|fail))
  refine W.mid (J:=fun z:RT × List SD × Value × List IN=>⟨189,[(19,.ro 7 (z.2.1.map SD.enc)),(16,.val z.2.2.1),(69,AV.val (.int .i64 ((i:Nat)))),(68,AV.val (.int .i64 ((AL.length:Nat)))),(67,.ro 7 AL),(15,.val v1),(7,AV.val (.int .i64 (if gr then 3 else 0))),(8,.val (.pointer (some ⟨b8,0,none⟩))),(5,.val (.pointer (some ⟨b5,0,none⟩))),(1,AV.val (.bool (gr))),(4,AV.val (.bool (false)))],.own (v1) 7 ((Ls).map SD.enc) 66::.own (z.2.2.1) 6 ((z.2.2.2).map IN.enc) 47::.box b5 (mapV .u32 vIds (z.1).k::mapV .u32 (vI .u32) (z.1).up::AV.ro 1 (ints .u32 ((z.1).o))::mapV .u32 vSW (z.1).V::mapK (vI .i64) (z.1).M::mapV .u32 (vI .i64) (z.1).N::AV.val (.int .u32 ((z.1).fw))::AV.val (.int .i64 ((z.1).fr))::AV.val (.int .u32 ((z.1).ft))::AV.ro 9 []::AV.val (.int .i64 (((z.1).p).a.cl))::AV.val (.int .u32 (((z.1).p).a.w))::AV.val (.bool (((z.1).p).a.ow))::AV.val (.int .i64 (((z.1).p).a.mask))::AV.val (.bool (((z.1).p).a.au))::AV.val (.bool (((z.1).p).a.pa))::AV.val (.int .i64 (((z.1).p).a.code))::AV.val (.int .u32 (((z.1).p).a.time))::AV.val (.bool (((z.1).p).g))::AV.val (.bool (((z.1).p).f))::AV.val (.bool (((z.1).p).s))::AV.val (.int .i64 (((z.1).p).held.k))::AV.val (.int .i64 (((z.1).p).held.c))::AV.val (.int .i64 (((z.1).p).held.x))::AV.val (.int .i64 (((z.1).p).held.y))::AV.val (.int .u32 (((z.1).p).held.t))::AV.val (.int .i64 (((z.1).p).held.n))::AV.val (.bool (((z.1).p).hs))::AV.ro 6 (((z.1).p).ws.map IN.enc)::AV.val (.int .i64 (((z.1).q).a.cl))::AV.val (.int .u32 (((z.1).q).a.w))::AV.val (.bool (((z.1).q).a.ow))::AV.val (.int .i64 (((z.1).q).a.mask))::AV.val (.bool (((z.1).q).a.au))::AV.val (.bool (((z.1).q).a.pa))::AV.val (.int .i64 (((z.1).q).a.code))::AV.val (.int .u32 (((z.1).q).a.time))::AV.val (.bool (((z.1).q).g))::AV.val (.bool (((z.1).q).f))::AV.val (.bool (((z.1).q).s))::AV.val (.int .i64 (((z.1).q).held.k))::AV.val (.int .i64 (((z.1).q).held.c))::AV.val (.int .i64 (((z.1).q).held.x))::AV.val (.int .i64 (((z.1).q).held.y))::AV.val (.int .u32 (((z.1).q).held.t))::AV.val (.int .i64 (((z.1).q).held.n))::AV.val (.bool (((z.1).q).hs))::AV.ro 6 (((z.1).q).ws.map IN.enc)::AV.val (.int .i64 ((z.1).x))::AV.val (.int .i64 ((z.1).y))::AV.val (.int .i64 ((z.1).bt))::AV.val (.int .i64 ((z.1).md))::AV.val (.int .i64 ((z.1).ct))::AV.val (.int .u32 ((z.1).nw))::AV.val (.int .u32 ((z.1).un))::[]) 52::.box b8 [AV.val (.int .i64 (3)),AV.val (.int .u32 (1)),AV.val (.bool (false)),AV.val (.int .i64 (31)),AV.val (.bool (false)),AV.val (.bool (false)),AV.val (.int .i64 (0)),AV.val (.int .u32 (0))] 45::H⟩)
   (Φ:=fun z=>PI gr z.1 (Ls++z.2.1) z.2.2.2∧z.2.2.2.length≤i+1) ?_ ?_
  ·have hm7:0≤o.dO % 7∧o.dO % 7<7:=by omega
   by_cases h0:o.dO % 7=0
   ·have st:=fun h=>once_step k hT1 o.i h hx hy ht
    unfold RT.enc at st
    rw[IN.enc_eq] at st
    (repeat' first|refine svE ⟨?_⟩|refine .b fun b=>?_|refine .u fun u=>?_|refine .d ?_ ?_|(refine .g fun hg=>?_;try exact svx)|fail)
    refine S.call ?_
    refine (st _).mono ?_
    rintro r h' ⟨⟨s1,L,e,hc,rfl⟩,hh⟩
    subst hh
    rcases hc with ⟨he,rfl,rfl⟩|⟨rfl,k1⟩
    ·(repeat' first|refine svE ⟨?_⟩|refine .b fun b=>?_|refine .u fun u=>?_|refine .d ?_ ?_|(refine .g fun hg=>?_;try exact svx)|fail)
     exact⟨(_,[],v2,T),⟨by rw[List.append_nil];exact k,by dsimp only;omega⟩,lee⟩
    ·have hm1:(T++[o.i]).map IN.enc=T.map IN.enc++[.agg [AV.val (.int .i64 ((o.i).k)),AV.val (.int .i64 ((o.i).c)),AV.val (.int .i64 ((o.i).x)),AV.val (.int .i64 ((o.i).y)),AV.val (.int .u32 ((o.i).t)),AV.val (.int .i64 ((o.i).n))]]:=by rw[List.map_append];rfl
     have hml:(T.map IN.enc).length≤100:=by rw[List.length_map];exact hT1
     clear st
     (repeat' first|refine svE ⟨?_⟩|refine .b fun b=>?_|refine .u fun u=>?_|refine .d ?_ ?_|(refine .g fun hg=>?_;try exact svx)|fail)
     refine W.dr (.ro (.ro (.rw (.rw (.rw (.done _)))))) ?_
     (repeat' (first|(refine iR2 ?_;refine r2b ?_;refine R2.one (kk:=6) ?_)|refine svF ⟨?_⟩|refine .b fun b=>?_|refine .u fun u=>?_|refine .d ?_ ?_|(refine .g fun hg=>?_;try exact svx)|refine sva ?_|refine sv3 ?_|fail))
     refine⟨(s1,L,by assumption,T++[o.i]),⟨k1,by dsimp only;rw[List.length_append,List.length_singleton];omega⟩,?_⟩
     dsimp only
     rw[hm1]
     exact lee
   ·cases gr with
    | false=>
     (repeat' first|refine svE ⟨?_⟩|refine .b fun b=>?_|refine .u fun u=>?_|refine .d ?_ ?_|(refine .g fun hg=>?_;try exact svx)|fail)
     exact⟨(s,[],v2,T),⟨by rw[List.append_nil];exact k,by dsimp only;omega⟩,lee⟩
    | true=>
     by_cases h4:o.dO % 7≤4
     ·obtain⟨md,hmd,hat4⟩:∃md:Int,(md=0∨md=3∨(true=true∧(md=1∨md=4)))∧([AV.val (.int .i64 (0)),AV.val (.int .i64 (1)),AV.val (.int .i64 (3)),AV.val (.int .i64 (4))]:List AV)[(o.dO % 7 - 1).toNat]?=some (AV.val (.int .i64 (md))):=by
       obtain h5|h5|h5|h5:o.dO % 7=1∨o.dO % 7=2∨o.dO % 7=3∨o.dO % 7=4:=by omega
       ·exact⟨0,.inl rfl,by rw[h5];rfl⟩
       ·exact⟨1,.inr (.inr ⟨rfl,.inl rfl⟩),by rw[h5];rfl⟩
       ·exact⟨3,.inr (.inl rfl),by rw[h5];rfl⟩
       ·exact⟨4,.inr (.inr ⟨rfl,.inr rfl⟩),by rw[h5];rfl⟩
      have al:=fun h=>once_allow k hT1 md hmd h;unfold RT.enc at al;(repeat' ((fail_if_success (refine drg ?_));(first|refine svE ⟨?_⟩|refine .b fun b=>?_|refine .u fun u=>?_|refine .d ?_ ?_|(refine .g fun hg=>?_;try exact svx)|fail)));refine W.dr (.ro (.rw (.rw (.rw (.done _))))) ?_;refine R2.congr (todo':=[1,2,3,4,5,0,6,7,8,9,10,11]) (fun x=>by simp only[List.mem_cons,List.not_mem_nil,or_false];omega) ?_;refine R2.many (kk:=1) [.const (.int .i64 0),.const (.int .i64 1),.const (.int .i64 3),.const (.int .i64 4)] [AV.val (.int .i64 (0)),AV.val (.int .i64 (1)),AV.val (.int .i64 (3)),AV.val (.int .i64 (4))] ?_;(repeat' first|refine svE ⟨?_⟩|refine .b fun b=>?_|refine .u fun u=>?_|refine .d ?_ ?_|(refine .g fun hg=>?_;try exact svx)|fail);refine R2.B ?_;refine S.L ?_;refine kd ?_;refine R2.B ?_;refine S.call ?_;refine (al _).mono ?_;rintro r h' ⟨⟨s1,L,k1,rfl⟩,hh⟩;subst hh;refine kd ?_;clear al;(repeat' first|refine svE ⟨?_⟩|refine .b fun b=>?_|refine .u fun u=>?_|refine .d ?_ ?_|(refine .g fun hg=>?_;try exact svx)|fail);exact⟨(s1,L,v2,T),⟨k1.1,by dsimp only;omega⟩,lee⟩
     ·have og:=fun p h=>once_grab k hT1 p h
      rw[show (gaA 0).enc=.agg [AV.val (.int .i64 (3)),AV.val (.int .u32 (1)),AV.val (.bool (false)),AV.val (.int .i64 (31)),AV.val (.bool (false)),AV.val (.bool (false)),AV.val (.int .i64 (0)),AV.val (.int .u32 (0))] from rfl] at og
      unfold RT.enc at og
      obtain h5|h5:o.dO % 7=5∨o.dO % 7=6:=by omega
      ·have og1:=fun h=>og true h
       clear og
       (repeat' first|refine svE ⟨?_⟩|refine .b fun b=>?_|refine .u fun u=>?_|refine .d ?_ ?_|(refine .g fun hg=>?_;try exact svx)|fail)
       rw[decide_eq_true h5]
       refine S.call ?_;refine (og1 _).mono ?_;rintro r h' ⟨⟨s1,k1,rfl⟩,hh⟩;subst hh;clear og1;(repeat' first|refine svE ⟨?_⟩|refine .b fun b=>?_|refine .u fun u=>?_|refine .d ?_ ?_|(refine .g fun hg=>?_;try exact svx)|fail);exact⟨(s1,[],v2,T),⟨by rw[List.append_nil];exact k1,by dsimp only;omega⟩,lee⟩
      ·have og1:=fun h=>og false h
       clear og
       (repeat' first|refine svE ⟨?_⟩|refine .b fun b=>?_|refine .u fun u=>?_|refine .d ?_ ?_|(refine .g fun hg=>?_;try exact svx)|fail)
       rw[show decide (o.dO % 7=5)=false from decide_eq_false (by omega)]
       refine S.call ?_;refine (og1 _).mono ?_;rintro r h' ⟨⟨s1,k1,rfl⟩,hh⟩;subst hh;clear og1;(repeat' first|refine svE ⟨?_⟩|refine .b fun b=>?_|refine .u fun u=>?_|refine .d ?_ ?_|(refine .g fun hg=>?_;try exact svx)|fail);exact⟨(s1,[],v2,T),⟨by rw[List.append_nil];exact k1,by dsimp only;omega⟩,lee⟩
  ·rintro⟨s1,L,v3,T1⟩ ⟨k1,hT1'⟩
   dsimp only at k1 hT1' ⊢
   have hl1:=k1.len
   rw[List.length_append] at hl1
   have hm1:(Ls++L).map SD.enc=Ls.map SD.enc++L.map SD.enc:=List.map_append
   have hm2:(Ls.map SD.enc).length+(L.map SD.enc).length≤100:=by rw[List.length_map,List.length_map];omega
   (repeat' first|refine svE ⟨?_⟩|refine .b fun b=>?_|refine .u fun u=>?_|refine .d ?_ ?_|(refine .g fun hg=>?_;try exact svx)|fail)
   refine⟨(i+1,s1,by assumption,Ls++L,v3,T1),⟨hlt,k1,hT1'⟩,?_,by dsimp only;omega⟩
   dsimp only
   rw[hm1]
   exact lee
 ·have hT1:T.length≤100:=by omega
  clear hAa okl hT
  (repeat' (first|(refine iS ?_;refine iMu ?_;refine S.mapU ?_)|refine svF ⟨?_⟩|refine .b fun b=>?_|refine .u fun u=>?_|refine .d ?_ ?_|(refine .g fun hg=>?_;try exact svx)|fail))
  refine W.seq ?_;(repeat' (first|(refine iS ?_;refine iMu ?_;refine S.mapU ?_)|refine svF ⟨?_⟩|refine .b fun b=>?_|refine .u fun u=>?_|refine .d ?_ ?_|(refine .g fun hg=>?_;try exact svx)|fail))
  refine W.seq ?_;(repeat' (first|(refine iS ?_;refine iMu ?_;refine S.mapU ?_)|refine svF ⟨?_⟩|refine .b fun b=>?_|refine .u fun u=>?_|refine .d ?_ ?_|(refine .g fun hg=>?_;try exact svx)|fail))
  (repeat' first|refine svE ⟨?_⟩|refine .b fun b=>?_|refine .u fun u=>?_|refine .d ?_ ?_|(refine .g fun hg=>?_;try exact svx)|fail)
  refine W.loop (J:=fun z:Nat × RT × Value × List SD=>⟨189,[(129,AV.val (.int .i64 ((z.1:Nat)))),(15,.val z.2.2.1),(16,.val v2),(7,AV.val (.int .i64 (if gr then 3 else 0))),(8,.val (.pointer (some ⟨b8,0,none⟩))),(5,.val (.pointer (some ⟨b5,0,none⟩))),(1,AV.val (.bool (gr))),(4,AV.val (.bool (false)))],.own (z.2.2.1) 7 ((z.2.2.2).map SD.enc) 66::.own (v2) 6 ((T).map IN.enc) 47::.box b5 (mapV .u32 vIds (z.2.1).k::mapV .u32 (vI .u32) (z.2.1).up::AV.ro 1 (ints .u32 ((z.2.1).o))::mapV .u32 vSW (z.2.1).V::mapK (vI .i64) (z.2.1).M::mapV .u32 (vI .i64) (z.2.1).N::AV.val (.int .u32 ((z.2.1).fw))::AV.val (.int .i64 ((z.2.1).fr))::AV.val (.int .u32 ((z.2.1).ft))::AV.ro 9 []::AV.val (.int .i64 (((z.2.1).p).a.cl))::AV.val (.int .u32 (((z.2.1).p).a.w))::AV.val (.bool (((z.2.1).p).a.ow))::AV.val (.int .i64 (((z.2.1).p).a.mask))::AV.val (.bool (((z.2.1).p).a.au))::AV.val (.bool (((z.2.1).p).a.pa))::AV.val (.int .i64 (((z.2.1).p).a.code))::AV.val (.int .u32 (((z.2.1).p).a.time))::AV.val (.bool (((z.2.1).p).g))::AV.val (.bool (((z.2.1).p).f))::AV.val (.bool (((z.2.1).p).s))::AV.val (.int .i64 (((z.2.1).p).held.k))::AV.val (.int .i64 (((z.2.1).p).held.c))::AV.val (.int .i64 (((z.2.1).p).held.x))::AV.val (.int .i64 (((z.2.1).p).held.y))::AV.val (.int .u32 (((z.2.1).p).held.t))::AV.val (.int .i64 (((z.2.1).p).held.n))::AV.val (.bool (((z.2.1).p).hs))::AV.ro 6 (((z.2.1).p).ws.map IN.enc)::AV.val (.int .i64 (((z.2.1).q).a.cl))::AV.val (.int .u32 (((z.2.1).q).a.w))::AV.val (.bool (((z.2.1).q).a.ow))::AV.val (.int .i64 (((z.2.1).q).a.mask))::AV.val (.bool (((z.2.1).q).a.au))::AV.val (.bool (((z.2.1).q).a.pa))::AV.val (.int .i64 (((z.2.1).q).a.code))::AV.val (.int .u32 (((z.2.1).q).a.time))::AV.val (.bool (((z.2.1).q).g))::AV.val (.bool (((z.2.1).q).f))::AV.val (.bool (((z.2.1).q).s))::AV.val (.int .i64 (((z.2.1).q).held.k))::AV.val (.int .i64 (((z.2.1).q).held.c))::AV.val (.int .i64 (((z.2.1).q).held.x))::AV.val (.int .i64 (((z.2.1).q).held.y))::AV.val (.int .u32 (((z.2.1).q).held.t))::AV.val (.int .i64 (((z.2.1).q).held.n))::AV.val (.bool (((z.2.1).q).hs))::AV.ro 6 (((z.2.1).q).ws.map IN.enc)::AV.val (.int .i64 ((z.2.1).x))::AV.val (.int .i64 ((z.2.1).y))::AV.val (.int .i64 ((z.2.1).bt))::AV.val (.int .i64 ((z.2.1).md))::AV.val (.int .i64 ((z.2.1).ct))::AV.val (.int .u32 ((z.2.1).nw))::AV.val (.int .u32 ((z.2.1).un))::[]) 52::.box b8 [AV.val (.int .i64 (3)),AV.val (.int .u32 (1)),AV.val (.bool (false)),AV.val (.int .i64 (31)),AV.val (.bool (false)),AV.val (.bool (false)),AV.val (.int .i64 (0)),AV.val (.int .u32 (0))] 45::H⟩)
   (Φ:=fun z=>PI gr z.2.1 z.2.2.2 T∧(z.1=0∨(z.1=1∨z.1=2)∧z.2.1.p.ws=[]∧z.2.1.q.ws=[])) (μ:=fun z=>2 - z.1) (0,s,v1,Ls) lee ⟨k,.inl rfl⟩ ?_
  clear k s v1 Ls hge hi
  rintro⟨j,s,v1,Ls⟩ ⟨k,hj⟩
  dsimp only at k hj ⊢
  by_cases hj2:j=2
  ·obtain⟨hpe,hqe⟩:s.p.ws=[]∧s.q.ws=[]:=by
    rcases hj with hj|⟨_,h1,h2⟩
    ·omega
    ·exact⟨h1,h2⟩
   have hee:∀p,(s.dv p).ws=[]:=fun p=>by cases p;exact hqe;exact hpe
   have htk:∀p,trip p Ls=tkn p T:=fun p=>by
    have:=k.cons p
    unfold wtr at this
    rwa[hee p,List.map_nil,List.append_nil] at this
   have hll:Ls.length≤1000000:=by have:=k.len;omega
   have ot:=fun p h=>otold_c gr p Ls h hll k.good
   have os2:=fun p h=>osame_c p T h (by omega) k.tt
   have wt1:=fun h=>waiting_c s.p h (by rw[hpe];decide)
   have wt2:=fun h=>waiting_c s.q h (by rw[hqe];decide)
   rw[hpe] at wt1
   rw[hqe] at wt2
   have hct:=k.ct
   simp only[htk] at ot
   (repeat' (first|(refine iS ?_;refine iMu ?_;refine S.mapU ?_)|refine svF ⟨?_⟩|refine .b fun b=>?_|refine .u fun u=>?_|refine .d ?_ ?_|(refine .g fun hg=>?_;try exact svx)|fail))
   refine W.frz (v:=v1) (by (fail_if_success (apply tkG));(repeat (first|exact Tk.here|apply Tk.there));first|done|fail) (by repeat' (first|apply FrzT.cons|exact FrzT.rest _|exact Frz.hit|apply Frz.aggc|apply Frz.tupc|exact Frz.aggn|exact Frz.tupn|exact Frz.keep _)) (by repeat' (first|apply FrzH.box|apply FrzH.keep|exact FrzH.rest _|exact Frz.hit|apply Frz.aggc|apply Frz.tupc|exact Frz.aggn|exact Frz.tupn|exact Frz.keep _)) ?_
   refine W.frz (v:=v2) (by (fail_if_success (apply tkG));(repeat (first|exact Tk.here|apply Tk.there));first|done|fail) (by repeat' (first|apply FrzT.cons|exact FrzT.rest _|exact Frz.hit|apply Frz.aggc|apply Frz.tupc|exact Frz.aggn|exact Frz.tupn|exact Frz.keep _)) (by repeat' (first|apply FrzH.box|apply FrzH.keep|exact FrzH.rest _|exact Frz.hit|apply Frz.aggc|apply Frz.tupc|exact Frz.aggn|exact Frz.tupn|exact Frz.keep _)) ?_
   clear k hj hee htk
   refine W.seq ?_;(repeat' (first|(refine iS ?_;refine iMu ?_;refine S.mapU ?_)|refine svF ⟨?_⟩|refine .b fun b=>?_|refine .u fun u=>?_|refine .d ?_ ?_|(refine .g fun hg=>?_;try exact svx)|fail))
   (repeat' (first|(refine iS ?_;refine iN ?_;first|refine S.build1r ?_|refine S.build2r ?_|refine S.build3r ?_)|(refine iR2 ?_;refine r2b ?_;refine R2.one ?_)|(refine iS ?_;refine iMu ?_;refine S.mapU ?_)|refine svF ⟨?_⟩|refine .b fun b=>?_|refine .u fun u=>?_|refine .d ?_ ?_|(refine .g fun hg=>?_;try exact svx)|refine sva ?_|refine sv3 ?_|fail))
   refine W.loop (J:=fun z:Nat=>⟨189,[(151,AV.val (.int .i64 ((z:Nat)))),(150,AV.val (.int .i64 (2))),(149,.ro 1 [AV.val (.bool (true)),AV.val (.bool (false))]),(15,.ro 7 (Ls.map SD.enc)),(16,.ro 6 (T.map IN.enc)),(7,AV.val (.int .i64 (if gr then 3 else 0))),(5,.val (.pointer (some ⟨b5,0,none⟩))),(4,AV.val (.bool (false)))],.box b5 (mapV .u32 vIds (s).k::mapV .u32 (vI .u32) (s).up::AV.ro 1 (ints .u32 ((s).o))::mapV .u32 vSW (s).V::mapK (vI .i64) (s).M::mapV .u32 (vI .i64) (s).N::AV.val (.int .u32 ((s).fw))::AV.val (.int .i64 ((s).fr))::AV.val (.int .u32 ((s).ft))::AV.ro 9 []::AV.val (.int .i64 (((s).p).a.cl))::AV.val (.int .u32 (((s).p).a.w))::AV.val (.bool (((s).p).a.ow))::AV.val (.int .i64 (((s).p).a.mask))::AV.val (.bool (((s).p).a.au))::AV.val (.bool (((s).p).a.pa))::AV.val (.int .i64 (((s).p).a.code))::AV.val (.int .u32 (((s).p).a.time))::AV.val (.bool (((s).p).g))::AV.val (.bool (((s).p).f))::AV.val (.bool (((s).p).s))::AV.val (.int .i64 (((s).p).held.k))::AV.val (.int .i64 (((s).p).held.c))::AV.val (.int .i64 (((s).p).held.x))::AV.val (.int .i64 (((s).p).held.y))::AV.val (.int .u32 (((s).p).held.t))::AV.val (.int .i64 (((s).p).held.n))::AV.val (.bool (((s).p).hs))::AV.ro 6 (((s).p).ws.map IN.enc)::AV.val (.int .i64 (((s).q).a.cl))::AV.val (.int .u32 (((s).q).a.w))::AV.val (.bool (((s).q).a.ow))::AV.val (.int .i64 (((s).q).a.mask))::AV.val (.bool (((s).q).a.au))::AV.val (.bool (((s).q).a.pa))::AV.val (.int .i64 (((s).q).a.code))::AV.val (.int .u32 (((s).q).a.time))::AV.val (.bool (((s).q).g))::AV.val (.bool (((s).q).f))::AV.val (.bool (((s).q).s))::AV.val (.int .i64 (((s).q).held.k))::AV.val (.int .i64 (((s).q).held.c))::AV.val (.int .i64 (((s).q).held.x))::AV.val (.int .i64 (((s).q).held.y))::AV.val (.int .u32 (((s).q).held.t))::AV.val (.int .i64 (((s).q).held.n))::AV.val (.bool (((s).q).hs))::AV.ro 6 (((s).q).ws.map IN.enc)::AV.val (.int .i64 ((s).x))::AV.val (.int .i64 ((s).y))::AV.val (.int .i64 ((s).bt))::AV.val (.int .i64 ((s).md))::AV.val (.int .i64 ((s).ct))::AV.val (.int .u32 ((s).nw))::AV.val (.int .u32 ((s).un))::[]) 52::H⟩)
    (Φ:=fun z=>z=0∨z=1∨z=2) (μ:=fun z=>2 - z) 0 lee (.inl rfl) ?_
   rintro z (rfl|rfl|rfl)
   ·(repeat' first|refine svE ⟨?_⟩|refine .b fun b=>?_|refine .u fun u=>?_|refine .d ?_ ?_|(refine .g fun hg=>?_;try exact svx)|fail)
    refine S.call ?_;refine (ot true _).mono ?_;rintro r h' ⟨rfl,hh⟩;subst hh
    (repeat' first|refine svE ⟨?_⟩|refine .b fun b=>?_|refine .u fun u=>?_|refine .d ?_ ?_|(refine .g fun hg=>?_;try exact svx)|fail)
    refine S.call ?_;refine (os2 true _).mono ?_;rintro r h' ⟨rfl,hh⟩;subst hh
    (repeat' first|refine svE ⟨?_⟩|refine .b fun b=>?_|refine .u fun u=>?_|refine .d ?_ ?_|(refine .g fun hg=>?_;try exact svx)|fail)
    exact⟨1,.inr (.inl rfl),lee,by omega⟩
   ·(repeat' first|refine svE ⟨?_⟩|refine .b fun b=>?_|refine .u fun u=>?_|refine .d ?_ ?_|(refine .g fun hg=>?_;try exact svx)|fail)
    refine S.call ?_;refine (ot false _).mono ?_;rintro r h' ⟨rfl,hh⟩;subst hh
    (repeat' first|refine svE ⟨?_⟩|refine .b fun b=>?_|refine .u fun u=>?_|refine .d ?_ ?_|(refine .g fun hg=>?_;try exact svx)|fail)
    refine S.call ?_;refine (os2 false _).mono ?_;rintro r h' ⟨rfl,hh⟩;subst hh
    (repeat' first|refine svE ⟨?_⟩|refine .b fun b=>?_|refine .u fun u=>?_|refine .d ?_ ?_|(refine .g fun hg=>?_;try exact svx)|fail)
    exact⟨2,.inr (.inr rfl),lee,by omega⟩
   ·unfold DV.enc at wt1 wt2
    (repeat' first|refine svE ⟨?_⟩|refine .b fun b=>?_|refine .u fun u=>?_|refine .d ?_ ?_|(refine .g fun hg=>?_;try exact svx)|fail)
    refine R2.C (wt1 _) ?_
    (repeat' first|refine svE ⟨?_⟩|refine .b fun b=>?_|refine .u fun u=>?_|refine .d ?_ ?_|(refine .g fun hg=>?_;try exact svx)|fail)
    refine R2.C (wt2 _) ?_
    (repeat' first|refine svE ⟨?_⟩|refine .b fun b=>?_|refine .u fun u=>?_|refine .d ?_ ?_|(refine .g fun hg=>?_;try exact svx)|fail)
    refine fin_r (h':=H) (Q:=fun r h'=>r=_∧h'=H) ⟨?_,rfl⟩
    rw[decide_eq_true hct];rfl
  ·have hj3:j<2:=by omega
   clear hj
   (repeat' (first|(refine iS ?_;refine iN ?_;first|refine S.build1r ?_|refine S.build2r ?_|refine S.build3r ?_)|(refine iR2 ?_;refine r2b ?_;refine R2.one ?_)|(refine iS ?_;refine iMu ?_;refine S.mapU ?_)|refine svF ⟨?_⟩|refine .b fun b=>?_|refine .u fun u=>?_|refine .d ?_ ?_|(refine .g fun hg=>?_;try exact svx)|refine sva ?_|refine sv3 ?_|fail))
   refine W.loop (J:=fun z:Nat × RT × Value × List SD=>⟨189,[(133,AV.val (.int .i64 ((z.1:Nat)))),(132,AV.val (.int .i64 (2))),(131,.ro 1 [AV.val (.int .i64 (0)),AV.val (.int .i64 (3))]),(129,AV.val (.int .i64 ((j:Nat)))),(15,.val z.2.2.1),(16,.val v2),(7,AV.val (.int .i64 (if gr then 3 else 0))),(8,.val (.pointer (some ⟨b8,0,none⟩))),(5,.val (.pointer (some ⟨b5,0,none⟩))),(1,AV.val (.bool (gr))),(4,AV.val (.bool (false)))],.own (z.2.2.1) 7 ((z.2.2.2).map SD.enc) 66::.own (v2) 6 ((T).map IN.enc) 47::.box b5 (mapV .u32 vIds (z.2.1).k::mapV .u32 (vI .u32) (z.2.1).up::AV.ro 1 (ints .u32 ((z.2.1).o))::mapV .u32 vSW (z.2.1).V::mapK (vI .i64) (z.2.1).M::mapV .u32 (vI .i64) (z.2.1).N::AV.val (.int .u32 ((z.2.1).fw))::AV.val (.int .i64 ((z.2.1).fr))::AV.val (.int .u32 ((z.2.1).ft))::AV.ro 9 []::AV.val (.int .i64 (((z.2.1).p).a.cl))::AV.val (.int .u32 (((z.2.1).p).a.w))::AV.val (.bool (((z.2.1).p).a.ow))::AV.val (.int .i64 (((z.2.1).p).a.mask))::AV.val (.bool (((z.2.1).p).a.au))::AV.val (.bool (((z.2.1).p).a.pa))::AV.val (.int .i64 (((z.2.1).p).a.code))::AV.val (.int .u32 (((z.2.1).p).a.time))::AV.val (.bool (((z.2.1).p).g))::AV.val (.bool (((z.2.1).p).f))::AV.val (.bool (((z.2.1).p).s))::AV.val (.int .i64 (((z.2.1).p).held.k))::AV.val (.int .i64 (((z.2.1).p).held.c))::AV.val (.int .i64 (((z.2.1).p).held.x))::AV.val (.int .i64 (((z.2.1).p).held.y))::AV.val (.int .u32 (((z.2.1).p).held.t))::AV.val (.int .i64 (((z.2.1).p).held.n))::AV.val (.bool (((z.2.1).p).hs))::AV.ro 6 (((z.2.1).p).ws.map IN.enc)::AV.val (.int .i64 (((z.2.1).q).a.cl))::AV.val (.int .u32 (((z.2.1).q).a.w))::AV.val (.bool (((z.2.1).q).a.ow))::AV.val (.int .i64 (((z.2.1).q).a.mask))::AV.val (.bool (((z.2.1).q).a.au))::AV.val (.bool (((z.2.1).q).a.pa))::AV.val (.int .i64 (((z.2.1).q).a.code))::AV.val (.int .u32 (((z.2.1).q).a.time))::AV.val (.bool (((z.2.1).q).g))::AV.val (.bool (((z.2.1).q).f))::AV.val (.bool (((z.2.1).q).s))::AV.val (.int .i64 (((z.2.1).q).held.k))::AV.val (.int .i64 (((z.2.1).q).held.c))::AV.val (.int .i64 (((z.2.1).q).held.x))::AV.val (.int .i64 (((z.2.1).q).held.y))::AV.val (.int .u32 (((z.2.1).q).held.t))::AV.val (.int .i64 (((z.2.1).q).held.n))::AV.val (.bool (((z.2.1).q).hs))::AV.ro 6 (((z.2.1).q).ws.map IN.enc)::AV.val (.int .i64 ((z.2.1).x))::AV.val (.int .i64 ((z.2.1).y))::AV.val (.int .i64 ((z.2.1).bt))::AV.val (.int .i64 ((z.2.1).md))::AV.val (.int .i64 ((z.2.1).ct))::AV.val (.int .u32 ((z.2.1).nw))::AV.val (.int .u32 ((z.2.1).un))::[]) 52::.box b8 [AV.val (.int .i64 (3)),AV.val (.int .u32 (1)),AV.val (.bool (false)),AV.val (.int .i64 (31)),AV.val (.bool (false)),AV.val (.bool (false)),AV.val (.int .i64 (0)),AV.val (.int .u32 (0))] 45::H⟩)
    (Φ:=fun z=>PI gr z.2.1 z.2.2.2 T∧(z.1=0∨(z.1=1∧z.2.1.p.ws=[])∨z.1=2∧z.2.1.p.ws=[]∧z.2.1.q.ws=[])) (μ:=fun z=>2 - z.1) (0,s,v1,Ls) lee ⟨k,.inl rfl⟩ ?_
   clear k s v1 Ls
   rintro⟨m,s,v1,Ls⟩ ⟨k,hm⟩
   dsimp only at k hm ⊢
   have hl0:=k.len
   rcases hm with rfl|⟨rfl,hpe⟩|⟨rfl,hpe,hqe⟩
   ·have al:=fun h=>once_allow k hT1 0 (.inl rfl) h;unfold RT.enc at al;(repeat' first|refine svE ⟨?_⟩|refine .b fun b=>?_|refine .u fun u=>?_|refine .d ?_ ?_|(refine .g fun hg=>?_;try exact svx)|fail);refine S.call ?_;refine (al _).mono ?_;rintro r h' ⟨⟨s1,L,k1,rfl⟩,hh⟩;subst hh;clear al;have hl1:=k1.1.len;rw[List.length_append] at hl1;have hm1:(Ls++L).map SD.enc=Ls.map SD.enc++L.map SD.enc:=List.map_append;have hm2:(Ls.map SD.enc).length+(L.map SD.enc).length≤100:=(by rw[List.length_map,List.length_map];omega);(repeat' ((fail_if_success (refine drg ?_));(first|refine svE ⟨?_⟩|refine .b fun b=>?_|refine .u fun u=>?_|refine .d ?_ ?_|(refine .g fun hg=>?_;try exact svx)|fail)));refine W.dr (.ro (.rw (.rw (.rw (.done _))))) ?_;(repeat' first|refine svE ⟨?_⟩|refine .b fun b=>?_|refine .u fun u=>?_|refine .d ?_ ?_|(refine .g fun hg=>?_;try exact svx)|fail)
    exact⟨(1,s1,by assumption,Ls++L),⟨k1.1,.inr (.inl ⟨rfl,k1.2.2.1 rfl⟩)⟩,by simp only[hm1];exact lee,by dsimp only;omega⟩
   ·have al:=fun h=>once_allow k hT1 3 (.inr (.inl rfl)) h;unfold RT.enc at al;(repeat' first|refine svE ⟨?_⟩|refine .b fun b=>?_|refine .u fun u=>?_|refine .d ?_ ?_|(refine .g fun hg=>?_;try exact svx)|fail);refine S.call ?_;refine (al _).mono ?_;rintro r h' ⟨⟨s1,L,k1,rfl⟩,hh⟩;subst hh;clear al;have hl1:=k1.1.len;rw[List.length_append] at hl1;have hm1:(Ls++L).map SD.enc=Ls.map SD.enc++L.map SD.enc:=List.map_append;have hm2:(Ls.map SD.enc).length+(L.map SD.enc).length≤100:=(by rw[List.length_map,List.length_map];omega);(repeat' ((fail_if_success (refine drg ?_));(first|refine svE ⟨?_⟩|refine .b fun b=>?_|refine .u fun u=>?_|refine .d ?_ ?_|(refine .g fun hg=>?_;try exact svx)|fail)));refine W.dr (.ro (.rw (.rw (.rw (.done _))))) ?_;(repeat' first|refine svE ⟨?_⟩|refine .b fun b=>?_|refine .u fun u=>?_|refine .d ?_ ?_|(refine .g fun hg=>?_;try exact svx)|fail)
    exact⟨(2,s1,by assumption,Ls++L),⟨k1.1,.inr (.inr ⟨rfl,k1.2.1 true hpe,k1.2.2.2 rfl⟩)⟩,by simp only[hm1];exact lee,by dsimp only;omega⟩
   ·(repeat' first|refine svE ⟨?_⟩|refine .b fun b=>?_|refine .u fun u=>?_|refine .d ?_ ?_|(refine .g fun hg=>?_;try exact svx)|fail)
    exact⟨(j+1,s,v1,Ls),⟨k,.inr ⟨by dsimp only;omega,hpe,hqe⟩⟩,lee,by dsimp only;omega⟩
end Go.Proofs.YtbknacpdcdkjiaaGreat
