/- A device's next input is taken. No condition. -/
import Derived.Test.YtbknacpdcdkjiaaGreatF16
namespace Go.Proofs.YtbknacpdcdkjiaaGreat
open Go Go.VM
attribute [local irreducible] PurV Pur Step RL W D ACalls Then InBlock Fini
set_option linter.unusedVariables false
set_option linter.unusedSimpArgs false
set_option maxHeartbeats 20000000
def RT.setd (s:RT) (p:Bool) (d:DV):RT:=if p then { s with p:=d } else { s with q:=d }
def hldF (d n:DV) (i:IN):DV:=if d.s&&n.f then n.hold i else n
set_option maxRecDepth 100000 in
theorem nextr_c {s:RT} {p:Bool} {n:DV} {i:IN} {L:List SD} {R:RT→List SD→Prop} (b0:Nat) (v:Value) (H:Heap) (hd:(s.dv p).next=some (n,i)) (hl:(s.dv p).ws.length≤1000000) (hc:TakC 96 (s.setd p (hldF (s.dv p) n i)) i [] L R) :
  ACalls Tryz.prog 82 [.val (.pointer (some ⟨b0,0,none⟩)),AV.val (.bool (p))] (runH b0 v s L H) (RunTo b0 R L H):=by
 have dc:=fun h=>device_c b0 p h
 have sc:=fun h=>stepping_c (s.dv p) h
 have nc:=fun h=>next_c (s.dv p) h hl
 have en:nextV (s.dv p)=.tup [n.enc,i.enc,AV.val (.bool (true))]:=by unfold nextV;rw[hd]
 rw[en] at nc
 have fc:=fun h=>frozen_c n h
 have ho:=fun h=>hold_c n i h
 have hc1:=hc b0 v
 clear hc hd hl en
 unfold hldF at hc1
 unfold runH at *
 generalize OE.own v 7 (L.map SD.enc) 66=Y at *
 cases p with
 | true=>
  rw[show s.dv true=s.p from rfl] at *
  cases hs:s.p.s with
  | false=>
   rw[hs,if_neg (by simp)] at hc1
   generalize hn:n=m at *
   unfold DV.enc at sc nc fc ho
   unfold runC
   rw[IN.enc_eq i] at nc ho hc1
   rw[hs] at sc nc ⊢
   refine ACalls.intro Tryz.func82 rfl Tryz.ntmps82 Tryz.results82 (Nat.le_of_ble_eq_true rfl) ?_
   (repeat' first|refine svE ⟨?_⟩|refine .b fun b=>?_|refine .u fun u=>?_|refine .d ?_ ?_|(refine .g fun hg=>?_;try exact svx)|fail)
   refine S.call ?_;refine (dc _).mono ?_;rintro r h' ⟨rfl,hh⟩;subst hh
   (repeat' first|refine svE ⟨?_⟩|refine .b fun b=>?_|refine .u fun u=>?_|refine .d ?_ ?_|(refine .g fun hg=>?_;try exact svx)|fail)
   refine S.call ?_;refine (sc _).mono ?_;rintro r h' ⟨rfl,hh⟩;subst hh
   (repeat' first|refine svE ⟨?_⟩|refine .b fun b=>?_|refine .u fun u=>?_|refine .d ?_ ?_|(refine .g fun hg=>?_;try exact svx)|fail)
   refine S.call ?_;refine (nc _).mono ?_;rintro r h' ⟨rfl,hh⟩;subst hh
   (repeat' first|refine svE ⟨?_⟩|refine .b fun b=>?_|refine .u fun u=>?_|refine .d ?_ ?_|(refine .g fun hg=>?_;try exact svx)|fail)
   refine S.store_any ?_ (hl:=Nat.le_of_ble_eq_true rfl);(repeat' first|refine svE ⟨?_⟩|refine .b fun b=>?_|refine .u fun u=>?_|refine .d ?_ ?_|(refine .g fun hg=>?_;try exact svx)|fail);rename_i b6;revert b;intro b7;refine Step.le (s':=⟨40,[(37,.val (.pointer (some ⟨b0,0,none⟩))),(38,.agg [AV.val (.int .i64 ((i).k)),AV.val (.int .i64 ((i).c)),AV.val (.int .i64 ((i).x)),AV.val (.int .i64 ((i).y)),AV.val (.int .u32 ((i).t)),AV.val (.int .i64 ((i).n))])],.box b0 (runC (s.setd true m) (.val v)) 135::Y::.box b7 [AV.val (.int .i64 ((i).k)),AV.val (.int .i64 ((i).c)),AV.val (.int .i64 ((i).x)),AV.val (.int .i64 ((i).y)),AV.val (.int .u32 ((i).t)),AV.val (.int .i64 ((i).n))] 47::.box b6 [AV.val (.int .i64 (m.a.cl)),AV.val (.int .u32 (m.a.w)),AV.val (.bool (m.a.ow)),AV.val (.int .i64 (m.a.mask)),AV.val (.bool (m.a.au)),AV.val (.bool (m.a.pa)),AV.val (.int .i64 (m.a.code)),AV.val (.int .u32 (m.a.time)),AV.val (.bool (m.g)),AV.val (.bool (m.f)),AV.val (.bool (m.s)),AV.val (.int .i64 (m.held.k)),AV.val (.int .i64 (m.held.c)),AV.val (.int .i64 (m.held.x)),AV.val (.int .i64 (m.held.y)),AV.val (.int .u32 (m.held.t)),AV.val (.int .i64 (m.held.n)),AV.val (.bool (m.hs)),AV.ro 6 (m.ws.map IN.enc)] 50::H⟩) lee ?_;refine S.call ?_;refine ((hc1 _).args (vs:=[.val (.pointer (some ⟨b0,0,none⟩)),.agg [AV.val (.int .i64 ((i).k)),AV.val (.int .i64 ((i).c)),AV.val (.int .i64 ((i).x)),AV.val (.int .i64 ((i).y)),AV.val (.int .u32 ((i).t)),AV.val (.int .i64 ((i).n))],.val (.slice none 0 0)]) (by (repeat (first|exact Wk.refl _|exact Wk.nilr _|exact Wk.nilm|apply Wk.aggc|apply Wk.tupc|exact Wk.aggn|exact Wk.tupn));first|done|fail)).mono ?_;rintro r h' ⟨v',s',l,hR,rfl,hh⟩;unfold runH at hh;subst hh;(repeat' first|refine svE ⟨?_⟩|refine .b fun b=>?_|refine .u fun u=>?_|refine .d ?_ ?_|(refine .g fun hg=>?_;try exact svx)|fail);exact fin_n (vs:=[]) (h':=.box b0 (runC s' (.val v')) 135::.own v' 7 ((L++l).map SD.enc) 66::H) ⟨v',s',l,hR,rfl,rfl⟩
  | true=>
   cases hf:n.f with
   | false=>
    rw[hs,hf,if_neg (by simp)] at hc1
    rw[hf] at fc
    generalize hn:n=m at *
    unfold DV.enc at sc nc fc ho
    unfold runC
    rw[IN.enc_eq i] at nc ho hc1
    rw[hs] at sc nc ⊢
    refine ACalls.intro Tryz.func82 rfl Tryz.ntmps82 Tryz.results82 (Nat.le_of_ble_eq_true rfl) ?_
    (repeat' first|refine svE ⟨?_⟩|refine .b fun b=>?_|refine .u fun u=>?_|refine .d ?_ ?_|(refine .g fun hg=>?_;try exact svx)|fail)
    refine S.call ?_;refine (dc _).mono ?_;rintro r h' ⟨rfl,hh⟩;subst hh
    (repeat' first|refine svE ⟨?_⟩|refine .b fun b=>?_|refine .u fun u=>?_|refine .d ?_ ?_|(refine .g fun hg=>?_;try exact svx)|fail)
    refine S.call ?_;refine (sc _).mono ?_;rintro r h' ⟨rfl,hh⟩;subst hh
    (repeat' first|refine svE ⟨?_⟩|refine .b fun b=>?_|refine .u fun u=>?_|refine .d ?_ ?_|(refine .g fun hg=>?_;try exact svx)|fail)
    refine S.call ?_;refine (nc _).mono ?_;rintro r h' ⟨rfl,hh⟩;subst hh
    (repeat' first|refine svE ⟨?_⟩|refine .b fun b=>?_|refine .u fun u=>?_|refine .d ?_ ?_|(refine .g fun hg=>?_;try exact svx)|fail)
    refine S.call ?_;refine (fc _).mono ?_;rintro r h' ⟨rfl,hh⟩;subst hh
    (repeat' first|refine svE ⟨?_⟩|refine .b fun b=>?_|refine .u fun u=>?_|refine .d ?_ ?_|(refine .g fun hg=>?_;try exact svx)|fail)
    refine S.store_any ?_ (hl:=Nat.le_of_ble_eq_true rfl);(repeat' first|refine svE ⟨?_⟩|refine .b fun b=>?_|refine .u fun u=>?_|refine .d ?_ ?_|(refine .g fun hg=>?_;try exact svx)|fail);rename_i b6;revert b;intro b7;refine Step.le (s':=⟨40,[(37,.val (.pointer (some ⟨b0,0,none⟩))),(38,.agg [AV.val (.int .i64 ((i).k)),AV.val (.int .i64 ((i).c)),AV.val (.int .i64 ((i).x)),AV.val (.int .i64 ((i).y)),AV.val (.int .u32 ((i).t)),AV.val (.int .i64 ((i).n))])],.box b0 (runC (s.setd true m) (.val v)) 135::Y::.box b7 [AV.val (.int .i64 ((i).k)),AV.val (.int .i64 ((i).c)),AV.val (.int .i64 ((i).x)),AV.val (.int .i64 ((i).y)),AV.val (.int .u32 ((i).t)),AV.val (.int .i64 ((i).n))] 47::.box b6 [AV.val (.int .i64 (m.a.cl)),AV.val (.int .u32 (m.a.w)),AV.val (.bool (m.a.ow)),AV.val (.int .i64 (m.a.mask)),AV.val (.bool (m.a.au)),AV.val (.bool (m.a.pa)),AV.val (.int .i64 (m.a.code)),AV.val (.int .u32 (m.a.time)),AV.val (.bool (m.g)),AV.val (.bool (m.f)),AV.val (.bool (m.s)),AV.val (.int .i64 (m.held.k)),AV.val (.int .i64 (m.held.c)),AV.val (.int .i64 (m.held.x)),AV.val (.int .i64 (m.held.y)),AV.val (.int .u32 (m.held.t)),AV.val (.int .i64 (m.held.n)),AV.val (.bool (m.hs)),AV.ro 6 (m.ws.map IN.enc)] 50::H⟩) lee ?_;refine S.call ?_;refine ((hc1 _).args (vs:=[.val (.pointer (some ⟨b0,0,none⟩)),.agg [AV.val (.int .i64 ((i).k)),AV.val (.int .i64 ((i).c)),AV.val (.int .i64 ((i).x)),AV.val (.int .i64 ((i).y)),AV.val (.int .u32 ((i).t)),AV.val (.int .i64 ((i).n))],.val (.slice none 0 0)]) (by (repeat (first|exact Wk.refl _|exact Wk.nilr _|exact Wk.nilm|apply Wk.aggc|apply Wk.tupc|exact Wk.aggn|exact Wk.tupn));first|done|fail)).mono ?_;rintro r h' ⟨v',s',l,hR,rfl,hh⟩;unfold runH at hh;subst hh;(repeat' first|refine svE ⟨?_⟩|refine .b fun b=>?_|refine .u fun u=>?_|refine .d ?_ ?_|(refine .g fun hg=>?_;try exact svx)|fail);exact fin_n (vs:=[]) (h':=.box b0 (runC s' (.val v')) 135::.own v' 7 ((L++l).map SD.enc) 66::H) ⟨v',s',l,hR,rfl,rfl⟩
   | true=>
    rw[hs,hf,if_pos (by simp)] at hc1
    rw[hf] at fc
    generalize hn:n.hold i=m at *
    unfold DV.enc at sc nc fc ho
    unfold runC
    rw[IN.enc_eq i] at nc ho hc1
    rw[hs] at sc nc ⊢
    refine ACalls.intro Tryz.func82 rfl Tryz.ntmps82 Tryz.results82 (Nat.le_of_ble_eq_true rfl) ?_
    (repeat' first|refine svE ⟨?_⟩|refine .b fun b=>?_|refine .u fun u=>?_|refine .d ?_ ?_|(refine .g fun hg=>?_;try exact svx)|fail)
    refine S.call ?_;refine (dc _).mono ?_;rintro r h' ⟨rfl,hh⟩;subst hh
    (repeat' first|refine svE ⟨?_⟩|refine .b fun b=>?_|refine .u fun u=>?_|refine .d ?_ ?_|(refine .g fun hg=>?_;try exact svx)|fail)
    refine S.call ?_;refine (sc _).mono ?_;rintro r h' ⟨rfl,hh⟩;subst hh
    (repeat' first|refine svE ⟨?_⟩|refine .b fun b=>?_|refine .u fun u=>?_|refine .d ?_ ?_|(refine .g fun hg=>?_;try exact svx)|fail)
    refine S.call ?_;refine (nc _).mono ?_;rintro r h' ⟨rfl,hh⟩;subst hh
    (repeat' first|refine svE ⟨?_⟩|refine .b fun b=>?_|refine .u fun u=>?_|refine .d ?_ ?_|(refine .g fun hg=>?_;try exact svx)|fail)
    refine S.call ?_;refine (fc _).mono ?_;rintro r h' ⟨rfl,hh⟩;subst hh
    (repeat' first|refine svE ⟨?_⟩|refine .b fun b=>?_|refine .u fun u=>?_|refine .d ?_ ?_|(refine .g fun hg=>?_;try exact svx)|fail)
    refine S.call ?_;refine (ho _).mono ?_;rintro r h' ⟨rfl,hh⟩;subst hh
    (repeat' first|refine svE ⟨?_⟩|refine .b fun b=>?_|refine .u fun u=>?_|refine .d ?_ ?_|(refine .g fun hg=>?_;try exact svx)|fail)
    refine S.store_any ?_ (hl:=Nat.le_of_ble_eq_true rfl);(repeat' first|refine svE ⟨?_⟩|refine .b fun b=>?_|refine .u fun u=>?_|refine .d ?_ ?_|(refine .g fun hg=>?_;try exact svx)|fail);rename_i b6;revert b;intro b7;refine Step.le (s':=⟨40,[(37,.val (.pointer (some ⟨b0,0,none⟩))),(38,.agg [AV.val (.int .i64 ((i).k)),AV.val (.int .i64 ((i).c)),AV.val (.int .i64 ((i).x)),AV.val (.int .i64 ((i).y)),AV.val (.int .u32 ((i).t)),AV.val (.int .i64 ((i).n))])],.box b0 (runC (s.setd true m) (.val v)) 135::Y::.box b7 [AV.val (.int .i64 ((i).k)),AV.val (.int .i64 ((i).c)),AV.val (.int .i64 ((i).x)),AV.val (.int .i64 ((i).y)),AV.val (.int .u32 ((i).t)),AV.val (.int .i64 ((i).n))] 47::.box b6 [AV.val (.int .i64 (m.a.cl)),AV.val (.int .u32 (m.a.w)),AV.val (.bool (m.a.ow)),AV.val (.int .i64 (m.a.mask)),AV.val (.bool (m.a.au)),AV.val (.bool (m.a.pa)),AV.val (.int .i64 (m.a.code)),AV.val (.int .u32 (m.a.time)),AV.val (.bool (m.g)),AV.val (.bool (m.f)),AV.val (.bool (m.s)),AV.val (.int .i64 (m.held.k)),AV.val (.int .i64 (m.held.c)),AV.val (.int .i64 (m.held.x)),AV.val (.int .i64 (m.held.y)),AV.val (.int .u32 (m.held.t)),AV.val (.int .i64 (m.held.n)),AV.val (.bool (m.hs)),AV.ro 6 (m.ws.map IN.enc)] 50::H⟩) lee ?_;refine S.call ?_;refine ((hc1 _).args (vs:=[.val (.pointer (some ⟨b0,0,none⟩)),.agg [AV.val (.int .i64 ((i).k)),AV.val (.int .i64 ((i).c)),AV.val (.int .i64 ((i).x)),AV.val (.int .i64 ((i).y)),AV.val (.int .u32 ((i).t)),AV.val (.int .i64 ((i).n))],.val (.slice none 0 0)]) (by (repeat (first|exact Wk.refl _|exact Wk.nilr _|exact Wk.nilm|apply Wk.aggc|apply Wk.tupc|exact Wk.aggn|exact Wk.tupn));first|done|fail)).mono ?_;rintro r h' ⟨v',s',l,hR,rfl,hh⟩;unfold runH at hh;subst hh;(repeat' first|refine svE ⟨?_⟩|refine .b fun b=>?_|refine .u fun u=>?_|refine .d ?_ ?_|(refine .g fun hg=>?_;try exact svx)|fail);exact fin_n (vs:=[]) (h':=.box b0 (runC s' (.val v')) 135::.own v' 7 ((L++l).map SD.enc) 66::H) ⟨v',s',l,hR,rfl,rfl⟩
 | false=>
  rw[show s.dv false=s.q from rfl] at *
  cases hs:s.q.s with
  | false=>
   rw[hs,if_neg (by simp)] at hc1
   generalize hn:n=m at *
   unfold DV.enc at sc nc fc ho
   unfold runC
   rw[IN.enc_eq i] at nc ho hc1
   rw[hs] at sc nc ⊢
   refine ACalls.intro Tryz.func82 rfl Tryz.ntmps82 Tryz.results82 (Nat.le_of_ble_eq_true rfl) ?_
   (repeat' first|refine svE ⟨?_⟩|refine .b fun b=>?_|refine .u fun u=>?_|refine .d ?_ ?_|(refine .g fun hg=>?_;try exact svx)|fail)
   refine S.call ?_;refine (dc _).mono ?_;rintro r h' ⟨rfl,hh⟩;subst hh
   (repeat' first|refine svE ⟨?_⟩|refine .b fun b=>?_|refine .u fun u=>?_|refine .d ?_ ?_|(refine .g fun hg=>?_;try exact svx)|fail)
   refine S.call ?_;refine (sc _).mono ?_;rintro r h' ⟨rfl,hh⟩;subst hh
   (repeat' first|refine svE ⟨?_⟩|refine .b fun b=>?_|refine .u fun u=>?_|refine .d ?_ ?_|(refine .g fun hg=>?_;try exact svx)|fail)
   refine S.call ?_;refine (nc _).mono ?_;rintro r h' ⟨rfl,hh⟩;subst hh
   (repeat' first|refine svE ⟨?_⟩|refine .b fun b=>?_|refine .u fun u=>?_|refine .d ?_ ?_|(refine .g fun hg=>?_;try exact svx)|fail)
   refine S.store_any ?_ (hl:=Nat.le_of_ble_eq_true rfl);(repeat' first|refine svE ⟨?_⟩|refine .b fun b=>?_|refine .u fun u=>?_|refine .d ?_ ?_|(refine .g fun hg=>?_;try exact svx)|fail);rename_i b6;revert b;intro b7;refine Step.le (s':=⟨40,[(37,.val (.pointer (some ⟨b0,0,none⟩))),(38,.agg [AV.val (.int .i64 ((i).k)),AV.val (.int .i64 ((i).c)),AV.val (.int .i64 ((i).x)),AV.val (.int .i64 ((i).y)),AV.val (.int .u32 ((i).t)),AV.val (.int .i64 ((i).n))])],.box b0 (runC (s.setd false m) (.val v)) 135::Y::.box b7 [AV.val (.int .i64 ((i).k)),AV.val (.int .i64 ((i).c)),AV.val (.int .i64 ((i).x)),AV.val (.int .i64 ((i).y)),AV.val (.int .u32 ((i).t)),AV.val (.int .i64 ((i).n))] 47::.box b6 [AV.val (.int .i64 (m.a.cl)),AV.val (.int .u32 (m.a.w)),AV.val (.bool (m.a.ow)),AV.val (.int .i64 (m.a.mask)),AV.val (.bool (m.a.au)),AV.val (.bool (m.a.pa)),AV.val (.int .i64 (m.a.code)),AV.val (.int .u32 (m.a.time)),AV.val (.bool (m.g)),AV.val (.bool (m.f)),AV.val (.bool (m.s)),AV.val (.int .i64 (m.held.k)),AV.val (.int .i64 (m.held.c)),AV.val (.int .i64 (m.held.x)),AV.val (.int .i64 (m.held.y)),AV.val (.int .u32 (m.held.t)),AV.val (.int .i64 (m.held.n)),AV.val (.bool (m.hs)),AV.ro 6 (m.ws.map IN.enc)] 50::H⟩) lee ?_;refine S.call ?_;refine ((hc1 _).args (vs:=[.val (.pointer (some ⟨b0,0,none⟩)),.agg [AV.val (.int .i64 ((i).k)),AV.val (.int .i64 ((i).c)),AV.val (.int .i64 ((i).x)),AV.val (.int .i64 ((i).y)),AV.val (.int .u32 ((i).t)),AV.val (.int .i64 ((i).n))],.val (.slice none 0 0)]) (by (repeat (first|exact Wk.refl _|exact Wk.nilr _|exact Wk.nilm|apply Wk.aggc|apply Wk.tupc|exact Wk.aggn|exact Wk.tupn));first|done|fail)).mono ?_;rintro r h' ⟨v',s',l,hR,rfl,hh⟩;unfold runH at hh;subst hh;(repeat' first|refine svE ⟨?_⟩|refine .b fun b=>?_|refine .u fun u=>?_|refine .d ?_ ?_|(refine .g fun hg=>?_;try exact svx)|fail);exact fin_n (vs:=[]) (h':=.box b0 (runC s' (.val v')) 135::.own v' 7 ((L++l).map SD.enc) 66::H) ⟨v',s',l,hR,rfl,rfl⟩
  | true=>
   cases hf:n.f with
   | false=>
    rw[hs,hf,if_neg (by simp)] at hc1
    rw[hf] at fc
    generalize hn:n=m at *
    unfold DV.enc at sc nc fc ho
    unfold runC
    rw[IN.enc_eq i] at nc ho hc1
    rw[hs] at sc nc ⊢
    refine ACalls.intro Tryz.func82 rfl Tryz.ntmps82 Tryz.results82 (Nat.le_of_ble_eq_true rfl) ?_
    (repeat' first|refine svE ⟨?_⟩|refine .b fun b=>?_|refine .u fun u=>?_|refine .d ?_ ?_|(refine .g fun hg=>?_;try exact svx)|fail)
    refine S.call ?_;refine (dc _).mono ?_;rintro r h' ⟨rfl,hh⟩;subst hh
    (repeat' first|refine svE ⟨?_⟩|refine .b fun b=>?_|refine .u fun u=>?_|refine .d ?_ ?_|(refine .g fun hg=>?_;try exact svx)|fail)
    refine S.call ?_;refine (sc _).mono ?_;rintro r h' ⟨rfl,hh⟩;subst hh
    (repeat' first|refine svE ⟨?_⟩|refine .b fun b=>?_|refine .u fun u=>?_|refine .d ?_ ?_|(refine .g fun hg=>?_;try exact svx)|fail)
    refine S.call ?_;refine (nc _).mono ?_;rintro r h' ⟨rfl,hh⟩;subst hh
    (repeat' first|refine svE ⟨?_⟩|refine .b fun b=>?_|refine .u fun u=>?_|refine .d ?_ ?_|(refine .g fun hg=>?_;try exact svx)|fail)
    refine S.call ?_;refine (fc _).mono ?_;rintro r h' ⟨rfl,hh⟩;subst hh
    (repeat' first|refine svE ⟨?_⟩|refine .b fun b=>?_|refine .u fun u=>?_|refine .d ?_ ?_|(refine .g fun hg=>?_;try exact svx)|fail)
    refine S.store_any ?_ (hl:=Nat.le_of_ble_eq_true rfl);(repeat' first|refine svE ⟨?_⟩|refine .b fun b=>?_|refine .u fun u=>?_|refine .d ?_ ?_|(refine .g fun hg=>?_;try exact svx)|fail);rename_i b6;revert b;intro b7;refine Step.le (s':=⟨40,[(37,.val (.pointer (some ⟨b0,0,none⟩))),(38,.agg [AV.val (.int .i64 ((i).k)),AV.val (.int .i64 ((i).c)),AV.val (.int .i64 ((i).x)),AV.val (.int .i64 ((i).y)),AV.val (.int .u32 ((i).t)),AV.val (.int .i64 ((i).n))])],.box b0 (runC (s.setd false m) (.val v)) 135::Y::.box b7 [AV.val (.int .i64 ((i).k)),AV.val (.int .i64 ((i).c)),AV.val (.int .i64 ((i).x)),AV.val (.int .i64 ((i).y)),AV.val (.int .u32 ((i).t)),AV.val (.int .i64 ((i).n))] 47::.box b6 [AV.val (.int .i64 (m.a.cl)),AV.val (.int .u32 (m.a.w)),AV.val (.bool (m.a.ow)),AV.val (.int .i64 (m.a.mask)),AV.val (.bool (m.a.au)),AV.val (.bool (m.a.pa)),AV.val (.int .i64 (m.a.code)),AV.val (.int .u32 (m.a.time)),AV.val (.bool (m.g)),AV.val (.bool (m.f)),AV.val (.bool (m.s)),AV.val (.int .i64 (m.held.k)),AV.val (.int .i64 (m.held.c)),AV.val (.int .i64 (m.held.x)),AV.val (.int .i64 (m.held.y)),AV.val (.int .u32 (m.held.t)),AV.val (.int .i64 (m.held.n)),AV.val (.bool (m.hs)),AV.ro 6 (m.ws.map IN.enc)] 50::H⟩) lee ?_;refine S.call ?_;refine ((hc1 _).args (vs:=[.val (.pointer (some ⟨b0,0,none⟩)),.agg [AV.val (.int .i64 ((i).k)),AV.val (.int .i64 ((i).c)),AV.val (.int .i64 ((i).x)),AV.val (.int .i64 ((i).y)),AV.val (.int .u32 ((i).t)),AV.val (.int .i64 ((i).n))],.val (.slice none 0 0)]) (by (repeat (first|exact Wk.refl _|exact Wk.nilr _|exact Wk.nilm|apply Wk.aggc|apply Wk.tupc|exact Wk.aggn|exact Wk.tupn));first|done|fail)).mono ?_;rintro r h' ⟨v',s',l,hR,rfl,hh⟩;unfold runH at hh;subst hh;(repeat' first|refine svE ⟨?_⟩|refine .b fun b=>?_|refine .u fun u=>?_|refine .d ?_ ?_|(refine .g fun hg=>?_;try exact svx)|fail);exact fin_n (vs:=[]) (h':=.box b0 (runC s' (.val v')) 135::.own v' 7 ((L++l).map SD.enc) 66::H) ⟨v',s',l,hR,rfl,rfl⟩
   | true=>
    rw[hs,hf,if_pos (by simp)] at hc1
    rw[hf] at fc
    generalize hn:n.hold i=m at *
    unfold DV.enc at sc nc fc ho
    unfold runC
    rw[IN.enc_eq i] at nc ho hc1
    rw[hs] at sc nc ⊢
    refine ACalls.intro Tryz.func82 rfl Tryz.ntmps82 Tryz.results82 (Nat.le_of_ble_eq_true rfl) ?_
    (repeat' first|refine svE ⟨?_⟩|refine .b fun b=>?_|refine .u fun u=>?_|refine .d ?_ ?_|(refine .g fun hg=>?_;try exact svx)|fail)
    refine S.call ?_;refine (dc _).mono ?_;rintro r h' ⟨rfl,hh⟩;subst hh
    (repeat' first|refine svE ⟨?_⟩|refine .b fun b=>?_|refine .u fun u=>?_|refine .d ?_ ?_|(refine .g fun hg=>?_;try exact svx)|fail)
    refine S.call ?_;refine (sc _).mono ?_;rintro r h' ⟨rfl,hh⟩;subst hh
    (repeat' first|refine svE ⟨?_⟩|refine .b fun b=>?_|refine .u fun u=>?_|refine .d ?_ ?_|(refine .g fun hg=>?_;try exact svx)|fail)
    refine S.call ?_;refine (nc _).mono ?_;rintro r h' ⟨rfl,hh⟩;subst hh
    (repeat' first|refine svE ⟨?_⟩|refine .b fun b=>?_|refine .u fun u=>?_|refine .d ?_ ?_|(refine .g fun hg=>?_;try exact svx)|fail)
    refine S.call ?_;refine (fc _).mono ?_;rintro r h' ⟨rfl,hh⟩;subst hh
    (repeat' first|refine svE ⟨?_⟩|refine .b fun b=>?_|refine .u fun u=>?_|refine .d ?_ ?_|(refine .g fun hg=>?_;try exact svx)|fail)
    refine S.call ?_;refine (ho _).mono ?_;rintro r h' ⟨rfl,hh⟩;subst hh
    (repeat' first|refine svE ⟨?_⟩|refine .b fun b=>?_|refine .u fun u=>?_|refine .d ?_ ?_|(refine .g fun hg=>?_;try exact svx)|fail)
    refine S.store_any ?_ (hl:=Nat.le_of_ble_eq_true rfl);(repeat' first|refine svE ⟨?_⟩|refine .b fun b=>?_|refine .u fun u=>?_|refine .d ?_ ?_|(refine .g fun hg=>?_;try exact svx)|fail);rename_i b6;revert b;intro b7;refine Step.le (s':=⟨40,[(37,.val (.pointer (some ⟨b0,0,none⟩))),(38,.agg [AV.val (.int .i64 ((i).k)),AV.val (.int .i64 ((i).c)),AV.val (.int .i64 ((i).x)),AV.val (.int .i64 ((i).y)),AV.val (.int .u32 ((i).t)),AV.val (.int .i64 ((i).n))])],.box b0 (runC (s.setd false m) (.val v)) 135::Y::.box b7 [AV.val (.int .i64 ((i).k)),AV.val (.int .i64 ((i).c)),AV.val (.int .i64 ((i).x)),AV.val (.int .i64 ((i).y)),AV.val (.int .u32 ((i).t)),AV.val (.int .i64 ((i).n))] 47::.box b6 [AV.val (.int .i64 (m.a.cl)),AV.val (.int .u32 (m.a.w)),AV.val (.bool (m.a.ow)),AV.val (.int .i64 (m.a.mask)),AV.val (.bool (m.a.au)),AV.val (.bool (m.a.pa)),AV.val (.int .i64 (m.a.code)),AV.val (.int .u32 (m.a.time)),AV.val (.bool (m.g)),AV.val (.bool (m.f)),AV.val (.bool (m.s)),AV.val (.int .i64 (m.held.k)),AV.val (.int .i64 (m.held.c)),AV.val (.int .i64 (m.held.x)),AV.val (.int .i64 (m.held.y)),AV.val (.int .u32 (m.held.t)),AV.val (.int .i64 (m.held.n)),AV.val (.bool (m.hs)),AV.ro 6 (m.ws.map IN.enc)] 50::H⟩) lee ?_;refine S.call ?_;refine ((hc1 _).args (vs:=[.val (.pointer (some ⟨b0,0,none⟩)),.agg [AV.val (.int .i64 ((i).k)),AV.val (.int .i64 ((i).c)),AV.val (.int .i64 ((i).x)),AV.val (.int .i64 ((i).y)),AV.val (.int .u32 ((i).t)),AV.val (.int .i64 ((i).n))],.val (.slice none 0 0)]) (by (repeat (first|exact Wk.refl _|exact Wk.nilr _|exact Wk.nilm|apply Wk.aggc|apply Wk.tupc|exact Wk.aggn|exact Wk.tupn));first|done|fail)).mono ?_;rintro r h' ⟨v',s',l,hR,rfl,hh⟩;unfold runH at hh;subst hh;(repeat' first|refine svE ⟨?_⟩|refine .b fun b=>?_|refine .u fun u=>?_|refine .d ?_ ?_|(refine .g fun hg=>?_;try exact svx)|fail);exact fin_n (vs:=[]) (h':=.box b0 (runC s' (.val v')) 135::.own v' 7 ((L++l).map SD.enc) 66::H) ⟨v',s',l,hR,rfl,rfl⟩
end Go.Proofs.YtbknacpdcdkjiaaGreat
