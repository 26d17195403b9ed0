/- A device is let go on. No condition. -/
import Derived.Test.YtbknacpdcdkjiaaGreatF23
namespace Go.Proofs.YtbknacpdcdkjiaaGreat
open Go Go.VM
set_option maxRecDepth 100000
attribute [local irreducible] PurV Pur Step RL W D ACalls Then InBlock Fini
set_option linter.unusedVariables false
set_option linter.unusedSimpArgs false
set_option maxHeartbeats 20000000
def lgF (d:DV):DV:=if d.g=false∧(d.f=true∨d.s=true) then d.freeze.thaw else d
theorem letgoP_c (b0:Nat) (v:AV) (s:RT) (H:Heap):ACalls Tryz.prog 95 [.val (.pointer (some ⟨b0,10,none⟩))] (.box b0 (runC s v) 135::H) (fun r h'=>r=.tup []∧h'=.box b0 (runC (s.setd true (lgF s.p)) v) 135::H):=by
 have ac:=fun h=>active_c s.p h
 have fc:=fun h=>frozen_c s.p h
 have sc:=fun h=>stepping_c s.p h
 have zc:=fun h=>freeze_c s.p h
 have al:=fun h=>allow_0 s.p.freeze h rfl
 cases hg:s.p.g with
 | true=>
  have el:lgF s.p=s.p:=by unfold lgF;rw[if_neg (by rw[hg];simp)]
  rw[el,show s.setd true s.p=s from rfl]
  rw[hg] at ac
  unfold runC DV.enc AC.enc at *
  refine ACalls.intro Tryz.func95 rfl Tryz.ntmps95 Tryz.results95 (Nat.le_of_ble_eq_true rfl) ?_;(repeat' first|refine svE ⟨?_⟩|refine .b fun b=>?_|refine .u fun u=>?_|refine .d ?_ ?_|(refine .g fun hg=>?_;try exact svx)|fail);refine S.call ?_;refine (ac _).mono ?_;rintro r h' ⟨rfl,hh⟩;subst hh;(repeat' first|refine svE ⟨?_⟩|refine .b fun b=>?_|refine .u fun u=>?_|refine .d ?_ ?_|(refine .g fun hg=>?_;try exact svx)|fail)
  exact fin_n (vs:=[]) (h':=.box b0 (runC s v) 135::H) ⟨rfl,rfl⟩
 | false=>
  rw[hg] at ac
  cases hf:s.p.f with
  | true=>
   have el:lgF s.p=s.p.freeze.thaw:=by unfold lgF;rw[if_pos ⟨hg,.inl hf⟩]
   rw[el]
   rw[hf] at fc
   unfold runC DV.enc AC.enc at *
   refine ACalls.intro Tryz.func95 rfl Tryz.ntmps95 Tryz.results95 (Nat.le_of_ble_eq_true rfl) ?_;(repeat' first|refine svE ⟨?_⟩|refine .b fun b=>?_|refine .u fun u=>?_|refine .d ?_ ?_|(refine .g fun hg=>?_;try exact svx)|fail);refine S.call ?_;refine (ac _).mono ?_;rintro r h' ⟨rfl,hh⟩;subst hh;(repeat' first|refine svE ⟨?_⟩|refine .b fun b=>?_|refine .u fun u=>?_|refine .d ?_ ?_|(refine .g fun hg=>?_;try exact svx)|fail)
   refine S.call ?_;refine (fc _).mono ?_;rintro r h' ⟨rfl,hh⟩;subst hh
   (repeat' first|refine svE ⟨?_⟩|refine .b fun b=>?_|refine .u fun u=>?_|refine .d ?_ ?_|(refine .g fun hg=>?_;try exact svx)|fail)
   refine S.call ?_;refine (zc _).mono ?_;rintro r h' ⟨rfl,hh⟩;subst hh;(repeat' first|refine svE ⟨?_⟩|refine .b fun b=>?_|refine .u fun u=>?_|refine .d ?_ ?_|(refine .g fun hg=>?_;try exact svx)|fail);refine S.call ?_;refine (al _).mono ?_;rintro r h' ⟨rfl,hh⟩;subst hh;(repeat' first|refine svE ⟨?_⟩|refine .b fun b=>?_|refine .u fun u=>?_|refine .d ?_ ?_|(refine .g fun hg=>?_;try exact svx)|fail);refine S.store_any ?_ (hl:=Nat.le_of_ble_eq_true rfl);(repeat' first|refine svE ⟨?_⟩|refine .b fun b=>?_|refine .u fun u=>?_|refine .d ?_ ?_|(refine .g fun hg=>?_;try exact svx)|fail);exact fin_n (vs:=[]) (h':=.box b0 (runC (s.setd true s.p.freeze.thaw) v) 135::H) ⟨rfl,rfl⟩
  | false=>
   rw[hf] at fc
   cases hs:s.p.s with
   | true=>
    have el:lgF s.p=s.p.freeze.thaw:=by unfold lgF;rw[if_pos ⟨hg,.inr hs⟩]
    rw[el]
    rw[hs] at sc
    unfold runC DV.enc AC.enc at *
    refine ACalls.intro Tryz.func95 rfl Tryz.ntmps95 Tryz.results95 (Nat.le_of_ble_eq_true rfl) ?_;(repeat' first|refine svE ⟨?_⟩|refine .b fun b=>?_|refine .u fun u=>?_|refine .d ?_ ?_|(refine .g fun hg=>?_;try exact svx)|fail);refine S.call ?_;refine (ac _).mono ?_;rintro r h' ⟨rfl,hh⟩;subst hh;(repeat' first|refine svE ⟨?_⟩|refine .b fun b=>?_|refine .u fun u=>?_|refine .d ?_ ?_|(refine .g fun hg=>?_;try exact svx)|fail)
    refine S.call ?_;refine (fc _).mono ?_;rintro r h' ⟨rfl,hh⟩;subst hh
    (repeat' first|refine svE ⟨?_⟩|refine .b fun b=>?_|refine .u fun u=>?_|refine .d ?_ ?_|(refine .g fun hg=>?_;try exact svx)|fail)
    refine S.call ?_;refine (sc _).mono ?_;rintro r h' ⟨rfl,hh⟩;subst hh
    (repeat' first|refine svE ⟨?_⟩|refine .b fun b=>?_|refine .u fun u=>?_|refine .d ?_ ?_|(refine .g fun hg=>?_;try exact svx)|fail)
    refine S.call ?_;refine (zc _).mono ?_;rintro r h' ⟨rfl,hh⟩;subst hh;(repeat' first|refine svE ⟨?_⟩|refine .b fun b=>?_|refine .u fun u=>?_|refine .d ?_ ?_|(refine .g fun hg=>?_;try exact svx)|fail);refine S.call ?_;refine (al _).mono ?_;rintro r h' ⟨rfl,hh⟩;subst hh;(repeat' first|refine svE ⟨?_⟩|refine .b fun b=>?_|refine .u fun u=>?_|refine .d ?_ ?_|(refine .g fun hg=>?_;try exact svx)|fail);refine S.store_any ?_ (hl:=Nat.le_of_ble_eq_true rfl);(repeat' first|refine svE ⟨?_⟩|refine .b fun b=>?_|refine .u fun u=>?_|refine .d ?_ ?_|(refine .g fun hg=>?_;try exact svx)|fail);exact fin_n (vs:=[]) (h':=.box b0 (runC (s.setd true s.p.freeze.thaw) v) 135::H) ⟨rfl,rfl⟩
   | false=>
    have el:lgF s.p=s.p:=by unfold lgF;rw[if_neg (by rw[hf,hs];simp)]
    rw[el,show s.setd true s.p=s from rfl]
    rw[hs] at sc
    unfold runC DV.enc AC.enc at *
    refine ACalls.intro Tryz.func95 rfl Tryz.ntmps95 Tryz.results95 (Nat.le_of_ble_eq_true rfl) ?_;(repeat' first|refine svE ⟨?_⟩|refine .b fun b=>?_|refine .u fun u=>?_|refine .d ?_ ?_|(refine .g fun hg=>?_;try exact svx)|fail);refine S.call ?_;refine (ac _).mono ?_;rintro r h' ⟨rfl,hh⟩;subst hh;(repeat' first|refine svE ⟨?_⟩|refine .b fun b=>?_|refine .u fun u=>?_|refine .d ?_ ?_|(refine .g fun hg=>?_;try exact svx)|fail)
    refine S.call ?_;refine (fc _).mono ?_;rintro r h' ⟨rfl,hh⟩;subst hh
    (repeat' first|refine svE ⟨?_⟩|refine .b fun b=>?_|refine .u fun u=>?_|refine .d ?_ ?_|(refine .g fun hg=>?_;try exact svx)|fail)
    refine S.call ?_;refine (sc _).mono ?_;rintro r h' ⟨rfl,hh⟩;subst hh
    (repeat' first|refine svE ⟨?_⟩|refine .b fun b=>?_|refine .u fun u=>?_|refine .d ?_ ?_|(refine .g fun hg=>?_;try exact svx)|fail)
    exact fin_n (vs:=[]) (h':=.box b0 (runC s v) 135::H) ⟨rfl,rfl⟩
theorem letgoK_c (b0:Nat) (v:AV) (s:RT) (H:Heap):ACalls Tryz.prog 95 [.val (.pointer (some ⟨b0,29,none⟩))] (.box b0 (runC s v) 135::H) (fun r h'=>r=.tup []∧h'=.box b0 (runC (s.setd false (lgF s.q)) v) 135::H):=by
 have ac:=fun h=>active_c s.q h
 have fc:=fun h=>frozen_c s.q h
 have sc:=fun h=>stepping_c s.q h
 have zc:=fun h=>freeze_c s.q h
 have al:=fun h=>allow_0 s.q.freeze h rfl
 cases hg:s.q.g with
 | true=>
  have el:lgF s.q=s.q:=by unfold lgF;rw[if_neg (by rw[hg];simp)]
  rw[el,show s.setd false s.q=s from rfl]
  rw[hg] at ac
  unfold runC DV.enc AC.enc at *
  refine ACalls.intro Tryz.func95 rfl Tryz.ntmps95 Tryz.results95 (Nat.le_of_ble_eq_true rfl) ?_;(repeat' first|refine svE ⟨?_⟩|refine .b fun b=>?_|refine .u fun u=>?_|refine .d ?_ ?_|(refine .g fun hg=>?_;try exact svx)|fail);refine S.call ?_;refine (ac _).mono ?_;rintro r h' ⟨rfl,hh⟩;subst hh;(repeat' first|refine svE ⟨?_⟩|refine .b fun b=>?_|refine .u fun u=>?_|refine .d ?_ ?_|(refine .g fun hg=>?_;try exact svx)|fail)
  exact fin_n (vs:=[]) (h':=.box b0 (runC s v) 135::H) ⟨rfl,rfl⟩
 | false=>
  rw[hg] at ac
  cases hf:s.q.f with
  | true=>
   have el:lgF s.q=s.q.freeze.thaw:=by unfold lgF;rw[if_pos ⟨hg,.inl hf⟩]
   rw[el]
   rw[hf] at fc
   unfold runC DV.enc AC.enc at *
   refine ACalls.intro Tryz.func95 rfl Tryz.ntmps95 Tryz.results95 (Nat.le_of_ble_eq_true rfl) ?_;(repeat' first|refine svE ⟨?_⟩|refine .b fun b=>?_|refine .u fun u=>?_|refine .d ?_ ?_|(refine .g fun hg=>?_;try exact svx)|fail);refine S.call ?_;refine (ac _).mono ?_;rintro r h' ⟨rfl,hh⟩;subst hh;(repeat' first|refine svE ⟨?_⟩|refine .b fun b=>?_|refine .u fun u=>?_|refine .d ?_ ?_|(refine .g fun hg=>?_;try exact svx)|fail)
   refine S.call ?_;refine (fc _).mono ?_;rintro r h' ⟨rfl,hh⟩;subst hh
   (repeat' first|refine svE ⟨?_⟩|refine .b fun b=>?_|refine .u fun u=>?_|refine .d ?_ ?_|(refine .g fun hg=>?_;try exact svx)|fail)
   refine S.call ?_;refine (zc _).mono ?_;rintro r h' ⟨rfl,hh⟩;subst hh;(repeat' first|refine svE ⟨?_⟩|refine .b fun b=>?_|refine .u fun u=>?_|refine .d ?_ ?_|(refine .g fun hg=>?_;try exact svx)|fail);refine S.call ?_;refine (al _).mono ?_;rintro r h' ⟨rfl,hh⟩;subst hh;(repeat' first|refine svE ⟨?_⟩|refine .b fun b=>?_|refine .u fun u=>?_|refine .d ?_ ?_|(refine .g fun hg=>?_;try exact svx)|fail);refine S.store_any ?_ (hl:=Nat.le_of_ble_eq_true rfl);(repeat' first|refine svE ⟨?_⟩|refine .b fun b=>?_|refine .u fun u=>?_|refine .d ?_ ?_|(refine .g fun hg=>?_;try exact svx)|fail);exact fin_n (vs:=[]) (h':=.box b0 (runC (s.setd false s.q.freeze.thaw) v) 135::H) ⟨rfl,rfl⟩
  | false=>
   rw[hf] at fc
   cases hs:s.q.s with
   | true=>
    have el:lgF s.q=s.q.freeze.thaw:=by unfold lgF;rw[if_pos ⟨hg,.inr hs⟩]
    rw[el]
    rw[hs] at sc
    unfold runC DV.enc AC.enc at *
    refine ACalls.intro Tryz.func95 rfl Tryz.ntmps95 Tryz.results95 (Nat.le_of_ble_eq_true rfl) ?_;(repeat' first|refine svE ⟨?_⟩|refine .b fun b=>?_|refine .u fun u=>?_|refine .d ?_ ?_|(refine .g fun hg=>?_;try exact svx)|fail);refine S.call ?_;refine (ac _).mono ?_;rintro r h' ⟨rfl,hh⟩;subst hh;(repeat' first|refine svE ⟨?_⟩|refine .b fun b=>?_|refine .u fun u=>?_|refine .d ?_ ?_|(refine .g fun hg=>?_;try exact svx)|fail)
    refine S.call ?_;refine (fc _).mono ?_;rintro r h' ⟨rfl,hh⟩;subst hh
    (repeat' first|refine svE ⟨?_⟩|refine .b fun b=>?_|refine .u fun u=>?_|refine .d ?_ ?_|(refine .g fun hg=>?_;try exact svx)|fail)
    refine S.call ?_;refine (sc _).mono ?_;rintro r h' ⟨rfl,hh⟩;subst hh
    (repeat' first|refine svE ⟨?_⟩|refine .b fun b=>?_|refine .u fun u=>?_|refine .d ?_ ?_|(refine .g fun hg=>?_;try exact svx)|fail)
    refine S.call ?_;refine (zc _).mono ?_;rintro r h' ⟨rfl,hh⟩;subst hh;(repeat' first|refine svE ⟨?_⟩|refine .b fun b=>?_|refine .u fun u=>?_|refine .d ?_ ?_|(refine .g fun hg=>?_;try exact svx)|fail);refine S.call ?_;refine (al _).mono ?_;rintro r h' ⟨rfl,hh⟩;subst hh;(repeat' first|refine svE ⟨?_⟩|refine .b fun b=>?_|refine .u fun u=>?_|refine .d ?_ ?_|(refine .g fun hg=>?_;try exact svx)|fail);refine S.store_any ?_ (hl:=Nat.le_of_ble_eq_true rfl);(repeat' first|refine svE ⟨?_⟩|refine .b fun b=>?_|refine .u fun u=>?_|refine .d ?_ ?_|(refine .g fun hg=>?_;try exact svx)|fail);exact fin_n (vs:=[]) (h':=.box b0 (runC (s.setd false s.q.freeze.thaw) v) 135::H) ⟨rfl,rfl⟩
   | false=>
    have el:lgF s.q=s.q:=by unfold lgF;rw[if_neg (by rw[hf,hs];simp)]
    rw[el,show s.setd false s.q=s from rfl]
    rw[hs] at sc
    unfold runC DV.enc AC.enc at *
    refine ACalls.intro Tryz.func95 rfl Tryz.ntmps95 Tryz.results95 (Nat.le_of_ble_eq_true rfl) ?_;(repeat' first|refine svE ⟨?_⟩|refine .b fun b=>?_|refine .u fun u=>?_|refine .d ?_ ?_|(refine .g fun hg=>?_;try exact svx)|fail);refine S.call ?_;refine (ac _).mono ?_;rintro r h' ⟨rfl,hh⟩;subst hh;(repeat' first|refine svE ⟨?_⟩|refine .b fun b=>?_|refine .u fun u=>?_|refine .d ?_ ?_|(refine .g fun hg=>?_;try exact svx)|fail)
    refine S.call ?_;refine (fc _).mono ?_;rintro r h' ⟨rfl,hh⟩;subst hh
    (repeat' first|refine svE ⟨?_⟩|refine .b fun b=>?_|refine .u fun u=>?_|refine .d ?_ ?_|(refine .g fun hg=>?_;try exact svx)|fail)
    refine S.call ?_;refine (sc _).mono ?_;rintro r h' ⟨rfl,hh⟩;subst hh
    (repeat' first|refine svE ⟨?_⟩|refine .b fun b=>?_|refine .u fun u=>?_|refine .d ?_ ?_|(refine .g fun hg=>?_;try exact svx)|fail)
    exact fin_n (vs:=[]) (h':=.box b0 (runC s v) 135::H) ⟨rfl,rfl⟩
theorem letgo_c (b0:Nat) (v:AV) (s:RT) (p:Bool) (H:Heap):ACalls Tryz.prog 95 [.val (.pointer (some ⟨b0,(if p then 10 else 29),none⟩))] (.box b0 (runC s v) 135::H) (fun r h'=>r=.tup []∧h'=.box b0 (runC (s.setd p (lgF (s.dv p))) v) 135::H):=by
 cases p with
 | true=>exact letgoP_c b0 v s H
 | false=>exact letgoK_c b0 v s H
end Go.Proofs.YtbknacpdcdkjiaaGreat
