/- A grab that isn't refused. No condition. -/
import Derived.Test.YtbknacpdcdkjiaaGreatF29
namespace Go.Proofs.YtbknacpdcdkjiaaGreat
open Go Go.VM
set_option maxRecDepth 100000
attribute [local irreducible] PurV Pur Step RL W D ACalls Then InBlock Fini
set_option linter.unusedVariables false
set_option linter.unusedSimpArgs false
set_option maxHeartbeats 20000000
theorem refP0 (b0:Nat) (v:AV) (s:RT) (a:AC) (H:Heap) (hm:OE.box b0 (runC s v) 135∈H) (hv:(lkF s.V a.w).isSome=true) (ht:a.time≤s.nw) (g1:s.p.g=false) (g2:s.q.g=false) (f1:s.p.f=false) :
  ACalls Tryz.prog 51 [.val (.pointer (some ⟨b0,0,none⟩)),AV.val (.bool (true)),a.enc] H (fun r h'=>r=AV.val (.int .i64 (0))∧h'=H):=by
 have dc1:=fun h=>device_c b0 true h
 have dc2:=fun h=>device_c b0 false h
 have ac1:=fun h=>active_c s.p h
 have ac2:=fun h=>active_c s.q h
 have fc1:=fun h=>frozen_c s.p h
 have vc:=fun h=>viewable_c s.o s.V a.w h
 rw[hv] at vc
 simp only[Bool.false_eq_true,↓reduceIte] at dc1 dc2
 unfold runC encW DV.enc AC.enc at *
 rw[g1,g2,f1] at hm
 rw[g1,f1] at ac1 fc1
 rw[g2] at ac2
 clear g1 g2 f1
 refine ACalls.intro Tryz.func51 rfl Tryz.ntmps51 Tryz.results51 (Nat.le_of_ble_eq_true rfl) ?_
 (repeat' first|refine svE ⟨?_⟩|refine .b fun b=>?_|refine .u fun u=>?_|refine .d ?_ ?_|(refine .g fun hg=>?_;try exact svx)|fail)
 refine S.call ?_;refine (dc1 _).mono ?_;rintro r h' ⟨rfl,hh⟩;subst hh
 (repeat' first|refine svE ⟨?_⟩|refine .b fun b=>?_|refine .u fun u=>?_|refine .d ?_ ?_|(refine .g fun hg=>?_;try exact svx)|fail)
 refine S.call ?_;refine (dc2 _).mono ?_;rintro r h' ⟨rfl,hh⟩;subst hh
 (repeat' first|refine svE ⟨?_⟩|refine .b fun b=>?_|refine .u fun u=>?_|refine .d ?_ ?_|(refine .g fun hg=>?_;try exact svx)|fail)
 refine S.call ?_;refine (ac1 _).mono ?_;rintro r h' ⟨rfl,hh⟩;subst hh
 (repeat' first|refine svE ⟨?_⟩|refine .b fun b=>?_|refine .u fun u=>?_|refine .d ?_ ?_|(refine .g fun hg=>?_;try exact svx)|fail)
 refine S.call ?_;refine (ac2 _).mono ?_;rintro r h' ⟨rfl,hh⟩;subst hh
 (repeat' ((fail_if_success (refine drg ?_));(first|refine svE ⟨?_⟩|refine .b fun b=>?_|refine .u fun u=>?_|refine .d ?_ ?_|(refine .g fun hg=>?_;try exact svx)|fail)))
 refine W.dr (.ro (.ro (.ro (Sel.all _)))) ?_
 (repeat' first|refine svE ⟨?_⟩|refine .b fun b=>?_|refine .u fun u=>?_|refine .d ?_ ?_|(refine .g fun hg=>?_;try exact svx)|fail)
 refine R2.C (vc _) ?_
 (repeat' first|refine svE ⟨?_⟩|refine .b fun b=>?_|refine .u fun u=>?_|refine .d ?_ ?_|(refine .g fun hg=>?_;try exact svx)|fail)
 refine R2.E ?_ (App.app _ _);rw[List.append_nil]
 (repeat' ((fail_if_success (refine drg ?_));(first|refine svE ⟨?_⟩|refine .b fun b=>?_|refine .u fun u=>?_|refine .d ?_ ?_|(refine .g fun hg=>?_;try exact svx)|fail)))
 refine W.dr (.ro (.ro (.ro (Sel.all _)))) ?_
 (repeat' first|refine svE ⟨?_⟩|refine .b fun b=>?_|refine .u fun u=>?_|refine .d ?_ ?_|(refine .g fun hg=>?_;try exact svx)|fail)
 refine R2.E ?_ (App.app _ _);rw[List.append_nil]
 (repeat' first|refine svE ⟨?_⟩|refine .b fun b=>?_|refine .u fun u=>?_|refine .d ?_ ?_|(refine .g fun hg=>?_;try exact svx)|fail)
 refine S.call ?_;refine (fc1 _).mono ?_;rintro r h' ⟨rfl,hh⟩;subst hh
 (repeat' first|refine svE ⟨?_⟩|refine .b fun b=>?_|refine .u fun u=>?_|refine .d ?_ ?_|(refine .g fun hg=>?_;try exact svx)|fail)
 exact fin_r (h':=H) (Q:=fun r h'=>r=_∧h'=H) ⟨rfl,rfl⟩
theorem refP1 (b0:Nat) (v:AV) (s:RT) (a:AC) (H:Heap) (hm:OE.box b0 (runC s v) 135∈H) (hv:(lkF s.V a.w).isSome=true) (ht:a.time≤s.nw) (g1:s.p.g=true) (g2:s.q.g=true) (f1:s.p.f=false) (h1:s.p.a.cl=a.cl) (h3:s.p.a.time≤a.time) (h2:s.q.a.cl=a.cl) :
  ACalls Tryz.prog 51 [.val (.pointer (some ⟨b0,0,none⟩)),AV.val (.bool (true)),a.enc] H (fun r h'=>r=AV.val (.int .i64 (0))∧h'=H):=by
 have dc1:=fun h=>device_c b0 true h
 have dc2:=fun h=>device_c b0 false h
 have ac1:=fun h=>active_c s.p h
 have ac2:=fun h=>active_c s.q h
 have fc1:=fun h=>frozen_c s.p h
 have vc:=fun h=>viewable_c s.o s.V a.w h
 rw[hv] at vc
 simp only[Bool.false_eq_true,↓reduceIte] at dc1 dc2
 unfold runC encW DV.enc AC.enc at *
 rw[g1,g2,f1] at hm
 rw[g1,f1] at ac1 fc1
 rw[g2] at ac2
 clear g1 g2 f1
 refine ACalls.intro Tryz.func51 rfl Tryz.ntmps51 Tryz.results51 (Nat.le_of_ble_eq_true rfl) ?_
 (repeat' first|refine svE ⟨?_⟩|refine .b fun b=>?_|refine .u fun u=>?_|refine .d ?_ ?_|(refine .g fun hg=>?_;try exact svx)|fail)
 refine S.call ?_;refine (dc1 _).mono ?_;rintro r h' ⟨rfl,hh⟩;subst hh
 (repeat' first|refine svE ⟨?_⟩|refine .b fun b=>?_|refine .u fun u=>?_|refine .d ?_ ?_|(refine .g fun hg=>?_;try exact svx)|fail)
 refine S.call ?_;refine (dc2 _).mono ?_;rintro r h' ⟨rfl,hh⟩;subst hh
 (repeat' first|refine svE ⟨?_⟩|refine .b fun b=>?_|refine .u fun u=>?_|refine .d ?_ ?_|(refine .g fun hg=>?_;try exact svx)|fail)
 refine S.call ?_;refine (ac1 _).mono ?_;rintro r h' ⟨rfl,hh⟩;subst hh
 (repeat' first|refine svE ⟨?_⟩|refine .b fun b=>?_|refine .u fun u=>?_|refine .d ?_ ?_|(refine .g fun hg=>?_;try exact svx)|fail)
 refine S.call ?_;refine (ac2 _).mono ?_;rintro r h' ⟨rfl,hh⟩;subst hh
 (repeat' ((fail_if_success (refine drg ?_));(first|refine svE ⟨?_⟩|refine .b fun b=>?_|refine .u fun u=>?_|refine .d ?_ ?_|(refine .g fun hg=>?_;try exact svx)|fail)))
 refine W.dr (.ro (.ro (.ro (Sel.all _)))) ?_
 (repeat' first|refine svE ⟨?_⟩|refine .b fun b=>?_|refine .u fun u=>?_|refine .d ?_ ?_|(refine .g fun hg=>?_;try exact svx)|fail)
 refine R2.C (vc _) ?_
 (repeat' first|refine svE ⟨?_⟩|refine .b fun b=>?_|refine .u fun u=>?_|refine .d ?_ ?_|(refine .g fun hg=>?_;try exact svx)|fail)
 refine R2.E ?_ (App.app _ _);rw[List.append_nil]
 (repeat' ((fail_if_success (refine drg ?_));(first|refine svE ⟨?_⟩|refine .b fun b=>?_|refine .u fun u=>?_|refine .d ?_ ?_|(refine .g fun hg=>?_;try exact svx)|fail)))
 refine W.dr (.ro (.ro (.ro (Sel.all _)))) ?_
 (repeat' first|refine svE ⟨?_⟩|refine .b fun b=>?_|refine .u fun u=>?_|refine .d ?_ ?_|(refine .g fun hg=>?_;try exact svx)|fail)
 refine R2.E ?_ (App.app _ _);rw[List.append_nil]
 (repeat' first|refine svE ⟨?_⟩|refine .b fun b=>?_|refine .u fun u=>?_|refine .d ?_ ?_|(refine .g fun hg=>?_;try exact svx)|fail)
 refine S.call ?_;refine (fc1 _).mono ?_;rintro r h' ⟨rfl,hh⟩;subst hh
 (repeat' first|refine svE ⟨?_⟩|refine .b fun b=>?_|refine .u fun u=>?_|refine .d ?_ ?_|(refine .g fun hg=>?_;try exact svx)|fail)
 exact fin_r (h':=H) (Q:=fun r h'=>r=_∧h'=H) ⟨rfl,rfl⟩
theorem refP2 (b0:Nat) (v:AV) (s:RT) (a:AC) (H:Heap) (hm:OE.box b0 (runC s v) 135∈H) (hv:(lkF s.V a.w).isSome=true) (ht:a.time≤s.nw) (g1:s.p.g=true) (g2:s.q.g=true) (f1:s.p.f=true) (h1:s.p.a.cl=a.cl) (h3:s.p.a.time≤a.time) (h2:s.q.a.cl=a.cl) :
  ACalls Tryz.prog 51 [.val (.pointer (some ⟨b0,0,none⟩)),AV.val (.bool (true)),a.enc] H (fun r h'=>r=AV.val (.int .i64 (0))∧h'=H):=by
 have dc1:=fun h=>device_c b0 true h
 have dc2:=fun h=>device_c b0 false h
 have ac1:=fun h=>active_c s.p h
 have ac2:=fun h=>active_c s.q h
 have fc1:=fun h=>frozen_c s.p h
 have vc:=fun h=>viewable_c s.o s.V a.w h
 rw[hv] at vc
 simp only[Bool.false_eq_true,↓reduceIte] at dc1 dc2
 unfold runC encW DV.enc AC.enc at *
 rw[g1,g2,f1] at hm
 rw[g1,f1] at ac1 fc1
 rw[g2] at ac2
 clear g1 g2 f1
 refine ACalls.intro Tryz.func51 rfl Tryz.ntmps51 Tryz.results51 (Nat.le_of_ble_eq_true rfl) ?_
 (repeat' first|refine svE ⟨?_⟩|refine .b fun b=>?_|refine .u fun u=>?_|refine .d ?_ ?_|(refine .g fun hg=>?_;try exact svx)|fail)
 refine S.call ?_;refine (dc1 _).mono ?_;rintro r h' ⟨rfl,hh⟩;subst hh
 (repeat' first|refine svE ⟨?_⟩|refine .b fun b=>?_|refine .u fun u=>?_|refine .d ?_ ?_|(refine .g fun hg=>?_;try exact svx)|fail)
 refine S.call ?_;refine (dc2 _).mono ?_;rintro r h' ⟨rfl,hh⟩;subst hh
 (repeat' first|refine svE ⟨?_⟩|refine .b fun b=>?_|refine .u fun u=>?_|refine .d ?_ ?_|(refine .g fun hg=>?_;try exact svx)|fail)
 refine S.call ?_;refine (ac1 _).mono ?_;rintro r h' ⟨rfl,hh⟩;subst hh
 (repeat' first|refine svE ⟨?_⟩|refine .b fun b=>?_|refine .u fun u=>?_|refine .d ?_ ?_|(refine .g fun hg=>?_;try exact svx)|fail)
 refine S.call ?_;refine (ac2 _).mono ?_;rintro r h' ⟨rfl,hh⟩;subst hh
 (repeat' ((fail_if_success (refine drg ?_));(first|refine svE ⟨?_⟩|refine .b fun b=>?_|refine .u fun u=>?_|refine .d ?_ ?_|(refine .g fun hg=>?_;try exact svx)|fail)))
 refine W.dr (.ro (.ro (.ro (Sel.all _)))) ?_
 (repeat' first|refine svE ⟨?_⟩|refine .b fun b=>?_|refine .u fun u=>?_|refine .d ?_ ?_|(refine .g fun hg=>?_;try exact svx)|fail)
 refine R2.C (vc _) ?_
 (repeat' first|refine svE ⟨?_⟩|refine .b fun b=>?_|refine .u fun u=>?_|refine .d ?_ ?_|(refine .g fun hg=>?_;try exact svx)|fail)
 refine R2.E ?_ (App.app _ _);rw[List.append_nil]
 (repeat' ((fail_if_success (refine drg ?_));(first|refine svE ⟨?_⟩|refine .b fun b=>?_|refine .u fun u=>?_|refine .d ?_ ?_|(refine .g fun hg=>?_;try exact svx)|fail)))
 refine W.dr (.ro (.ro (.ro (Sel.all _)))) ?_
 (repeat' first|refine svE ⟨?_⟩|refine .b fun b=>?_|refine .u fun u=>?_|refine .d ?_ ?_|(refine .g fun hg=>?_;try exact svx)|fail)
 refine R2.E ?_ (App.app _ _);rw[List.append_nil]
 (repeat' first|refine svE ⟨?_⟩|refine .b fun b=>?_|refine .u fun u=>?_|refine .d ?_ ?_|(refine .g fun hg=>?_;try exact svx)|fail)
 refine S.call ?_;refine (fc1 _).mono ?_;rintro r h' ⟨rfl,hh⟩;subst hh
 (repeat' first|refine svE ⟨?_⟩|refine .b fun b=>?_|refine .u fun u=>?_|refine .d ?_ ?_|(refine .g fun hg=>?_;try exact svx)|fail)
 exact fin_r (h':=H) (Q:=fun r h'=>r=_∧h'=H) ⟨rfl,rfl⟩
theorem refK0 (b0:Nat) (v:AV) (s:RT) (a:AC) (H:Heap) (hm:OE.box b0 (runC s v) 135∈H) (hv:(lkF s.V a.w).isSome=true) (ht:a.time≤s.nw) (g1:s.q.g=false) (g2:s.p.g=true) (f1:s.q.f=false) (h2:s.p.a.cl=a.cl) :
  ACalls Tryz.prog 51 [.val (.pointer (some ⟨b0,0,none⟩)),AV.val (.bool (false)),a.enc] H (fun r h'=>r=AV.val (.int .i64 (0))∧h'=H):=by
 have dc1:=fun h=>device_c b0 false h
 have dc2:=fun h=>device_c b0 true h
 have ac1:=fun h=>active_c s.q h
 have ac2:=fun h=>active_c s.p h
 have fc1:=fun h=>frozen_c s.q h
 have vc:=fun h=>viewable_c s.o s.V a.w h
 rw[hv] at vc
 simp only[Bool.false_eq_true,↓reduceIte] at dc1 dc2
 unfold runC encW DV.enc AC.enc at *
 rw[g1,g2,f1] at hm
 rw[g1,f1] at ac1 fc1
 rw[g2] at ac2
 clear g1 g2 f1
 refine ACalls.intro Tryz.func51 rfl Tryz.ntmps51 Tryz.results51 (Nat.le_of_ble_eq_true rfl) ?_
 (repeat' first|refine svE ⟨?_⟩|refine .b fun b=>?_|refine .u fun u=>?_|refine .d ?_ ?_|(refine .g fun hg=>?_;try exact svx)|fail)
 refine S.call ?_;refine (dc1 _).mono ?_;rintro r h' ⟨rfl,hh⟩;subst hh
 (repeat' first|refine svE ⟨?_⟩|refine .b fun b=>?_|refine .u fun u=>?_|refine .d ?_ ?_|(refine .g fun hg=>?_;try exact svx)|fail)
 refine S.call ?_;refine (dc2 _).mono ?_;rintro r h' ⟨rfl,hh⟩;subst hh
 (repeat' first|refine svE ⟨?_⟩|refine .b fun b=>?_|refine .u fun u=>?_|refine .d ?_ ?_|(refine .g fun hg=>?_;try exact svx)|fail)
 refine S.call ?_;refine (ac1 _).mono ?_;rintro r h' ⟨rfl,hh⟩;subst hh
 (repeat' first|refine svE ⟨?_⟩|refine .b fun b=>?_|refine .u fun u=>?_|refine .d ?_ ?_|(refine .g fun hg=>?_;try exact svx)|fail)
 refine S.call ?_;refine (ac2 _).mono ?_;rintro r h' ⟨rfl,hh⟩;subst hh
 (repeat' ((fail_if_success (refine drg ?_));(first|refine svE ⟨?_⟩|refine .b fun b=>?_|refine .u fun u=>?_|refine .d ?_ ?_|(refine .g fun hg=>?_;try exact svx)|fail)))
 refine W.dr (.ro (.ro (.ro (Sel.all _)))) ?_
 (repeat' first|refine svE ⟨?_⟩|refine .b fun b=>?_|refine .u fun u=>?_|refine .d ?_ ?_|(refine .g fun hg=>?_;try exact svx)|fail)
 refine R2.C (vc _) ?_
 (repeat' first|refine svE ⟨?_⟩|refine .b fun b=>?_|refine .u fun u=>?_|refine .d ?_ ?_|(refine .g fun hg=>?_;try exact svx)|fail)
 refine R2.E ?_ (App.app _ _);rw[List.append_nil]
 (repeat' ((fail_if_success (refine drg ?_));(first|refine svE ⟨?_⟩|refine .b fun b=>?_|refine .u fun u=>?_|refine .d ?_ ?_|(refine .g fun hg=>?_;try exact svx)|fail)))
 refine W.dr (.ro (.ro (.ro (Sel.all _)))) ?_
 (repeat' first|refine svE ⟨?_⟩|refine .b fun b=>?_|refine .u fun u=>?_|refine .d ?_ ?_|(refine .g fun hg=>?_;try exact svx)|fail)
 refine R2.E ?_ (App.app _ _);rw[List.append_nil]
 (repeat' first|refine svE ⟨?_⟩|refine .b fun b=>?_|refine .u fun u=>?_|refine .d ?_ ?_|(refine .g fun hg=>?_;try exact svx)|fail)
 refine S.call ?_;refine (fc1 _).mono ?_;rintro r h' ⟨rfl,hh⟩;subst hh
 (repeat' first|refine svE ⟨?_⟩|refine .b fun b=>?_|refine .u fun u=>?_|refine .d ?_ ?_|(refine .g fun hg=>?_;try exact svx)|fail)
 exact fin_r (h':=H) (Q:=fun r h'=>r=_∧h'=H) ⟨rfl,rfl⟩
theorem refK1 (b0:Nat) (v:AV) (s:RT) (a:AC) (H:Heap) (hm:OE.box b0 (runC s v) 135∈H) (hv:(lkF s.V a.w).isSome=true) (ht:a.time≤s.nw) (g1:s.q.g=true) (g2:s.p.g=true) (f1:s.q.f=false) (h1:s.q.a.cl=a.cl) (h3:s.q.a.time≤a.time) (h2:s.p.a.cl=a.cl) :
  ACalls Tryz.prog 51 [.val (.pointer (some ⟨b0,0,none⟩)),AV.val (.bool (false)),a.enc] H (fun r h'=>r=AV.val (.int .i64 (0))∧h'=H):=by
 have dc1:=fun h=>device_c b0 false h
 have dc2:=fun h=>device_c b0 true h
 have ac1:=fun h=>active_c s.q h
 have ac2:=fun h=>active_c s.p h
 have fc1:=fun h=>frozen_c s.q h
 have vc:=fun h=>viewable_c s.o s.V a.w h
 rw[hv] at vc
 simp only[Bool.false_eq_true,↓reduceIte] at dc1 dc2
 unfold runC encW DV.enc AC.enc at *
 rw[g1,g2,f1] at hm
 rw[g1,f1] at ac1 fc1
 rw[g2] at ac2
 clear g1 g2 f1
 refine ACalls.intro Tryz.func51 rfl Tryz.ntmps51 Tryz.results51 (Nat.le_of_ble_eq_true rfl) ?_
 (repeat' first|refine svE ⟨?_⟩|refine .b fun b=>?_|refine .u fun u=>?_|refine .d ?_ ?_|(refine .g fun hg=>?_;try exact svx)|fail)
 refine S.call ?_;refine (dc1 _).mono ?_;rintro r h' ⟨rfl,hh⟩;subst hh
 (repeat' first|refine svE ⟨?_⟩|refine .b fun b=>?_|refine .u fun u=>?_|refine .d ?_ ?_|(refine .g fun hg=>?_;try exact svx)|fail)
 refine S.call ?_;refine (dc2 _).mono ?_;rintro r h' ⟨rfl,hh⟩;subst hh
 (repeat' first|refine svE ⟨?_⟩|refine .b fun b=>?_|refine .u fun u=>?_|refine .d ?_ ?_|(refine .g fun hg=>?_;try exact svx)|fail)
 refine S.call ?_;refine (ac1 _).mono ?_;rintro r h' ⟨rfl,hh⟩;subst hh
 (repeat' first|refine svE ⟨?_⟩|refine .b fun b=>?_|refine .u fun u=>?_|refine .d ?_ ?_|(refine .g fun hg=>?_;try exact svx)|fail)
 refine S.call ?_;refine (ac2 _).mono ?_;rintro r h' ⟨rfl,hh⟩;subst hh
 (repeat' ((fail_if_success (refine drg ?_));(first|refine svE ⟨?_⟩|refine .b fun b=>?_|refine .u fun u=>?_|refine .d ?_ ?_|(refine .g fun hg=>?_;try exact svx)|fail)))
 refine W.dr (.ro (.ro (.ro (Sel.all _)))) ?_
 (repeat' first|refine svE ⟨?_⟩|refine .b fun b=>?_|refine .u fun u=>?_|refine .d ?_ ?_|(refine .g fun hg=>?_;try exact svx)|fail)
 refine R2.C (vc _) ?_
 (repeat' first|refine svE ⟨?_⟩|refine .b fun b=>?_|refine .u fun u=>?_|refine .d ?_ ?_|(refine .g fun hg=>?_;try exact svx)|fail)
 refine R2.E ?_ (App.app _ _);rw[List.append_nil]
 (repeat' ((fail_if_success (refine drg ?_));(first|refine svE ⟨?_⟩|refine .b fun b=>?_|refine .u fun u=>?_|refine .d ?_ ?_|(refine .g fun hg=>?_;try exact svx)|fail)))
 refine W.dr (.ro (.ro (.ro (Sel.all _)))) ?_
 (repeat' first|refine svE ⟨?_⟩|refine .b fun b=>?_|refine .u fun u=>?_|refine .d ?_ ?_|(refine .g fun hg=>?_;try exact svx)|fail)
 refine R2.E ?_ (App.app _ _);rw[List.append_nil]
 (repeat' first|refine svE ⟨?_⟩|refine .b fun b=>?_|refine .u fun u=>?_|refine .d ?_ ?_|(refine .g fun hg=>?_;try exact svx)|fail)
 refine S.call ?_;refine (fc1 _).mono ?_;rintro r h' ⟨rfl,hh⟩;subst hh
 (repeat' first|refine svE ⟨?_⟩|refine .b fun b=>?_|refine .u fun u=>?_|refine .d ?_ ?_|(refine .g fun hg=>?_;try exact svx)|fail)
 exact fin_r (h':=H) (Q:=fun r h'=>r=_∧h'=H) ⟨rfl,rfl⟩
theorem refK2 (b0:Nat) (v:AV) (s:RT) (a:AC) (H:Heap) (hm:OE.box b0 (runC s v) 135∈H) (hv:(lkF s.V a.w).isSome=true) (ht:a.time≤s.nw) (g1:s.q.g=true) (g2:s.p.g=true) (f1:s.q.f=true) (h1:s.q.a.cl=a.cl) (h3:s.q.a.time≤a.time) (h2:s.p.a.cl=a.cl) :
  ACalls Tryz.prog 51 [.val (.pointer (some ⟨b0,0,none⟩)),AV.val (.bool (false)),a.enc] H (fun r h'=>r=AV.val (.int .i64 (0))∧h'=H):=by
 have dc1:=fun h=>device_c b0 false h
 have dc2:=fun h=>device_c b0 true h
 have ac1:=fun h=>active_c s.q h
 have ac2:=fun h=>active_c s.p h
 have fc1:=fun h=>frozen_c s.q h
 have vc:=fun h=>viewable_c s.o s.V a.w h
 rw[hv] at vc
 simp only[Bool.false_eq_true,↓reduceIte] at dc1 dc2
 unfold runC encW DV.enc AC.enc at *
 rw[g1,g2,f1] at hm
 rw[g1,f1] at ac1 fc1
 rw[g2] at ac2
 clear g1 g2 f1
 refine ACalls.intro Tryz.func51 rfl Tryz.ntmps51 Tryz.results51 (Nat.le_of_ble_eq_true rfl) ?_
 (repeat' first|refine svE ⟨?_⟩|refine .b fun b=>?_|refine .u fun u=>?_|refine .d ?_ ?_|(refine .g fun hg=>?_;try exact svx)|fail)
 refine S.call ?_;refine (dc1 _).mono ?_;rintro r h' ⟨rfl,hh⟩;subst hh
 (repeat' first|refine svE ⟨?_⟩|refine .b fun b=>?_|refine .u fun u=>?_|refine .d ?_ ?_|(refine .g fun hg=>?_;try exact svx)|fail)
 refine S.call ?_;refine (dc2 _).mono ?_;rintro r h' ⟨rfl,hh⟩;subst hh
 (repeat' first|refine svE ⟨?_⟩|refine .b fun b=>?_|refine .u fun u=>?_|refine .d ?_ ?_|(refine .g fun hg=>?_;try exact svx)|fail)
 refine S.call ?_;refine (ac1 _).mono ?_;rintro r h' ⟨rfl,hh⟩;subst hh
 (repeat' first|refine svE ⟨?_⟩|refine .b fun b=>?_|refine .u fun u=>?_|refine .d ?_ ?_|(refine .g fun hg=>?_;try exact svx)|fail)
 refine S.call ?_;refine (ac2 _).mono ?_;rintro r h' ⟨rfl,hh⟩;subst hh
 (repeat' ((fail_if_success (refine drg ?_));(first|refine svE ⟨?_⟩|refine .b fun b=>?_|refine .u fun u=>?_|refine .d ?_ ?_|(refine .g fun hg=>?_;try exact svx)|fail)))
 refine W.dr (.ro (.ro (.ro (Sel.all _)))) ?_
 (repeat' first|refine svE ⟨?_⟩|refine .b fun b=>?_|refine .u fun u=>?_|refine .d ?_ ?_|(refine .g fun hg=>?_;try exact svx)|fail)
 refine R2.C (vc _) ?_
 (repeat' first|refine svE ⟨?_⟩|refine .b fun b=>?_|refine .u fun u=>?_|refine .d ?_ ?_|(refine .g fun hg=>?_;try exact svx)|fail)
 refine R2.E ?_ (App.app _ _);rw[List.append_nil]
 (repeat' ((fail_if_success (refine drg ?_));(first|refine svE ⟨?_⟩|refine .b fun b=>?_|refine .u fun u=>?_|refine .d ?_ ?_|(refine .g fun hg=>?_;try exact svx)|fail)))
 refine W.dr (.ro (.ro (.ro (Sel.all _)))) ?_
 (repeat' first|refine svE ⟨?_⟩|refine .b fun b=>?_|refine .u fun u=>?_|refine .d ?_ ?_|(refine .g fun hg=>?_;try exact svx)|fail)
 refine R2.E ?_ (App.app _ _);rw[List.append_nil]
 (repeat' first|refine svE ⟨?_⟩|refine .b fun b=>?_|refine .u fun u=>?_|refine .d ?_ ?_|(refine .g fun hg=>?_;try exact svx)|fail)
 refine S.call ?_;refine (fc1 _).mono ?_;rintro r h' ⟨rfl,hh⟩;subst hh
 (repeat' first|refine svE ⟨?_⟩|refine .b fun b=>?_|refine .u fun u=>?_|refine .d ?_ ?_|(refine .g fun hg=>?_;try exact svx)|fail)
 exact fin_r (h':=H) (Q:=fun r h'=>r=_∧h'=H) ⟨rfl,rfl⟩
end Go.Proofs.YtbknacpdcdkjiaaGreat
