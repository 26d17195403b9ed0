/- Whom an event names. No condition. -/
import Derived.Test.YtbknacpdcdkjiaaGreatF10
namespace Go.Proofs.YtbknacpdcdkjiaaGreat
open Go Go.VM
attribute [local irreducible] PurV Pur Step RL W D ACalls Then InBlock Fini
set_option linter.unusedVariables false
set_option linter.unusedSimpArgs false
set_option maxHeartbeats 20000000
def RT.dv (s:RT) (p:Bool):DV:=if p then s.p else s.q
def namesF (s:RT) (p:Bool) (m:Int):Int × List Int:=
 if (s.dv p).g=false then findF s.M s.N m (if p then pathA s.up s.un else wayF s.up s.fw s.un)
 else if bitsI .and .i64 (s.dv p).a.mask m≠0 then ((s.dv p).a.w,[(s.dv p).a.cl]) else (0,[])
theorem wayF_len {k:SVT} {up:UP} (w:TW k up) (fw un:Int):(wayF up fw un).length≤up.length+1:=by
 have:=pathA_len w un
 unfold wayF
 split
 ·simp
 ·split
  ·simp
  ·split
   ·rw[List.length_take];omega
   ·simp
set_option maxRecDepth 100000 in
theorem names_c (b0:Nat) (v:AV) (s:RT) (k:KD) (H:Heap) (hm:OE.box b0 (runC s v) 135∈H) (ok:s.Ok) (how:(s.dv k.p).a.ow=false) :
  ACalls Tryz.prog 113 [.val (.pointer (some ⟨b0,0,none⟩)),k.enc] H (fun r h'=>r=.agg [AV.val (.int .u32 ((namesF s k.p k.m).1)),.ro 1 (ints .i64 (namesF s k.p k.m).2)]∧h'=H):=by
 have pc:=fun h=>path_all ok.tw (by have:=ok.ul;omega) s.un h
 have wc:=fun h=>way_c ok.tw (by have:=ok.ul;omega) s.fw s.fr s.ft s.un h
 have fc:=fun L hl h=>cfind_c s.M s.N L k.m h hl
 have hl1:=pathA_len ok.tw s.un
 have hl2:=wayF_len ok.tw s.fw s.un
 have hul:=ok.ul
 have dc:=fun h=>device_c b0 k.p h
 have ac:=fun h=>active_c (s.dv k.p) h
 obtain⟨p,m,pr,rl,fn⟩:=k
 unfold runC encF encT encC KD.enc namesF RT.dv at *
 dsimp only at *
 cases p with
 | true=>
  simp only[Bool.false_eq_true,↓reduceIte] at *
  have fc1:=fc (pathA s.up s.un) (by omega)
  generalize pathA s.up s.un=L at *
  cases hg:s.p.g with
  | false=>
   rw[if_pos rfl]
   refine ACalls.intro Tryz.func113 rfl Tryz.ntmps113 Tryz.results113 (Nat.le_of_ble_eq_true rfl) ?_
   (repeat' ((fail_if_success (refine drg ?_));(first|refine svE ⟨?_⟩|refine .b fun b=>?_|refine .u fun u=>?_|refine .d ?_ ?_|(refine .g fun hg=>?_;try exact svx)|fail)))
   refine W.dr (.ro (.ro (Sel.all _))) ?_
   (repeat' first|refine svE ⟨?_⟩|refine .b fun b=>?_|refine .u fun u=>?_|refine .d ?_ ?_|(refine .g fun hg=>?_;try exact svx)|fail)
   refine R2.C (pc _) ?_
   (repeat' first|refine svE ⟨?_⟩|refine .b fun b=>?_|refine .u fun u=>?_|refine .d ?_ ?_|(refine .g fun hg=>?_;try exact svx)|fail)
   refine R2.E ?_ (App.app _ _);rw[List.append_nil]
   (repeat' ((fail_if_success (refine drg ?_));(first|refine svE ⟨?_⟩|refine .b fun b=>?_|refine .u fun u=>?_|refine .d ?_ ?_|(refine .g fun hg=>?_;try exact svx)|fail)))
   refine W.dr (.ro (.ro (Sel.all _))) ?_
   (repeat' first|refine svE ⟨?_⟩|refine .b fun b=>?_|refine .u fun u=>?_|refine .d ?_ ?_|(refine .g fun hg=>?_;try exact svx)|fail)
   refine R2.C (fc1 _) ?_
   (repeat' first|refine svE ⟨?_⟩|refine .b fun b=>?_|refine .u fun u=>?_|refine .d ?_ ?_|(refine .g fun hg=>?_;try exact svx)|fail)
   refine R2.E ?_ (App.app _ _);rw[List.append_nil]
   (repeat' first|refine svE ⟨?_⟩|refine .b fun b=>?_|refine .u fun u=>?_|refine .d ?_ ?_|(refine .g fun hg=>?_;try exact svx)|fail)
   refine S.call ?_;refine (dc _).mono ?_;rintro r h' ⟨rfl,hh⟩;subst hh
   (repeat' first|refine svE ⟨?_⟩|refine .b fun b=>?_|refine .u fun u=>?_|refine .d ?_ ?_|(refine .g fun hg=>?_;try exact svx)|fail)
   refine S.call ?_;refine (ac _).mono ?_;rintro r h' ⟨rfl,hh⟩;subst hh
   unfold AC.enc
   rw[hg,how]
   (repeat' first|refine svE ⟨?_⟩|refine .b fun b=>?_|refine .u fun u=>?_|refine .d ?_ ?_|(refine .g fun hg=>?_;try exact svx)|fail)
   refine fin_r (h':=H) (Q:=fun r h'=>r=_∧h'=H) ?_;exact⟨rfl,rfl⟩
  | true=>
   rw[if_neg (by simp)]
   by_cases hz:bitsI .and .i64 s.p.a.mask m=0
   ·rw[if_neg (fun q=>q hz)]
    refine ACalls.wk (Q:=fun r h'=>r=.agg [AV.val (.int .u32 (0)),.val (.slice none 0 0)]∧h'=H) ?_ (by rintro r h' ⟨rfl,rfl⟩;exact⟨_,(by (repeat (first|exact Wk.refl _|exact Wk.nilr _|exact Wk.nilm|apply Wk.aggc|apply Wk.tupc|exact Wk.aggn|exact Wk.tupn));first|done|fail),rfl,rfl⟩)
    refine ACalls.intro Tryz.func113 rfl Tryz.ntmps113 Tryz.results113 (Nat.le_of_ble_eq_true rfl) ?_
    (repeat' ((fail_if_success (refine drg ?_));(first|refine svE ⟨?_⟩|refine .b fun b=>?_|refine .u fun u=>?_|refine .d ?_ ?_|(refine .g fun hg=>?_;try exact svx)|fail)))
    refine W.dr (.ro (.ro (Sel.all _))) ?_
    (repeat' first|refine svE ⟨?_⟩|refine .b fun b=>?_|refine .u fun u=>?_|refine .d ?_ ?_|(refine .g fun hg=>?_;try exact svx)|fail)
    refine R2.C (pc _) ?_
    (repeat' first|refine svE ⟨?_⟩|refine .b fun b=>?_|refine .u fun u=>?_|refine .d ?_ ?_|(refine .g fun hg=>?_;try exact svx)|fail)
    refine R2.E ?_ (App.app _ _);rw[List.append_nil]
    (repeat' ((fail_if_success (refine drg ?_));(first|refine svE ⟨?_⟩|refine .b fun b=>?_|refine .u fun u=>?_|refine .d ?_ ?_|(refine .g fun hg=>?_;try exact svx)|fail)))
    refine W.dr (.ro (.ro (Sel.all _))) ?_
    (repeat' first|refine svE ⟨?_⟩|refine .b fun b=>?_|refine .u fun u=>?_|refine .d ?_ ?_|(refine .g fun hg=>?_;try exact svx)|fail)
    refine R2.C (fc1 _) ?_
    (repeat' first|refine svE ⟨?_⟩|refine .b fun b=>?_|refine .u fun u=>?_|refine .d ?_ ?_|(refine .g fun hg=>?_;try exact svx)|fail)
    refine R2.E ?_ (App.app _ _);rw[List.append_nil]
    (repeat' first|refine svE ⟨?_⟩|refine .b fun b=>?_|refine .u fun u=>?_|refine .d ?_ ?_|(refine .g fun hg=>?_;try exact svx)|fail)
    refine S.call ?_;refine (dc _).mono ?_;rintro r h' ⟨rfl,hh⟩;subst hh
    (repeat' first|refine svE ⟨?_⟩|refine .b fun b=>?_|refine .u fun u=>?_|refine .d ?_ ?_|(refine .g fun hg=>?_;try exact svx)|fail)
    refine S.call ?_;refine (ac _).mono ?_;rintro r h' ⟨rfl,hh⟩;subst hh
    unfold AC.enc
    rw[hg,how]
    (repeat' first|refine svE ⟨?_⟩|refine .b fun b=>?_|refine .u fun u=>?_|refine .d ?_ ?_|(refine .g fun hg=>?_;try exact svx)|fail)
    refine fin_r (h':=H) (Q:=fun r h'=>r=_∧h'=H) ?_;exact⟨rfl,rfl⟩
   ·rw[if_pos hz]
    refine ACalls.intro Tryz.func113 rfl Tryz.ntmps113 Tryz.results113 (Nat.le_of_ble_eq_true rfl) ?_
    (repeat' ((fail_if_success (refine drg ?_));(first|refine svE ⟨?_⟩|refine .b fun b=>?_|refine .u fun u=>?_|refine .d ?_ ?_|(refine .g fun hg=>?_;try exact svx)|fail)))
    refine W.dr (.ro (.ro (Sel.all _))) ?_
    (repeat' first|refine svE ⟨?_⟩|refine .b fun b=>?_|refine .u fun u=>?_|refine .d ?_ ?_|(refine .g fun hg=>?_;try exact svx)|fail)
    refine R2.C (pc _) ?_
    (repeat' first|refine svE ⟨?_⟩|refine .b fun b=>?_|refine .u fun u=>?_|refine .d ?_ ?_|(refine .g fun hg=>?_;try exact svx)|fail)
    refine R2.E ?_ (App.app _ _);rw[List.append_nil]
    (repeat' ((fail_if_success (refine drg ?_));(first|refine svE ⟨?_⟩|refine .b fun b=>?_|refine .u fun u=>?_|refine .d ?_ ?_|(refine .g fun hg=>?_;try exact svx)|fail)))
    refine W.dr (.ro (.ro (Sel.all _))) ?_
    (repeat' first|refine svE ⟨?_⟩|refine .b fun b=>?_|refine .u fun u=>?_|refine .d ?_ ?_|(refine .g fun hg=>?_;try exact svx)|fail)
    refine R2.C (fc1 _) ?_
    (repeat' first|refine svE ⟨?_⟩|refine .b fun b=>?_|refine .u fun u=>?_|refine .d ?_ ?_|(refine .g fun hg=>?_;try exact svx)|fail)
    refine R2.E ?_ (App.app _ _);rw[List.append_nil]
    (repeat' first|refine svE ⟨?_⟩|refine .b fun b=>?_|refine .u fun u=>?_|refine .d ?_ ?_|(refine .g fun hg=>?_;try exact svx)|fail)
    refine S.call ?_;refine (dc _).mono ?_;rintro r h' ⟨rfl,hh⟩;subst hh
    (repeat' first|refine svE ⟨?_⟩|refine .b fun b=>?_|refine .u fun u=>?_|refine .d ?_ ?_|(refine .g fun hg=>?_;try exact svx)|fail)
    refine S.call ?_;refine (ac _).mono ?_;rintro r h' ⟨rfl,hh⟩;subst hh
    unfold AC.enc
    rw[hg,how]
    (repeat' (first|(refine iR2 ?_;refine r2b ?_;refine R2.one ?_)|(refine iS ?_;refine iN ?_;refine S.build1r ?_)|(refine iS ?_;refine iMu ?_;refine S.mapU ?_)|refine svF ⟨?_⟩|refine .b fun b=>?_|refine .u fun u=>?_|refine .d ?_ ?_|(refine .g fun hg=>?_;try exact svx)|refine sva ?_|refine sv3 ?_|fail))
    refine fin_r (h':=H) (Q:=fun r h'=>r=_∧h'=H) ?_;exact⟨rfl,rfl⟩
 | false=>
  simp only[Bool.false_eq_true,↓reduceIte] at *
  have fc1:=fc (wayF s.up s.fw s.un) (by omega)
  generalize wayF s.up s.fw s.un=L at *
  cases hg:s.q.g with
  | false=>
   rw[if_pos rfl]
   refine ACalls.intro Tryz.func113 rfl Tryz.ntmps113 Tryz.results113 (Nat.le_of_ble_eq_true rfl) ?_
   (repeat' ((fail_if_success (refine drg ?_));(first|refine svE ⟨?_⟩|refine .b fun b=>?_|refine .u fun u=>?_|refine .d ?_ ?_|(refine .g fun hg=>?_;try exact svx)|fail)))
   refine W.dr (.ro (.ro (Sel.all _))) ?_
   (repeat' first|refine svE ⟨?_⟩|refine .b fun b=>?_|refine .u fun u=>?_|refine .d ?_ ?_|(refine .g fun hg=>?_;try exact svx)|fail)
   refine R2.C (pc _) ?_
   (repeat' first|refine svE ⟨?_⟩|refine .b fun b=>?_|refine .u fun u=>?_|refine .d ?_ ?_|(refine .g fun hg=>?_;try exact svx)|fail)
   refine R2.E ?_ (App.app _ _);rw[List.append_nil]
   (repeat' ((fail_if_success (refine drg ?_));(first|refine svE ⟨?_⟩|refine .b fun b=>?_|refine .u fun u=>?_|refine .d ?_ ?_|(refine .g fun hg=>?_;try exact svx)|fail)))
   refine W.dr (.ro (.ro (Sel.all _))) ?_
   (repeat' first|refine svE ⟨?_⟩|refine .b fun b=>?_|refine .u fun u=>?_|refine .d ?_ ?_|(refine .g fun hg=>?_;try exact svx)|fail)
   refine R2.C (wc _) ?_
   (repeat' first|refine svE ⟨?_⟩|refine .b fun b=>?_|refine .u fun u=>?_|refine .d ?_ ?_|(refine .g fun hg=>?_;try exact svx)|fail)
   refine R2.E ?_ (App.app _ _);rw[List.append_nil]
   (repeat' ((fail_if_success (refine drg ?_));(first|refine svE ⟨?_⟩|refine .b fun b=>?_|refine .u fun u=>?_|refine .d ?_ ?_|(refine .g fun hg=>?_;try exact svx)|fail)))
   refine W.dr (.ro (.ro (Sel.all _))) ?_
   (repeat' first|refine svE ⟨?_⟩|refine .b fun b=>?_|refine .u fun u=>?_|refine .d ?_ ?_|(refine .g fun hg=>?_;try exact svx)|fail)
   refine R2.C (fc1 _) ?_
   (repeat' first|refine svE ⟨?_⟩|refine .b fun b=>?_|refine .u fun u=>?_|refine .d ?_ ?_|(refine .g fun hg=>?_;try exact svx)|fail)
   refine R2.E ?_ (App.app _ _);rw[List.append_nil]
   (repeat' first|refine svE ⟨?_⟩|refine .b fun b=>?_|refine .u fun u=>?_|refine .d ?_ ?_|(refine .g fun hg=>?_;try exact svx)|fail)
   refine S.call ?_;refine (dc _).mono ?_;rintro r h' ⟨rfl,hh⟩;subst hh
   (repeat' first|refine svE ⟨?_⟩|refine .b fun b=>?_|refine .u fun u=>?_|refine .d ?_ ?_|(refine .g fun hg=>?_;try exact svx)|fail)
   refine S.call ?_;refine (ac _).mono ?_;rintro r h' ⟨rfl,hh⟩;subst hh
   unfold AC.enc
   rw[hg,how]
   (repeat' first|refine svE ⟨?_⟩|refine .b fun b=>?_|refine .u fun u=>?_|refine .d ?_ ?_|(refine .g fun hg=>?_;try exact svx)|fail)
   refine fin_r (h':=H) (Q:=fun r h'=>r=_∧h'=H) ?_;exact⟨rfl,rfl⟩
  | true=>
   rw[if_neg (by simp)]
   by_cases hz:bitsI .and .i64 s.q.a.mask m=0
   ·rw[if_neg (fun q=>q hz)]
    refine ACalls.wk (Q:=fun r h'=>r=.agg [AV.val (.int .u32 (0)),.val (.slice none 0 0)]∧h'=H) ?_ (by rintro r h' ⟨rfl,rfl⟩;exact⟨_,(by (repeat (first|exact Wk.refl _|exact Wk.nilr _|exact Wk.nilm|apply Wk.aggc|apply Wk.tupc|exact Wk.aggn|exact Wk.tupn));first|done|fail),rfl,rfl⟩)
    refine ACalls.intro Tryz.func113 rfl Tryz.ntmps113 Tryz.results113 (Nat.le_of_ble_eq_true rfl) ?_
    (repeat' ((fail_if_success (refine drg ?_));(first|refine svE ⟨?_⟩|refine .b fun b=>?_|refine .u fun u=>?_|refine .d ?_ ?_|(refine .g fun hg=>?_;try exact svx)|fail)))
    refine W.dr (.ro (.ro (Sel.all _))) ?_
    (repeat' first|refine svE ⟨?_⟩|refine .b fun b=>?_|refine .u fun u=>?_|refine .d ?_ ?_|(refine .g fun hg=>?_;try exact svx)|fail)
    refine R2.C (pc _) ?_
    (repeat' first|refine svE ⟨?_⟩|refine .b fun b=>?_|refine .u fun u=>?_|refine .d ?_ ?_|(refine .g fun hg=>?_;try exact svx)|fail)
    refine R2.E ?_ (App.app _ _);rw[List.append_nil]
    (repeat' ((fail_if_success (refine drg ?_));(first|refine svE ⟨?_⟩|refine .b fun b=>?_|refine .u fun u=>?_|refine .d ?_ ?_|(refine .g fun hg=>?_;try exact svx)|fail)))
    refine W.dr (.ro (.ro (Sel.all _))) ?_
    (repeat' first|refine svE ⟨?_⟩|refine .b fun b=>?_|refine .u fun u=>?_|refine .d ?_ ?_|(refine .g fun hg=>?_;try exact svx)|fail)
    refine R2.C (wc _) ?_
    (repeat' first|refine svE ⟨?_⟩|refine .b fun b=>?_|refine .u fun u=>?_|refine .d ?_ ?_|(refine .g fun hg=>?_;try exact svx)|fail)
    refine R2.E ?_ (App.app _ _);rw[List.append_nil]
    (repeat' ((fail_if_success (refine drg ?_));(first|refine svE ⟨?_⟩|refine .b fun b=>?_|refine .u fun u=>?_|refine .d ?_ ?_|(refine .g fun hg=>?_;try exact svx)|fail)))
    refine W.dr (.ro (.ro (Sel.all _))) ?_
    (repeat' first|refine svE ⟨?_⟩|refine .b fun b=>?_|refine .u fun u=>?_|refine .d ?_ ?_|(refine .g fun hg=>?_;try exact svx)|fail)
    refine R2.C (fc1 _) ?_
    (repeat' first|refine svE ⟨?_⟩|refine .b fun b=>?_|refine .u fun u=>?_|refine .d ?_ ?_|(refine .g fun hg=>?_;try exact svx)|fail)
    refine R2.E ?_ (App.app _ _);rw[List.append_nil]
    (repeat' first|refine svE ⟨?_⟩|refine .b fun b=>?_|refine .u fun u=>?_|refine .d ?_ ?_|(refine .g fun hg=>?_;try exact svx)|fail)
    refine S.call ?_;refine (dc _).mono ?_;rintro r h' ⟨rfl,hh⟩;subst hh
    (repeat' first|refine svE ⟨?_⟩|refine .b fun b=>?_|refine .u fun u=>?_|refine .d ?_ ?_|(refine .g fun hg=>?_;try exact svx)|fail)
    refine S.call ?_;refine (ac _).mono ?_;rintro r h' ⟨rfl,hh⟩;subst hh
    unfold AC.enc
    rw[hg,how]
    (repeat' first|refine svE ⟨?_⟩|refine .b fun b=>?_|refine .u fun u=>?_|refine .d ?_ ?_|(refine .g fun hg=>?_;try exact svx)|fail)
    refine fin_r (h':=H) (Q:=fun r h'=>r=_∧h'=H) ?_;exact⟨rfl,rfl⟩
   ·rw[if_pos hz]
    refine ACalls.intro Tryz.func113 rfl Tryz.ntmps113 Tryz.results113 (Nat.le_of_ble_eq_true rfl) ?_
    (repeat' ((fail_if_success (refine drg ?_));(first|refine svE ⟨?_⟩|refine .b fun b=>?_|refine .u fun u=>?_|refine .d ?_ ?_|(refine .g fun hg=>?_;try exact svx)|fail)))
    refine W.dr (.ro (.ro (Sel.all _))) ?_
    (repeat' first|refine svE ⟨?_⟩|refine .b fun b=>?_|refine .u fun u=>?_|refine .d ?_ ?_|(refine .g fun hg=>?_;try exact svx)|fail)
    refine R2.C (pc _) ?_
    (repeat' first|refine svE ⟨?_⟩|refine .b fun b=>?_|refine .u fun u=>?_|refine .d ?_ ?_|(refine .g fun hg=>?_;try exact svx)|fail)
    refine R2.E ?_ (App.app _ _);rw[List.append_nil]
    (repeat' ((fail_if_success (refine drg ?_));(first|refine svE ⟨?_⟩|refine .b fun b=>?_|refine .u fun u=>?_|refine .d ?_ ?_|(refine .g fun hg=>?_;try exact svx)|fail)))
    refine W.dr (.ro (.ro (Sel.all _))) ?_
    (repeat' first|refine svE ⟨?_⟩|refine .b fun b=>?_|refine .u fun u=>?_|refine .d ?_ ?_|(refine .g fun hg=>?_;try exact svx)|fail)
    refine R2.C (wc _) ?_
    (repeat' first|refine svE ⟨?_⟩|refine .b fun b=>?_|refine .u fun u=>?_|refine .d ?_ ?_|(refine .g fun hg=>?_;try exact svx)|fail)
    refine R2.E ?_ (App.app _ _);rw[List.append_nil]
    (repeat' ((fail_if_success (refine drg ?_));(first|refine svE ⟨?_⟩|refine .b fun b=>?_|refine .u fun u=>?_|refine .d ?_ ?_|(refine .g fun hg=>?_;try exact svx)|fail)))
    refine W.dr (.ro (.ro (Sel.all _))) ?_
    (repeat' first|refine svE ⟨?_⟩|refine .b fun b=>?_|refine .u fun u=>?_|refine .d ?_ ?_|(refine .g fun hg=>?_;try exact svx)|fail)
    refine R2.C (fc1 _) ?_
    (repeat' first|refine svE ⟨?_⟩|refine .b fun b=>?_|refine .u fun u=>?_|refine .d ?_ ?_|(refine .g fun hg=>?_;try exact svx)|fail)
    refine R2.E ?_ (App.app _ _);rw[List.append_nil]
    (repeat' first|refine svE ⟨?_⟩|refine .b fun b=>?_|refine .u fun u=>?_|refine .d ?_ ?_|(refine .g fun hg=>?_;try exact svx)|fail)
    refine S.call ?_;refine (dc _).mono ?_;rintro r h' ⟨rfl,hh⟩;subst hh
    (repeat' first|refine svE ⟨?_⟩|refine .b fun b=>?_|refine .u fun u=>?_|refine .d ?_ ?_|(refine .g fun hg=>?_;try exact svx)|fail)
    refine S.call ?_;refine (ac _).mono ?_;rintro r h' ⟨rfl,hh⟩;subst hh
    unfold AC.enc
    rw[hg,how]
    (repeat' (first|(refine iR2 ?_;refine r2b ?_;refine R2.one ?_)|(refine iS ?_;refine iN ?_;refine S.build1r ?_)|(refine iS ?_;refine iMu ?_;refine S.mapU ?_)|refine svF ⟨?_⟩|refine .b fun b=>?_|refine .u fun u=>?_|refine .d ?_ ?_|(refine .g fun hg=>?_;try exact svx)|refine sva ?_|refine sv3 ?_|fail))
    refine fin_r (h':=H) (Q:=fun r h'=>r=_∧h'=H) ?_;exact⟨rfl,rfl⟩
end Go.Proofs.YtbknacpdcdkjiaaGreat
