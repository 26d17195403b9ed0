/- The windows whose grabs a press may activate: none lies ready, so whichever. No condition. -/
import Derived.Test.YtbknacpdcdkjiaaGreatF13
namespace Go.Proofs.YtbknacpdcdkjiaaGreat
open Go Go.VM
attribute [local irreducible] PurV Pur Step RL W D ACalls Then InBlock Fini
set_option linter.unusedVariables false
set_option linter.unusedSimpArgs false
set_option maxHeartbeats 20000000
theorem filt_step {L Wo:List Int} {i:Nat} {a:Int} (ha:L[i]?=some a):(L.take (i+1)).filter (fun a=>!decide (a∈Wo))=(L.take i).filter (fun a=>!decide (a∈Wo))++(if !decide (a∈Wo) then [a] else []):=by
 rw[List.take_add_one,ha,List.filter_append]
 show _++List.filter _ [a]=_
 rw[List.filter_cons];rfl
def winF (s:RT) (p:Bool) (Wo:List Int):List Int:=if p=false∧s.fw=0 then [] else ((if p then pathA s.up s.un else if s.fw=1 then (if (pathA s.up s.un).length=0 then [1] else pathA s.up s.un) else pathA s.up s.fw).filter fun a=>!decide (a∈Wo)).reverse
set_option maxRecDepth 100000 in
theorem windows_c0 (b0:Nat) (v:AV) (s:RT) (p:Bool) (Wo:List Int) (H:Heap) (hm:OE.box b0 (runC s v) 135∈H) (ok:s.Ok) :
  ACalls Tryz.prog 111 [.val (.pointer (some ⟨b0,0,none⟩)),AV.val (.bool (p)),AV.ro 1 (ints .u32 (Wo))] H (fun r h'=>(r=.val (.slice none 0 0)∧winF s p Wo=[]∧h'=H)∨∃w,r=.val w∧h'=.own w 1 (ints .u32 (winF s p Wo)) 38::H):=by
 have pc:=fun h=>path_all ok.tw (by have:=ok.ul;omega) s.un h
 have pf:=fun h=>path_all ok.tw (by have:=ok.ul;omega) s.fw h
 have ct:=fun x h=>contains_c Wo x h
 have hl1:=pathA_len ok.tw s.un
 have hl2:=pathA_len ok.tw s.fw
 have hul:=ok.ul
 have rc:=fun v l hl h=>rev_c v l h hl
 unfold runC encT at *
 cases p with
 | true=>
  rw[show winF s true Wo=((pathA s.up s.un).filter fun a=>!decide (a∈Wo)).reverse by unfold winF;rw[if_neg (by simp),if_pos rfl]]
  generalize pathA s.up s.un=L at *
  refine ACalls.intro Tryz.func111 rfl Tryz.ntmps111 Tryz.results111 (Nat.le_of_ble_eq_true rfl) ?_
  (repeat' ((fail_if_success (refine drg ?_));(first|refine svE ⟨?_⟩|refine .b fun b=>?_|refine .u fun u=>?_|refine .d ?_ ?_|(refine .g fun hg=>?_;try exact svx)|fail)))
  refine W.dr (Sel.all _) ?_
  (repeat' first|refine svE ⟨?_⟩|refine .b fun b=>?_|refine .u fun u=>?_|refine .d ?_ ?_|(refine .g fun hg=>?_;try exact svx)|fail)
  refine R2.C (pc _) ?_
  (repeat' first|refine svE ⟨?_⟩|refine .b fun b=>?_|refine .u fun u=>?_|refine .d ?_ ?_|(refine .g fun hg=>?_;try exact svx)|fail)
  refine R2.E ?_ (App.app _ _);rw[List.append_nil]
  (repeat' first|refine svE ⟨?_⟩|refine .b fun b=>?_|refine .u fun u=>?_|refine .d ?_ ?_|(refine .g fun hg=>?_;try exact svx)|fail)
  refine W.nil_ 1 38 ?_;refine W.loop (J:=fun z:Nat × Value=>⟨74,[(58,AV.val (.int .i64 ((z.1:Nat)))),(57,AV.val (.int .i64 ((L.length:Nat)))),(56,AV.ro 1 (ints .u32 (L))),(8,.val z.2),(2,AV.ro 1 (ints .u32 (Wo)))],.own z.2 1 (ints .u32 ((L.take z.1).filter fun a=>!decide (a∈Wo))) 38::H⟩) (Φ:=fun z=>z.1≤L.length) (μ:=fun z=>L.length - z.1) (0,.slice none 0 0) lee (Nat.zero_le _) ?_;rintro⟨i,w⟩ hi;dsimp only at hi ⊢;have hfl:=Nat.le_trans (List.length_filter_le (fun a=>!decide (a∈Wo)) (L.take i)) (List.length_take_le i L);rcases Nat.lt_or_ge i L.length with hlt|hge;(obtain⟨a,ha⟩:∃a,L[i]?=some a:=⟨_,List.getElem?_eq_getElem hlt⟩;have ct1:=ct a;have ft:(L.take (i+1)).filter (fun a=>!decide (a∈Wo))=(L.take i).filter (fun a=>!decide (a∈Wo))++(if !decide (a∈Wo) then [a] else []):=filt_step ha;generalize decide (a∈Wo)=q at ct1 ft;(cases q;(rw[if_pos (by decide)] at ft;generalize (L.take i).filter (fun a=>!decide (a∈Wo))=l at *;(repeat' first|refine svE ⟨?_⟩|refine .b fun b=>?_|refine .u fun u=>?_|refine .d ?_ ?_|(refine .g fun hg=>?_;try exact svx)|fail);refine S.call ?_;refine (ct1 _).mono ?_;rintro r h' ⟨rfl,hh⟩;subst hh;(repeat' (first|(refine iR2 ?_;refine r2b ?_;refine R2.one ?_)|(refine iS ?_;refine iN ?_;refine S.build1r ?_)|(refine iS ?_;refine iMu ?_;refine S.mapU ?_)|refine svF ⟨?_⟩|refine .b fun b=>?_|refine .u fun u=>?_|refine .d ?_ ?_|(refine .g fun hg=>?_;try exact svx)|refine sva ?_|refine sv3 ?_|fail));rw[←ints_snoc];exact⟨(i+1,_),hlt,(by dsimp only;rw[ft];exact lee),by dsimp only;omega⟩);(rw[if_neg (by decide),List.append_nil] at ft;generalize (L.take i).filter (fun a=>!decide (a∈Wo))=l at *;(repeat' first|refine svE ⟨?_⟩|refine .b fun b=>?_|refine .u fun u=>?_|refine .d ?_ ?_|(refine .g fun hg=>?_;try exact svx)|fail);refine S.call ?_;refine (ct1 _).mono ?_;rintro r h' ⟨rfl,hh⟩;subst hh;(repeat' (first|(refine iR2 ?_;refine r2b ?_;refine R2.one ?_)|(refine iS ?_;refine iN ?_;refine S.build1r ?_)|(refine iS ?_;refine iMu ?_;refine S.mapU ?_)|refine svF ⟨?_⟩|refine .b fun b=>?_|refine .u fun u=>?_|refine .d ?_ ?_|(refine .g fun hg=>?_;try exact svx)|refine sva ?_|refine sv3 ?_|fail));exact⟨(i+1,w),hlt,(by dsimp only;rw[ft];exact lee),by dsimp only;omega⟩)));(rw[List.take_of_length_le hge] at hfl ⊢;generalize L.filter (fun a=>!decide (a∈Wo))=l at *;(repeat' first|refine svE ⟨?_⟩|refine .b fun b=>?_|refine .u fun u=>?_|refine .d ?_ ?_|(refine .g fun hg=>?_;try exact svx)|fail);refine S.call ?_;refine (rc w l (by omega) _).mono ?_;rintro r h' ⟨rfl,hh⟩;subst hh;(repeat' first|refine svE ⟨?_⟩|refine .b fun b=>?_|refine .u fun u=>?_|refine .d ?_ ?_|(refine .g fun hg=>?_;try exact svx)|fail);exact fin_r (h':=.own w 1 (ints .u32 l.reverse) 38::H) (.inr ⟨w,rfl,rfl⟩))
 | false=>
  by_cases h0:s.fw=0
  ·rw[show winF s false Wo=[] by unfold winF;rw[if_pos ⟨rfl,h0⟩]]
   rw[h0] at hm
   refine ACalls.intro Tryz.func111 rfl Tryz.ntmps111 Tryz.results111 (Nat.le_of_ble_eq_true rfl) ?_
   (repeat' ((fail_if_success (refine drg ?_));(first|refine svE ⟨?_⟩|refine .b fun b=>?_|refine .u fun u=>?_|refine .d ?_ ?_|(refine .g fun hg=>?_;try exact svx)|fail)))
   refine W.dr (Sel.all _) ?_
   (repeat' first|refine svE ⟨?_⟩|refine .b fun b=>?_|refine .u fun u=>?_|refine .d ?_ ?_|(refine .g fun hg=>?_;try exact svx)|fail)
   refine R2.C (pc _) ?_
   (repeat' first|refine svE ⟨?_⟩|refine .b fun b=>?_|refine .u fun u=>?_|refine .d ?_ ?_|(refine .g fun hg=>?_;try exact svx)|fail)
   refine R2.E ?_ (App.app _ _);rw[List.append_nil]
   (repeat' first|refine svE ⟨?_⟩|refine .b fun b=>?_|refine .u fun u=>?_|refine .d ?_ ?_|(refine .g fun hg=>?_;try exact svx)|fail)
   exact fin_r (h':=H) (.inl ⟨rfl,rfl,rfl⟩)
  ·by_cases h1:s.fw=1
   ·have hw:winF s false Wo=((if (pathA s.up s.un).length=0 then [1] else pathA s.up s.un).filter fun a=>!decide (a∈Wo)).reverse:=by unfold winF;rw[if_neg (fun q=>h0 q.2),if_neg (by simp),if_pos h1]
    rw[hw]
    clear hw
    rw[h1] at hm
    by_cases hL:(pathA s.up s.un).length=0
    ·have hL2:pathA s.up s.un=[]:=List.length_eq_zero_iff.1 hL
     rw[hL2] at pc
     rw[if_pos hL]
     refine ACalls.intro Tryz.func111 rfl Tryz.ntmps111 Tryz.results111 (Nat.le_of_ble_eq_true rfl) ?_
     (repeat' ((fail_if_success (refine drg ?_));(first|refine svE ⟨?_⟩|refine .b fun b=>?_|refine .u fun u=>?_|refine .d ?_ ?_|(refine .g fun hg=>?_;try exact svx)|fail)))
     refine W.dr (Sel.all _) ?_
     (repeat' first|refine svE ⟨?_⟩|refine .b fun b=>?_|refine .u fun u=>?_|refine .d ?_ ?_|(refine .g fun hg=>?_;try exact svx)|fail)
     refine R2.C (pc _) ?_
     (repeat' first|refine svE ⟨?_⟩|refine .b fun b=>?_|refine .u fun u=>?_|refine .d ?_ ?_|(refine .g fun hg=>?_;try exact svx)|fail)
     refine R2.E ?_ (App.app _ _);rw[List.append_nil]
     (repeat' (first|(refine iR2 ?_;refine r2b ?_;refine R2.one ?_)|(refine iS ?_;refine iN ?_;refine S.build1r ?_)|(refine iS ?_;refine iMu ?_;refine S.mapU ?_)|refine svF ⟨?_⟩|refine .b fun b=>?_|refine .u fun u=>?_|refine .d ?_ ?_|(refine .g fun hg=>?_;try exact svx)|refine sva ?_|refine sv3 ?_|fail))
     rw[show (AV.ro 1 [.val (.int .u32 1)])=.ro 1 (ints .u32 [1]) from rfl,show ((0+1:Nat):Int)=(([1]:List Int).length:Int) from rfl]
     generalize hL1:([1]:List Int)=L
     have hl1:L.length=1:=by rw[←hL1];rfl
     refine W.nil_ 1 38 ?_;refine W.loop (J:=fun z:Nat × Value=>⟨74,[(58,AV.val (.int .i64 ((z.1:Nat)))),(57,AV.val (.int .i64 ((L.length:Nat)))),(56,AV.ro 1 (ints .u32 (L))),(8,.val z.2),(2,AV.ro 1 (ints .u32 (Wo)))],.own z.2 1 (ints .u32 ((L.take z.1).filter fun a=>!decide (a∈Wo))) 38::H⟩) (Φ:=fun z=>z.1≤L.length) (μ:=fun z=>L.length - z.1) (0,.slice none 0 0) lee (Nat.zero_le _) ?_;rintro⟨i,w⟩ hi;dsimp only at hi ⊢;have hfl:=Nat.le_trans (List.length_filter_le (fun a=>!decide (a∈Wo)) (L.take i)) (List.length_take_le i L);rcases Nat.lt_or_ge i L.length with hlt|hge;(obtain⟨a,ha⟩:∃a,L[i]?=some a:=⟨_,List.getElem?_eq_getElem hlt⟩;have ct1:=ct a;have ft:(L.take (i+1)).filter (fun a=>!decide (a∈Wo))=(L.take i).filter (fun a=>!decide (a∈Wo))++(if !decide (a∈Wo) then [a] else []):=filt_step ha;generalize decide (a∈Wo)=q at ct1 ft;(cases q;(rw[if_pos (by decide)] at ft;generalize (L.take i).filter (fun a=>!decide (a∈Wo))=l at *;(repeat' first|refine svE ⟨?_⟩|refine .b fun b=>?_|refine .u fun u=>?_|refine .d ?_ ?_|(refine .g fun hg=>?_;try exact svx)|fail);refine S.call ?_;refine (ct1 _).mono ?_;rintro r h' ⟨rfl,hh⟩;subst hh;(repeat' (first|(refine iR2 ?_;refine r2b ?_;refine R2.one ?_)|(refine iS ?_;refine iN ?_;refine S.build1r ?_)|(refine iS ?_;refine iMu ?_;refine S.mapU ?_)|refine svF ⟨?_⟩|refine .b fun b=>?_|refine .u fun u=>?_|refine .d ?_ ?_|(refine .g fun hg=>?_;try exact svx)|refine sva ?_|refine sv3 ?_|fail));rw[←ints_snoc];exact⟨(i+1,_),hlt,(by dsimp only;rw[ft];exact lee),by dsimp only;omega⟩);(rw[if_neg (by decide),List.append_nil] at ft;generalize (L.take i).filter (fun a=>!decide (a∈Wo))=l at *;(repeat' first|refine svE ⟨?_⟩|refine .b fun b=>?_|refine .u fun u=>?_|refine .d ?_ ?_|(refine .g fun hg=>?_;try exact svx)|fail);refine S.call ?_;refine (ct1 _).mono ?_;rintro r h' ⟨rfl,hh⟩;subst hh;(repeat' (first|(refine iR2 ?_;refine r2b ?_;refine R2.one ?_)|(refine iS ?_;refine iN ?_;refine S.build1r ?_)|(refine iS ?_;refine iMu ?_;refine S.mapU ?_)|refine svF ⟨?_⟩|refine .b fun b=>?_|refine .u fun u=>?_|refine .d ?_ ?_|(refine .g fun hg=>?_;try exact svx)|refine sva ?_|refine sv3 ?_|fail));exact⟨(i+1,w),hlt,(by dsimp only;rw[ft];exact lee),by dsimp only;omega⟩)));(rw[List.take_of_length_le hge] at hfl ⊢;generalize L.filter (fun a=>!decide (a∈Wo))=l at *;(repeat' first|refine svE ⟨?_⟩|refine .b fun b=>?_|refine .u fun u=>?_|refine .d ?_ ?_|(refine .g fun hg=>?_;try exact svx)|fail);refine S.call ?_;refine (rc w l (by omega) _).mono ?_;rintro r h' ⟨rfl,hh⟩;subst hh;(repeat' first|refine svE ⟨?_⟩|refine .b fun b=>?_|refine .u fun u=>?_|refine .d ?_ ?_|(refine .g fun hg=>?_;try exact svx)|fail);exact fin_r (h':=.own w 1 (ints .u32 l.reverse) 38::H) (.inr ⟨w,rfl,rfl⟩))
    ·rw[if_neg hL]
     generalize pathA s.up s.un=L at *
     refine ACalls.intro Tryz.func111 rfl Tryz.ntmps111 Tryz.results111 (Nat.le_of_ble_eq_true rfl) ?_
     (repeat' ((fail_if_success (refine drg ?_));(first|refine svE ⟨?_⟩|refine .b fun b=>?_|refine .u fun u=>?_|refine .d ?_ ?_|(refine .g fun hg=>?_;try exact svx)|fail)))
     refine W.dr (Sel.all _) ?_
     (repeat' first|refine svE ⟨?_⟩|refine .b fun b=>?_|refine .u fun u=>?_|refine .d ?_ ?_|(refine .g fun hg=>?_;try exact svx)|fail)
     refine R2.C (pc _) ?_
     (repeat' first|refine svE ⟨?_⟩|refine .b fun b=>?_|refine .u fun u=>?_|refine .d ?_ ?_|(refine .g fun hg=>?_;try exact svx)|fail)
     refine R2.E ?_ (App.app _ _);rw[List.append_nil]
     (repeat' first|refine svE ⟨?_⟩|refine .b fun b=>?_|refine .u fun u=>?_|refine .d ?_ ?_|(refine .g fun hg=>?_;try exact svx)|fail)
     refine W.nil_ 1 38 ?_;refine W.loop (J:=fun z:Nat × Value=>⟨74,[(58,AV.val (.int .i64 ((z.1:Nat)))),(57,AV.val (.int .i64 ((L.length:Nat)))),(56,AV.ro 1 (ints .u32 (L))),(8,.val z.2),(2,AV.ro 1 (ints .u32 (Wo)))],.own z.2 1 (ints .u32 ((L.take z.1).filter fun a=>!decide (a∈Wo))) 38::H⟩) (Φ:=fun z=>z.1≤L.length) (μ:=fun z=>L.length - z.1) (0,.slice none 0 0) lee (Nat.zero_le _) ?_;rintro⟨i,w⟩ hi;dsimp only at hi ⊢;have hfl:=Nat.le_trans (List.length_filter_le (fun a=>!decide (a∈Wo)) (L.take i)) (List.length_take_le i L);rcases Nat.lt_or_ge i L.length with hlt|hge;(obtain⟨a,ha⟩:∃a,L[i]?=some a:=⟨_,List.getElem?_eq_getElem hlt⟩;have ct1:=ct a;have ft:(L.take (i+1)).filter (fun a=>!decide (a∈Wo))=(L.take i).filter (fun a=>!decide (a∈Wo))++(if !decide (a∈Wo) then [a] else []):=filt_step ha;generalize decide (a∈Wo)=q at ct1 ft;(cases q;(rw[if_pos (by decide)] at ft;generalize (L.take i).filter (fun a=>!decide (a∈Wo))=l at *;(repeat' first|refine svE ⟨?_⟩|refine .b fun b=>?_|refine .u fun u=>?_|refine .d ?_ ?_|(refine .g fun hg=>?_;try exact svx)|fail);refine S.call ?_;refine (ct1 _).mono ?_;rintro r h' ⟨rfl,hh⟩;subst hh;(repeat' (first|(refine iR2 ?_;refine r2b ?_;refine R2.one ?_)|(refine iS ?_;refine iN ?_;refine S.build1r ?_)|(refine iS ?_;refine iMu ?_;refine S.mapU ?_)|refine svF ⟨?_⟩|refine .b fun b=>?_|refine .u fun u=>?_|refine .d ?_ ?_|(refine .g fun hg=>?_;try exact svx)|refine sva ?_|refine sv3 ?_|fail));rw[←ints_snoc];exact⟨(i+1,_),hlt,(by dsimp only;rw[ft];exact lee),by dsimp only;omega⟩);(rw[if_neg (by decide),List.append_nil] at ft;generalize (L.take i).filter (fun a=>!decide (a∈Wo))=l at *;(repeat' first|refine svE ⟨?_⟩|refine .b fun b=>?_|refine .u fun u=>?_|refine .d ?_ ?_|(refine .g fun hg=>?_;try exact svx)|fail);refine S.call ?_;refine (ct1 _).mono ?_;rintro r h' ⟨rfl,hh⟩;subst hh;(repeat' (first|(refine iR2 ?_;refine r2b ?_;refine R2.one ?_)|(refine iS ?_;refine iN ?_;refine S.build1r ?_)|(refine iS ?_;refine iMu ?_;refine S.mapU ?_)|refine svF ⟨?_⟩|refine .b fun b=>?_|refine .u fun u=>?_|refine .d ?_ ?_|(refine .g fun hg=>?_;try exact svx)|refine sva ?_|refine sv3 ?_|fail));exact⟨(i+1,w),hlt,(by dsimp only;rw[ft];exact lee),by dsimp only;omega⟩)));(rw[List.take_of_length_le hge] at hfl ⊢;generalize L.filter (fun a=>!decide (a∈Wo))=l at *;(repeat' first|refine svE ⟨?_⟩|refine .b fun b=>?_|refine .u fun u=>?_|refine .d ?_ ?_|(refine .g fun hg=>?_;try exact svx)|fail);refine S.call ?_;refine (rc w l (by omega) _).mono ?_;rintro r h' ⟨rfl,hh⟩;subst hh;(repeat' first|refine svE ⟨?_⟩|refine .b fun b=>?_|refine .u fun u=>?_|refine .d ?_ ?_|(refine .g fun hg=>?_;try exact svx)|fail);exact fin_r (h':=.own w 1 (ints .u32 l.reverse) 38::H) (.inr ⟨w,rfl,rfl⟩))
   ·rw[show winF s false Wo=((pathA s.up s.fw).filter fun a=>!decide (a∈Wo)).reverse by unfold winF;rw[if_neg (fun q=>h0 q.2),if_neg (by simp),if_neg h1]]
    refine ACalls.intro Tryz.func111 rfl Tryz.ntmps111 Tryz.results111 (Nat.le_of_ble_eq_true rfl) ?_
    (repeat' ((fail_if_success (refine drg ?_));(first|refine svE ⟨?_⟩|refine .b fun b=>?_|refine .u fun u=>?_|refine .d ?_ ?_|(refine .g fun hg=>?_;try exact svx)|fail)))
    refine W.dr (Sel.all _) ?_
    (repeat' first|refine svE ⟨?_⟩|refine .b fun b=>?_|refine .u fun u=>?_|refine .d ?_ ?_|(refine .g fun hg=>?_;try exact svx)|fail)
    refine R2.C (pc _) ?_
    (repeat' first|refine svE ⟨?_⟩|refine .b fun b=>?_|refine .u fun u=>?_|refine .d ?_ ?_|(refine .g fun hg=>?_;try exact svx)|fail)
    refine R2.E ?_ (App.app _ _);rw[List.append_nil]
    (repeat' ((fail_if_success (refine drg ?_));(first|refine svE ⟨?_⟩|refine .b fun b=>?_|refine .u fun u=>?_|refine .d ?_ ?_|(refine .g fun hg=>?_;try exact svx)|fail)))
    generalize pathA s.up s.fw=L at *
    refine W.dr (Sel.all _) ?_
    (repeat' first|refine svE ⟨?_⟩|refine .b fun b=>?_|refine .u fun u=>?_|refine .d ?_ ?_|(refine .g fun hg=>?_;try exact svx)|fail)
    refine R2.C (pf _) ?_
    (repeat' first|refine svE ⟨?_⟩|refine .b fun b=>?_|refine .u fun u=>?_|refine .d ?_ ?_|(refine .g fun hg=>?_;try exact svx)|fail)
    refine R2.E ?_ (App.app _ _);rw[List.append_nil]
    (repeat' first|refine svE ⟨?_⟩|refine .b fun b=>?_|refine .u fun u=>?_|refine .d ?_ ?_|(refine .g fun hg=>?_;try exact svx)|fail)
    refine W.nil_ 1 38 ?_;refine W.loop (J:=fun z:Nat × Value=>⟨74,[(58,AV.val (.int .i64 ((z.1:Nat)))),(57,AV.val (.int .i64 ((L.length:Nat)))),(56,AV.ro 1 (ints .u32 (L))),(8,.val z.2),(2,AV.ro 1 (ints .u32 (Wo)))],.own z.2 1 (ints .u32 ((L.take z.1).filter fun a=>!decide (a∈Wo))) 38::H⟩) (Φ:=fun z=>z.1≤L.length) (μ:=fun z=>L.length - z.1) (0,.slice none 0 0) lee (Nat.zero_le _) ?_;rintro⟨i,w⟩ hi;dsimp only at hi ⊢;have hfl:=Nat.le_trans (List.length_filter_le (fun a=>!decide (a∈Wo)) (L.take i)) (List.length_take_le i L);rcases Nat.lt_or_ge i L.length with hlt|hge;(obtain⟨a,ha⟩:∃a,L[i]?=some a:=⟨_,List.getElem?_eq_getElem hlt⟩;have ct1:=ct a;have ft:(L.take (i+1)).filter (fun a=>!decide (a∈Wo))=(L.take i).filter (fun a=>!decide (a∈Wo))++(if !decide (a∈Wo) then [a] else []):=filt_step ha;generalize decide (a∈Wo)=q at ct1 ft;(cases q;(rw[if_pos (by decide)] at ft;generalize (L.take i).filter (fun a=>!decide (a∈Wo))=l at *;(repeat' first|refine svE ⟨?_⟩|refine .b fun b=>?_|refine .u fun u=>?_|refine .d ?_ ?_|(refine .g fun hg=>?_;try exact svx)|fail);refine S.call ?_;refine (ct1 _).mono ?_;rintro r h' ⟨rfl,hh⟩;subst hh;(repeat' (first|(refine iR2 ?_;refine r2b ?_;refine R2.one ?_)|(refine iS ?_;refine iN ?_;refine S.build1r ?_)|(refine iS ?_;refine iMu ?_;refine S.mapU ?_)|refine svF ⟨?_⟩|refine .b fun b=>?_|refine .u fun u=>?_|refine .d ?_ ?_|(refine .g fun hg=>?_;try exact svx)|refine sva ?_|refine sv3 ?_|fail));rw[←ints_snoc];exact⟨(i+1,_),hlt,(by dsimp only;rw[ft];exact lee),by dsimp only;omega⟩);(rw[if_neg (by decide),List.append_nil] at ft;generalize (L.take i).filter (fun a=>!decide (a∈Wo))=l at *;(repeat' first|refine svE ⟨?_⟩|refine .b fun b=>?_|refine .u fun u=>?_|refine .d ?_ ?_|(refine .g fun hg=>?_;try exact svx)|fail);refine S.call ?_;refine (ct1 _).mono ?_;rintro r h' ⟨rfl,hh⟩;subst hh;(repeat' (first|(refine iR2 ?_;refine r2b ?_;refine R2.one ?_)|(refine iS ?_;refine iN ?_;refine S.build1r ?_)|(refine iS ?_;refine iMu ?_;refine S.mapU ?_)|refine svF ⟨?_⟩|refine .b fun b=>?_|refine .u fun u=>?_|refine .d ?_ ?_|(refine .g fun hg=>?_;try exact svx)|refine sva ?_|refine sv3 ?_|fail));exact⟨(i+1,w),hlt,(by dsimp only;rw[ft];exact lee),by dsimp only;omega⟩)));(rw[List.take_of_length_le hge] at hfl ⊢;generalize L.filter (fun a=>!decide (a∈Wo))=l at *;(repeat' first|refine svE ⟨?_⟩|refine .b fun b=>?_|refine .u fun u=>?_|refine .d ?_ ?_|(refine .g fun hg=>?_;try exact svx)|fail);refine S.call ?_;refine (rc w l (by omega) _).mono ?_;rintro r h' ⟨rfl,hh⟩;subst hh;(repeat' first|refine svE ⟨?_⟩|refine .b fun b=>?_|refine .u fun u=>?_|refine .d ?_ ?_|(refine .g fun hg=>?_;try exact svx)|fail);exact fin_r (h':=.own w 1 (ints .u32 l.reverse) 38::H) (.inr ⟨w,rfl,rfl⟩))
theorem windows_c (b0:Nat) (v:AV) (s:RT) (p:Bool) (Wo:List Int) (H:Heap) (hm:OE.box b0 (runC s v) 135∈H) (ok:s.Ok) :
  ACalls Tryz.prog 111 [.val (.pointer (some ⟨b0,0,none⟩)),AV.val (.bool (p)),AV.ro 1 (ints .u32 (Wo))] H (fun r h'=>r=AV.ro 1 (ints .u32 (winF s p Wo))∧h'=H):=by
 refine ((windows_c0 b0 v s p Wo H hm ok).wk (Q':=fun r h'=>(r=AV.ro 1 (ints .u32 (winF s p Wo))∧h'=H)∨∃w,r=.val w∧h'=.own w 1 (ints .u32 (winF s p Wo)) 38::H) ?_).frzo ?_
 ·rintro r h' (⟨rfl,e,rfl⟩|⟨w,rfl,rfl⟩)
  ·exact⟨.ro 1 (ints .u32 []),.nilr 1,.inl ⟨by rw[e],rfl⟩⟩
  ·exact⟨_,.refl _,.inr ⟨w,rfl,rfl⟩⟩
 ·rintro r h' (⟨rfl,rfl⟩|⟨w,rfl,rfl⟩)
  ·exact .inl ⟨rfl,rfl⟩
  ·exact .inr ⟨w,1,_,_,_,H,.here,.hit,rfl,rfl⟩
end Go.Proofs.YtbknacpdcdkjiaaGreat
