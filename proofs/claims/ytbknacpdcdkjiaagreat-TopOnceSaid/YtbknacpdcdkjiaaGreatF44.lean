/- Steps from one window to another one. No condition. -/
import Derived.Test.YtbknacpdcdkjiaaGreatF43
import Derived.Test.YtbknacpdcdkjiaaGreatF22
namespace Go.Proofs.YtbknacpdcdkjiaaGreat
open Go Go.VM
attribute [local irreducible] PurV Pur Step RL W D ACalls Then InBlock Fini
set_option linter.unusedVariables false
set_option linter.unusedSimpArgs false
set_option maxHeartbeats 20000000
theorem aboveF_mem {L:List Int} {x i:Int} (h:i∈aboveF L x):i∈L:=by
 unfold aboveF at h
 split at h
 ·exact List.mem_of_mem_drop (List.mem_of_mem_take h)
 ·exact List.mem_of_mem_drop h
theorem aboveF_len (L:List Int) (x:Int):(aboveF L x).length≤L.length:=by
 unfold aboveF
 split
 ·rw[List.length_take,List.length_drop];omega
 ·rw[List.length_drop];omega
set_option maxRecDepth 100000 in
theorem cpath_c0 {k:SVT} {up:UP} (w:TW k up) (hl:up.length≤1000) (h0:hasT up 0=false) (a c:Int) (ha:hasT up a=true) (hc:hasT up c=true) (h:Heap) :
  ACalls Tryz.prog 87 [encT k up,AV.val (.int .u32 (a)),AV.val (.int .u32 (c))] h (fun r h'=>(r=.val (.slice none 0 0)∧crossF up a c=[]∧h'=h)∨∃v,r=.val v∧h'=.own v 3 ((crossF up a c).map csE) 194::h):=by
 have pa:=fun h=>path_all w (by omega) a h
 have pc:=fun h=>path_all w (by omega) c h
 have mt:=fun h=>tmeet_c w hl a c h
 have hl1:=pathA_len w a
 have hl2:=pathA_len w c
 obtain⟨m,A,C,em,hm,_⟩:=meet_split w ha hc
 have nz:∀{i:Int},hasT up i=true→i≠0:=fun q e=>by rw[e,h0] at q;cases q
 have nzA:∀x,∀i∈aboveF (pathA up a) x,i≠0:=fun x i hi=>nz (pathA_has w (aboveF_mem hi))
 have nzC:∀x,∀i∈aboveF (pathA up c) x,i≠0:=fun x i hi=>nz (pathA_has w (aboveF_mem hi))
 have lA:=fun x=>aboveF_len (pathA up a) x
 have lC:=fun x=>aboveF_len (pathA up c) x
 have ab:=fun x h=>cabove_c a x (rP up a) h (by have:=(w.pthR ha).2;omega)
 have ac:=fun x h=>cabove_c c x (rP up c) h (by have:=(w.pthR hc).2;omega)
 rw[←pathA_eq w ha] at ab
 rw[←pathA_eq w hc] at ac
 have na:=nz ha
 have nc:=nz hc
 rw[em] at mt
 unfold meetV at mt
 have p1:=fun b7 v L i e d H hi hl=>path1_c b7 v L i e d H hi hl
 have u1:=fun b7 v L P e d H hP hl=>cup_c b7 v L P e d H hP hl
 have d1:=fun b7 v L P e d H hP hl=>cdown_c b7 v L P e d H hP hl
 unfold encT at *
 by_cases hac:a=c
 ·have e:crossF up a c=[]:=by unfold crossF;rw[if_pos hac]
  rw[e]
  refine ACalls.intro Tryz.func87 rfl Tryz.ntmps87 Tryz.results87 (Nat.le_of_ble_eq_true rfl) ?_
  (repeat' first|refine svE ⟨?_⟩|refine .b fun b=>?_|refine .u fun u=>?_|refine .d ?_ ?_|(refine .g fun hg=>?_;try exact svx)|fail)
  exact fin_r (h':=h) (.inl ⟨rfl,rfl,rfl⟩)
 by_cases h1:m=a
 ·have e:crossF up a c=([(a,false,2)]++(aboveF (pathA up c) a).reverse.map fun i=>((i,true,1):CS3))++[(c,true,0)]:=by
   unfold crossF;rw[if_neg hac,em];dsimp only;rw[if_pos h1];rfl
  rw[e]
  clear e em
  refine ACalls.intro Tryz.func87 rfl Tryz.ntmps87 Tryz.results87 (Nat.le_of_ble_eq_true rfl) ?_
  refine W.nil_ 3 194 ?_
  (repeat' first|refine svE ⟨?_⟩|refine .b fun b=>?_|refine .u fun u=>?_|refine .d ?_ ?_|(refine .g fun hg=>?_;try exact svx)|fail)
  rename_i b3
  revert b;intro b7
  refine R2.C (pa _) ?_
  (repeat' first|refine svE ⟨?_⟩|refine .b fun b=>?_|refine .u fun u=>?_|refine .d ?_ ?_|(refine .g fun hg=>?_;try exact svx)|fail)
  refine R2.C (pc _) ?_
  (repeat' first|refine svE ⟨?_⟩|refine .b fun b=>?_|refine .u fun u=>?_|refine .d ?_ ?_|(refine .g fun hg=>?_;try exact svx)|fail)
  refine S.call ?_;refine (mt _).mono ?_;rintro r h' ⟨rfl,hh⟩;subst hh
  (repeat' first|refine svE ⟨?_⟩|refine .b fun b=>?_|refine .u fun u=>?_|refine .d ?_ ?_|(refine .g fun hg=>?_;try exact svx)|fail)
  refine Step.le (s':=⟨108,[(77,.clo (.func 122) [.val (.pointer (some ⟨b7,0,none⟩))]),(79,.agg [AV.val (.int .u32 (a)),AV.val (.bool (false)),AV.val (.int .i64 (2))]),(12,AV.val (.bool (true))),(11,AV.val (.int .u32 (m))),(10,AV.ro 1 (ints .u32 (pathA up c))),(9,AV.ro 1 (ints .u32 (pathA up a))),(8,.clo (.func 122) [.val (.pointer (some ⟨b7,0,none⟩))]),(7,.val (.pointer (some ⟨b7,0,none⟩))),(1,AV.val (.int .u32 (a))),(2,AV.val (.int .u32 (c)))],.box b7 [.val (.slice none 0 0)] 191::.own (.slice none 0 0) 3 ((([]:List CS3)).map csE) 194::.box b3 [mapV .u32 vIds k,mapV .u32 (vI .u32) up] 28::h⟩) lee ?_
  refine S.callv (.clo 122 [.val (.pointer (some ⟨b7,0,none⟩))]) ((p1 b7 _ [] a false 2 _ na (by simp)).mono ?_);rintro r h' ⟨v1,rfl,hh⟩;subst hh;(repeat' first|refine svE ⟨?_⟩|refine .b fun b=>?_|refine .u fun u=>?_|refine .d ?_ ?_|(refine .g fun hg=>?_;try exact svx)|fail)
  refine S.call ?_;refine (ac a _).mono ?_;rintro r h' ⟨rfl,hh⟩;subst hh
  (repeat' first|refine svE ⟨?_⟩|refine .b fun b=>?_|refine .u fun u=>?_|refine .d ?_ ?_|(refine .g fun hg=>?_;try exact svx)|fail)
  refine S.call ?_;refine (d1 b7 _ _ _ true 1 _ (nzC a) (by simp;have:=lC a;omega)).mono ?_;rintro r h' ⟨v1,rfl,hh⟩;subst hh;(repeat' first|refine svE ⟨?_⟩|refine .b fun b=>?_|refine .u fun u=>?_|refine .d ?_ ?_|(refine .g fun hg=>?_;try exact svx)|fail)
  refine S.callv (.clo 122 [.val (.pointer (some ⟨b7,0,none⟩))]) ((p1 b7 _ _ c true 0 _ nc (by simp;have:=lC a;omega)).mono ?_);rintro r h' ⟨v1,rfl,hh⟩;subst hh;(repeat' first|refine svE ⟨?_⟩|refine .b fun b=>?_|refine .u fun u=>?_|refine .d ?_ ?_|(refine .g fun hg=>?_;try exact svx)|fail)
  exact fin_r (h':=.own v1 3 ((([]++[(a,false,2)]++(aboveF (pathA up c) a).reverse.map fun i=>((i,true,1):CS3))++[(c,true,0)]).map csE) 194::h) (.inr ⟨v1,rfl,rfl⟩)
 by_cases h2:m=c
 ·have e:crossF up a c=([(a,false,0)]++(aboveF (pathA up a) c).map fun i=>((i,false,1):CS3))++[(c,true,2)]:=by
   unfold crossF;rw[if_neg hac,em];dsimp only;rw[if_neg h1,if_pos h2];rfl
  rw[e]
  clear e em
  refine ACalls.intro Tryz.func87 rfl Tryz.ntmps87 Tryz.results87 (Nat.le_of_ble_eq_true rfl) ?_
  refine W.nil_ 3 194 ?_
  (repeat' first|refine svE ⟨?_⟩|refine .b fun b=>?_|refine .u fun u=>?_|refine .d ?_ ?_|(refine .g fun hg=>?_;try exact svx)|fail)
  rename_i b3
  revert b;intro b7
  refine R2.C (pa _) ?_
  (repeat' first|refine svE ⟨?_⟩|refine .b fun b=>?_|refine .u fun u=>?_|refine .d ?_ ?_|(refine .g fun hg=>?_;try exact svx)|fail)
  refine R2.C (pc _) ?_
  (repeat' first|refine svE ⟨?_⟩|refine .b fun b=>?_|refine .u fun u=>?_|refine .d ?_ ?_|(refine .g fun hg=>?_;try exact svx)|fail)
  refine S.call ?_;refine (mt _).mono ?_;rintro r h' ⟨rfl,hh⟩;subst hh
  (repeat' first|refine svE ⟨?_⟩|refine .b fun b=>?_|refine .u fun u=>?_|refine .d ?_ ?_|(refine .g fun hg=>?_;try exact svx)|fail)
  refine Step.le (s':=⟨108,[(94,.clo (.func 122) [.val (.pointer (some ⟨b7,0,none⟩))]),(96,.agg [AV.val (.int .u32 (a)),AV.val (.bool (false)),AV.val (.int .i64 (0))]),(12,AV.val (.bool (true))),(11,AV.val (.int .u32 (m))),(10,AV.ro 1 (ints .u32 (pathA up c))),(9,AV.ro 1 (ints .u32 (pathA up a))),(8,.clo (.func 122) [.val (.pointer (some ⟨b7,0,none⟩))]),(7,.val (.pointer (some ⟨b7,0,none⟩))),(1,AV.val (.int .u32 (a))),(2,AV.val (.int .u32 (c)))],.box b7 [.val (.slice none 0 0)] 191::.own (.slice none 0 0) 3 ((([]:List CS3)).map csE) 194::.box b3 [mapV .u32 vIds k,mapV .u32 (vI .u32) up] 28::h⟩) lee ?_
  refine S.callv (.clo 122 [.val (.pointer (some ⟨b7,0,none⟩))]) ((p1 b7 _ [] a false 0 _ na (by simp)).mono ?_);rintro r h' ⟨v1,rfl,hh⟩;subst hh;(repeat' first|refine svE ⟨?_⟩|refine .b fun b=>?_|refine .u fun u=>?_|refine .d ?_ ?_|(refine .g fun hg=>?_;try exact svx)|fail)
  refine S.call ?_;refine (ab c _).mono ?_;rintro r h' ⟨rfl,hh⟩;subst hh
  (repeat' first|refine svE ⟨?_⟩|refine .b fun b=>?_|refine .u fun u=>?_|refine .d ?_ ?_|(refine .g fun hg=>?_;try exact svx)|fail)
  refine S.call ?_;refine (u1 b7 _ _ _ false 1 _ (nzA c) (by simp;have:=lA c;omega)).mono ?_;rintro r h' ⟨v1,rfl,hh⟩;subst hh;(repeat' first|refine svE ⟨?_⟩|refine .b fun b=>?_|refine .u fun u=>?_|refine .d ?_ ?_|(refine .g fun hg=>?_;try exact svx)|fail)
  refine S.callv (.clo 122 [.val (.pointer (some ⟨b7,0,none⟩))]) ((p1 b7 _ _ c true 2 _ nc (by simp;have:=lA c;omega)).mono ?_);rintro r h' ⟨v1,rfl,hh⟩;subst hh;(repeat' first|refine svE ⟨?_⟩|refine .b fun b=>?_|refine .u fun u=>?_|refine .d ?_ ?_|(refine .g fun hg=>?_;try exact svx)|fail)
  exact fin_r (h':=.own v1 3 ((([]++[(a,false,0)]++(aboveF (pathA up a) c).map fun i=>((i,false,1):CS3))++[(c,true,2)]).map csE) 194::h) (.inr ⟨v1,rfl,rfl⟩)
 ·have e:crossF up a c=(([(a,false,3)]++(aboveF (pathA up a) m).map fun i=>((i,false,4):CS3))++(aboveF (pathA up c) m).reverse.map fun i=>((i,true,4):CS3))++[(c,true,3)]:=by
   unfold crossF;rw[if_neg hac,em];dsimp only;rw[if_neg h1,if_neg h2];rfl
  rw[e]
  clear e em
  refine ACalls.intro Tryz.func87 rfl Tryz.ntmps87 Tryz.results87 (Nat.le_of_ble_eq_true rfl) ?_
  refine W.nil_ 3 194 ?_
  (repeat' first|refine svE ⟨?_⟩|refine .b fun b=>?_|refine .u fun u=>?_|refine .d ?_ ?_|(refine .g fun hg=>?_;try exact svx)|fail)
  rename_i b3
  revert b;intro b7
  refine R2.C (pa _) ?_
  (repeat' first|refine svE ⟨?_⟩|refine .b fun b=>?_|refine .u fun u=>?_|refine .d ?_ ?_|(refine .g fun hg=>?_;try exact svx)|fail)
  refine R2.C (pc _) ?_
  (repeat' first|refine svE ⟨?_⟩|refine .b fun b=>?_|refine .u fun u=>?_|refine .d ?_ ?_|(refine .g fun hg=>?_;try exact svx)|fail)
  refine S.call ?_;refine (mt _).mono ?_;rintro r h' ⟨rfl,hh⟩;subst hh
  (repeat' first|refine svE ⟨?_⟩|refine .b fun b=>?_|refine .u fun u=>?_|refine .d ?_ ?_|(refine .g fun hg=>?_;try exact svx)|fail)
  refine Step.le (s':=⟨108,[(30,.clo (.func 122) [.val (.pointer (some ⟨b7,0,none⟩))]),(32,.agg [AV.val (.int .u32 (a)),AV.val (.bool (false)),AV.val (.int .i64 (3))]),(12,AV.val (.bool (true))),(11,AV.val (.int .u32 (m))),(10,AV.ro 1 (ints .u32 (pathA up c))),(9,AV.ro 1 (ints .u32 (pathA up a))),(8,.clo (.func 122) [.val (.pointer (some ⟨b7,0,none⟩))]),(7,.val (.pointer (some ⟨b7,0,none⟩))),(1,AV.val (.int .u32 (a))),(2,AV.val (.int .u32 (c)))],.box b7 [.val (.slice none 0 0)] 191::.own (.slice none 0 0) 3 ((([]:List CS3)).map csE) 194::.box b3 [mapV .u32 vIds k,mapV .u32 (vI .u32) up] 28::h⟩) lee ?_
  refine S.callv (.clo 122 [.val (.pointer (some ⟨b7,0,none⟩))]) ((p1 b7 _ [] a false 3 _ na (by simp)).mono ?_);rintro r h' ⟨v1,rfl,hh⟩;subst hh;(repeat' first|refine svE ⟨?_⟩|refine .b fun b=>?_|refine .u fun u=>?_|refine .d ?_ ?_|(refine .g fun hg=>?_;try exact svx)|fail)
  refine S.call ?_;refine (ab m _).mono ?_;rintro r h' ⟨rfl,hh⟩;subst hh
  (repeat' first|refine svE ⟨?_⟩|refine .b fun b=>?_|refine .u fun u=>?_|refine .d ?_ ?_|(refine .g fun hg=>?_;try exact svx)|fail)
  refine S.call ?_;refine (u1 b7 _ _ _ false 4 _ (nzA m) (by simp;have:=lA m;omega)).mono ?_;rintro r h' ⟨v1,rfl,hh⟩;subst hh;(repeat' first|refine svE ⟨?_⟩|refine .b fun b=>?_|refine .u fun u=>?_|refine .d ?_ ?_|(refine .g fun hg=>?_;try exact svx)|fail)
  refine S.call ?_;refine (ac m _).mono ?_;rintro r h' ⟨rfl,hh⟩;subst hh
  (repeat' first|refine svE ⟨?_⟩|refine .b fun b=>?_|refine .u fun u=>?_|refine .d ?_ ?_|(refine .g fun hg=>?_;try exact svx)|fail)
  refine S.call ?_;refine (d1 b7 _ _ _ true 4 _ (nzC m) (by simp;have:=lA m;have:=lC m;omega)).mono ?_;rintro r h' ⟨v1,rfl,hh⟩;subst hh;(repeat' first|refine svE ⟨?_⟩|refine .b fun b=>?_|refine .u fun u=>?_|refine .d ?_ ?_|(refine .g fun hg=>?_;try exact svx)|fail)
  refine S.callv (.clo 122 [.val (.pointer (some ⟨b7,0,none⟩))]) ((p1 b7 _ _ c true 3 _ nc (by simp;have:=lA m;have:=lC m;omega)).mono ?_);rintro r h' ⟨v1,rfl,hh⟩;subst hh;(repeat' first|refine svE ⟨?_⟩|refine .b fun b=>?_|refine .u fun u=>?_|refine .d ?_ ?_|(refine .g fun hg=>?_;try exact svx)|fail)
  exact fin_r (h':=.own v1 3 (((([]++[(a,false,3)]++(aboveF (pathA up a) m).map fun i=>((i,false,4):CS3))++(aboveF (pathA up c) m).reverse.map fun i=>((i,true,4):CS3))++[(c,true,3)]).map csE) 194::h) (.inr ⟨v1,rfl,rfl⟩)
def IdOk (up:UP):Prop:=∀id,hasT up id=true→1≤id∧id≤4294967295
theorem IdOk.no0 {up:UP} (h:IdOk up):hasT up 0=false:=by
 cases e:hasT up 0 with
 | false=>rfl
 | true=>have:=h 0 e;omega
theorem crossF_has {k:SVT} {up:UP} (w:TW k up) {a c:Int} (ha:hasT up a=true) (hc:hasT up c=true):∀st∈crossF up a c,hasT up st.1=true:=by
 have kA:∀x,∀i∈aboveF (pathA up a) x,hasT up i=true:=fun x i hi=>pathA_has w (aboveF_mem hi)
 have kC:∀x,∀i∈aboveF (pathA up c) x,hasT up i=true:=fun x i hi=>pathA_has w (aboveF_mem hi)
 intro st hst
 unfold crossF at hst
 split at hst
 ·cases hst
 ·split at hst
  ·cases hst
  ·rename_i m _
   split at hst
   ·simp only[List.mem_append,List.mem_cons,List.mem_map,List.mem_reverse,List.not_mem_nil,or_false] at hst
    rcases hst with (rfl|⟨i,hi,rfl⟩)|rfl
    ·exact ha
    ·exact kC _ i hi
    ·exact hc
   ·split at hst
    ·simp only[List.mem_append,List.mem_cons,List.mem_map,List.mem_reverse,List.not_mem_nil,or_false] at hst
     rcases hst with (rfl|⟨i,hi,rfl⟩)|rfl
     ·exact ha
     ·exact kA _ i hi
     ·exact hc
    ·simp only[List.mem_append,List.mem_cons,List.mem_map,List.mem_reverse,List.not_mem_nil,or_false] at hst
     rcases hst with ((rfl|⟨i,hi,rfl⟩)|⟨i,hi,rfl⟩)|rfl
     ·exact ha
     ·exact kA _ i hi
     ·exact kC _ i hi
     ·exact hc
theorem cpath_c {k:SVT} {up:UP} (w:TW k up) (hl:up.length≤1000) (h0:hasT up 0=false) (a c:Int) (ha:hasT up a=true) (hc:hasT up c=true) (h:Heap) :
  ACalls Tryz.prog 87 [encT k up,AV.val (.int .u32 (a)),AV.val (.int .u32 (c))] h (fun r h'=>r=.ro 3 ((crossF up a c).map csE)∧h'=h):=by
 refine ((cpath_c0 w hl h0 a c ha hc h).wk (Q':=fun r h'=>(r=.ro 3 ((crossF up a c).map csE)∧h'=h)∨∃v,r=.val v∧h'=.own v 3 ((crossF up a c).map csE) 194::h) ?_).frzo ?_
 ·rintro r h' (⟨rfl,e,rfl⟩|⟨v,rfl,rfl⟩)
  ·exact⟨.ro 3 [],.nilr 3,.inl ⟨by rw[e];rfl,rfl⟩⟩
  ·exact⟨_,.refl _,.inr ⟨v,rfl,rfl⟩⟩
 ·rintro r h' (⟨rfl,rfl⟩|⟨v,rfl,rfl⟩)
  ·exact .inl ⟨rfl,rfl⟩
  ·exact .inr ⟨v,3,_,_,_,h,.here,.hit,rfl,rfl⟩
end Go.Proofs.YtbknacpdcdkjiaaGreat
