/- A device is let go on. No condition. -/
import Derived.Test.YtbknacpdcdkjiaaGreatF67
namespace Go.Proofs.YtbknacpdcdkjiaaGreat
open Go Go.VM
set_option maxRecDepth 100000
attribute [local irreducible] PurV Pur Step RL W D ACalls Then InBlock Fini
set_option linter.unusedVariables false
set_option linter.unusedSimpArgs false
set_option maxHeartbeats 20000000
theorem alw00 (Inv:RT→List SD→Prop) (hb:∀s L,Inv s L→s.p.ws.length≤1000000∧s.q.ws.length≤1000000)
  (hs:∀s L p n i,Inv s L→pickF s=some (p,n,i)→TakC 96 (s.setd p (hldF (s.dv p) n i)) i [] L (fun s' l=>Inv s' (L++l)∧s'.wts<s.wts))
  (s:RT) (d2:DV) (h:Heap) (hal:∀h,ACalls Tryz.prog 55 [s.p.enc,AV.val (.int .i64 (0))] h (fun r h'=>r=.tup [d2.enc,IN.z.enc,AV.val (.bool (false))]∧h'=h))
  (g:s.p.g=true) (hc3:s.p.a.cl=3) (ht:s.p.a.time≤s.nw) (hi:Inv (s.setd true d2) []) :
  ACalls Tryz.prog 22 [s.enc,AV.val (.int .i64 (3)),AV.val (.int .i64 (0)),AV.val (.int .u32 (0))] h (fun r h'=>∃v s' L,Inv s' L∧pickF s'=none∧r=.tup [s'.enc,.val v]∧h'=.own v 7 (L.map SD.enc) 66::h):=by
 have al:=fun b0 v H=>all_c Inv hb hs b0 v (s.setd true d2) [] H hi
 have dc1:=fun b h=>device_c b true h
 have ac1:=fun h=>active_c s.p h
 have sc:=fun h=>since0_c s s.p.a h
 have dn:=fun b0 v s L H=>done_c b0 v s L H
 rw[decide_eq_true ht] at sc
 clear hb hs hi
 unfold RT.enc runH runC DV.enc RT.setd AC.enc at *
 rw[IN.enc_eq] at hal
 unfold IN.z at hal
 dsimp only at hal
 rw[g] at hal ac1 sc ⊢
 clear g
 refine ACalls.intro Tryz.func22 rfl Tryz.ntmps22 Tryz.results22 (Nat.le_of_ble_eq_true rfl) ?_
 refine W.nil_ 7 66 ?_
 (repeat' first|refine svE ⟨?_⟩|refine .b fun b=>?_|refine .u fun u=>?_|refine .d ?_ ?_|(refine .g fun hg=>?_;try exact svx)|fail)
 rename_i b3 b4
 revert b
 intro b9
 refine S.call ?_;refine (dc1 _ _).mono ?_;rintro r h' ⟨rfl,hh⟩;subst hh
 (repeat' first|refine svE ⟨?_⟩|refine .b fun b=>?_|refine .u fun u=>?_|refine .d ?_ ?_|(refine .g fun hg=>?_;try exact svx)|fail)
 refine S.call ?_;refine (ac1 _).mono ?_;rintro r h' ⟨rfl,hh⟩;subst hh
 (repeat' first|refine svE ⟨?_⟩|refine .b fun b=>?_|refine .u fun u=>?_|refine .d ?_ ?_|(refine .g fun hg=>?_;try exact svx)|fail)
 refine S.call ?_;refine (sc _).mono ?_;rintro r h' ⟨rfl,hh⟩;subst hh
 (repeat' first|refine svE ⟨?_⟩|refine .b fun b=>?_|refine .u fun u=>?_|refine .d ?_ ?_|(refine .g fun hg=>?_;try exact svx)|fail)
 refine S.call ?_;refine (hal _).mono ?_;rintro r h' ⟨rfl,hh⟩;subst hh
 (repeat' first|refine svE ⟨?_⟩|refine .b fun b=>?_|refine .u fun u=>?_|refine .d ?_ ?_|(refine .g fun hg=>?_;try exact svx)|fail)
 refine S.store_any ?_ (hl:=Nat.le_of_ble_eq_true rfl)
 (repeat' first|refine svE ⟨?_⟩|refine .b fun b=>?_|refine .u fun u=>?_|refine .d ?_ ?_|(refine .g fun hg=>?_;try exact svx)|fail)
 refine Step.le (s':=⟨89,[(10,.val (.pointer (some ⟨b9,0,none⟩))),(8,.val (.pointer (some ⟨b4,0,none⟩)))],.box b9 (runC (s.setd true d2) (.val (.slice none 0 0))) 135::.own (.slice none 0 0) 7 (([]:List SD).map SD.enc) 66::.box b4 _ 52::h⟩) lee ?_
 refine S.call ?_
 refine (al _ _ _).mono ?_
 rintro r h' ⟨v1,s1,L1,hI,hn,rfl,hh⟩
 subst hh
 (repeat' first|refine svE ⟨?_⟩|refine .b fun b=>?_|refine .u fun u=>?_|refine .d ?_ ?_|(refine .g fun hg=>?_;try exact svx)|fail)
 refine S.call ?_;refine (dn _ _ _ _ _).mono ?_;rintro r h' ⟨rfl,hh⟩;subst hh
 (repeat' first|refine svE ⟨?_⟩|refine .b fun b=>?_|refine .u fun u=>?_|refine .d ?_ ?_|(refine .g fun hg=>?_;try exact svx)|fail)
 exact fin_r (h':=.own v1 7 (L1.map SD.enc) 66::h) ⟨v1,s1,L1,hI,hn,rfl,rfl⟩
theorem alw10 (Inv:RT→List SD→Prop) (hb:∀s L,Inv s L→s.p.ws.length≤1000000∧s.q.ws.length≤1000000)
  (hs:∀s L p n i,Inv s L→pickF s=some (p,n,i)→TakC 96 (s.setd p (hldF (s.dv p) n i)) i [] L (fun s' l=>Inv s' (L++l)∧s'.wts<s.wts))
  (s:RT) (d2:DV) (h:Heap) (hal:∀h,ACalls Tryz.prog 55 [s.p.enc,AV.val (.int .i64 (1))] h (fun r h'=>r=.tup [d2.enc,IN.z.enc,AV.val (.bool (false))]∧h'=h))
  (g:s.p.g=true) (hc3:s.p.a.cl=3) (ht:s.p.a.time≤s.nw) (hi:Inv (s.setd true d2) []) :
  ACalls Tryz.prog 22 [s.enc,AV.val (.int .i64 (3)),AV.val (.int .i64 (1)),AV.val (.int .u32 (0))] h (fun r h'=>∃v s' L,Inv s' L∧pickF s'=none∧r=.tup [s'.enc,.val v]∧h'=.own v 7 (L.map SD.enc) 66::h):=by
 have al:=fun b0 v H=>all_c Inv hb hs b0 v (s.setd true d2) [] H hi
 have dc1:=fun b h=>device_c b true h
 have ac1:=fun h=>active_c s.p h
 have sc:=fun h=>since0_c s s.p.a h
 have dn:=fun b0 v s L H=>done_c b0 v s L H
 rw[decide_eq_true ht] at sc
 clear hb hs hi
 unfold RT.enc runH runC DV.enc RT.setd AC.enc at *
 rw[IN.enc_eq] at hal
 unfold IN.z at hal
 dsimp only at hal
 rw[g] at hal ac1 sc ⊢
 clear g
 refine ACalls.intro Tryz.func22 rfl Tryz.ntmps22 Tryz.results22 (Nat.le_of_ble_eq_true rfl) ?_
 refine W.nil_ 7 66 ?_
 (repeat' first|refine svE ⟨?_⟩|refine .b fun b=>?_|refine .u fun u=>?_|refine .d ?_ ?_|(refine .g fun hg=>?_;try exact svx)|fail)
 rename_i b3 b4
 revert b
 intro b9
 refine S.call ?_;refine (dc1 _ _).mono ?_;rintro r h' ⟨rfl,hh⟩;subst hh
 (repeat' first|refine svE ⟨?_⟩|refine .b fun b=>?_|refine .u fun u=>?_|refine .d ?_ ?_|(refine .g fun hg=>?_;try exact svx)|fail)
 refine S.call ?_;refine (ac1 _).mono ?_;rintro r h' ⟨rfl,hh⟩;subst hh
 (repeat' first|refine svE ⟨?_⟩|refine .b fun b=>?_|refine .u fun u=>?_|refine .d ?_ ?_|(refine .g fun hg=>?_;try exact svx)|fail)
 refine S.call ?_;refine (sc _).mono ?_;rintro r h' ⟨rfl,hh⟩;subst hh
 (repeat' first|refine svE ⟨?_⟩|refine .b fun b=>?_|refine .u fun u=>?_|refine .d ?_ ?_|(refine .g fun hg=>?_;try exact svx)|fail)
 refine S.call ?_;refine (hal _).mono ?_;rintro r h' ⟨rfl,hh⟩;subst hh
 (repeat' first|refine svE ⟨?_⟩|refine .b fun b=>?_|refine .u fun u=>?_|refine .d ?_ ?_|(refine .g fun hg=>?_;try exact svx)|fail)
 refine S.store_any ?_ (hl:=Nat.le_of_ble_eq_true rfl)
 (repeat' first|refine svE ⟨?_⟩|refine .b fun b=>?_|refine .u fun u=>?_|refine .d ?_ ?_|(refine .g fun hg=>?_;try exact svx)|fail)
 refine Step.le (s':=⟨89,[(10,.val (.pointer (some ⟨b9,0,none⟩))),(8,.val (.pointer (some ⟨b4,0,none⟩)))],.box b9 (runC (s.setd true d2) (.val (.slice none 0 0))) 135::.own (.slice none 0 0) 7 (([]:List SD).map SD.enc) 66::.box b4 _ 52::h⟩) lee ?_
 refine S.call ?_
 refine (al _ _ _).mono ?_
 rintro r h' ⟨v1,s1,L1,hI,hn,rfl,hh⟩
 subst hh
 (repeat' first|refine svE ⟨?_⟩|refine .b fun b=>?_|refine .u fun u=>?_|refine .d ?_ ?_|(refine .g fun hg=>?_;try exact svx)|fail)
 refine S.call ?_;refine (dn _ _ _ _ _).mono ?_;rintro r h' ⟨rfl,hh⟩;subst hh
 (repeat' first|refine svE ⟨?_⟩|refine .b fun b=>?_|refine .u fun u=>?_|refine .d ?_ ?_|(refine .g fun hg=>?_;try exact svx)|fail)
 exact fin_r (h':=.own v1 7 (L1.map SD.enc) 66::h) ⟨v1,s1,L1,hI,hn,rfl,rfl⟩
theorem alw30 (Inv:RT→List SD→Prop) (hb:∀s L,Inv s L→s.p.ws.length≤1000000∧s.q.ws.length≤1000000)
  (hs:∀s L p n i,Inv s L→pickF s=some (p,n,i)→TakC 96 (s.setd p (hldF (s.dv p) n i)) i [] L (fun s' l=>Inv s' (L++l)∧s'.wts<s.wts))
  (s:RT) (d2:DV) (h:Heap) (hal:∀h,ACalls Tryz.prog 55 [s.q.enc,AV.val (.int .i64 (0))] h (fun r h'=>r=.tup [d2.enc,IN.z.enc,AV.val (.bool (false))]∧h'=h))
  (g:s.q.g=true) (hc3:s.q.a.cl=3) (ht:s.q.a.time≤s.nw) (hi:Inv (s.setd false d2) []) :
  ACalls Tryz.prog 22 [s.enc,AV.val (.int .i64 (3)),AV.val (.int .i64 (3)),AV.val (.int .u32 (0))] h (fun r h'=>∃v s' L,Inv s' L∧pickF s'=none∧r=.tup [s'.enc,.val v]∧h'=.own v 7 (L.map SD.enc) 66::h):=by
 have al:=fun b0 v H=>all_c Inv hb hs b0 v (s.setd false d2) [] H hi
 have dc1:=fun b h=>device_c b false h
 have ac1:=fun h=>active_c s.q h
 have sc:=fun h=>since0_c s s.q.a h
 have dn:=fun b0 v s L H=>done_c b0 v s L H
 rw[decide_eq_true ht] at sc
 clear hb hs hi
 unfold RT.enc runH runC DV.enc RT.setd AC.enc at *
 rw[IN.enc_eq] at hal
 unfold IN.z at hal
 dsimp only at hal
 rw[g] at hal ac1 sc ⊢
 clear g
 refine ACalls.intro Tryz.func22 rfl Tryz.ntmps22 Tryz.results22 (Nat.le_of_ble_eq_true rfl) ?_
 refine W.nil_ 7 66 ?_
 (repeat' first|refine svE ⟨?_⟩|refine .b fun b=>?_|refine .u fun u=>?_|refine .d ?_ ?_|(refine .g fun hg=>?_;try exact svx)|fail)
 rename_i b3 b4
 revert b
 intro b9
 refine S.call ?_;refine (dc1 _ _).mono ?_;rintro r h' ⟨rfl,hh⟩;subst hh
 (repeat' first|refine svE ⟨?_⟩|refine .b fun b=>?_|refine .u fun u=>?_|refine .d ?_ ?_|(refine .g fun hg=>?_;try exact svx)|fail)
 refine S.call ?_;refine (ac1 _).mono ?_;rintro r h' ⟨rfl,hh⟩;subst hh
 (repeat' first|refine svE ⟨?_⟩|refine .b fun b=>?_|refine .u fun u=>?_|refine .d ?_ ?_|(refine .g fun hg=>?_;try exact svx)|fail)
 refine S.call ?_;refine (sc _).mono ?_;rintro r h' ⟨rfl,hh⟩;subst hh
 (repeat' first|refine svE ⟨?_⟩|refine .b fun b=>?_|refine .u fun u=>?_|refine .d ?_ ?_|(refine .g fun hg=>?_;try exact svx)|fail)
 refine S.call ?_;refine (hal _).mono ?_;rintro r h' ⟨rfl,hh⟩;subst hh
 (repeat' first|refine svE ⟨?_⟩|refine .b fun b=>?_|refine .u fun u=>?_|refine .d ?_ ?_|(refine .g fun hg=>?_;try exact svx)|fail)
 refine S.store_any ?_ (hl:=Nat.le_of_ble_eq_true rfl)
 (repeat' first|refine svE ⟨?_⟩|refine .b fun b=>?_|refine .u fun u=>?_|refine .d ?_ ?_|(refine .g fun hg=>?_;try exact svx)|fail)
 refine Step.le (s':=⟨89,[(10,.val (.pointer (some ⟨b9,0,none⟩))),(8,.val (.pointer (some ⟨b4,0,none⟩)))],.box b9 (runC (s.setd false d2) (.val (.slice none 0 0))) 135::.own (.slice none 0 0) 7 (([]:List SD).map SD.enc) 66::.box b4 _ 52::h⟩) lee ?_
 refine S.call ?_
 refine (al _ _ _).mono ?_
 rintro r h' ⟨v1,s1,L1,hI,hn,rfl,hh⟩
 subst hh
 (repeat' first|refine svE ⟨?_⟩|refine .b fun b=>?_|refine .u fun u=>?_|refine .d ?_ ?_|(refine .g fun hg=>?_;try exact svx)|fail)
 refine S.call ?_;refine (dn _ _ _ _ _).mono ?_;rintro r h' ⟨rfl,hh⟩;subst hh
 (repeat' first|refine svE ⟨?_⟩|refine .b fun b=>?_|refine .u fun u=>?_|refine .d ?_ ?_|(refine .g fun hg=>?_;try exact svx)|fail)
 exact fin_r (h':=.own v1 7 (L1.map SD.enc) 66::h) ⟨v1,s1,L1,hI,hn,rfl,rfl⟩
theorem alw40 (Inv:RT→List SD→Prop) (hb:∀s L,Inv s L→s.p.ws.length≤1000000∧s.q.ws.length≤1000000)
  (hs:∀s L p n i,Inv s L→pickF s=some (p,n,i)→TakC 96 (s.setd p (hldF (s.dv p) n i)) i [] L (fun s' l=>Inv s' (L++l)∧s'.wts<s.wts))
  (s:RT) (d2:DV) (h:Heap) (hal:∀h,ACalls Tryz.prog 55 [s.q.enc,AV.val (.int .i64 (1))] h (fun r h'=>r=.tup [d2.enc,IN.z.enc,AV.val (.bool (false))]∧h'=h))
  (g:s.q.g=true) (hc3:s.q.a.cl=3) (ht:s.q.a.time≤s.nw) (hi:Inv (s.setd false d2) []) :
  ACalls Tryz.prog 22 [s.enc,AV.val (.int .i64 (3)),AV.val (.int .i64 (4)),AV.val (.int .u32 (0))] h (fun r h'=>∃v s' L,Inv s' L∧pickF s'=none∧r=.tup [s'.enc,.val v]∧h'=.own v 7 (L.map SD.enc) 66::h):=by
 have al:=fun b0 v H=>all_c Inv hb hs b0 v (s.setd false d2) [] H hi
 have dc1:=fun b h=>device_c b false h
 have ac1:=fun h=>active_c s.q h
 have sc:=fun h=>since0_c s s.q.a h
 have dn:=fun b0 v s L H=>done_c b0 v s L H
 rw[decide_eq_true ht] at sc
 clear hb hs hi
 unfold RT.enc runH runC DV.enc RT.setd AC.enc at *
 rw[IN.enc_eq] at hal
 unfold IN.z at hal
 dsimp only at hal
 rw[g] at hal ac1 sc ⊢
 clear g
 refine ACalls.intro Tryz.func22 rfl Tryz.ntmps22 Tryz.results22 (Nat.le_of_ble_eq_true rfl) ?_
 refine W.nil_ 7 66 ?_
 (repeat' first|refine svE ⟨?_⟩|refine .b fun b=>?_|refine .u fun u=>?_|refine .d ?_ ?_|(refine .g fun hg=>?_;try exact svx)|fail)
 rename_i b3 b4
 revert b
 intro b9
 refine S.call ?_;refine (dc1 _ _).mono ?_;rintro r h' ⟨rfl,hh⟩;subst hh
 (repeat' first|refine svE ⟨?_⟩|refine .b fun b=>?_|refine .u fun u=>?_|refine .d ?_ ?_|(refine .g fun hg=>?_;try exact svx)|fail)
 refine S.call ?_;refine (ac1 _).mono ?_;rintro r h' ⟨rfl,hh⟩;subst hh
 (repeat' first|refine svE ⟨?_⟩|refine .b fun b=>?_|refine .u fun u=>?_|refine .d ?_ ?_|(refine .g fun hg=>?_;try exact svx)|fail)
 refine S.call ?_;refine (sc _).mono ?_;rintro r h' ⟨rfl,hh⟩;subst hh
 (repeat' first|refine svE ⟨?_⟩|refine .b fun b=>?_|refine .u fun u=>?_|refine .d ?_ ?_|(refine .g fun hg=>?_;try exact svx)|fail)
 refine S.call ?_;refine (hal _).mono ?_;rintro r h' ⟨rfl,hh⟩;subst hh
 (repeat' first|refine svE ⟨?_⟩|refine .b fun b=>?_|refine .u fun u=>?_|refine .d ?_ ?_|(refine .g fun hg=>?_;try exact svx)|fail)
 refine S.store_any ?_ (hl:=Nat.le_of_ble_eq_true rfl)
 (repeat' first|refine svE ⟨?_⟩|refine .b fun b=>?_|refine .u fun u=>?_|refine .d ?_ ?_|(refine .g fun hg=>?_;try exact svx)|fail)
 refine Step.le (s':=⟨89,[(10,.val (.pointer (some ⟨b9,0,none⟩))),(8,.val (.pointer (some ⟨b4,0,none⟩)))],.box b9 (runC (s.setd false d2) (.val (.slice none 0 0))) 135::.own (.slice none 0 0) 7 (([]:List SD).map SD.enc) 66::.box b4 _ 52::h⟩) lee ?_
 refine S.call ?_
 refine (al _ _ _).mono ?_
 rintro r h' ⟨v1,s1,L1,hI,hn,rfl,hh⟩
 subst hh
 (repeat' first|refine svE ⟨?_⟩|refine .b fun b=>?_|refine .u fun u=>?_|refine .d ?_ ?_|(refine .g fun hg=>?_;try exact svx)|fail)
 refine S.call ?_;refine (dn _ _ _ _ _).mono ?_;rintro r h' ⟨rfl,hh⟩;subst hh
 (repeat' first|refine svE ⟨?_⟩|refine .b fun b=>?_|refine .u fun u=>?_|refine .d ?_ ?_|(refine .g fun hg=>?_;try exact svx)|fail)
 exact fin_r (h':=.own v1 7 (L1.map SD.enc) 66::h) ⟨v1,s1,L1,hI,hn,rfl,rfl⟩
theorem alw0 (Inv:RT→List SD→Prop) (hb:∀s L,Inv s L→s.p.ws.length≤1000000∧s.q.ws.length≤1000000)
  (hs:∀s L p n i,Inv s L→pickF s=some (p,n,i)→TakC 96 (s.setd p (hldF (s.dv p) n i)) i [] L (fun s' l=>Inv s' (L++l)∧s'.wts<s.wts))
  (s:RT) (d2:DV) (h:Heap) (hal:∀h,ACalls Tryz.prog 55 [s.p.enc,AV.val (.int .i64 (0))] h (fun r h'=>r=.tup [d2.enc,IN.z.enc,AV.val (.bool (false))]∧h'=h))
  (g:s.p.g=true) (hc3:s.p.a.cl=3) (ht:s.p.a.time≤s.nw) (hi:Inv (s.setd true d2) []) :
  ACalls Tryz.prog 22 [s.enc,AV.val (.int .i64 (3)),AV.val (.int .i64 (0)),AV.val (.int .u32 (0))] h (fun r h'=>(∃s' L,Inv s' L∧pickF s'=none∧r=.tup [s'.enc,.ro 7 (L.map SD.enc)])∧h'=h):=by
 refine (alw00 Inv hb hs s d2 h hal g hc3 ht hi).frzo ?_
 rintro r h' ⟨v,s',L,hI,hn,rfl,rfl⟩
 exact .inr ⟨v,7,_,_,_,h,.here,.tupc (.keep _) (.tupc .hit .tupn),⟨s',L,hI,hn,rfl⟩,rfl⟩
theorem alw1 (Inv:RT→List SD→Prop) (hb:∀s L,Inv s L→s.p.ws.length≤1000000∧s.q.ws.length≤1000000)
  (hs:∀s L p n i,Inv s L→pickF s=some (p,n,i)→TakC 96 (s.setd p (hldF (s.dv p) n i)) i [] L (fun s' l=>Inv s' (L++l)∧s'.wts<s.wts))
  (s:RT) (d2:DV) (h:Heap) (hal:∀h,ACalls Tryz.prog 55 [s.p.enc,AV.val (.int .i64 (1))] h (fun r h'=>r=.tup [d2.enc,IN.z.enc,AV.val (.bool (false))]∧h'=h))
  (g:s.p.g=true) (hc3:s.p.a.cl=3) (ht:s.p.a.time≤s.nw) (hi:Inv (s.setd true d2) []) :
  ACalls Tryz.prog 22 [s.enc,AV.val (.int .i64 (3)),AV.val (.int .i64 (1)),AV.val (.int .u32 (0))] h (fun r h'=>(∃s' L,Inv s' L∧pickF s'=none∧r=.tup [s'.enc,.ro 7 (L.map SD.enc)])∧h'=h):=by
 refine (alw10 Inv hb hs s d2 h hal g hc3 ht hi).frzo ?_
 rintro r h' ⟨v,s',L,hI,hn,rfl,rfl⟩
 exact .inr ⟨v,7,_,_,_,h,.here,.tupc (.keep _) (.tupc .hit .tupn),⟨s',L,hI,hn,rfl⟩,rfl⟩
theorem alw3 (Inv:RT→List SD→Prop) (hb:∀s L,Inv s L→s.p.ws.length≤1000000∧s.q.ws.length≤1000000)
  (hs:∀s L p n i,Inv s L→pickF s=some (p,n,i)→TakC 96 (s.setd p (hldF (s.dv p) n i)) i [] L (fun s' l=>Inv s' (L++l)∧s'.wts<s.wts))
  (s:RT) (d2:DV) (h:Heap) (hal:∀h,ACalls Tryz.prog 55 [s.q.enc,AV.val (.int .i64 (0))] h (fun r h'=>r=.tup [d2.enc,IN.z.enc,AV.val (.bool (false))]∧h'=h))
  (g:s.q.g=true) (hc3:s.q.a.cl=3) (ht:s.q.a.time≤s.nw) (hi:Inv (s.setd false d2) []) :
  ACalls Tryz.prog 22 [s.enc,AV.val (.int .i64 (3)),AV.val (.int .i64 (3)),AV.val (.int .u32 (0))] h (fun r h'=>(∃s' L,Inv s' L∧pickF s'=none∧r=.tup [s'.enc,.ro 7 (L.map SD.enc)])∧h'=h):=by
 refine (alw30 Inv hb hs s d2 h hal g hc3 ht hi).frzo ?_
 rintro r h' ⟨v,s',L,hI,hn,rfl,rfl⟩
 exact .inr ⟨v,7,_,_,_,h,.here,.tupc (.keep _) (.tupc .hit .tupn),⟨s',L,hI,hn,rfl⟩,rfl⟩
theorem alw4 (Inv:RT→List SD→Prop) (hb:∀s L,Inv s L→s.p.ws.length≤1000000∧s.q.ws.length≤1000000)
  (hs:∀s L p n i,Inv s L→pickF s=some (p,n,i)→TakC 96 (s.setd p (hldF (s.dv p) n i)) i [] L (fun s' l=>Inv s' (L++l)∧s'.wts<s.wts))
  (s:RT) (d2:DV) (h:Heap) (hal:∀h,ACalls Tryz.prog 55 [s.q.enc,AV.val (.int .i64 (1))] h (fun r h'=>r=.tup [d2.enc,IN.z.enc,AV.val (.bool (false))]∧h'=h))
  (g:s.q.g=true) (hc3:s.q.a.cl=3) (ht:s.q.a.time≤s.nw) (hi:Inv (s.setd false d2) []) :
  ACalls Tryz.prog 22 [s.enc,AV.val (.int .i64 (3)),AV.val (.int .i64 (4)),AV.val (.int .u32 (0))] h (fun r h'=>(∃s' L,Inv s' L∧pickF s'=none∧r=.tup [s'.enc,.ro 7 (L.map SD.enc)])∧h'=h):=by
 refine (alw40 Inv hb hs s d2 h hal g hc3 ht hi).frzo ?_
 rintro r h' ⟨v,s',L,hI,hn,rfl,rfl⟩
 exact .inr ⟨v,7,_,_,_,h,.here,.tupc (.keep _) (.tupc .hit .tupn),⟨s',L,hI,hn,rfl⟩,rfl⟩
theorem alnA0 (s:RT) (h:Heap) (g1:s.p.g=true) (hc3:s.p.a.cl≠3) :
  ACalls Tryz.prog 22 [s.enc,AV.val (.int .i64 (3)),AV.val (.int .i64 (0)),AV.val (.int .u32 (0))] h (fun r h'=>r=.tup [s.enc,.val (.slice none 0 0)]∧h'=.own (.slice none 0 0) 7 (([]:List SD).map SD.enc) 66::h):=by
 have dc1:=fun b h=>device_c b true h
 have dc2:=fun b h=>device_c b false h
 have ac1:=fun h=>active_c s.p h
 have ac2:=fun h=>active_c s.q h
 unfold RT.enc DV.enc AC.enc at *
 rw[g1] at ac1 ⊢
 refine ACalls.intro Tryz.func22 rfl Tryz.ntmps22 Tryz.results22 (Nat.le_of_ble_eq_true rfl) ?_
 refine W.nil_ 7 66 ?_
 (repeat' first|refine svE ⟨?_⟩|refine .b fun b=>?_|refine .u fun u=>?_|refine .d ?_ ?_|(refine .g fun hg=>?_;try exact svx)|fail)
 refine S.call ?_;refine (dc1 _ _).mono ?_;rintro r h' ⟨rfl,hh⟩;subst hh
 (repeat' first|refine svE ⟨?_⟩|refine .b fun b=>?_|refine .u fun u=>?_|refine .d ?_ ?_|(refine .g fun hg=>?_;try exact svx)|fail)
 refine S.call ?_;refine (ac1 _).mono ?_;rintro r h' ⟨rfl,hh⟩;subst hh
 (repeat' first|refine svE ⟨?_⟩|refine .b fun b=>?_|refine .u fun u=>?_|refine .d ?_ ?_|(refine .g fun hg=>?_;try exact svx)|fail)
 exact fin_r (h':=.own (.slice none 0 0) 7 (([]:List SD).map SD.enc) 66::h) ⟨rfl,rfl⟩
theorem alnA (s:RT) (h:Heap) (g1:s.p.g=true) (hc3:s.p.a.cl≠3) :
  ACalls Tryz.prog 22 [s.enc,AV.val (.int .i64 (3)),AV.val (.int .i64 (0)),AV.val (.int .u32 (0))] h (fun r h'=>r=.tup [s.enc,.ro 7 []]∧h'=h):=by
 refine (alnA0 s h g1 hc3).frzo ?_
 rintro r h' ⟨rfl,rfl⟩
 exact .inr ⟨_,7,_,_,_,h,.here,.tupc (.keep _) (.tupc .hit .tupn),rfl,rfl⟩
theorem alnB0 (s:RT) (h:Heap) (g1:s.p.g=false) (g2:s.q.g=false) :
  ACalls Tryz.prog 22 [s.enc,AV.val (.int .i64 (3)),AV.val (.int .i64 (0)),AV.val (.int .u32 (0))] h (fun r h'=>r=.tup [s.enc,.val (.slice none 0 0)]∧h'=.own (.slice none 0 0) 7 (([]:List SD).map SD.enc) 66::h):=by
 have dc1:=fun b h=>device_c b true h
 have dc2:=fun b h=>device_c b false h
 have ac1:=fun h=>active_c s.p h
 have ac2:=fun h=>active_c s.q h
 unfold RT.enc DV.enc AC.enc at *
 rw[g1] at ac1 ⊢
 rw[g2] at ac2 ⊢
 refine ACalls.intro Tryz.func22 rfl Tryz.ntmps22 Tryz.results22 (Nat.le_of_ble_eq_true rfl) ?_
 refine W.nil_ 7 66 ?_
 (repeat' first|refine svE ⟨?_⟩|refine .b fun b=>?_|refine .u fun u=>?_|refine .d ?_ ?_|(refine .g fun hg=>?_;try exact svx)|fail)
 refine S.call ?_;refine (dc1 _ _).mono ?_;rintro r h' ⟨rfl,hh⟩;subst hh
 (repeat' first|refine svE ⟨?_⟩|refine .b fun b=>?_|refine .u fun u=>?_|refine .d ?_ ?_|(refine .g fun hg=>?_;try exact svx)|fail)
 refine S.call ?_;refine (ac1 _).mono ?_;rintro r h' ⟨rfl,hh⟩;subst hh
 (repeat' first|refine svE ⟨?_⟩|refine .b fun b=>?_|refine .u fun u=>?_|refine .d ?_ ?_|(refine .g fun hg=>?_;try exact svx)|fail)
 refine S.call ?_;refine (dc2 _ _).mono ?_;rintro r h' ⟨rfl,hh⟩;subst hh
 (repeat' first|refine svE ⟨?_⟩|refine .b fun b=>?_|refine .u fun u=>?_|refine .d ?_ ?_|(refine .g fun hg=>?_;try exact svx)|fail)
 refine S.call ?_;refine (ac2 _).mono ?_;rintro r h' ⟨rfl,hh⟩;subst hh
 (repeat' first|refine svE ⟨?_⟩|refine .b fun b=>?_|refine .u fun u=>?_|refine .d ?_ ?_|(refine .g fun hg=>?_;try exact svx)|fail)
 exact fin_r (h':=.own (.slice none 0 0) 7 (([]:List SD).map SD.enc) 66::h) ⟨rfl,rfl⟩
theorem alnB (s:RT) (h:Heap) (g1:s.p.g=false) (g2:s.q.g=false) :
  ACalls Tryz.prog 22 [s.enc,AV.val (.int .i64 (3)),AV.val (.int .i64 (0)),AV.val (.int .u32 (0))] h (fun r h'=>r=.tup [s.enc,.ro 7 []]∧h'=h):=by
 refine (alnB0 s h g1 g2).frzo ?_
 rintro r h' ⟨rfl,rfl⟩
 exact .inr ⟨_,7,_,_,_,h,.here,.tupc (.keep _) (.tupc .hit .tupn),rfl,rfl⟩
theorem alnC0 (s:RT) (h:Heap) (g1:s.q.g=false) (g2:s.p.g=true) (hc3:s.p.a.cl≠3) :
  ACalls Tryz.prog 22 [s.enc,AV.val (.int .i64 (3)),AV.val (.int .i64 (3)),AV.val (.int .u32 (0))] h (fun r h'=>r=.tup [s.enc,.val (.slice none 0 0)]∧h'=.own (.slice none 0 0) 7 (([]:List SD).map SD.enc) 66::h):=by
 have dc1:=fun b h=>device_c b false h
 have dc2:=fun b h=>device_c b true h
 have ac1:=fun h=>active_c s.q h
 have ac2:=fun h=>active_c s.p h
 unfold RT.enc DV.enc AC.enc at *
 rw[g1] at ac1 ⊢
 rw[g2] at ac2 ⊢
 refine ACalls.intro Tryz.func22 rfl Tryz.ntmps22 Tryz.results22 (Nat.le_of_ble_eq_true rfl) ?_
 refine W.nil_ 7 66 ?_
 (repeat' first|refine svE ⟨?_⟩|refine .b fun b=>?_|refine .u fun u=>?_|refine .d ?_ ?_|(refine .g fun hg=>?_;try exact svx)|fail)
 refine S.call ?_;refine (dc1 _ _).mono ?_;rintro r h' ⟨rfl,hh⟩;subst hh
 (repeat' first|refine svE ⟨?_⟩|refine .b fun b=>?_|refine .u fun u=>?_|refine .d ?_ ?_|(refine .g fun hg=>?_;try exact svx)|fail)
 refine S.call ?_;refine (ac1 _).mono ?_;rintro r h' ⟨rfl,hh⟩;subst hh
 (repeat' first|refine svE ⟨?_⟩|refine .b fun b=>?_|refine .u fun u=>?_|refine .d ?_ ?_|(refine .g fun hg=>?_;try exact svx)|fail)
 refine S.call ?_;refine (dc2 _ _).mono ?_;rintro r h' ⟨rfl,hh⟩;subst hh
 (repeat' first|refine svE ⟨?_⟩|refine .b fun b=>?_|refine .u fun u=>?_|refine .d ?_ ?_|(refine .g fun hg=>?_;try exact svx)|fail)
 refine S.call ?_;refine (ac2 _).mono ?_;rintro r h' ⟨rfl,hh⟩;subst hh
 (repeat' first|refine svE ⟨?_⟩|refine .b fun b=>?_|refine .u fun u=>?_|refine .d ?_ ?_|(refine .g fun hg=>?_;try exact svx)|fail)
 exact fin_r (h':=.own (.slice none 0 0) 7 (([]:List SD).map SD.enc) 66::h) ⟨rfl,rfl⟩
theorem alnC (s:RT) (h:Heap) (g1:s.q.g=false) (g2:s.p.g=true) (hc3:s.p.a.cl≠3) :
  ACalls Tryz.prog 22 [s.enc,AV.val (.int .i64 (3)),AV.val (.int .i64 (3)),AV.val (.int .u32 (0))] h (fun r h'=>r=.tup [s.enc,.ro 7 []]∧h'=h):=by
 refine (alnC0 s h g1 g2 hc3).frzo ?_
 rintro r h' ⟨rfl,rfl⟩
 exact .inr ⟨_,7,_,_,_,h,.here,.tupc (.keep _) (.tupc .hit .tupn),rfl,rfl⟩
theorem alnD0 (s:RT) (h:Heap) (g1:s.q.g=false) (g2:s.p.g=false) :
  ACalls Tryz.prog 22 [s.enc,AV.val (.int .i64 (3)),AV.val (.int .i64 (3)),AV.val (.int .u32 (0))] h (fun r h'=>r=.tup [s.enc,.val (.slice none 0 0)]∧h'=.own (.slice none 0 0) 7 (([]:List SD).map SD.enc) 66::h):=by
 have dc1:=fun b h=>device_c b false h
 have dc2:=fun b h=>device_c b true h
 have ac1:=fun h=>active_c s.q h
 have ac2:=fun h=>active_c s.p h
 unfold RT.enc DV.enc AC.enc at *
 rw[g1] at ac1 ⊢
 rw[g2] at ac2 ⊢
 refine ACalls.intro Tryz.func22 rfl Tryz.ntmps22 Tryz.results22 (Nat.le_of_ble_eq_true rfl) ?_
 refine W.nil_ 7 66 ?_
 (repeat' first|refine svE ⟨?_⟩|refine .b fun b=>?_|refine .u fun u=>?_|refine .d ?_ ?_|(refine .g fun hg=>?_;try exact svx)|fail)
 refine S.call ?_;refine (dc1 _ _).mono ?_;rintro r h' ⟨rfl,hh⟩;subst hh
 (repeat' first|refine svE ⟨?_⟩|refine .b fun b=>?_|refine .u fun u=>?_|refine .d ?_ ?_|(refine .g fun hg=>?_;try exact svx)|fail)
 refine S.call ?_;refine (ac1 _).mono ?_;rintro r h' ⟨rfl,hh⟩;subst hh
 (repeat' first|refine svE ⟨?_⟩|refine .b fun b=>?_|refine .u fun u=>?_|refine .d ?_ ?_|(refine .g fun hg=>?_;try exact svx)|fail)
 refine S.call ?_;refine (dc2 _ _).mono ?_;rintro r h' ⟨rfl,hh⟩;subst hh
 (repeat' first|refine svE ⟨?_⟩|refine .b fun b=>?_|refine .u fun u=>?_|refine .d ?_ ?_|(refine .g fun hg=>?_;try exact svx)|fail)
 refine S.call ?_;refine (ac2 _).mono ?_;rintro r h' ⟨rfl,hh⟩;subst hh
 (repeat' first|refine svE ⟨?_⟩|refine .b fun b=>?_|refine .u fun u=>?_|refine .d ?_ ?_|(refine .g fun hg=>?_;try exact svx)|fail)
 exact fin_r (h':=.own (.slice none 0 0) 7 (([]:List SD).map SD.enc) 66::h) ⟨rfl,rfl⟩
theorem alnD (s:RT) (h:Heap) (g1:s.q.g=false) (g2:s.p.g=false) :
  ACalls Tryz.prog 22 [s.enc,AV.val (.int .i64 (3)),AV.val (.int .i64 (3)),AV.val (.int .u32 (0))] h (fun r h'=>r=.tup [s.enc,.ro 7 []]∧h'=h):=by
 refine (alnD0 s h g1 g2).frzo ?_
 rintro r h' ⟨rfl,rfl⟩
 exact .inr ⟨_,7,_,_,_,h,.here,.tupc (.keep _) (.tupc .hit .tupn),rfl,rfl⟩
end Go.Proofs.YtbknacpdcdkjiaaGreat
