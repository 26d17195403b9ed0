/- A grab. No condition. -/
import Derived.Test.YtbknacpdcdkjiaaGreatF66
import Derived.Test.YtbknacpdcdkjiaaGreatF22
namespace Go.Proofs.YtbknacpdcdkjiaaGreat
open Go Go.VM
set_option maxRecDepth 100000
attribute [local irreducible] PurV Pur Step RL W D ACalls Then InBlock Fini
set_option linter.unusedVariables false
set_option linter.unusedSimpArgs false
set_option maxHeartbeats 20000000
def gaA (t:Int):AC:=⟨3,1,false,31,false,false,0,t⟩
theorem grabP00 (s:RT) (h:Heap) (rf:∀b0 v H,OE.box b0 (runC s v) 135∈H→ACalls Tryz.prog 51 [.val (.pointer (some ⟨b0,0,none⟩)),AV.val (.bool (true)),(gaA s.nw).enc] H (fun r h'=>r=AV.val (.int .i64 (0))∧h'=H))
  (hl:s.p.ws.length≤1000000∧s.q.ws.length≤1000000) (hn:pickF (s.setd true ((s.dv true).begin (gaA s.nw) false))=none) :
  ACalls Tryz.prog 21 [s.enc,AV.val (.bool (true)),(gaA 0).enc,AV.val (.int .i64 (0)),AV.val (.int .i64 (0))] h (fun r h'=>∃v,r=.tup [(s.setd true ((s.dv true).begin (gaA s.nw) false)).enc,AV.val (.int .i64 (0)),.val v]∧h'=.own v 7 (([]:List SD).map SD.enc) 66::h):=by
 have al:=fun b0 v H=>all_c (fun s' L=>s'=(s.setd true ((s.dv true).begin (gaA s.nw) false))∧L=[]) (fun s' L k=>by rw[k.1];exact hl) (fun s' L p n i k hp=>by rw[k.1,hn] at hp;cases hp) b0 v (s.setd true ((s.dv true).begin (gaA s.nw) false)) [] H ⟨rfl,rfl⟩
 have dc1:=fun b h=>device_c b true h
 have dc2:=fun b h=>device_c b false h
 have bc:=fun h=>begin_c s.p (gaA s.nw) false h
 have fz:=fun h=>freeze_c s.q h
 have dn:=fun b0 v s L H=>done_c b0 v s L H
 clear hl hn
 unfold RT.enc runH runC DV.enc RT.setd RT.dv DV.begin DV.freeze gaA AC.enc at *
 dsimp only at rf bc ⊢
 refine ACalls.intro Tryz.func21 rfl Tryz.ntmps21 Tryz.results21 (Nat.le_of_ble_eq_true rfl) ?_
 refine W.nil_ 7 66 ?_
 (repeat' first|refine svE ⟨?_⟩|refine .b fun b=>?_|refine .u fun u=>?_|refine .d ?_ ?_|(refine .g fun hg=>?_;try exact svx)|fail)
 rename_i b2 b3 b4
 revert b
 intro b9
 refine Step.le (s':=⟨71,[(30,AV.val (.bool (true))),(31,.agg [AV.val (.int .i64 (3)),AV.val (.int .u32 (1)),AV.val (.bool (false)),AV.val (.int .i64 (31)),AV.val (.bool (false)),AV.val (.bool (false)),AV.val (.int .i64 (0)),AV.val (.int .u32 (s.nw))]),(13,.val (.pointer (some ⟨b9,0,none⟩))),(7,.val (.pointer (some ⟨b3,0,none⟩))),(10,.val (.pointer (some ⟨b4,0,none⟩))),(1,AV.val (.bool (true))),(3,AV.val (.int .i64 (0))),(4,AV.val (.int .i64 (0)))],.box b9 (mapV .u32 vIds s.k::mapV .u32 (vI .u32) s.up::AV.ro 1 (ints .u32 (s.o))::mapV .u32 vSW s.V::mapK (vI .i64) s.M::mapV .u32 (vI .i64) s.N::AV.val (.int .u32 (s.fw))::AV.val (.int .i64 (s.fr))::AV.val (.int .u32 (s.ft))::AV.ro 9 []::AV.val (.int .i64 ((s.p).a.cl))::AV.val (.int .u32 ((s.p).a.w))::AV.val (.bool ((s.p).a.ow))::AV.val (.int .i64 ((s.p).a.mask))::AV.val (.bool ((s.p).a.au))::AV.val (.bool ((s.p).a.pa))::AV.val (.int .i64 ((s.p).a.code))::AV.val (.int .u32 ((s.p).a.time))::AV.val (.bool ((s.p).g))::AV.val (.bool ((s.p).f))::AV.val (.bool ((s.p).s))::AV.val (.int .i64 ((s.p).held.k))::AV.val (.int .i64 ((s.p).held.c))::AV.val (.int .i64 ((s.p).held.x))::AV.val (.int .i64 ((s.p).held.y))::AV.val (.int .u32 ((s.p).held.t))::AV.val (.int .i64 ((s.p).held.n))::AV.val (.bool ((s.p).hs))::AV.ro 6 ((s.p).ws.map IN.enc)::AV.val (.int .i64 ((s.q).a.cl))::AV.val (.int .u32 ((s.q).a.w))::AV.val (.bool ((s.q).a.ow))::AV.val (.int .i64 ((s.q).a.mask))::AV.val (.bool ((s.q).a.au))::AV.val (.bool ((s.q).a.pa))::AV.val (.int .i64 ((s.q).a.code))::AV.val (.int .u32 ((s.q).a.time))::AV.val (.bool ((s.q).g))::AV.val (.bool ((s.q).f))::AV.val (.bool ((s.q).s))::AV.val (.int .i64 ((s.q).held.k))::AV.val (.int .i64 ((s.q).held.c))::AV.val (.int .i64 ((s.q).held.x))::AV.val (.int .i64 ((s.q).held.y))::AV.val (.int .u32 ((s.q).held.t))::AV.val (.int .i64 ((s.q).held.n))::AV.val (.bool ((s.q).hs))::AV.ro 6 ((s.q).ws.map IN.enc)::AV.val (.int .i64 (s.x))::AV.val (.int .i64 (s.y))::AV.val (.int .i64 (s.bt))::AV.val (.int .i64 (s.md))::AV.val (.int .i64 (s.ct))::AV.val (.int .u32 (s.nw))::AV.val (.int .u32 (s.un))::(.val (.slice none 0 0))::[]) 135::.box b3 [AV.val (.int .i64 (3)),AV.val (.int .u32 (1)),AV.val (.bool (false)),AV.val (.int .i64 (31)),AV.val (.bool (false)),AV.val (.bool (false)),AV.val (.int .i64 (0)),AV.val (.int .u32 (s.nw))] 45::.own (.slice none 0 0) 7 (([]:List SD).map SD.enc) 66::.box b4 _ 52::h⟩) lee ?_
 refine S.call ?_
 refine ACalls.mono (rf b9 (.val (.slice none 0 0)) _ ?_) ?_
 ·exact List.Mem.head _
 rintro r h' ⟨rfl,hh⟩
 subst hh
 (repeat' first|refine svE ⟨?_⟩|refine .b fun b=>?_|refine .u fun u=>?_|refine .d ?_ ?_|(refine .g fun hg=>?_;try exact svx)|fail)
 refine S.call ?_;refine (dc1 _ _).mono ?_;rintro r h' ⟨rfl,hh⟩;subst hh
 (repeat' first|refine svE ⟨?_⟩|refine .b fun b=>?_|refine .u fun u=>?_|refine .d ?_ ?_|(refine .g fun hg=>?_;try exact svx)|fail)
 refine S.call ?_;refine (dc2 _ _).mono ?_;rintro r h' ⟨rfl,hh⟩;subst hh
 (repeat' first|refine svE ⟨?_⟩|refine .b fun b=>?_|refine .u fun u=>?_|refine .d ?_ ?_|(refine .g fun hg=>?_;try exact svx)|fail)
 refine R2.C (bc _) ?_
 (repeat' first|refine svE ⟨?_⟩|refine .b fun b=>?_|refine .u fun u=>?_|refine .d ?_ ?_|(refine .g fun hg=>?_;try exact svx)|fail)
 refine S.store_any ?_ (hl:=Nat.le_of_ble_eq_true rfl)
 (repeat' first|refine svE ⟨?_⟩|refine .b fun b=>?_|refine .u fun u=>?_|refine .d ?_ ?_|(refine .g fun hg=>?_;try exact svx)|fail)
 refine Step.le (s':=⟨71,[(13,.val (.pointer (some ⟨b9,0,none⟩))),(10,.val (.pointer (some ⟨b4,0,none⟩)))],.box b9 (runC (s.setd true ((s.dv true).begin (gaA s.nw) false)) (.val (.slice none 0 0))) 135::.own (.slice none 0 0) 7 (([]:List SD).map SD.enc) 66::.box b4 _ 52::h⟩) lee ?_
 refine S.call ?_
 refine (al _ _ _).mono ?_
 rintro r h' ⟨v1,s1,L1,⟨rfl,rfl⟩,hn,rfl,hh⟩
 subst hh
 (repeat' first|refine svE ⟨?_⟩|refine .b fun b=>?_|refine .u fun u=>?_|refine .d ?_ ?_|(refine .g fun hg=>?_;try exact svx)|fail)
 refine S.call ?_;refine (dn _ _ _ _ _).mono ?_;rintro r h' ⟨rfl,hh⟩;subst hh
 (repeat' first|refine svE ⟨?_⟩|refine .b fun b=>?_|refine .u fun u=>?_|refine .d ?_ ?_|(refine .g fun hg=>?_;try exact svx)|fail)
 exact fin_r (h':=.own v1 7 (([]:List SD).map SD.enc) 66::h) ⟨v1,rfl,rfl⟩
theorem grabK00 (s:RT) (h:Heap) (rf:∀b0 v H,OE.box b0 (runC s v) 135∈H→ACalls Tryz.prog 51 [.val (.pointer (some ⟨b0,0,none⟩)),AV.val (.bool (false)),(gaA s.nw).enc] H (fun r h'=>r=AV.val (.int .i64 (0))∧h'=H))
  (hl:s.p.ws.length≤1000000∧s.q.ws.length≤1000000) (hn:pickF (s.setd false ((s.dv false).begin (gaA s.nw) false))=none) :
  ACalls Tryz.prog 21 [s.enc,AV.val (.bool (false)),(gaA 0).enc,AV.val (.int .i64 (0)),AV.val (.int .i64 (0))] h (fun r h'=>∃v,r=.tup [(s.setd false ((s.dv false).begin (gaA s.nw) false)).enc,AV.val (.int .i64 (0)),.val v]∧h'=.own v 7 (([]:List SD).map SD.enc) 66::h):=by
 have al:=fun b0 v H=>all_c (fun s' L=>s'=(s.setd false ((s.dv false).begin (gaA s.nw) false))∧L=[]) (fun s' L k=>by rw[k.1];exact hl) (fun s' L p n i k hp=>by rw[k.1,hn] at hp;cases hp) b0 v (s.setd false ((s.dv false).begin (gaA s.nw) false)) [] H ⟨rfl,rfl⟩
 have dc1:=fun b h=>device_c b false h
 have dc2:=fun b h=>device_c b true h
 have bc:=fun h=>begin_c s.q (gaA s.nw) false h
 have fz:=fun h=>freeze_c s.p h
 have dn:=fun b0 v s L H=>done_c b0 v s L H
 clear hl hn
 unfold RT.enc runH runC DV.enc RT.setd RT.dv DV.begin DV.freeze gaA AC.enc at *
 dsimp only at rf bc ⊢
 refine ACalls.intro Tryz.func21 rfl Tryz.ntmps21 Tryz.results21 (Nat.le_of_ble_eq_true rfl) ?_
 refine W.nil_ 7 66 ?_
 (repeat' first|refine svE ⟨?_⟩|refine .b fun b=>?_|refine .u fun u=>?_|refine .d ?_ ?_|(refine .g fun hg=>?_;try exact svx)|fail)
 rename_i b2 b3 b4
 revert b
 intro b9
 refine Step.le (s':=⟨71,[(30,AV.val (.bool (false))),(31,.agg [AV.val (.int .i64 (3)),AV.val (.int .u32 (1)),AV.val (.bool (false)),AV.val (.int .i64 (31)),AV.val (.bool (false)),AV.val (.bool (false)),AV.val (.int .i64 (0)),AV.val (.int .u32 (s.nw))]),(13,.val (.pointer (some ⟨b9,0,none⟩))),(7,.val (.pointer (some ⟨b3,0,none⟩))),(10,.val (.pointer (some ⟨b4,0,none⟩))),(1,AV.val (.bool (false))),(3,AV.val (.int .i64 (0))),(4,AV.val (.int .i64 (0)))],.box b9 (mapV .u32 vIds s.k::mapV .u32 (vI .u32) s.up::AV.ro 1 (ints .u32 (s.o))::mapV .u32 vSW s.V::mapK (vI .i64) s.M::mapV .u32 (vI .i64) s.N::AV.val (.int .u32 (s.fw))::AV.val (.int .i64 (s.fr))::AV.val (.int .u32 (s.ft))::AV.ro 9 []::AV.val (.int .i64 ((s.p).a.cl))::AV.val (.int .u32 ((s.p).a.w))::AV.val (.bool ((s.p).a.ow))::AV.val (.int .i64 ((s.p).a.mask))::AV.val (.bool ((s.p).a.au))::AV.val (.bool ((s.p).a.pa))::AV.val (.int .i64 ((s.p).a.code))::AV.val (.int .u32 ((s.p).a.time))::AV.val (.bool ((s.p).g))::AV.val (.bool ((s.p).f))::AV.val (.bool ((s.p).s))::AV.val (.int .i64 ((s.p).held.k))::AV.val (.int .i64 ((s.p).held.c))::AV.val (.int .i64 ((s.p).held.x))::AV.val (.int .i64 ((s.p).held.y))::AV.val (.int .u32 ((s.p).held.t))::AV.val (.int .i64 ((s.p).held.n))::AV.val (.bool ((s.p).hs))::AV.ro 6 ((s.p).ws.map IN.enc)::AV.val (.int .i64 ((s.q).a.cl))::AV.val (.int .u32 ((s.q).a.w))::AV.val (.bool ((s.q).a.ow))::AV.val (.int .i64 ((s.q).a.mask))::AV.val (.bool ((s.q).a.au))::AV.val (.bool ((s.q).a.pa))::AV.val (.int .i64 ((s.q).a.code))::AV.val (.int .u32 ((s.q).a.time))::AV.val (.bool ((s.q).g))::AV.val (.bool ((s.q).f))::AV.val (.bool ((s.q).s))::AV.val (.int .i64 ((s.q).held.k))::AV.val (.int .i64 ((s.q).held.c))::AV.val (.int .i64 ((s.q).held.x))::AV.val (.int .i64 ((s.q).held.y))::AV.val (.int .u32 ((s.q).held.t))::AV.val (.int .i64 ((s.q).held.n))::AV.val (.bool ((s.q).hs))::AV.ro 6 ((s.q).ws.map IN.enc)::AV.val (.int .i64 (s.x))::AV.val (.int .i64 (s.y))::AV.val (.int .i64 (s.bt))::AV.val (.int .i64 (s.md))::AV.val (.int .i64 (s.ct))::AV.val (.int .u32 (s.nw))::AV.val (.int .u32 (s.un))::(.val (.slice none 0 0))::[]) 135::.box b3 [AV.val (.int .i64 (3)),AV.val (.int .u32 (1)),AV.val (.bool (false)),AV.val (.int .i64 (31)),AV.val (.bool (false)),AV.val (.bool (false)),AV.val (.int .i64 (0)),AV.val (.int .u32 (s.nw))] 45::.own (.slice none 0 0) 7 (([]:List SD).map SD.enc) 66::.box b4 _ 52::h⟩) lee ?_
 refine S.call ?_
 refine ACalls.mono (rf b9 (.val (.slice none 0 0)) _ ?_) ?_
 ·exact List.Mem.head _
 rintro r h' ⟨rfl,hh⟩
 subst hh
 (repeat' first|refine svE ⟨?_⟩|refine .b fun b=>?_|refine .u fun u=>?_|refine .d ?_ ?_|(refine .g fun hg=>?_;try exact svx)|fail)
 refine S.call ?_;refine (dc1 _ _).mono ?_;rintro r h' ⟨rfl,hh⟩;subst hh
 (repeat' first|refine svE ⟨?_⟩|refine .b fun b=>?_|refine .u fun u=>?_|refine .d ?_ ?_|(refine .g fun hg=>?_;try exact svx)|fail)
 refine S.call ?_;refine (dc2 _ _).mono ?_;rintro r h' ⟨rfl,hh⟩;subst hh
 (repeat' first|refine svE ⟨?_⟩|refine .b fun b=>?_|refine .u fun u=>?_|refine .d ?_ ?_|(refine .g fun hg=>?_;try exact svx)|fail)
 refine R2.C (bc _) ?_
 (repeat' first|refine svE ⟨?_⟩|refine .b fun b=>?_|refine .u fun u=>?_|refine .d ?_ ?_|(refine .g fun hg=>?_;try exact svx)|fail)
 refine S.store_any ?_ (hl:=Nat.le_of_ble_eq_true rfl)
 (repeat' first|refine svE ⟨?_⟩|refine .b fun b=>?_|refine .u fun u=>?_|refine .d ?_ ?_|(refine .g fun hg=>?_;try exact svx)|fail)
 refine Step.le (s':=⟨71,[(13,.val (.pointer (some ⟨b9,0,none⟩))),(10,.val (.pointer (some ⟨b4,0,none⟩)))],.box b9 (runC (s.setd false ((s.dv false).begin (gaA s.nw) false)) (.val (.slice none 0 0))) 135::.own (.slice none 0 0) 7 (([]:List SD).map SD.enc) 66::.box b4 _ 52::h⟩) lee ?_
 refine S.call ?_
 refine (al _ _ _).mono ?_
 rintro r h' ⟨v1,s1,L1,⟨rfl,rfl⟩,hn,rfl,hh⟩
 subst hh
 (repeat' first|refine svE ⟨?_⟩|refine .b fun b=>?_|refine .u fun u=>?_|refine .d ?_ ?_|(refine .g fun hg=>?_;try exact svx)|fail)
 refine S.call ?_;refine (dn _ _ _ _ _).mono ?_;rintro r h' ⟨rfl,hh⟩;subst hh
 (repeat' first|refine svE ⟨?_⟩|refine .b fun b=>?_|refine .u fun u=>?_|refine .d ?_ ?_|(refine .g fun hg=>?_;try exact svx)|fail)
 exact fin_r (h':=.own v1 7 (([]:List SD).map SD.enc) 66::h) ⟨v1,rfl,rfl⟩
theorem grabP10 (s:RT) (h:Heap) (rf:∀b0 v H,OE.box b0 (runC s v) 135∈H→ACalls Tryz.prog 51 [.val (.pointer (some ⟨b0,0,none⟩)),AV.val (.bool (true)),(gaA s.nw).enc] H (fun r h'=>r=AV.val (.int .i64 (0))∧h'=H))
  (hl:s.p.ws.length≤1000000∧s.q.ws.length≤1000000) (hn:pickF ((s.setd true ((s.dv true).begin (gaA s.nw) true)).setd false ((s.dv false).freeze))=none) :
  ACalls Tryz.prog 21 [s.enc,AV.val (.bool (true)),(gaA 0).enc,AV.val (.int .i64 (1)),AV.val (.int .i64 (1))] h (fun r h'=>∃v,r=.tup [((s.setd true ((s.dv true).begin (gaA s.nw) true)).setd false ((s.dv false).freeze)).enc,AV.val (.int .i64 (0)),.val v]∧h'=.own v 7 (([]:List SD).map SD.enc) 66::h):=by
 have al:=fun b0 v H=>all_c (fun s' L=>s'=((s.setd true ((s.dv true).begin (gaA s.nw) true)).setd false ((s.dv false).freeze))∧L=[]) (fun s' L k=>by rw[k.1];exact hl) (fun s' L p n i k hp=>by rw[k.1,hn] at hp;cases hp) b0 v ((s.setd true ((s.dv true).begin (gaA s.nw) true)).setd false ((s.dv false).freeze)) [] H ⟨rfl,rfl⟩
 have dc1:=fun b h=>device_c b true h
 have dc2:=fun b h=>device_c b false h
 have bc:=fun h=>begin_c s.p (gaA s.nw) true h
 have fz:=fun h=>freeze_c s.q h
 have dn:=fun b0 v s L H=>done_c b0 v s L H
 clear hl hn
 unfold RT.enc runH runC DV.enc RT.setd RT.dv DV.begin DV.freeze gaA AC.enc at *
 dsimp only at rf bc ⊢
 refine ACalls.intro Tryz.func21 rfl Tryz.ntmps21 Tryz.results21 (Nat.le_of_ble_eq_true rfl) ?_
 refine W.nil_ 7 66 ?_
 (repeat' first|refine svE ⟨?_⟩|refine .b fun b=>?_|refine .u fun u=>?_|refine .d ?_ ?_|(refine .g fun hg=>?_;try exact svx)|fail)
 rename_i b2 b3 b4
 revert b
 intro b9
 refine Step.le (s':=⟨71,[(30,AV.val (.bool (true))),(31,.agg [AV.val (.int .i64 (3)),AV.val (.int .u32 (1)),AV.val (.bool (false)),AV.val (.int .i64 (31)),AV.val (.bool (false)),AV.val (.bool (false)),AV.val (.int .i64 (0)),AV.val (.int .u32 (s.nw))]),(13,.val (.pointer (some ⟨b9,0,none⟩))),(7,.val (.pointer (some ⟨b3,0,none⟩))),(10,.val (.pointer (some ⟨b4,0,none⟩))),(1,AV.val (.bool (true))),(3,AV.val (.int .i64 (1))),(4,AV.val (.int .i64 (1)))],.box b9 (mapV .u32 vIds s.k::mapV .u32 (vI .u32) s.up::AV.ro 1 (ints .u32 (s.o))::mapV .u32 vSW s.V::mapK (vI .i64) s.M::mapV .u32 (vI .i64) s.N::AV.val (.int .u32 (s.fw))::AV.val (.int .i64 (s.fr))::AV.val (.int .u32 (s.ft))::AV.ro 9 []::AV.val (.int .i64 ((s.p).a.cl))::AV.val (.int .u32 ((s.p).a.w))::AV.val (.bool ((s.p).a.ow))::AV.val (.int .i64 ((s.p).a.mask))::AV.val (.bool ((s.p).a.au))::AV.val (.bool ((s.p).a.pa))::AV.val (.int .i64 ((s.p).a.code))::AV.val (.int .u32 ((s.p).a.time))::AV.val (.bool ((s.p).g))::AV.val (.bool ((s.p).f))::AV.val (.bool ((s.p).s))::AV.val (.int .i64 ((s.p).held.k))::AV.val (.int .i64 ((s.p).held.c))::AV.val (.int .i64 ((s.p).held.x))::AV.val (.int .i64 ((s.p).held.y))::AV.val (.int .u32 ((s.p).held.t))::AV.val (.int .i64 ((s.p).held.n))::AV.val (.bool ((s.p).hs))::AV.ro 6 ((s.p).ws.map IN.enc)::AV.val (.int .i64 ((s.q).a.cl))::AV.val (.int .u32 ((s.q).a.w))::AV.val (.bool ((s.q).a.ow))::AV.val (.int .i64 ((s.q).a.mask))::AV.val (.bool ((s.q).a.au))::AV.val (.bool ((s.q).a.pa))::AV.val (.int .i64 ((s.q).a.code))::AV.val (.int .u32 ((s.q).a.time))::AV.val (.bool ((s.q).g))::AV.val (.bool ((s.q).f))::AV.val (.bool ((s.q).s))::AV.val (.int .i64 ((s.q).held.k))::AV.val (.int .i64 ((s.q).held.c))::AV.val (.int .i64 ((s.q).held.x))::AV.val (.int .i64 ((s.q).held.y))::AV.val (.int .u32 ((s.q).held.t))::AV.val (.int .i64 ((s.q).held.n))::AV.val (.bool ((s.q).hs))::AV.ro 6 ((s.q).ws.map IN.enc)::AV.val (.int .i64 (s.x))::AV.val (.int .i64 (s.y))::AV.val (.int .i64 (s.bt))::AV.val (.int .i64 (s.md))::AV.val (.int .i64 (s.ct))::AV.val (.int .u32 (s.nw))::AV.val (.int .u32 (s.un))::(.val (.slice none 0 0))::[]) 135::.box b3 [AV.val (.int .i64 (3)),AV.val (.int .u32 (1)),AV.val (.bool (false)),AV.val (.int .i64 (31)),AV.val (.bool (false)),AV.val (.bool (false)),AV.val (.int .i64 (0)),AV.val (.int .u32 (s.nw))] 45::.own (.slice none 0 0) 7 (([]:List SD).map SD.enc) 66::.box b4 _ 52::h⟩) lee ?_
 refine S.call ?_
 refine ACalls.mono (rf b9 (.val (.slice none 0 0)) _ ?_) ?_
 ·exact List.Mem.head _
 rintro r h' ⟨rfl,hh⟩
 subst hh
 (repeat' first|refine svE ⟨?_⟩|refine .b fun b=>?_|refine .u fun u=>?_|refine .d ?_ ?_|(refine .g fun hg=>?_;try exact svx)|fail)
 refine S.call ?_;refine (dc1 _ _).mono ?_;rintro r h' ⟨rfl,hh⟩;subst hh
 (repeat' first|refine svE ⟨?_⟩|refine .b fun b=>?_|refine .u fun u=>?_|refine .d ?_ ?_|(refine .g fun hg=>?_;try exact svx)|fail)
 refine S.call ?_;refine (dc2 _ _).mono ?_;rintro r h' ⟨rfl,hh⟩;subst hh
 (repeat' first|refine svE ⟨?_⟩|refine .b fun b=>?_|refine .u fun u=>?_|refine .d ?_ ?_|(refine .g fun hg=>?_;try exact svx)|fail)
 refine R2.C (bc _) ?_
 (repeat' first|refine svE ⟨?_⟩|refine .b fun b=>?_|refine .u fun u=>?_|refine .d ?_ ?_|(refine .g fun hg=>?_;try exact svx)|fail)
 refine S.store_any ?_ (hl:=Nat.le_of_ble_eq_true rfl)
 (repeat' first|refine svE ⟨?_⟩|refine .b fun b=>?_|refine .u fun u=>?_|refine .d ?_ ?_|(refine .g fun hg=>?_;try exact svx)|fail)
 refine S.call ?_;refine (fz _).mono ?_;rintro r h' ⟨rfl,hh⟩;subst hh
 (repeat' first|refine svE ⟨?_⟩|refine .b fun b=>?_|refine .u fun u=>?_|refine .d ?_ ?_|(refine .g fun hg=>?_;try exact svx)|fail)
 refine S.store_any ?_ (hl:=Nat.le_of_ble_eq_true rfl)
 (repeat' first|refine svE ⟨?_⟩|refine .b fun b=>?_|refine .u fun u=>?_|refine .d ?_ ?_|(refine .g fun hg=>?_;try exact svx)|fail)
 refine Step.le (s':=⟨71,[(13,.val (.pointer (some ⟨b9,0,none⟩))),(10,.val (.pointer (some ⟨b4,0,none⟩)))],.box b9 (runC ((s.setd true ((s.dv true).begin (gaA s.nw) true)).setd false ((s.dv false).freeze)) (.val (.slice none 0 0))) 135::.own (.slice none 0 0) 7 (([]:List SD).map SD.enc) 66::.box b4 _ 52::h⟩) lee ?_
 refine S.call ?_
 refine (al _ _ _).mono ?_
 rintro r h' ⟨v1,s1,L1,⟨rfl,rfl⟩,hn,rfl,hh⟩
 subst hh
 (repeat' first|refine svE ⟨?_⟩|refine .b fun b=>?_|refine .u fun u=>?_|refine .d ?_ ?_|(refine .g fun hg=>?_;try exact svx)|fail)
 refine S.call ?_;refine (dn _ _ _ _ _).mono ?_;rintro r h' ⟨rfl,hh⟩;subst hh
 (repeat' first|refine svE ⟨?_⟩|refine .b fun b=>?_|refine .u fun u=>?_|refine .d ?_ ?_|(refine .g fun hg=>?_;try exact svx)|fail)
 exact fin_r (h':=.own v1 7 (([]:List SD).map SD.enc) 66::h) ⟨v1,rfl,rfl⟩
theorem grabK10 (s:RT) (h:Heap) (rf:∀b0 v H,OE.box b0 (runC s v) 135∈H→ACalls Tryz.prog 51 [.val (.pointer (some ⟨b0,0,none⟩)),AV.val (.bool (false)),(gaA s.nw).enc] H (fun r h'=>r=AV.val (.int .i64 (0))∧h'=H))
  (hl:s.p.ws.length≤1000000∧s.q.ws.length≤1000000) (hn:pickF ((s.setd false ((s.dv false).begin (gaA s.nw) true)).setd true ((s.dv true).freeze))=none) :
  ACalls Tryz.prog 21 [s.enc,AV.val (.bool (false)),(gaA 0).enc,AV.val (.int .i64 (1)),AV.val (.int .i64 (1))] h (fun r h'=>∃v,r=.tup [((s.setd false ((s.dv false).begin (gaA s.nw) true)).setd true ((s.dv true).freeze)).enc,AV.val (.int .i64 (0)),.val v]∧h'=.own v 7 (([]:List SD).map SD.enc) 66::h):=by
 have al:=fun b0 v H=>all_c (fun s' L=>s'=((s.setd false ((s.dv false).begin (gaA s.nw) true)).setd true ((s.dv true).freeze))∧L=[]) (fun s' L k=>by rw[k.1];exact hl) (fun s' L p n i k hp=>by rw[k.1,hn] at hp;cases hp) b0 v ((s.setd false ((s.dv false).begin (gaA s.nw) true)).setd true ((s.dv true).freeze)) [] H ⟨rfl,rfl⟩
 have dc1:=fun b h=>device_c b false h
 have dc2:=fun b h=>device_c b true h
 have bc:=fun h=>begin_c s.q (gaA s.nw) true h
 have fz:=fun h=>freeze_c s.p h
 have dn:=fun b0 v s L H=>done_c b0 v s L H
 clear hl hn
 unfold RT.enc runH runC DV.enc RT.setd RT.dv DV.begin DV.freeze gaA AC.enc at *
 dsimp only at rf bc ⊢
 refine ACalls.intro Tryz.func21 rfl Tryz.ntmps21 Tryz.results21 (Nat.le_of_ble_eq_true rfl) ?_
 refine W.nil_ 7 66 ?_
 (repeat' first|refine svE ⟨?_⟩|refine .b fun b=>?_|refine .u fun u=>?_|refine .d ?_ ?_|(refine .g fun hg=>?_;try exact svx)|fail)
 rename_i b2 b3 b4
 revert b
 intro b9
 refine Step.le (s':=⟨71,[(30,AV.val (.bool (false))),(31,.agg [AV.val (.int .i64 (3)),AV.val (.int .u32 (1)),AV.val (.bool (false)),AV.val (.int .i64 (31)),AV.val (.bool (false)),AV.val (.bool (false)),AV.val (.int .i64 (0)),AV.val (.int .u32 (s.nw))]),(13,.val (.pointer (some ⟨b9,0,none⟩))),(7,.val (.pointer (some ⟨b3,0,none⟩))),(10,.val (.pointer (some ⟨b4,0,none⟩))),(1,AV.val (.bool (false))),(3,AV.val (.int .i64 (1))),(4,AV.val (.int .i64 (1)))],.box b9 (mapV .u32 vIds s.k::mapV .u32 (vI .u32) s.up::AV.ro 1 (ints .u32 (s.o))::mapV .u32 vSW s.V::mapK (vI .i64) s.M::mapV .u32 (vI .i64) s.N::AV.val (.int .u32 (s.fw))::AV.val (.int .i64 (s.fr))::AV.val (.int .u32 (s.ft))::AV.ro 9 []::AV.val (.int .i64 ((s.p).a.cl))::AV.val (.int .u32 ((s.p).a.w))::AV.val (.bool ((s.p).a.ow))::AV.val (.int .i64 ((s.p).a.mask))::AV.val (.bool ((s.p).a.au))::AV.val (.bool ((s.p).a.pa))::AV.val (.int .i64 ((s.p).a.code))::AV.val (.int .u32 ((s.p).a.time))::AV.val (.bool ((s.p).g))::AV.val (.bool ((s.p).f))::AV.val (.bool ((s.p).s))::AV.val (.int .i64 ((s.p).held.k))::AV.val (.int .i64 ((s.p).held.c))::AV.val (.int .i64 ((s.p).held.x))::AV.val (.int .i64 ((s.p).held.y))::AV.val (.int .u32 ((s.p).held.t))::AV.val (.int .i64 ((s.p).held.n))::AV.val (.bool ((s.p).hs))::AV.ro 6 ((s.p).ws.map IN.enc)::AV.val (.int .i64 ((s.q).a.cl))::AV.val (.int .u32 ((s.q).a.w))::AV.val (.bool ((s.q).a.ow))::AV.val (.int .i64 ((s.q).a.mask))::AV.val (.bool ((s.q).a.au))::AV.val (.bool ((s.q).a.pa))::AV.val (.int .i64 ((s.q).a.code))::AV.val (.int .u32 ((s.q).a.time))::AV.val (.bool ((s.q).g))::AV.val (.bool ((s.q).f))::AV.val (.bool ((s.q).s))::AV.val (.int .i64 ((s.q).held.k))::AV.val (.int .i64 ((s.q).held.c))::AV.val (.int .i64 ((s.q).held.x))::AV.val (.int .i64 ((s.q).held.y))::AV.val (.int .u32 ((s.q).held.t))::AV.val (.int .i64 ((s.q).held.n))::AV.val (.bool ((s.q).hs))::AV.ro 6 ((s.q).ws.map IN.enc)::AV.val (.int .i64 (s.x))::AV.val (.int .i64 (s.y))::AV.val (.int .i64 (s.bt))::AV.val (.int .i64 (s.md))::AV.val (.int .i64 (s.ct))::AV.val (.int .u32 (s.nw))::AV.val (.int .u32 (s.un))::(.val (.slice none 0 0))::[]) 135::.box b3 [AV.val (.int .i64 (3)),AV.val (.int .u32 (1)),AV.val (.bool (false)),AV.val (.int .i64 (31)),AV.val (.bool (false)),AV.val (.bool (false)),AV.val (.int .i64 (0)),AV.val (.int .u32 (s.nw))] 45::.own (.slice none 0 0) 7 (([]:List SD).map SD.enc) 66::.box b4 _ 52::h⟩) lee ?_
 refine S.call ?_
 refine ACalls.mono (rf b9 (.val (.slice none 0 0)) _ ?_) ?_
 ·exact List.Mem.head _
 rintro r h' ⟨rfl,hh⟩
 subst hh
 (repeat' first|refine svE ⟨?_⟩|refine .b fun b=>?_|refine .u fun u=>?_|refine .d ?_ ?_|(refine .g fun hg=>?_;try exact svx)|fail)
 refine S.call ?_;refine (dc1 _ _).mono ?_;rintro r h' ⟨rfl,hh⟩;subst hh
 (repeat' first|refine svE ⟨?_⟩|refine .b fun b=>?_|refine .u fun u=>?_|refine .d ?_ ?_|(refine .g fun hg=>?_;try exact svx)|fail)
 refine S.call ?_;refine (dc2 _ _).mono ?_;rintro r h' ⟨rfl,hh⟩;subst hh
 (repeat' first|refine svE ⟨?_⟩|refine .b fun b=>?_|refine .u fun u=>?_|refine .d ?_ ?_|(refine .g fun hg=>?_;try exact svx)|fail)
 refine R2.C (bc _) ?_
 (repeat' first|refine svE ⟨?_⟩|refine .b fun b=>?_|refine .u fun u=>?_|refine .d ?_ ?_|(refine .g fun hg=>?_;try exact svx)|fail)
 refine S.store_any ?_ (hl:=Nat.le_of_ble_eq_true rfl)
 (repeat' first|refine svE ⟨?_⟩|refine .b fun b=>?_|refine .u fun u=>?_|refine .d ?_ ?_|(refine .g fun hg=>?_;try exact svx)|fail)
 refine S.call ?_;refine (fz _).mono ?_;rintro r h' ⟨rfl,hh⟩;subst hh
 (repeat' first|refine svE ⟨?_⟩|refine .b fun b=>?_|refine .u fun u=>?_|refine .d ?_ ?_|(refine .g fun hg=>?_;try exact svx)|fail)
 refine S.store_any ?_ (hl:=Nat.le_of_ble_eq_true rfl)
 (repeat' first|refine svE ⟨?_⟩|refine .b fun b=>?_|refine .u fun u=>?_|refine .d ?_ ?_|(refine .g fun hg=>?_;try exact svx)|fail)
 refine Step.le (s':=⟨71,[(13,.val (.pointer (some ⟨b9,0,none⟩))),(10,.val (.pointer (some ⟨b4,0,none⟩)))],.box b9 (runC ((s.setd false ((s.dv false).begin (gaA s.nw) true)).setd true ((s.dv true).freeze)) (.val (.slice none 0 0))) 135::.own (.slice none 0 0) 7 (([]:List SD).map SD.enc) 66::.box b4 _ 52::h⟩) lee ?_
 refine S.call ?_
 refine (al _ _ _).mono ?_
 rintro r h' ⟨v1,s1,L1,⟨rfl,rfl⟩,hn,rfl,hh⟩
 subst hh
 (repeat' first|refine svE ⟨?_⟩|refine .b fun b=>?_|refine .u fun u=>?_|refine .d ?_ ?_|(refine .g fun hg=>?_;try exact svx)|fail)
 refine S.call ?_;refine (dn _ _ _ _ _).mono ?_;rintro r h' ⟨rfl,hh⟩;subst hh
 (repeat' first|refine svE ⟨?_⟩|refine .b fun b=>?_|refine .u fun u=>?_|refine .d ?_ ?_|(refine .g fun hg=>?_;try exact svx)|fail)
 exact fin_r (h':=.own v1 7 (([]:List SD).map SD.enc) 66::h) ⟨v1,rfl,rfl⟩
theorem grabP0 (s:RT) (h:Heap) (rf:∀b0 v H,OE.box b0 (runC s v) 135∈H→ACalls Tryz.prog 51 [.val (.pointer (some ⟨b0,0,none⟩)),AV.val (.bool (true)),(gaA s.nw).enc] H (fun r h'=>r=AV.val (.int .i64 (0))∧h'=H))
  (hl:s.p.ws.length≤1000000∧s.q.ws.length≤1000000) (hn:pickF (s.setd true ((s.dv true).begin (gaA s.nw) false))=none) :
  ACalls Tryz.prog 21 [s.enc,AV.val (.bool (true)),(gaA 0).enc,AV.val (.int .i64 (0)),AV.val (.int .i64 (0))] h (fun r h'=>r=.tup [(s.setd true ((s.dv true).begin (gaA s.nw) false)).enc,AV.val (.int .i64 (0)),.ro 7 []]∧h'=h):=by
 refine (grabP00 s h rf hl hn).frzo ?_
 rintro r h' ⟨v,rfl,rfl⟩
 exact .inr ⟨v,7,_,_,_,h,.here,.tupc (.keep _) (.tupc (.keep _) (.tupc .hit .tupn)),rfl,rfl⟩
theorem grabK0 (s:RT) (h:Heap) (rf:∀b0 v H,OE.box b0 (runC s v) 135∈H→ACalls Tryz.prog 51 [.val (.pointer (some ⟨b0,0,none⟩)),AV.val (.bool (false)),(gaA s.nw).enc] H (fun r h'=>r=AV.val (.int .i64 (0))∧h'=H))
  (hl:s.p.ws.length≤1000000∧s.q.ws.length≤1000000) (hn:pickF (s.setd false ((s.dv false).begin (gaA s.nw) false))=none) :
  ACalls Tryz.prog 21 [s.enc,AV.val (.bool (false)),(gaA 0).enc,AV.val (.int .i64 (0)),AV.val (.int .i64 (0))] h (fun r h'=>r=.tup [(s.setd false ((s.dv false).begin (gaA s.nw) false)).enc,AV.val (.int .i64 (0)),.ro 7 []]∧h'=h):=by
 refine (grabK00 s h rf hl hn).frzo ?_
 rintro r h' ⟨v,rfl,rfl⟩
 exact .inr ⟨v,7,_,_,_,h,.here,.tupc (.keep _) (.tupc (.keep _) (.tupc .hit .tupn)),rfl,rfl⟩
theorem grabP1 (s:RT) (h:Heap) (rf:∀b0 v H,OE.box b0 (runC s v) 135∈H→ACalls Tryz.prog 51 [.val (.pointer (some ⟨b0,0,none⟩)),AV.val (.bool (true)),(gaA s.nw).enc] H (fun r h'=>r=AV.val (.int .i64 (0))∧h'=H))
  (hl:s.p.ws.length≤1000000∧s.q.ws.length≤1000000) (hn:pickF ((s.setd true ((s.dv true).begin (gaA s.nw) true)).setd false ((s.dv false).freeze))=none) :
  ACalls Tryz.prog 21 [s.enc,AV.val (.bool (true)),(gaA 0).enc,AV.val (.int .i64 (1)),AV.val (.int .i64 (1))] h (fun r h'=>r=.tup [((s.setd true ((s.dv true).begin (gaA s.nw) true)).setd false ((s.dv false).freeze)).enc,AV.val (.int .i64 (0)),.ro 7 []]∧h'=h):=by
 refine (grabP10 s h rf hl hn).frzo ?_
 rintro r h' ⟨v,rfl,rfl⟩
 exact .inr ⟨v,7,_,_,_,h,.here,.tupc (.keep _) (.tupc (.keep _) (.tupc .hit .tupn)),rfl,rfl⟩
theorem grabK1 (s:RT) (h:Heap) (rf:∀b0 v H,OE.box b0 (runC s v) 135∈H→ACalls Tryz.prog 51 [.val (.pointer (some ⟨b0,0,none⟩)),AV.val (.bool (false)),(gaA s.nw).enc] H (fun r h'=>r=AV.val (.int .i64 (0))∧h'=H))
  (hl:s.p.ws.length≤1000000∧s.q.ws.length≤1000000) (hn:pickF ((s.setd false ((s.dv false).begin (gaA s.nw) true)).setd true ((s.dv true).freeze))=none) :
  ACalls Tryz.prog 21 [s.enc,AV.val (.bool (false)),(gaA 0).enc,AV.val (.int .i64 (1)),AV.val (.int .i64 (1))] h (fun r h'=>r=.tup [((s.setd false ((s.dv false).begin (gaA s.nw) true)).setd true ((s.dv true).freeze)).enc,AV.val (.int .i64 (0)),.ro 7 []]∧h'=h):=by
 refine (grabK10 s h rf hl hn).frzo ?_
 rintro r h' ⟨v,rfl,rfl⟩
 exact .inr ⟨v,7,_,_,_,h,.here,.tupc (.keep _) (.tupc (.keep _) (.tupc .hit .tupn)),rfl,rfl⟩
end Go.Proofs.YtbknacpdcdkjiaaGreat
