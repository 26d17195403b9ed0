import Derived.Test.YtbknacpdcdkjiaaGreatVM37
import Derived.Test.YtbknacpdcdkjiaaGreatF1
import Derived.Test.YtbknacpdcdkjiaaGreatVM43
import Derived.Test.YtbknacpdcdkjiaaGreatF3
/- Kinds of inputs; the device; places in events. No condition. -/
namespace Go.Proofs.YtbknacpdcdkjiaaGreat
open Go Go.VM
set_option maxRecDepth 100000
attribute [local irreducible] PurV Pur Step RL W D ACalls Then InBlock Fini
set_option linter.unusedVariables false
set_option linter.unusedSimpArgs false
set_option maxHeartbeats 20000000
theorem device_c (b:Nat) (p:Bool) (h:Heap):ACalls Tryz.prog 39 [.val (.pointer (some ⟨b,0,none⟩)),.val (.bool (p))] h (fun r h'=>r=.val (.pointer (some ⟨b,(if p then 10 else 29),none⟩))∧h'=h):=by
 cases p
 all_goals
  refine ACalls.intro Tryz.func39 rfl Tryz.ntmps39 Tryz.results39 (Nat.le_of_ble_eq_true rfl) ?_
  (repeat' first|refine svz ⟨fun b hq=>?_⟩|refine svE ⟨?_⟩|refine .b fun b=>?_|refine .u fun u=>?_|refine .d ?_ ?_|(refine .g fun hg=>?_;try exact svx)|fail)
  refine fin_r (h':=h) (Q:=fun r h'=>r=_∧h'=h) ?_;exact⟨rfl,rfl⟩
structure KD where
 (p:Bool) (m:Int) (pr rl:Bool) (fn:Nat)
def KD.enc (k:KD):AV:=.agg [.val (.bool (k.p)),.val (.int .i64 (k.m)),.val (.bool (k.pr)),.val (.bool (k.rl)),.val (.func (.func k.fn) #[] #[])]
def kdF (k:Int):KD:=if k=1 then ⟨false,1,true,false,77⟩ else if k=2 then ⟨false,2,false,true,78⟩ else if k=3 then ⟨true,4,true,false,77⟩ else if k=4 then ⟨true,8,false,true,78⟩ else ⟨true,16,false,false,79⟩
theorem kind_c (k:Int) (h:Heap) (hk:1≤k∧k≤5):ACalls Tryz.prog 36 [.val (.int .i64 (k))] h (fun r h'=>r=.tup [(kdF k).enc,.val (.bool (true))]∧h'=h):=by
 unfold KD.enc
 obtain rfl|rfl|rfl|rfl|rfl:k=1∨k=2∨k=3∨k=4∨k=5:=by omega
 ·refine ACalls.intro Tryz.func36 rfl Tryz.ntmps36 Tryz.results36 (Nat.le_of_ble_eq_true rfl) ?_;(repeat' first|refine svz ⟨fun b hq=>?_⟩|refine svE ⟨?_⟩|refine .b fun b=>?_|refine .u fun u=>?_|refine .d ?_ ?_|(refine .g fun hg=>?_;try exact svx)|fail);refine step_v (pur_buildark (by repeat (first|exact EvalP.nil|(apply EvalP.cons;rfl))) rfl) rfl ?_;(repeat' first|refine svz ⟨fun b hq=>?_⟩|refine svE ⟨?_⟩|refine .b fun b=>?_|refine .u fun u=>?_|refine .d ?_ ?_|(refine .g fun hg=>?_;try exact svx)|fail);refine S.Ar (j:=1) ?_;(repeat' first|refine svz ⟨fun b hq=>?_⟩|refine svE ⟨?_⟩|refine .b fun b=>?_|refine .u fun u=>?_|refine .d ?_ ?_|(refine .g fun hg=>?_;try exact svx)|fail);refine fin_r (h':=h) (Q:=fun r h'=>r=_∧h'=h) ?_;exact⟨rfl,rfl⟩
 ·refine ACalls.intro Tryz.func36 rfl Tryz.ntmps36 Tryz.results36 (Nat.le_of_ble_eq_true rfl) ?_;(repeat' first|refine svz ⟨fun b hq=>?_⟩|refine svE ⟨?_⟩|refine .b fun b=>?_|refine .u fun u=>?_|refine .d ?_ ?_|(refine .g fun hg=>?_;try exact svx)|fail);refine step_v (pur_buildark (by repeat (first|exact EvalP.nil|(apply EvalP.cons;rfl))) rfl) rfl ?_;(repeat' first|refine svz ⟨fun b hq=>?_⟩|refine svE ⟨?_⟩|refine .b fun b=>?_|refine .u fun u=>?_|refine .d ?_ ?_|(refine .g fun hg=>?_;try exact svx)|fail);refine S.Ar (j:=2) ?_;(repeat' first|refine svz ⟨fun b hq=>?_⟩|refine svE ⟨?_⟩|refine .b fun b=>?_|refine .u fun u=>?_|refine .d ?_ ?_|(refine .g fun hg=>?_;try exact svx)|fail);refine fin_r (h':=h) (Q:=fun r h'=>r=_∧h'=h) ?_;exact⟨rfl,rfl⟩
 ·refine ACalls.intro Tryz.func36 rfl Tryz.ntmps36 Tryz.results36 (Nat.le_of_ble_eq_true rfl) ?_;(repeat' first|refine svz ⟨fun b hq=>?_⟩|refine svE ⟨?_⟩|refine .b fun b=>?_|refine .u fun u=>?_|refine .d ?_ ?_|(refine .g fun hg=>?_;try exact svx)|fail);refine step_v (pur_buildark (by repeat (first|exact EvalP.nil|(apply EvalP.cons;rfl))) rfl) rfl ?_;(repeat' first|refine svz ⟨fun b hq=>?_⟩|refine svE ⟨?_⟩|refine .b fun b=>?_|refine .u fun u=>?_|refine .d ?_ ?_|(refine .g fun hg=>?_;try exact svx)|fail);refine S.Ar (j:=3) ?_;(repeat' first|refine svz ⟨fun b hq=>?_⟩|refine svE ⟨?_⟩|refine .b fun b=>?_|refine .u fun u=>?_|refine .d ?_ ?_|(refine .g fun hg=>?_;try exact svx)|fail);refine fin_r (h':=h) (Q:=fun r h'=>r=_∧h'=h) ?_;exact⟨rfl,rfl⟩
 ·refine ACalls.intro Tryz.func36 rfl Tryz.ntmps36 Tryz.results36 (Nat.le_of_ble_eq_true rfl) ?_;(repeat' first|refine svz ⟨fun b hq=>?_⟩|refine svE ⟨?_⟩|refine .b fun b=>?_|refine .u fun u=>?_|refine .d ?_ ?_|(refine .g fun hg=>?_;try exact svx)|fail);refine step_v (pur_buildark (by repeat (first|exact EvalP.nil|(apply EvalP.cons;rfl))) rfl) rfl ?_;(repeat' first|refine svz ⟨fun b hq=>?_⟩|refine svE ⟨?_⟩|refine .b fun b=>?_|refine .u fun u=>?_|refine .d ?_ ?_|(refine .g fun hg=>?_;try exact svx)|fail);refine S.Ar (j:=4) ?_;(repeat' first|refine svz ⟨fun b hq=>?_⟩|refine svE ⟨?_⟩|refine .b fun b=>?_|refine .u fun u=>?_|refine .d ?_ ?_|(refine .g fun hg=>?_;try exact svx)|fail);refine fin_r (h':=h) (Q:=fun r h'=>r=_∧h'=h) ?_;exact⟨rfl,rfl⟩
 ·refine ACalls.intro Tryz.func36 rfl Tryz.ntmps36 Tryz.results36 (Nat.le_of_ble_eq_true rfl) ?_;(repeat' first|refine svz ⟨fun b hq=>?_⟩|refine svE ⟨?_⟩|refine .b fun b=>?_|refine .u fun u=>?_|refine .d ?_ ?_|(refine .g fun hg=>?_;try exact svx)|fail);refine step_v (pur_buildark (by repeat (first|exact EvalP.nil|(apply EvalP.cons;rfl))) rfl) rfl ?_;(repeat' first|refine svz ⟨fun b hq=>?_⟩|refine svE ⟨?_⟩|refine .b fun b=>?_|refine .u fun u=>?_|refine .d ?_ ?_|(refine .g fun hg=>?_;try exact svx)|fail);refine S.Ar (j:=5) ?_;(repeat' first|refine svz ⟨fun b hq=>?_⟩|refine svE ⟨?_⟩|refine .b fun b=>?_|refine .u fun u=>?_|refine .d ?_ ?_|(refine .g fun hg=>?_;try exact svx)|fail);refine fin_r (h':=h) (Q:=fun r h'=>r=_∧h'=h) ?_;exact⟨rfl,rfl⟩
def lessF (a o:Int):Int:=min (max (min (max a (-1099511627776)) 1099511627776 - o) (-32768)) 32767
theorem less_c (a o:Int) (h:Heap) (ho:-1000000≤o∧o≤1000000):ACalls Tryz.prog 89 [.val (.int .i64 (a)),.val (.int .i64 (o))] h (fun r h'=>r=.val (.int .i64 (lessF a o))∧h'=h):=by
 refine ACalls.intro Tryz.func89 rfl Tryz.ntmps89 Tryz.results89 (Nat.le_of_ble_eq_true rfl) ?_
 (repeat' first|refine svz ⟨fun b hq=>?_⟩|refine svE ⟨?_⟩|refine .b fun b=>?_|refine .u fun u=>?_|refine .d ?_ ?_|(refine .g fun hg=>?_;try exact svx)|fail)
 refine fin_r (h':=h) (Q:=fun r h'=>r=_∧h'=h) ?_;exact⟨rfl,rfl⟩
def witF (k:KD) (c:Int):Bool:=if !k.pr&&!k.rl then decide (c=0) else if k.p then decide (1≤c∧c≤5) else decide (1≤c∧c≤255)
theorem codeok_c (k:KD) (c:Int) (h:Heap):ACalls Tryz.prog 37 [k.enc,.val (.int .i64 (c))] h (fun r h'=>r=.val (.bool (witF k c))∧h'=h):=by
 obtain⟨p,m,pr,rl,fn⟩:=k
 unfold KD.enc witF
 dsimp only
 cases p<;>cases pr<;>cases rl
 all_goals
  refine ACalls.intro Tryz.func37 rfl Tryz.ntmps37 Tryz.results37 (Nat.le_of_ble_eq_true rfl) ?_
  (repeat' first|refine svz ⟨fun b hq=>?_⟩|refine svE ⟨?_⟩|refine .b fun b=>?_|refine .u fun u=>?_|refine .d ?_ ?_|(refine .g fun hg=>?_;try exact svx)|fail)
  all_goals refine fin_r (h':=h) (Q:=fun r h'=>r=_∧h'=h) ⟨?_,rfl⟩
  all_goals first|rfl|(refine congrArg (fun q=>AV.val (.bool q)) ?_;simp;done)|(refine congrArg (fun q=>AV.val (.bool q)) ?_;simp;omega)
end Go.Proofs.YtbknacpdcdkjiaaGreat

/- The state of a run; what is said. No condition. -/
namespace Go.Proofs.YtbknacpdcdkjiaaGreat
open Go Go.VM
set_option maxRecDepth 100000
attribute [local irreducible] PurV Pur Step RL W D ACalls Then InBlock Fini
set_option linter.unusedVariables false
set_option linter.unusedSimpArgs false
set_option maxHeartbeats 20000000
structure RT where
 (k:SVT) (up:UP) (o:List Int) (V:List (Int × SW)) (M:CM) (N:CS) (fw fr ft:Int) (p q:DV) (x y bt md ct nw un:Int)
def RT.enc (s:RT):AV:=.agg (mapV .u32 vIds s.k::mapV .u32 (vI .u32) s.up::AV.ro 1 (ints .u32 (s.o))::mapV .u32 vSW s.V::mapK (vI .i64) s.M::mapV .u32 (vI .i64) s.N::AV.val (.int .u32 (s.fw))::AV.val (.int .i64 (s.fr))::AV.val (.int .u32 (s.ft))::AV.ro 9 []::AV.val (.int .i64 ((s.p).a.cl))::AV.val (.int .u32 ((s.p).a.w))::AV.val (.bool ((s.p).a.ow))::AV.val (.int .i64 ((s.p).a.mask))::AV.val (.bool ((s.p).a.au))::AV.val (.bool ((s.p).a.pa))::AV.val (.int .i64 ((s.p).a.code))::AV.val (.int .u32 ((s.p).a.time))::AV.val (.bool ((s.p).g))::AV.val (.bool ((s.p).f))::AV.val (.bool ((s.p).s))::AV.val (.int .i64 ((s.p).held.k))::AV.val (.int .i64 ((s.p).held.c))::AV.val (.int .i64 ((s.p).held.x))::AV.val (.int .i64 ((s.p).held.y))::AV.val (.int .u32 ((s.p).held.t))::AV.val (.int .i64 ((s.p).held.n))::AV.val (.bool ((s.p).hs))::AV.ro 6 ((s.p).ws.map IN.enc)::AV.val (.int .i64 ((s.q).a.cl))::AV.val (.int .u32 ((s.q).a.w))::AV.val (.bool ((s.q).a.ow))::AV.val (.int .i64 ((s.q).a.mask))::AV.val (.bool ((s.q).a.au))::AV.val (.bool ((s.q).a.pa))::AV.val (.int .i64 ((s.q).a.code))::AV.val (.int .u32 ((s.q).a.time))::AV.val (.bool ((s.q).g))::AV.val (.bool ((s.q).f))::AV.val (.bool ((s.q).s))::AV.val (.int .i64 ((s.q).held.k))::AV.val (.int .i64 ((s.q).held.c))::AV.val (.int .i64 ((s.q).held.x))::AV.val (.int .i64 ((s.q).held.y))::AV.val (.int .u32 ((s.q).held.t))::AV.val (.int .i64 ((s.q).held.n))::AV.val (.bool ((s.q).hs))::AV.ro 6 ((s.q).ws.map IN.enc)::AV.val (.int .i64 (s.x))::AV.val (.int .i64 (s.y))::AV.val (.int .i64 (s.bt))::AV.val (.int .i64 (s.md))::AV.val (.int .i64 (s.ct))::AV.val (.int .u32 (s.nw))::AV.val (.int .u32 (s.un))::[])
def runC (s:RT) (v:AV):List AV:=mapV .u32 vIds s.k::mapV .u32 (vI .u32) s.up::AV.ro 1 (ints .u32 (s.o))::mapV .u32 vSW s.V::mapK (vI .i64) s.M::mapV .u32 (vI .i64) s.N::AV.val (.int .u32 (s.fw))::AV.val (.int .i64 (s.fr))::AV.val (.int .u32 (s.ft))::AV.ro 9 []::AV.val (.int .i64 ((s.p).a.cl))::AV.val (.int .u32 ((s.p).a.w))::AV.val (.bool ((s.p).a.ow))::AV.val (.int .i64 ((s.p).a.mask))::AV.val (.bool ((s.p).a.au))::AV.val (.bool ((s.p).a.pa))::AV.val (.int .i64 ((s.p).a.code))::AV.val (.int .u32 ((s.p).a.time))::AV.val (.bool ((s.p).g))::AV.val (.bool ((s.p).f))::AV.val (.bool ((s.p).s))::AV.val (.int .i64 ((s.p).held.k))::AV.val (.int .i64 ((s.p).held.c))::AV.val (.int .i64 ((s.p).held.x))::AV.val (.int .i64 ((s.p).held.y))::AV.val (.int .u32 ((s.p).held.t))::AV.val (.int .i64 ((s.p).held.n))::AV.val (.bool ((s.p).hs))::AV.ro 6 ((s.p).ws.map IN.enc)::AV.val (.int .i64 ((s.q).a.cl))::AV.val (.int .u32 ((s.q).a.w))::AV.val (.bool ((s.q).a.ow))::AV.val (.int .i64 ((s.q).a.mask))::AV.val (.bool ((s.q).a.au))::AV.val (.bool ((s.q).a.pa))::AV.val (.int .i64 ((s.q).a.code))::AV.val (.int .u32 ((s.q).a.time))::AV.val (.bool ((s.q).g))::AV.val (.bool ((s.q).f))::AV.val (.bool ((s.q).s))::AV.val (.int .i64 ((s.q).held.k))::AV.val (.int .i64 ((s.q).held.c))::AV.val (.int .i64 ((s.q).held.x))::AV.val (.int .i64 ((s.q).held.y))::AV.val (.int .u32 ((s.q).held.t))::AV.val (.int .i64 ((s.q).held.n))::AV.val (.bool ((s.q).hs))::AV.ro 6 ((s.q).ws.map IN.enc)::AV.val (.int .i64 (s.x))::AV.val (.int .i64 (s.y))::AV.val (.int .i64 (s.bt))::AV.val (.int .i64 (s.md))::AV.val (.int .i64 (s.ct))::AV.val (.int .u32 (s.nw))::AV.val (.int .u32 (s.un))::v::[]
structure SD where
 (cl code:Int) (n:List Int)
def SD.enc (d:SD):AV:=.agg [AV.val (.int .i64 (d.cl)),AV.val (.int .i64 (2)),AV.val (.int .i64 (d.code)),AV.val (.int .i64 (0)),.ro 1 (ints .i64 d.n),.val (.string ⟨#[]⟩),.val (.slice none 0 0)]
theorem SD.enc_eq (cl code:Int) (n:List Int):SD.enc ⟨cl,code,n⟩=.agg [AV.val (.int .i64 (cl)),AV.val (.int .i64 (2)),AV.val (.int .i64 (code)),AV.val (.int .i64 (0)),.ro 1 (ints .i64 n),.val (.string ⟨#[]⟩),.val (.slice none 0 0)]:=rfl
theorem cln64_0 (l:List Int) (h:Heap) (hl:l.length≤1000000000):ACalls Tryz.prog 120 [.ro 1 (ints .i64 l)] h (fun r h'=>(r=.val (.slice none 0 0)∧l=[]∧h'=h)∨∃v,r=.val v∧h'=.own v 1 (ints .i64 l) 2::h):=by
 refine ACalls.intro Tryz.func120 rfl Tryz.ntmps120 Tryz.results120 (Nat.le_of_ble_eq_true rfl) ?_
 (repeat' first|refine svz ⟨fun b hq=>?_⟩|refine svE ⟨?_⟩|refine .b fun b=>?_|refine .u fun u=>?_|refine .d ?_ ?_|(refine .g fun hg=>?_;try exact svx)|fail)
 ·have:l=[]:=by simpa[ints] using hq (by assumption)
  exact fin_r (h':=h) (.inl ⟨rfl,this,rfl⟩)
 ·exact fin_r (h':=.own u 1 (ints .i64 l) 2::h) (.inr ⟨u,rfl,rfl⟩)
theorem cln64_c (l:List Int) (h:Heap) (hl:l.length≤1000000000):ACalls Tryz.prog 120 [.ro 1 (ints .i64 l)] h (fun r h'=>r=.ro 1 (ints .i64 l)∧h'=h):=by
 refine ((cln64_0 l h hl).wk (Q':=fun r h'=>(r=.ro 1 (ints .i64 l)∧h'=h)∨∃v,r=.val v∧h'=.own v 1 (ints .i64 l) 2::h) ?_).frzo ?_
 ·rintro r h' (⟨rfl,rfl,rfl⟩|⟨v,rfl,rfl⟩)
  ·exact⟨_,.nilr 1,.inl ⟨rfl,rfl⟩⟩
  ·exact⟨_,.refl _,.inr ⟨v,rfl,rfl⟩⟩
 ·rintro r h' (⟨rfl,rfl⟩|⟨v,rfl,rfl⟩)
  ·exact .inl ⟨rfl,rfl⟩
  ·exact .inr ⟨v,1,_,_,_,h,.here,.hit,rfl,rfl⟩
theorem say_c (b:Nat) (v:Value) (s:RT) (code:Int) (cl n:List Int) (L:List SD) (H:Heap) (hl:L.length+cl.length≤1000000000) (hn:n.length≤1000) :
  ACalls Tryz.prog 85 [.val (.pointer (some ⟨b,0,none⟩)),AV.val (.int .i64 (code)),.ro 1 (ints .i64 cl),.ro 1 (ints .i64 n)] (.box b (runC s (.val v)) 135::.own v 7 (L.map SD.enc) 66::H)
   (fun r h'=>∃v',r=.tup []∧h'=.box b (runC s (.val v')) 135::.own v' 7 ((L++cl.map fun c=>(⟨c,code,n⟩:SD)).map SD.enc) 66::H):=by
 have c6:=fun h=>cln64_c n h (by omega)
 unfold runC
 refine ACalls.intro Tryz.func85 rfl Tryz.ntmps85 Tryz.results85 (Nat.le_of_ble_eq_true rfl) ?_
 refine W.len 2 rfl (fun hcl=>?_);simp only[ints,splice,List.length_map,List.length_append,List.length_cons,List.length_nil,List.length_take,List.length_drop,List.length_set,List.length_replicate] at hcl
 (repeat' first|refine svz ⟨fun b hq=>?_⟩|refine svE ⟨?_⟩|refine .b fun b=>?_|refine .u fun u=>?_|refine .d ?_ ?_|(refine .g fun hg=>?_;try exact svx)|fail)
 have e1:∀i (c:Int),cl[i]?=some c→(L++(cl.take (i+1)).map fun c=>(⟨c,code,n⟩:SD)).map SD.enc=(L++(cl.take i).map fun c=>(⟨c,code,n⟩:SD)).map SD.enc++[SD.enc ⟨c,code,n⟩]:=fun i c hc=>by
  rw[List.take_add_one,hc];simp
 refine W.loop (J:=fun z:Nat × Value=>⟨34,[(13,AV.val (.int .i64 ((z.1:Nat)))),(12,AV.val (.int .i64 ((cl.length:Nat)))),(11,.ro 1 (ints .i64 cl)),(0,.val (.pointer (some ⟨b,0,none⟩))),(1,AV.val (.int .i64 (code))),(3,.ro 1 (ints .i64 n))],.box b (mapV .u32 vIds s.k::mapV .u32 (vI .u32) s.up::AV.ro 1 (ints .u32 (s.o))::mapV .u32 vSW s.V::mapK (vI .i64) s.M::mapV .u32 (vI .i64) s.N::AV.val (.int .u32 (s.fw))::AV.val (.int .i64 (s.fr))::AV.val (.int .u32 (s.ft))::AV.ro 9 []::AV.val (.int .i64 ((s.p).a.cl))::AV.val (.int .u32 ((s.p).a.w))::AV.val (.bool ((s.p).a.ow))::AV.val (.int .i64 ((s.p).a.mask))::AV.val (.bool ((s.p).a.au))::AV.val (.bool ((s.p).a.pa))::AV.val (.int .i64 ((s.p).a.code))::AV.val (.int .u32 ((s.p).a.time))::AV.val (.bool ((s.p).g))::AV.val (.bool ((s.p).f))::AV.val (.bool ((s.p).s))::AV.val (.int .i64 ((s.p).held.k))::AV.val (.int .i64 ((s.p).held.c))::AV.val (.int .i64 ((s.p).held.x))::AV.val (.int .i64 ((s.p).held.y))::AV.val (.int .u32 ((s.p).held.t))::AV.val (.int .i64 ((s.p).held.n))::AV.val (.bool ((s.p).hs))::AV.ro 6 ((s.p).ws.map IN.enc)::AV.val (.int .i64 ((s.q).a.cl))::AV.val (.int .u32 ((s.q).a.w))::AV.val (.bool ((s.q).a.ow))::AV.val (.int .i64 ((s.q).a.mask))::AV.val (.bool ((s.q).a.au))::AV.val (.bool ((s.q).a.pa))::AV.val (.int .i64 ((s.q).a.code))::AV.val (.int .u32 ((s.q).a.time))::AV.val (.bool ((s.q).g))::AV.val (.bool ((s.q).f))::AV.val (.bool ((s.q).s))::AV.val (.int .i64 ((s.q).held.k))::AV.val (.int .i64 ((s.q).held.c))::AV.val (.int .i64 ((s.q).held.x))::AV.val (.int .i64 ((s.q).held.y))::AV.val (.int .u32 ((s.q).held.t))::AV.val (.int .i64 ((s.q).held.n))::AV.val (.bool ((s.q).hs))::AV.ro 6 ((s.q).ws.map IN.enc)::AV.val (.int .i64 (s.x))::AV.val (.int .i64 (s.y))::AV.val (.int .i64 (s.bt))::AV.val (.int .i64 (s.md))::AV.val (.int .i64 (s.ct))::AV.val (.int .u32 (s.nw))::AV.val (.int .u32 (s.un))::.val z.2::[]) 135::.own z.2 7 ((L++(cl.take z.1).map fun c=>(⟨c,code,n⟩:SD)).map SD.enc) 66::H⟩)
  (Φ:=fun z=>z.1≤cl.length) (μ:=fun z=>cl.length - z.1) (0,v) (by simp only[List.take_zero,List.map_nil,List.append_nil];exact lee) (Nat.zero_le _) ?_
 rintro⟨i,v1⟩ hi
 dsimp only at hi ⊢
 rcases Nat.lt_or_ge i cl.length with hlt|hge
 ·obtain⟨a,ha⟩:∃a,cl[i]?=some a:=⟨_,List.getElem?_eq_getElem hlt⟩
  have e2:=e1 i a ha
  rw[SD.enc_eq] at e2
  (repeat' first|refine svz ⟨fun b hq=>?_⟩|refine svE ⟨?_⟩|refine .b fun b=>?_|refine .u fun u=>?_|refine .d ?_ ?_|(refine .g fun hg=>?_;try exact svx)|fail)
  refine S.call ?_;refine (c6 _).mono ?_;rintro r h' ⟨rfl,hh⟩;subst hh
  (repeat' (first|(refine iR2 ?_;refine r2b ?_;refine R2.one (kk:=7) ?_)|refine svF ⟨?_⟩|refine .b fun b=>?_|refine .u fun u=>?_|refine .d ?_ ?_|(refine .g fun hg=>?_;try exact svx)|refine sva ?_|refine sv3 ?_|fail))
  refine⟨(i+1,by assumption),hlt,?_,by dsimp only;omega⟩
  dsimp only
  rw[e2]
  exact lee
 ·rw[List.take_of_length_le hge]
  (repeat' first|refine svz ⟨fun b hq=>?_⟩|refine svE ⟨?_⟩|refine .b fun b=>?_|refine .u fun u=>?_|refine .d ?_ ?_|(refine .g fun hg=>?_;try exact svx)|fail)
  exact fin_n (h':=.box b (mapV .u32 vIds s.k::mapV .u32 (vI .u32) s.up::AV.ro 1 (ints .u32 (s.o))::mapV .u32 vSW s.V::mapK (vI .i64) s.M::mapV .u32 (vI .i64) s.N::AV.val (.int .u32 (s.fw))::AV.val (.int .i64 (s.fr))::AV.val (.int .u32 (s.ft))::AV.ro 9 []::AV.val (.int .i64 ((s.p).a.cl))::AV.val (.int .u32 ((s.p).a.w))::AV.val (.bool ((s.p).a.ow))::AV.val (.int .i64 ((s.p).a.mask))::AV.val (.bool ((s.p).a.au))::AV.val (.bool ((s.p).a.pa))::AV.val (.int .i64 ((s.p).a.code))::AV.val (.int .u32 ((s.p).a.time))::AV.val (.bool ((s.p).g))::AV.val (.bool ((s.p).f))::AV.val (.bool ((s.p).s))::AV.val (.int .i64 ((s.p).held.k))::AV.val (.int .i64 ((s.p).held.c))::AV.val (.int .i64 ((s.p).held.x))::AV.val (.int .i64 ((s.p).held.y))::AV.val (.int .u32 ((s.p).held.t))::AV.val (.int .i64 ((s.p).held.n))::AV.val (.bool ((s.p).hs))::AV.ro 6 ((s.p).ws.map IN.enc)::AV.val (.int .i64 ((s.q).a.cl))::AV.val (.int .u32 ((s.q).a.w))::AV.val (.bool ((s.q).a.ow))::AV.val (.int .i64 ((s.q).a.mask))::AV.val (.bool ((s.q).a.au))::AV.val (.bool ((s.q).a.pa))::AV.val (.int .i64 ((s.q).a.code))::AV.val (.int .u32 ((s.q).a.time))::AV.val (.bool ((s.q).g))::AV.val (.bool ((s.q).f))::AV.val (.bool ((s.q).s))::AV.val (.int .i64 ((s.q).held.k))::AV.val (.int .i64 ((s.q).held.c))::AV.val (.int .i64 ((s.q).held.x))::AV.val (.int .i64 ((s.q).held.y))::AV.val (.int .u32 ((s.q).held.t))::AV.val (.int .i64 ((s.q).held.n))::AV.val (.bool ((s.q).hs))::AV.ro 6 ((s.q).ws.map IN.enc)::AV.val (.int .i64 (s.x))::AV.val (.int .i64 (s.y))::AV.val (.int .i64 (s.bt))::AV.val (.int .i64 (s.md))::AV.val (.int .i64 (s.ct))::AV.val (.int .u32 (s.nw))::AV.val (.int .u32 (s.un))::.val v1::[]) 135::.own v1 7 ((L++cl.map fun c=>(⟨c,code,n⟩:SD)).map SD.enc) 66::H) ⟨v1,rfl,rfl⟩
end Go.Proofs.YtbknacpdcdkjiaaGreat

/- An input's event. No condition. -/
namespace Go.Proofs.YtbknacpdcdkjiaaGreat
open Go Go.VM
set_option maxRecDepth 100000
attribute [local irreducible] PurV Pur Step RL W D ACalls Then InBlock Fini
set_option linter.unusedVariables false
set_option linter.unusedSimpArgs false
set_option maxHeartbeats 20000000
structure RT.Ok (s:RT):Prop where
 tw:TW s.k s.up
 ul:s.up.length≤1000
 vo:VOk s.V
 ol:s.o.length≤1000
theorem event_c (b0:Nat) (v:Value) (s:RT) (i:IN) (w:Int) (cl:List Int) (st:Int) (L:List SD) (H:Heap) (ok:s.Ok) (hl:L.length+cl.length≤1000000000) (hw:0≤w∧w≤4294967295) (ht:0≤i.t∧i.t≤4294967295) :
  ACalls Tryz.prog 114 [.val (.pointer (some ⟨b0,0,none⟩)),i.enc,.agg [AV.val (.int .u32 (w)),.ro 1 (ints .i64 cl)],AV.val (.int .i64 (st))] (.box b0 (runC s (.val v)) 135::.own v 7 (L.map SD.enc) 66::H)
   (fun r h'=>∃v' ch sx sy,r=.tup []∧h'=.box b0 (runC s (.val v')) 135::.own v' 7 ((L++cl.map fun c=>(⟨c,i.k,[w,ch,i.c,st,sx,sy,s.x,s.y,i.t]⟩:SD)).map SD.enc) 66::H):=by
 have pc:=fun h=>path_all ok.tw (by have:=ok.ul;omega) s.un h
 have ic:=fun h=>idx_c (pathA s.up s.un) w h
 have oc:=fun h=>vorigN_c s.o s.V w h
 have sc:=fun v ch sx sy=>say_c b0 v s i.k cl [w,ch,i.c,st,sx,sy,s.x,s.y,i.t] L H hl (by simp)
 obtain⟨ox,oy,og,eo,hox,hoy⟩:∃x y g,origV (lkF s.V w)=.tup [.agg [AV.val (.int .i64 (x)),AV.val (.int .i64 (y))],AV.val (.bool (g))]∧(-1000000≤x∧x≤1000000)∧-1000000≤y∧y≤1000000:=by
  cases e:lkF s.V w with
  | none=>exact⟨0,0,false,rfl,by omega,by omega⟩
  | some t=>have:=ok.vo w t e;exact⟨t.x,t.y,true,rfl,by omega,by omega⟩
 rw[eo] at oc
 have l1:=fun h=>less_c s.x ox h hox
 have l2:=fun h=>less_c s.y oy h hoy
 unfold runC encW encT at *
 rw[IN.enc_eq i]
 refine ACalls.intro Tryz.func114 rfl Tryz.ntmps114 Tryz.results114 (Nat.le_of_ble_eq_true rfl) ?_
 (repeat' first|refine svz ⟨fun b hq=>?_⟩|refine svE ⟨?_⟩|refine .b fun b=>?_|refine .u fun u=>?_|refine .d ?_ ?_|(refine .g fun hg=>?_;try exact svx)|fail)
 refine R2.C (pc _) ?_
 (repeat' first|refine svz ⟨fun b hq=>?_⟩|refine svE ⟨?_⟩|refine .b fun b=>?_|refine .u fun u=>?_|refine .d ?_ ?_|(refine .g fun hg=>?_;try exact svx)|fail)
 refine S.call ?_
 refine (ic _).mono ?_
 rintro r h' ⟨rfl,hh⟩
 subst hh
 unfold idxI
 cases hi:idxN w (pathA s.up s.un) with
 | none=>
  dsimp only
  (repeat' first|refine svz ⟨fun b hq=>?_⟩|refine svE ⟨?_⟩|refine .b fun b=>?_|refine .u fun u=>?_|refine .d ?_ ?_|(refine .g fun hg=>?_;try exact svx)|fail)
  refine R2.C (oc _) ?_;(repeat' first|refine svz ⟨fun b hq=>?_⟩|refine svE ⟨?_⟩|refine .b fun b=>?_|refine .u fun u=>?_|refine .d ?_ ?_|(refine .g fun hg=>?_;try exact svx)|fail);refine R2.C (l1 _) ?_;(repeat' first|refine svz ⟨fun b hq=>?_⟩|refine svE ⟨?_⟩|refine .b fun b=>?_|refine .u fun u=>?_|refine .d ?_ ?_|(refine .g fun hg=>?_;try exact svx)|fail);refine R2.C (l2 _) ?_;(repeat' first|refine svz ⟨fun b hq=>?_⟩|refine svE ⟨?_⟩|refine .b fun b=>?_|refine .u fun u=>?_|refine .d ?_ ?_|(refine .g fun hg=>?_;try exact svx)|fail);refine S.buildr (xs:=[.tmp 53,.tmp 55,.tmp 57,.tmp 58,.tmp 66,.tmp 74,.tmp 79,.tmp 84,.tmp 87]) (vs:=ints .i64 [w,0,i.c,st,lessF s.x ox,lessF s.y oy,s.x,s.y,i.t]) ⟨_,rfl,?_⟩ rfl rfl (by repeat (first|exact Evals.nil|(apply Evals.cons;rfl))) (by simp[ints,AV.cells]) (by repeat (first|exact Ones.nil|refine Ones.cons rfl ?_|refine Ones.own (by (fail_if_success (apply memG));repeat (first|exact List.Mem.head _|assumption|refine List.Mem.tail _ ?_)) ?_)) (by omega) rfl;refine R2.melt ?_;refine R2.B ?_;refine Step.le (s':=⟨90,[(46,.val (.pointer (some ⟨b0,0,none⟩))),(48,AV.val (.int .i64 (i.k))),(50,.ro 1 (ints .i64 cl)),(88,.ro 1 (ints .i64 [w,0,i.c,st,lessF s.x ox,lessF s.y oy,s.x,s.y,i.t]))],.box b0 (runC s (.val v)) 135::.own v 7 (L.map SD.enc) 66::H⟩) lee ?_;refine S.call ?_;refine (sc v (0) (lessF s.x ox) (lessF s.y oy)).mono ?_;rintro r h2 ⟨v2,rfl,hh⟩;subst hh;refine kd ?_;(repeat' first|refine svz ⟨fun b hq=>?_⟩|refine svE ⟨?_⟩|refine .b fun b=>?_|refine .u fun u=>?_|refine .d ?_ ?_|(refine .g fun hg=>?_;try exact svx)|fail);exact fin_n (h':=.box b0 (runC s (.val v2)) 135::.own v2 7 ((L++cl.map fun c=>(⟨c,i.k,[w,0,i.c,st,lessF s.x ox,lessF s.y oy,s.x,s.y,i.t]⟩:SD)).map SD.enc) 66::H) ⟨v2,0,_,_,rfl,rfl⟩
 | some j=>
  dsimp only
  cases j with
  | zero=>
   (repeat' first|refine svz ⟨fun b hq=>?_⟩|refine svE ⟨?_⟩|refine .b fun b=>?_|refine .u fun u=>?_|refine .d ?_ ?_|(refine .g fun hg=>?_;try exact svx)|fail)
   refine R2.C (oc _) ?_;(repeat' first|refine svz ⟨fun b hq=>?_⟩|refine svE ⟨?_⟩|refine .b fun b=>?_|refine .u fun u=>?_|refine .d ?_ ?_|(refine .g fun hg=>?_;try exact svx)|fail);refine R2.C (l1 _) ?_;(repeat' first|refine svz ⟨fun b hq=>?_⟩|refine svE ⟨?_⟩|refine .b fun b=>?_|refine .u fun u=>?_|refine .d ?_ ?_|(refine .g fun hg=>?_;try exact svx)|fail);refine R2.C (l2 _) ?_;(repeat' first|refine svz ⟨fun b hq=>?_⟩|refine svE ⟨?_⟩|refine .b fun b=>?_|refine .u fun u=>?_|refine .d ?_ ?_|(refine .g fun hg=>?_;try exact svx)|fail);refine S.buildr (xs:=[.tmp 53,.tmp 55,.tmp 57,.tmp 58,.tmp 66,.tmp 74,.tmp 79,.tmp 84,.tmp 87]) (vs:=ints .i64 [w,0,i.c,st,lessF s.x ox,lessF s.y oy,s.x,s.y,i.t]) ⟨_,rfl,?_⟩ rfl rfl (by repeat (first|exact Evals.nil|(apply Evals.cons;rfl))) (by simp[ints,AV.cells]) (by repeat (first|exact Ones.nil|refine Ones.cons rfl ?_|refine Ones.own (by (fail_if_success (apply memG));repeat (first|exact List.Mem.head _|assumption|refine List.Mem.tail _ ?_)) ?_)) (by omega) rfl;refine R2.melt ?_;refine R2.B ?_;refine Step.le (s':=⟨90,[(46,.val (.pointer (some ⟨b0,0,none⟩))),(48,AV.val (.int .i64 (i.k))),(50,.ro 1 (ints .i64 cl)),(88,.ro 1 (ints .i64 [w,0,i.c,st,lessF s.x ox,lessF s.y oy,s.x,s.y,i.t]))],.box b0 (runC s (.val v)) 135::.own v 7 (L.map SD.enc) 66::H⟩) lee ?_;refine S.call ?_;refine (sc v (0) (lessF s.x ox) (lessF s.y oy)).mono ?_;rintro r h2 ⟨v2,rfl,hh⟩;subst hh;refine kd ?_;(repeat' first|refine svz ⟨fun b hq=>?_⟩|refine svE ⟨?_⟩|refine .b fun b=>?_|refine .u fun u=>?_|refine .d ?_ ?_|(refine .g fun hg=>?_;try exact svx)|fail);exact fin_n (h':=.box b0 (runC s (.val v2)) 135::.own v2 7 ((L++cl.map fun c=>(⟨c,i.k,[w,0,i.c,st,lessF s.x ox,lessF s.y oy,s.x,s.y,i.t]⟩:SD)).map SD.enc) 66::H) ⟨v2,0,_,_,rfl,rfl⟩
  | succ j=>
   have hm:=idxN_lt hi
   obtain⟨ch,hch⟩:∃ch,(pathA s.up s.un)[j]?=some ch:=⟨_,List.getElem?_eq_getElem (by have:=(List.getElem?_eq_some_iff.1 hm).1;omega)⟩
   have hjl:j+1<s.up.length+1:=by have:=(List.getElem?_eq_some_iff.1 hm).1;have:=pathA_len ok.tw s.un;omega
   have hul:=ok.ul
   have hjp:j+1<(pathA s.up s.un).length:=(List.getElem?_eq_some_iff.1 hm).1
   have hch2:(pathA s.up s.un)[((j:Int)+1 - 1).toNat]?=some ch:=by rw[show ((j:Int)+1 - 1).toNat=j by omega];exact hch
   rw[show ((j+1:Nat):Int)=(j:Int)+1 by omega]
   (repeat' first|refine svz ⟨fun b hq=>?_⟩|refine svE ⟨?_⟩|refine .b fun b=>?_|refine .u fun u=>?_|refine .d ?_ ?_|(refine .g fun hg=>?_;try exact svx)|fail)
   refine R2.C (oc _) ?_;(repeat' first|refine svz ⟨fun b hq=>?_⟩|refine svE ⟨?_⟩|refine .b fun b=>?_|refine .u fun u=>?_|refine .d ?_ ?_|(refine .g fun hg=>?_;try exact svx)|fail);refine R2.C (l1 _) ?_;(repeat' first|refine svz ⟨fun b hq=>?_⟩|refine svE ⟨?_⟩|refine .b fun b=>?_|refine .u fun u=>?_|refine .d ?_ ?_|(refine .g fun hg=>?_;try exact svx)|fail);refine R2.C (l2 _) ?_;(repeat' first|refine svz ⟨fun b hq=>?_⟩|refine svE ⟨?_⟩|refine .b fun b=>?_|refine .u fun u=>?_|refine .d ?_ ?_|(refine .g fun hg=>?_;try exact svx)|fail);refine S.buildr (xs:=[.tmp 53,.tmp 55,.tmp 57,.tmp 58,.tmp 66,.tmp 74,.tmp 79,.tmp 84,.tmp 87]) (vs:=ints .i64 [w,IntKind.wrap .i64 ch,i.c,st,lessF s.x ox,lessF s.y oy,s.x,s.y,i.t]) ⟨_,rfl,?_⟩ rfl rfl (by repeat (first|exact Evals.nil|(apply Evals.cons;rfl))) (by simp[ints,AV.cells]) (by repeat (first|exact Ones.nil|refine Ones.cons rfl ?_|refine Ones.own (by (fail_if_success (apply memG));repeat (first|exact List.Mem.head _|assumption|refine List.Mem.tail _ ?_)) ?_)) (by omega) rfl;refine R2.melt ?_;refine R2.B ?_;refine Step.le (s':=⟨90,[(46,.val (.pointer (some ⟨b0,0,none⟩))),(48,AV.val (.int .i64 (i.k))),(50,.ro 1 (ints .i64 cl)),(88,.ro 1 (ints .i64 [w,IntKind.wrap .i64 ch,i.c,st,lessF s.x ox,lessF s.y oy,s.x,s.y,i.t]))],.box b0 (runC s (.val v)) 135::.own v 7 (L.map SD.enc) 66::H⟩) lee ?_;refine S.call ?_;refine (sc v (IntKind.wrap .i64 ch) (lessF s.x ox) (lessF s.y oy)).mono ?_;rintro r h2 ⟨v2,rfl,hh⟩;subst hh;refine kd ?_;(repeat' first|refine svz ⟨fun b hq=>?_⟩|refine svE ⟨?_⟩|refine .b fun b=>?_|refine .u fun u=>?_|refine .d ?_ ?_|(refine .g fun hg=>?_;try exact svx)|fail);exact fin_n (h':=.box b0 (runC s (.val v2)) 135::.own v2 7 ((L++cl.map fun c=>(⟨c,i.k,[w,IntKind.wrap .i64 ch,i.c,st,lessF s.x ox,lessF s.y oy,s.x,s.y,i.t]⟩:SD)).map SD.enc) 66::H) ⟨v2,IntKind.wrap .i64 ch,_,_,rfl,rfl⟩
end Go.Proofs.YtbknacpdcdkjiaaGreat
