import Derived.Test.YtbknacpdcdkjiaaGreatVM43
import Derived.Test.YtbknacpdcdkjiaaGreatVM29
import Derived.Test.YtbknacpdcdkjiaaGreatB9
/- Devices: Feed, Allow. No condition. -/
namespace Go.Proofs.YtbknacpdcdkjiaaGreat
open Go Go.VM
set_option maxRecDepth 100000
attribute [local irreducible] PurV Pur Step RL W D ACalls Then InBlock Fini
set_option linter.unusedVariables false
set_option linter.unusedSimpArgs false
set_option maxHeartbeats 20000000
theorem feed_c (d:DV) (i:IN) (h:Heap) (hl:d.ws.length<256):ACalls Tryz.prog 40 [d.enc,i.enc] h (fun r h'=>r=.tup [(d.wait (d.ws++[i])).enc,.val (.int .i64 (0))]∧h'=h):=by
 have hm:(d.ws.map IN.enc).length=d.ws.length:=List.length_map ..
 have e1:(d.ws++[i]).map IN.enc=d.ws.map IN.enc++[i.enc]:=by simp
 have es:∀Z,splice (List.replicate d.ws.length Z) 0 (d.ws.map IN.enc)=d.ws.map IN.enc:=fun Z=>by
  unfold splice
  rw[List.take_zero,List.nil_append,List.drop_of_length_le (by simp)];simp
 unfold DV.enc DV.wait
 dsimp only
 rw[e1,IN.enc_eq i]
 refine fz (g:=fun v=>.tup [.agg [.val (.int .i64 (d.a.cl)),.val (.int .u32 (d.a.w)),.val (.bool (d.a.ow)),.val (.int .i64 (d.a.mask)),.val (.bool (d.a.au)),.val (.bool (d.a.pa)),.val (.int .i64 (d.a.code)),.val (.int .u32 (d.a.time)),.val (.bool (d.g)),.val (.bool (d.f)),.val (.bool (d.s)),.val (.int .i64 (d.held.k)),.val (.int .i64 (d.held.c)),.val (.int .i64 (d.held.x)),.val (.int .i64 (d.held.y)),.val (.int .u32 (d.held.t)),.val (.int .i64 (d.held.n)),.val (.bool (d.hs)),v],.val (.int .i64 (0))]) (g':=fun v=>.tup [.agg [.val (.int .i64 (d.a.cl)),.val (.int .u32 (d.a.w)),.val (.bool (d.a.ow)),.val (.int .i64 (d.a.mask)),.val (.bool (d.a.au)),.val (.bool (d.a.pa)),.val (.int .i64 (d.a.code)),.val (.int .u32 (d.a.time)),.val (.bool (d.g)),.val (.bool (d.f)),.val (.bool (d.s)),.val (.int .i64 (d.held.k)),.val (.int .i64 (d.held.c)),.val (.int .i64 (d.held.x)),.val (.int .i64 (d.held.y)),.val (.int .u32 (d.held.t)),.val (.int .i64 (d.held.n)),.val (.bool (d.hs)),v],.val (.int .i64 (0))]) (k:=6) (e:=47) (l:=d.ws.map IN.enc++[.agg [.val (.int .i64 ((i).k)),.val (.int .i64 ((i).c)),.val (.int .i64 ((i).x)),.val (.int .i64 ((i).y)),.val (.int .u32 ((i).t)),.val (.int .i64 ((i).n))]]) (fun v=>by (repeat' (first|exact Frz.hit|apply Frz.aggc|apply Frz.tupc|exact Frz.aggn|exact Frz.tupn|exact Frz.keep _))) ?_
 refine ACalls.intro Tryz.func40 rfl Tryz.ntmps40 Tryz.results40 (Nat.le_of_ble_eq_true rfl) ?_
 (repeat' (first|(refine iR2 ?_;refine r2b ?_;refine R2.one ?_)|(refine iS ?_;refine iN ?_;refine S.build1r ?_)|(refine iS ?_;refine iMu ?_;refine S.mapU ?_)|refine svF ⟨?_⟩|refine .b fun b=>?_|refine .u fun u=>?_|refine .d ?_ ?_|(refine .g fun hg=>?_;try exact svx)|refine sva ?_|refine sv3 ?_|fail))
 rw[es]
 refine fin_r (h':=.own u 6 (d.ws.map IN.enc++[.agg [.val (.int .i64 ((i).k)),.val (.int .i64 ((i).c)),.val (.int .i64 ((i).x)),.val (.int .i64 ((i).y)),.val (.int .u32 ((i).t)),.val (.int .i64 ((i).n))]]) 47::h) (Q:=fun r h'=>∃v,r=_∧h'=_) ?_
 exact⟨u,rfl,rfl⟩
theorem allow_no (d:DV) (m:Int) (h:Heap) (hf:d.f=false∨m<0∨2<m):ACalls Tryz.prog 55 [d.enc,.val (.int .i64 (m))] h (fun r h'=>r=.tup [d.enc,IN.z.enc,.val (.bool (false))]∧h'=h):=by
 unfold DV.enc
 by_cases h1:d.f=true
 ·have h2:m<0∨2<m:=by rcases hf with e|e;rw[e] at h1;cases h1;exact e
  rw[h1]
  refine ACalls.intro Tryz.func55 rfl Tryz.ntmps55 Tryz.results55 (Nat.le_of_ble_eq_true rfl) ?_
  (repeat' first|refine svE ⟨?_⟩|refine .b fun b=>?_|refine .u fun u=>?_|refine .d ?_ ?_|(refine .g fun hg=>?_;try exact svx)|fail)
  all_goals refine fin_r (h':=h) (Q:=fun r h'=>r=_∧h'=h) ?_;exact⟨rfl,rfl⟩
 ·have h1:d.f=false:=by simpa using h1
  rw[h1]
  refine ACalls.intro Tryz.func55 rfl Tryz.ntmps55 Tryz.results55 (Nat.le_of_ble_eq_true rfl) ?_
  (repeat' first|refine svE ⟨?_⟩|refine .b fun b=>?_|refine .u fun u=>?_|refine .d ?_ ?_|(refine .g fun hg=>?_;try exact svx)|fail)
  refine fin_r (h':=h) (Q:=fun r h'=>r=_∧h'=h) ?_;exact⟨rfl,rfl⟩
instance tf_thaw:TFun Tryz.prog 92:=⟨by kernel_rfl⟩
instance tf_step:TFun Tryz.prog 93:=⟨by kernel_rfl⟩
theorem allow_0 (d:DV) (h:Heap) (hf:d.f=true):ACalls Tryz.prog 55 [d.enc,.val (.int .i64 (0))] h (fun r h'=>r=.tup [d.thaw.enc,IN.z.enc,.val (.bool (false))]∧h'=h):=by
 have tc:=fun h=>thaw_c d h
 unfold DV.enc at *
 rw[hf] at *;refine ACalls.intro Tryz.func55 rfl Tryz.ntmps55 Tryz.results55 (Nat.le_of_ble_eq_true rfl) ?_;(repeat' first|refine svE ⟨?_⟩|refine .b fun b=>?_|refine .u fun u=>?_|refine .d ?_ ?_|(refine .g fun hg=>?_;try exact svx)|fail);refine S.mkb ?_;(repeat' first|refine svE ⟨?_⟩|refine .b fun b=>?_|refine .u fun u=>?_|refine .d ?_ ?_|(refine .g fun hg=>?_;try exact svx)|fail);refine S.mkb ?_;(repeat' first|refine svE ⟨?_⟩|refine .b fun b=>?_|refine .u fun u=>?_|refine .d ?_ ?_|(refine .g fun hg=>?_;try exact svx)|fail);refine S.mkb ?_;(repeat' first|refine svE ⟨?_⟩|refine .b fun b=>?_|refine .u fun u=>?_|refine .d ?_ ?_|(refine .g fun hg=>?_;try exact svx)|fail);refine step_v (pur_buildarr (by repeat (first|exact EvalP.nil|(apply EvalP.cons;rfl))) rfl) rfl ?_;(repeat' first|refine svE ⟨?_⟩|refine .b fun b=>?_|refine .u fun u=>?_|refine .d ?_ ?_|(refine .g fun hg=>?_;try exact svx)|fail);refine S.Ar1 0 ?_;(repeat' first|refine svE ⟨?_⟩|refine .b fun b=>?_|refine .u fun u=>?_|refine .d ?_ ?_|(refine .g fun hg=>?_;try exact svx)|fail);refine S.call_bnd ?_;refine (tc _).mono ?_;rintro r h' ⟨rfl,hh⟩;subst hh;(repeat' first|refine svE ⟨?_⟩|refine .b fun b=>?_|refine .u fun u=>?_|refine .d ?_ ?_|(refine .g fun hg=>?_;try exact svx)|fail);refine fin_r (h':=h) (Q:=fun r h'=>r=_∧h'=h) ?_;exact⟨rfl,rfl⟩
theorem allow_1 (d:DV) (h:Heap) (hf:d.f=true):ACalls Tryz.prog 55 [d.enc,.val (.int .i64 (1))] h (fun r h'=>r=.tup [d.step.enc,IN.z.enc,.val (.bool (false))]∧h'=h):=by
 have tc:=fun h=>step_c d h
 unfold DV.enc at *
 rw[hf] at *;refine ACalls.intro Tryz.func55 rfl Tryz.ntmps55 Tryz.results55 (Nat.le_of_ble_eq_true rfl) ?_;(repeat' first|refine svE ⟨?_⟩|refine .b fun b=>?_|refine .u fun u=>?_|refine .d ?_ ?_|(refine .g fun hg=>?_;try exact svx)|fail);refine S.mkb ?_;(repeat' first|refine svE ⟨?_⟩|refine .b fun b=>?_|refine .u fun u=>?_|refine .d ?_ ?_|(refine .g fun hg=>?_;try exact svx)|fail);refine S.mkb ?_;(repeat' first|refine svE ⟨?_⟩|refine .b fun b=>?_|refine .u fun u=>?_|refine .d ?_ ?_|(refine .g fun hg=>?_;try exact svx)|fail);refine S.mkb ?_;(repeat' first|refine svE ⟨?_⟩|refine .b fun b=>?_|refine .u fun u=>?_|refine .d ?_ ?_|(refine .g fun hg=>?_;try exact svx)|fail);refine step_v (pur_buildarr (by repeat (first|exact EvalP.nil|(apply EvalP.cons;rfl))) rfl) rfl ?_;(repeat' first|refine svE ⟨?_⟩|refine .b fun b=>?_|refine .u fun u=>?_|refine .d ?_ ?_|(refine .g fun hg=>?_;try exact svx)|fail);refine S.Ar1 1 ?_;(repeat' first|refine svE ⟨?_⟩|refine .b fun b=>?_|refine .u fun u=>?_|refine .d ?_ ?_|(refine .g fun hg=>?_;try exact svx)|fail);refine S.call_bnd ?_;refine (tc _).mono ?_;rintro r h' ⟨rfl,hh⟩;subst hh;(repeat' first|refine svE ⟨?_⟩|refine .b fun b=>?_|refine .u fun u=>?_|refine .d ?_ ?_|(refine .g fun hg=>?_;try exact svx)|fail);refine fin_r (h':=h) (Q:=fun r h'=>r=_∧h'=h) ?_;exact⟨rfl,rfl⟩
end Go.Proofs.YtbknacpdcdkjiaaGreat

/- What clients have selected: isMask, copied, Who, Mask. No condition. -/
namespace Go.Proofs.YtbknacpdcdkjiaaGreat
open Go Go.VM
set_option maxRecDepth 100000
attribute [local irreducible] PurV Pur Step RL W D ACalls Then InBlock Fini
set_option linter.unusedVariables false
set_option linter.unusedSimpArgs false
set_option maxHeartbeats 20000000
instance teq_key:TEqS Tryz.prog 143 [true,true]:=⟨by kernel_rfl,by kernel_rfl,by kernel_rfl,by kernel_rfl⟩
instance tmap_key:TMapK Tryz.prog 33 143 3:=⟨by kernel_rfl,inferInstance,ck_of (q1:=.i64) (q2:=.u32) (show Tryz.prog.underlying 143=some (.struct #[(Tryz.prog.fieldsOf 143)[0]!,(Tryz.prog.fieldsOf 143)[1]!]) by kernel_rfl) (by kernel_rfl) (by kernel_rfl) (by kernel_rfl) (by kernel_rfl) (by kernel_rfl) (by kernel_rfl) (by kernel_rfl) (by kernel_rfl)⟩
abbrev CM:=List (KY × Int)
abbrev CS:=List (Int × Int)
def encC (M:CM) (S:CS):AV:=.agg [mapK (vI .i64) M,mapV .u32 (vI .i64) S]
theorem ismask_c (n:Int) (h:Heap):ACalls Tryz.prog 66 [.val (.int .i64 (n))] h (fun r h'=>r=.val (.bool (decide (0≤n∧n≤8191)))∧h'=h):=by
 refine ACalls.intro Tryz.func66 rfl Tryz.ntmps66 Tryz.results66 (Nat.le_of_ble_eq_true rfl) ?_
 by_cases h1:0≤n
 ·(repeat' first|refine svE ⟨?_⟩|refine .b fun b=>?_|refine .u fun u=>?_|refine .d ?_ ?_|(refine .g fun hg=>?_;try exact svx)|fail)
  refine fin_r (h':=h) ⟨?_,rfl⟩;simp[tupA,h1]
 ·(repeat' first|refine svE ⟨?_⟩|refine .b fun b=>?_|refine .u fun u=>?_|refine .d ?_ ?_|(refine .g fun hg=>?_;try exact svx)|fail)
  refine fin_r (h':=h) ⟨?_,rfl⟩;simp[tupA,h1]
theorem putK_new {α:Type} {t:List (KY × α)} {i:KY} (a:α) (h:i∉t.map (·.1)):putK t i a=t++[(i,a)]:=by
 unfold putK
 have:lkK t i=none:=lkK_none.2 fun p hp e=>h (e ▸ List.mem_map_of_mem hp)
 rw[this];rfl
theorem leh_mpk {α:Type} {b:Nat} {f:α→AV} {t t':List (KY × α)} {h h':Heap} (hp:t.Perm t') (k:LeH h h'):LeH (mpK b f t::h) (mpK b f t'::h'):=by
 have:=LeH.mapp (b:=b) (x:=t.map fun p=>(kv p.1,f p.2)) (y:=t'.map fun p=>(kv p.1,f p.2)) (h:=mpK b f t::h) (r:=h) (h':=h') (by simp only[List.map_map];exact .here) (hp.map _) k
 simp only[List.map_map] at this
 exact this
theorem cpyk_c (bm:Nat) (s:CM) (h:Heap) (hn:(s.map (·.1)).Nodup):ACalls Tryz.prog 100 [.val (.map (some bm)),mapK (vI .i64) s] (mpK bm (vI .i64) ([]:CM)::h) (fun r h'=>r=.tup []∧h'=mpK bm (vI .i64) s::h):=by
 refine ACalls.intro Tryz.func100 rfl Tryz.ntmps100 Tryz.results100 (Nat.le_of_ble_eq_true rfl) ?_
 (repeat' first|refine svE ⟨?_⟩|refine .b fun b=>?_|refine .u fun u=>?_|refine .d ?_ ?_|(refine .g fun hg=>?_;try exact svx)|fail)
 refine S.rngK (fun b7=>?_)
 (repeat' first|refine svE ⟨?_⟩|refine .b fun b=>?_|refine .u fun u=>?_|refine .d ?_ ?_|(refine .g fun hg=>?_;try exact svx)|fail)
 refine W.loop (J:=fun x:List Nat × Option Nat × CM=>⟨16,[(7,.val (.pointer (some ⟨b7,0,none⟩))),(0,.val (.map (some bm)))],mitK b7 (vI .i64) s x.1 x.2.1::mpK bm (vI .i64) x.2.2::h⟩)
  (Φ:=fun x=>(x.2.2++remL s x.1).Perm s) (μ:=fun x=>x.1.length) (List.range s.length,none,[]) lee (rng_start s) ?_
 rintro⟨left,last,done⟩ hp
 dsimp only at hp ⊢
 (repeat' first|refine svE ⟨?_⟩|refine .b fun b=>?_|refine .u fun u=>?_|refine .d ?_ ?_|(refine .g fun hg=>?_;try exact svx)|fail)
 refine S.nextK (fun hl=>?_) (fun i p hi hpi=>?_)
 ·have hd:=rng_end hp hl
  (repeat' first|refine svE ⟨?_⟩|refine .b fun b=>?_|refine .u fun u=>?_|refine .d ?_ ?_|(refine .g fun hg=>?_;try exact svx)|fail)
  exact fin_n (h':=mpK bm (vI .i64) s::h) ⟨rfl,rfl⟩ (h2:=.skip (leh_mpk hd (.refl _)))
 ·have hst:=rng_step hp hi hpi
  have hnd:=(hst.map (·.1)).nodup_iff.2 hn
  rw[List.map_append,List.map_append,List.append_assoc,List.nodup_append] at hnd
  have hnew:p.1∉done.map (·.1):=fun hm=>hnd.2.2 p.1 hm p.1 (by simp) rfl
  (repeat' first|refine svE ⟨?_⟩|refine .b fun b=>?_|refine .u fun u=>?_|refine .d ?_ ?_|(refine .g fun hg=>?_;try exact svx)|fail)
  refine step_pur (pur_entryK rfl (by (fail_if_success (apply memG));repeat (first|exact List.Mem.head _|assumption|refine List.Mem.tail _ ?_)) hpi) rfl ?_
  (repeat' first|refine svE ⟨?_⟩|refine .b fun b=>?_|refine .u fun u=>?_|refine .d ?_ ?_|(refine .g fun hg=>?_;try exact svx)|fail)
  refine S.mapUK (i:=p.1) (f:=vI .i64) (m:=done) (a:=p.2) ?_
  (repeat' first|refine svE ⟨?_⟩|refine .b fun b=>?_|refine .u fun u=>?_|refine .d ?_ ?_|(refine .g fun hg=>?_;try exact svx)|fail)
  rw[putK_new p.2 hnew]
  exact⟨(left.erase i,some i,done++[p]),hst,lee,rng_less hi⟩
end Go.Proofs.YtbknacpdcdkjiaaGreat
