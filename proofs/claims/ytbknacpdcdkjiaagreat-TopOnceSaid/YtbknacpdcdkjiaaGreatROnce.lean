import Derived.Test.YtbknacpdcdkjiaaGreatU5
import Derived.Test.YtbknacpdcdkjiaaGreatF73
/- What came in, told as lists. No condition. -/
namespace Go.Proofs.YtbknacpdcdkjiaaGreat
open Go Go.VM
set_option maxRecDepth 100000
set_option linter.unusedVariables false
set_option linter.unusedSimpArgs false
theorem wf_i64 {n:Int} (h:(Lit.int .i64 n).wf=true):-9223372036854775808≤n∧n≤9223372036854775807:=by
 simp[Lit.wf,IntKind.min,IntKind.max,IntKind.signed,IntKind.bits] at h;omega
theorem wf_u32 {n:Int} (h:(Lit.int .u32 n).wf=true):0≤n∧n≤4294967295:=by
 simp[Lit.wf,IntKind.min,IntKind.max,IntKind.signed,IntKind.bits] at h;omega
theorem wf_u8 {n:Int} (h:(Lit.int .u8 n).wf=true):0≤n∧n≤255:=by
 simp[Lit.wf,IntKind.min,IntKind.max,IntKind.signed,IntKind.bits] at h;omega
theorem list_of {α:Type} {f:α→AV} {Q:α→Prop}:∀{es:List AV},(∀x∈es,∃a,x=f a∧Q a)→∃l:List α,es=l.map f∧∀a∈l,Q a
 | [],_=>⟨[],rfl,by simp⟩
 | x::es,h=>by
  obtain⟨a,rfl,ha⟩:=h x (.head _)
  obtain⟨l,rfl,hl⟩:=list_of (fun y hy=>h y (.tail _ hy))
  exact⟨a::l,rfl,by simpa using ⟨ha,hl⟩⟩
theorem fit_sl {α:Type} {f:α→AV} {Q:α→Prop} {N k:Nat} {e:Sh} {x:AV} (h:FitE N (.sl k e) x) (he:∀y,FitE N e y→∃a,y=f a∧Q a):∃l:List α,x=.ro k (l.map f)∧l.length≤N∧∀a∈l,Q a:=by
 simp only[FitE,FitB,Sh.isSt,Bool.false_eq_true,if_false,Fits] at h
 obtain⟨es,h1,h2,h3⟩:=h
 injection h1 with h1 _
 subst h1
 obtain⟨l,rfl,hl⟩:=list_of (f:=f) (Q:=Q) (fun y hy=>he y (h3 y hy))
 exact⟨l,rfl,by simpa using h2,hl⟩
theorem fit_bool {N:Nat} {x:AV} (h:FitE N .bool x):∃b,x=.val (.bool b):=by
 simp only[FitE,FitB,Sh.isSt,Bool.false_eq_true,if_false,Fits] at h
 obtain⟨n,h1⟩:=h
 injection h1 with h1 _
 exact⟨n,h1⟩
end Go.Proofs.YtbknacpdcdkjiaaGreat

/- What comes in; TopOnce. No condition. -/
namespace Go.Proofs.YtbknacpdcdkjiaaGreat
open Go Go.VM
set_option maxRecDepth 100000
attribute [local irreducible] PurV Pur Step RL W D ACalls Then InBlock Fini
set_option linter.unusedVariables false
set_option linter.unusedSimpArgs false
set_option maxHeartbeats 4000000
theorem on_fit {N:Nat} {x:AV} (h:FitE N (.fld 1 (.int .u8) (.fld 6 (.fld 1 (.int .i64) (.fld 1 (.int .i64) (.fld 1 (.int .i64) (.fld 1 (.int .i64) (.fld 1 (.int .u32) (.fld 1 (.int .i64) (.nil))))))) (.nil))) x):∃a:ON,x=a.enc∧a.Ok:=by
 obtain⟨_,rfl,_,_,rfl,_,⟨a,rfl,ha⟩,_,_,rfl,_,⟨_,_,rfl,_,⟨k,rfl,hk⟩,_,_,rfl,_,⟨c,rfl,hc0⟩,_,_,rfl,_,⟨x1,rfl,hx⟩,_,_,rfl,_,⟨y1,rfl,hy⟩,_,_,rfl,_,⟨t,rfl,ht⟩,_,_,rfl,_,⟨n,rfl,hn⟩,rfl⟩,rfl⟩:=h
 exact⟨⟨a,⟨k,c,x1,y1,t,n⟩⟩,rfl,wf_u8 ha,wf_u32 ht,wf_i64 hx,wf_i64 hy⟩
theorem once_row:∀l,FitAll maxLen [.sl 7 (.fld 1 (.int .u8) (.fld 6 (.fld 1 (.int .i64) (.fld 1 (.int .i64) (.fld 1 (.int .i64) (.fld 1 (.int .i64) (.fld 1 (.int .u32) (.fld 1 (.int .i64) (.nil))))))) (.nil))),.bool] l→ACalls Tryz.prog 5 l [] (fun r h'=>r=.val (.bool true)):=by
 rintro l ⟨x,_,rfl,hx,y,_,rfl,hy,rfl⟩
 obtain⟨gr,rfl⟩:=fit_bool hy
 obtain⟨l,rfl,hl1,hl⟩:=fit_sl (f:=ON.enc) (Q:=ON.Ok) hx (fun y hy=>on_fit hy)
 exact (tonce_c l gr [] hl1 hl).mono (by rintro r h' ⟨rfl,_⟩;rfl)
end Go.Proofs.YtbknacpdcdkjiaaGreat

/- 'TopOnce' answers true for every input and leaves what came in as it was. No condition. -/
namespace Go.Proofs.YtbknacpdcdkjiaaGreat.topOnceDone
open Go Go.VM Go.RowKit Go.ChangeShapes Go.WideShapes Go.ChangeAt
set_option maxRecDepth 100000
set_option linter.unusedVariables false
set_option linter.unusedSimpArgs false
theorem own:ownKnob Tryz.prog.godebug=none:=by kernel_rfl
theorem laidOut:laidOutB Tryz.prog=true:=by kernel_rfl
theorem shapes:([87,4]:List Nat).map (shOf Tryz.prog 20)=([.sl 7 (.fld 1 (.int .u8) (.fld 6 (.fld 1 (.int .i64) (.fld 1 (.int .i64) (.fld 1 (.int .i64) (.fld 1 (.int .i64) (.fld 1 (.int .u32) (.fld 1 (.int .i64) (.nil))))))) (.nil))),.bool]:List Sh).map some:=by kernel_rfl
theorem contract (H:Type) (enc:TypeId × Value→H) (W:World) (base:Nat) (args:Array Value) (ds gs:List (DataW H)) (before:List MemPlace)
  (hval:∀(j:Nat) t v,Tryz.f5.params[j]?=some t→args[j]?=some v→Value.okWide Tryz.prog W .any base t v)
  (hW:DataW.Whole enc Tryz.prog Tryz.f5.params.toList Rows.topOnceSpec.vars false W args.toList ds gs before) :
  Calls Tryz.prog 5 args W fun e W'=>∃v,e=.returned v∧Rows.topOnceSpec.post enc Tryz.prog Tryz.f5 false true false false W args v W':=by
 have hW':=hW
 obtain⟨p,q,hA,hV,rfl,hfz,hnd⟩:=hW
 rw[Tryz.params5] at hA hval
 obtain⟨rfl,rfl⟩:=trodVars_none hV
 have hlen:=trodAll_len hA
 obtain⟨d1,d2,rfl⟩:=ds2 hlen
 have hb:∀d∈([d1,d2]:List (DataW H)),Sm maxLen d:=fun d _=>.inl (Nat.le_refl _)
 refine (row_walk (base:=base) (ts:=[87,4]) shapes once_row hA (fun j t v h1 h2=>hval j t v (by simpa using h1) (by simpa using h2)) hb laidOut (by kernel_rfl)).mono fun e W' ⟨he,bel,hts⟩=>?_
 subst he
 exact⟨_,rfl,_,_,_,[],_,[],hW',trodAll_mk1 (shut_bool Tryz.underlying4 _),hts,rfl,bel.frame _,fun h=>by cases h⟩
theorem lifted (os:Os) (started:os.Started) (H:Type) (enc:TypeId × Value→H) :
  ReturnsInHanded {} Tryz.checked os 5 .any (Rows.topOnceSpec.pre6 enc Tryz.prog Tryz.f5 Rows.topOnceRow.domain false) (Rows.topOnceSpec.post enc Tryz.prog Tryz.f5 false true false false):=by
 refine returnsInHanded_of_change (C:=Tryz.checked) own started (by kernel_rfl) Tryz.func5
  (ChangeSpec.witness6 (enc:=enc) (C:=Tryz.checked) false ⟨#[],#[.slice none 0 0,.bool false],[]⟩ 8 (by kernel_rfl) (by kernel_rfl) (by kernel_rfl) (by kernel_rfl)) ?_
 intro W base args ds gs before hval hW _ _
 exact contract H enc W base args ds gs before hval hW
theorem proved:Rows.TopOnceSaid:=
 OpenClaim.holds_of_wide 5 Tryz.f5 rfl rfl rfl rfl rfl rfl rfl ⟨rfl,rfl,rfl,rfl,rfl⟩ rfl rfl rfl rfl rfl (by kernel_rfl) Tryz.func5 (by kernel_rfl)
  (of_decide_eq_true (by kernel_rfl)) (by unfold Func.isWrapper;first|(rw[if_pos (by decide +kernel)];kernel_rfl)|(rw[if_neg (by decide +kernel)];exact⟨rfl,rfl⟩))
  (fun os started H enc _=>lifted os started H enc)
#print axioms proved
end Go.Proofs.YtbknacpdcdkjiaaGreat.topOnceDone
