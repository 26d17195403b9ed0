import Derived.Test.YtbknacpdcdkjiaaGreatU3
import Derived.Laws.StructEq
import Derived.RangeFuncSeq
import Derived.RangeFuncRecord
/- Structs of numbers alone: == and !=. No condition. -/
namespace Go.VM
open Go
set_option linter.unusedVariables false
set_option linter.unusedSimpArgs false
def flatI (P:Program):Nat→List Field→Bool
 | _,[]=>true
 | i,f::fs=>!(f.name == "_")&&(Nat.beq f.offset i&&((match valQ P f.type with|some (false,_)=>true|_=>false)&&((match P.underlying f.type with|some (.int _)=>true|_=>false)&&flatI P (i+1) fs)))
theorem eqF {P:Program} {w:World} {d:Nat}:∀(fs:List Field) (L:List (IntKind × Int × Int)) (i:Nat) (pre pre':List Value),pre.length=i→pre'.length=i→fs.length=L.length→flatI P i fs=true →
  (Op.eqFields (d+1) (pre++L.map fun p=>Value.int p.1 p.2.1).toArray (pre'++L.map fun p=>Value.int p.1 p.2.2).toArray fs).run P w=.ok (decide (∀p∈L,p.2.1=p.2.2)) w
 | [],[],i,pre,pre',_,_,_,_=>by simp[Op.eqFields]
 | [],_::_,i,pre,pre',_,_,hl,_=>by cases hl
 | _::_,[],i,pre,pre',_,_,hl,_=>by cases hl
 | f::fs,(k,a,b)::L,i,pre,pre',h1,h2,hl,hf=>by
  unfold flatI at hf
  simp only[Bool.and_eq_true,Bool.not_eq_true',beq_eq_false_iff_ne,ne_eq] at hf
  obtain⟨f1,f2,f3,f4,f5⟩:=hf
  have f2:=Nat.eq_of_beq_eq_true f2
  obtain⟨n,hv⟩:∃n,valQ P f.type=some (false,n):=by
   split at f3
   ·exact⟨_,by assumption⟩
   ·cases f3
  obtain⟨k',hk⟩:∃k',P.underlying f.type=some (.int k'):=by
   split at f4
   ·exact⟨_,by assumption⟩
   ·cases f4
  have hn:=(valQ_spec hv).2.2 rfl
  subst hn
  have p1:(part f.type (pre++((k,a,b)::L).map fun p=>Value.int p.1 p.2.1).toArray f.offset).run P w=.ok (.int k a) w:=by
   rw[run_part hv (by simp[f2,h1]),f2]
   simp[List.drop_append,←h1,mk]
  have p2:(part f.type (pre'++((k,a,b)::L).map fun p=>Value.int p.1 p.2.2).toArray f.offset).run P w=.ok (.int k b) w:=by
   rw[run_part hv (by simp[f2,h2]),f2]
   simp[List.drop_append,←h2,mk]
  have ih:=eqF (P:=P) (w:=w) (d:=d) fs L (i+1) (pre++[.int k a]) (pre'++[.int k b]) (by simp[h1]) (by simp[h2]) (by simpa using hl) f5
  simp only[List.append_assoc,List.singleton_append] at ih
  unfold Op.eqFields
  rw[if_pos f1]
  simp only[Sem.run_bind,p1,p2,Result.andThen_ok,run_equalIn_int _ _ _ k k' _ _ hk]
  simp only[List.map_cons]
  by_cases hab:a=b
  ·subst hab
   simp[ih]
  ·have:(a == b)=false:=by simpa using hab
   simp[this,hab]
class TEq (P:Program) (t:Nat) (n:outParam Nat):Prop where
 h:P.underlying t=some (.struct (P.fieldsOf t))
 s:P.stoodInHeld t=false
 g:P.eqGuardType P.depth t=false
 f:flatI P 0 (P.fieldsOf t).toList=true
 n:(P.fieldsOf t).toList.length=n
inductive IEq:List AV→List AV→List (IntKind × Int × Int)→Prop
 | nil:IEq [] [] []
 | cons {k:IntKind} {a b:Int} {x y:List AV} {L:List (IntKind × Int × Int)} (h:IEq x y L):IEq (.val (.int k a)::x) (.val (.int k b)::y) ((k,a,b)::L)
theorem IEq.rel {m:Ghost} {x y:List AV} {L:List (IntKind × Int × Int)} (h:IEq x y L):∀{cs ds:List Value},RelL m x cs→RelL m y ds→cs=L.map (fun p=>Value.int p.1 p.2.1)∧ds=L.map (fun p=>Value.int p.1 p.2.2):=by
 induction h with
 | nil=>intro cs ds h1 h2;simp only[RelL] at h1 h2;subst h1;subst h2;exact⟨rfl,rfl⟩
 | cons h ih=>
  intro cs ds h1 h2
  simp only[RelL,Rel] at h1 h2
  obtain⟨c,r,rfl,⟨rfl,_⟩,h1⟩:=h1
  obtain⟨c',r',rfl,⟨rfl,_⟩,h2⟩:=h2
  obtain⟨rfl,rfl⟩:=ih h1 h2
  exact⟨rfl,rfl⟩
section
variable {P:Program} {d:Option Nat} {ty:Nat} {pos:String} {af:Array Edge} {gd:Option (Nat × Bool)} {tm:List (Nat × AV)} {h:Heap} {x y:Operand} {xt yt n:Nat} {l l':List AV} {L:List (IntKind × Int × Int)} {p:Prop} [dp:Decidable p]
theorem pur_eqls [ht:TEq P xt n] (hx:evalA tm x=some (.agg l)) (hy:evalA tm y=some (.agg l')) (he:IEq l l' L) (hn:L.length=n) (hp:(∀q∈L,q.2.1=q.2.2)↔p):PurV P ⟨d,.binOp .eql xt x y yt,ty,pos,af,gd⟩ tm h (.val (.bool (decide p))):=fun m a w0 h1 h2 h3=>by
 have hx:=h1.eval hx
 have hy:=h1.eval hy
 simp only[Rel] at hx hy
 obtain⟨cs,hx,hxr⟩:=hx
 obtain⟨ds,hy,hyr⟩:=hy
 obtain⟨e1,e2⟩:=he.rel hxr hyr
 refine⟨.bool (decide p),by simp[Rel];rfl,fun w=>?_⟩
 have key:=eqF (P:=P) (w:=w) (d:=9998) (P.fieldsOf xt).toList L 0 [] [] rfl rfl (by rw[ht.n,hn]) ht.f
 rw[List.nil_append,List.nil_append,←e1,←e2] at key
 have hd:decide (∀q∈L,q.2.1=q.2.2)=decide p:=decide_eq_decide.2 hp
 rw[hd] at key
 simp only[Array.toArray_toList] at key
 have k2:=run_equalIn_struct (P:=P) w 9999 xt cs ds ht.h ht.s
 rw[key] at k2
 have k3:=run_eql_struct (P:=P) w xt cs ds
 rw[k2] at k3
 have k1:=run_eqGuard_agg (P:=P) w .eql xt x y cs ds ht.g
 simp[execOp,hx,hy,k1,k3]
end
end Go.VM
/- Loops over functions: the iterator's part and the rounds'. No condition. -/
namespace Go.VM
open Go
set_option linter.unusedVariables false
set_option linter.unusedSimpArgs false
/-! ### Beside what is not touched -/
structure Aft (m:Ghost) (h:Heap) (w:World) (m':Ghost) (h':Heap) (w':World):Prop where
 le:Gle m m'
 holds:Holds m' w'
 same:Same w w'
 heap:HRel m' h' w'
 kept:Kept m h w m' h' w'
theorem Aft.frame {m m':Ghost} {h h' f:Heap} {w w':World} (k:Aft m h w m' h' w') (hh:HRel m (f++h) w) (hm:Holds m w):Aft m (f++h) w m' (f++h') w':=by
 have hnd:=hh.1
 have hf_in:∀x∈f,x∈f++h:=fun x hx=>List.mem_append_left _ hx
 have hh_in:∀x∈h,x∈f++h:=fun x hx=>List.mem_append_right _ hx
 have hdisj:∀x∈f,∀b,x.blk=some b→¬ ∃y∈h,y.blk=some b:=by
  intro x hx b hb hy
  rw[List.filterMap_append,List.nodup_append] at hnd
  obtain⟨y,hy,hyb⟩:=hy
  exact hnd.2.2 b (mem_blks.2 ⟨x,hx,hb⟩) b (mem_blks.2 ⟨y,hy,hyb⟩) rfl
 have hblk:∀x∈f,∀b,x.blk=some b→b<w.heap.size:=fun x hx b hb=>(hh.2 x (hf_in x hx)).2.lt hb
 have hfix:∀x∈f,∀b,x.blk=some b→w'.heap[b]?=w.heap[b]?:=fun x hx b hb=>k.kept.frame b (hblk x hx b hb) (hdisj x hx b hb)
 have hf':∀x∈f,(∀b,x.blk=some b→m' b=none)∧OERel m' w' x:=by
  intro x hx
  refine⟨fun b hb=>?_,((hh.2 x (hf_in x hx)).2.mono k.le).local (hfix x hx)⟩
  cases hmb:m' b with
  | none=>rfl
  | some o=>
   rcases k.kept.grow b o hmb with h|h|h
   ·rw[(hh.2 x (hf_in x hx)).1 b hb] at h;cases h
   ·exact absurd h (hdisj x hx b hb)
   ·have:=hblk x hx b hb;omega
 refine⟨k.le,k.holds,k.same,⟨?_,fun x hx=>?_⟩,⟨fun b o e=>?_,fun b hb hn=>k.kept.frame b hb fun ⟨y,hy,e⟩=>hn ⟨y,hh_in y hy,e⟩,fun x hx b hb=>?_⟩⟩
 ·rw[List.filterMap_append,List.nodup_append]
  rw[List.filterMap_append,List.nodup_append] at hnd
  refine⟨hnd.1,k.heap.1,fun b hb c hc e=>?_⟩
  subst e
  obtain⟨x,hx,hxb⟩:=mem_blks.1 hb
  obtain⟨y,hy,hyb⟩:=mem_blks.1 hc
  rcases k.kept.own y hy b hyb with h|h
  ·exact hdisj x hx b hxb h
  ·have:=hblk x hx b hxb;omega
 ·rw[List.mem_append] at hx
  rcases hx with hx|hx
  ·exact hf' x hx
  ·exact k.heap.2 x hx
 ·rcases k.kept.grow b o e with h|⟨y,hy,h⟩|h
  ·exact .inl h
  ·exact .inr (.inl ⟨y,hh_in y hy,h⟩)
  ·exact .inr (.inr h)
 ·rw[List.mem_append] at hx
  rcases hx with hx|hx
  ·exact .inl ⟨x,hf_in x hx,hb⟩
  ·rcases k.kept.own x hx b hb with ⟨y,hy,h⟩|h
   ·exact .inl ⟨y,hh_in y hy,h⟩
   ·exact .inr h
theorem SimG.aft {m0:GF} {m m':Ghost} {w0 w w':World} {s:St} {a:Act} {h':Heap} (k:SimG m0 w0 m s a w) (g:Aft m s.h w m' h' w'):SimG m0 w0 m' { s with h:=h' } a w':=
 k.called g.le g.holds g.same g.heap g.kept
theorem SimG.fresh {m0:GF} {m:Ghost} {w0 w:World} {s:St} {a:Act} (k:SimG m0 w0 m s a w):SimG ⟨m,fun b=>∃y∈s.h,y.blk=some b,a.defers⟩ w m s a w:=
 ⟨Gle.refl m,fun b o e=>.inl e,fun _ _ _=>rfl,fun x hx b hb=>.inl ⟨x,hx,hb⟩,k.holds,Same.refl w,Defs.refl _ _ _,k.size,k.tmps,k.heap⟩
theorem SimG.fresh_aft {m m':Ghost} {h:Heap} {d:List Deferred} {w w':World} {s:St} {a:Act} (k:SimG ⟨m,fun b=>∃y∈h,y.blk=some b,d⟩ w m' s a w'):Aft m h w m' s.h w':=
 ⟨k.le,k.holds,k.same,k.heap,⟨k.grow,k.frame,k.own⟩⟩
theorem SimG.sub {m0:GF} {m:Ghost} {w0 w:World} {n:Nat} {t:List (Nat × AV)} {h h':Heap} {a:Act} (k:SimG m0 w0 m ⟨n,t,h⟩ a w) (hs:h'.Sublist h):SimG m0 w0 m ⟨n,t,h'⟩ a w:=
 {k with heap:=k.heap.sub hs,own:=fun x hx=>k.own x (hs.subset hx) }
theorem SimG.beside {m0:GF} {m m':Ghost} {w0 w w':World} {n:Nat} {t:List (Nat × AV)} {h f:Heap} {s':St} {a a':Act} (k:SimG m0 w0 m ⟨n,t,f++h⟩ a w)
  (q:SimG ⟨m,fun b=>∃y∈h,y.blk=some b,a.defers⟩ w m' s' a' w'):SimG m0 w0 m' { s' with h:=f++s'.h } a' w':=by
 have g:=q.fresh_aft.frame k.heap k.holds
 have k2:=SimG.aft (s:=⟨n,t,f++h⟩) k g
 exact { k2 with
  defers:=k.defers.trans q.le q.defers k.same.size (fun D o e=>k.holds.lt e)
  size:=q.size
  tmps:=q.tmps }
theorem W.beside {ro:Option Nat} {P:Program} {c:Code} {Q:Exit→St→Prop} {n:Nat} {t:List (Nat × AV)} {h:Heap} (f:Heap) (k:W ro P c Q ⟨n,t,h⟩):W ro P c (fun e s'=>∃s1,Q e s1∧s'={ s1 with h:=f++s1.h }) ⟨n,t,f++h⟩:=by
 intro m0 w0 a w ⟨m,hs⟩
 refine wpIn_mono (k _ _ a w ⟨m,(hs.sub (List.sublist_append_right f h)).fresh⟩) ?_
 rintro e a' w' ⟨s1,hq,m',hs'⟩
 exact⟨_,⟨s1,hq,rfl⟩,m',hs.beside hs'⟩
theorem ACalls.beside {P:Program} {g:Nat} {vs:List AV} {h:Heap} {Q:AV→Heap→Prop} (f:Heap) (k:ACalls P g vs h Q):ACalls P g vs (f++h) (fun r h'=>∃h1,Q r h1∧h'=f++h1):=by
 intro m w us h1 h2 h3
 refine (k m w us h1 h2 (h3.sub (List.sublist_append_right f h))).mono ?_
 rintro e w' ⟨m',v,r,h',rfl,g1,g2,g3,g4,g5,g6,g7⟩
 have q:=Aft.frame ⟨g1,g2,g3,g5,g6⟩ h3 h1
 exact⟨m',v,r,_,rfl,g1,g2,g3,g4,q.heap,q.kept,h',g7,rfl⟩
/-! ### A round -/
def Yields (P:Program) (l:Nat) (args:List AV) (h:Heap) (Q:Bool→Heap→Prop):Prop:=
 ∀(m:Ghost) (w:World) (vs:List Value),Holds m w→RelL m args vs→HRel m h w →
  YieldAt (FR none) 0 P l vs.toArray w fun e w'=>∃m' b h',e=.returned (.bool b)∧Aft m h w m' h' w'∧Q b h'
theorem yieldAt_mono {F:Fence} {n:Nat} {P:Program} {l:Nat} {args:Array Value} {w:World} {R R':Ending→World→Prop} (h:YieldAt F n P l args w R) (hr:∀e w',R e w'→R' e w'):YieldAt F n P l args w R':=by
 obtain⟨fn,tmps,assign,body,h1,h2⟩:=h
 exact⟨fn,tmps,assign,body,h1,h2.mono hr⟩
theorem Yields.mono {P:Program} {l:Nat} {args:List AV} {h:Heap} {Q Q':Bool→Heap→Prop} (k:Yields P l args h Q) (hq:∀b h',Q b h'→Q' b h'):Yields P l args h Q':=
 fun m w vs h1 h2 h3=>yieldAt_mono (k m w vs h1 h2 h3) fun e w' ⟨m',b,h',g1,g2,g3⟩=>⟨m',b,h',g1,g2,hq _ _ g3⟩
theorem Yields.beside {P:Program} {l:Nat} {args:List AV} {h:Heap} {Q:Bool→Heap→Prop} (f:Heap) (k:Yields P l args h Q):Yields P l args (f++h) (fun b h'=>∃h1,Q b h1∧h'=f++h1):=by
 intro m w us h1 h2 h3
 refine yieldAt_mono (k m w us h1 h2 (h3.sub (List.sublist_append_right f h))) ?_
 rintro e w' ⟨m',b,h',rfl,g1,g2⟩
 exact⟨m',b,_,rfl,g1.frame h3 h1,h',g2,rfl⟩
section
variable {P:Program} {ops:Array Oper} {rest:List Oper} {s:St} {K:St→Prop} {d:Option Nat} {ty:Nat} {pos:String} {af:Array Edge} {x:Operand} {args:Array Operand} {ats:Array Nat} {l:Nat} {vs:List AV}
theorem wpIn_yield {gd:Option (Nat × Bool)} {m0:GF} {w0:World} {a:Act} {w:World} {J:Act→World→Prop} (hx:evalA s.t x=some (.val (.func (.yield l) #[] #[]))) (hv:Evals s.t args.toList vs) (hf:fits s d=true)
  (hc:Yields P l vs s.h (fun b h'=>K (({ s with h:=h' }:St).put d (.val (.bool b))))) (hs:Sim m0 w0 s a w) (hJ:∀a' w' s',K s'→Sim m0 w0 s' a' w'→J a' w') (Q:Exit→Act→World→Prop) :
  (⟨d,.call { callee:=.value x,args:=args,argTypes:=ats },ty,pos,af,gd⟩:Oper).wpIn (FR none) 1 P a w J Q:=by
 obtain⟨m,hs⟩:=hs
 unfold Oper.wpIn
 refine⟨fun _ _=>trivial,?_⟩
 rw[Oper.semAt_eq _ _ _ (by intro c e;cases e)]
 obtain⟨fn,tmps,assign,body,hrun,hround⟩:=hc m w _ hs.holds (hv.rel hs.tmps) hs.heap
 have e1:(args.toList.map a.eval).toArray=args.map a.eval:=by apply Array.ext';simp
 rw[e1] at hrun
 have e2:(execOp a.eval (⟨d,.call { callee:=.value x,args:=args,argTypes:=ats },ty,pos,af,gd⟩:Oper)).run P w=.ok (.round l fn tmps assign body) w:=by
  have hev:=eval_val hs.tmps hx
  simp[execOp,resolve,Deferred.ofValue,hev,invoke,hrun]
 rw[e2]
 refine⟨fun q=>(by cases q),hround.mono ?_⟩
 rintro e w' ⟨m',b,h',rfl,g1,g2⟩
 exact hJ _ _ _ g2 ⟨m',SimG.put (s:={ s with h:=h' }) (hs.aft g1) hf (rel_val rfl)⟩
theorem RL.yield (hc:Yields P l vs s.h (fun b h'=>RL none P ops rest (({ s with h:=h' }:St).put d (.val (.bool b))) K)) (hx:evalA s.t x=some (.val (.func (.yield l) #[] #[])):=by rfl) (hv:Evals s.t args.toList vs:=by (repeat (first|exact Evals.nil|(apply Evals.cons;rfl)))) (hf:fits s d=true:=by rfl) :
  RL none P ops (⟨d,.call { callee:=.value x,args:=args,argTypes:=ats },ty,pos,af,none⟩::rest) s K:=by
 intro i hi m0 w0 a w hs Q hQ
 obtain⟨h1,h2⟩:=drop_cons hi
 have h1':=h1
 rw[Array.getElem?_toList] at h1'
 rw[List.length_cons,List.range'_succ,wpOpsIn_cons]
 unfold wpOpIn
 simp only[h1']
 rw[if_pos (by simp[Region.wanted])]
 exact wpIn_yield (K:=fun s'=>RL none P ops rest s' K) hx hv hf hc hs (fun a' w' s' hk hs'=>hk _ h2 _ _ _ _ hs' Q hQ) Q
end
/-! ### The loop -/
def putPs:List Nat→List AV→List (Nat × AV)→List (Nat × AV)
 | p::ps,v::vs,t=>putPs ps vs ((p,v)::t)
 | _,_,t=>t
theorem TRel.putPs {m:Ghost}:∀{ps:List Nat} {vs:List AV} {us:List Value} {t:List (Nat × AV)} {a:Array Value},TRel m t a→RelL m vs us→(∀p∈ps,p<a.size) →
  TRel m (putPs ps vs t) ((ps.zip us).foldl (fun tmps (p,u)=>tmps.setIfInBounds p u) a)∧((ps.zip us).foldl (fun tmps (p,u)=>tmps.setIfInBounds p u) a).size=a.size
 | [],vs,us,t,a,h,_,_=>by cases vs<;>exact⟨h,rfl⟩
 | p::ps,[],us,t,a,h,k,_=>by simp only[RelL] at k;subst k;exact⟨h,rfl⟩
 | p::ps,v::vs,us,t,a,h,k,hp=>by
  simp only[RelL] at k
  obtain⟨c,r,rfl,k1,k2⟩:=k
  have:=TRel.putPs (h.put (hp p (List.mem_cons_self ..)) k1) k2 (fun q hq=>by simpa using hp q (.tail _ hq))
  simpa[VM.putPs] using this
def Iter (P:Program) (f:Nat) (caps:List AV) (hi:Heap) (xs:List (List AV)):Prop:=
 ∀(l:Nat) (R:Nat→Heap→Prop) (S:Heap→Prop),
  (∀k x h,R k h→xs[k]?=some x→Yields P l x h (fun b h'=>(b=true∧R (k+1) h')∨(b=false∧S h'))) →
  ∀h,R 0 h→ACalls P f (.val (.func (.yield l) #[] #[])::caps) (hi++h) (fun _ h'=>∃h1,h'=hi++h1∧(R xs.length h1∨S h1))
def RoundQ (R:Heap→Prop) (S:Code→Heap→Prop):Exit→St→Prop
 | .normal,s=>∃h',LeH s.h h'∧R h'
 | .ret,s=>∃h',LeH s.h h'∧S .ret h'
 | .exit id,s=>∃h',LeH s.h h'∧S (.exit id) h'
 | .goto l,s=>∃h',LeH s.h h'∧S (.goto l) h'
 | _,_=>False
theorem room_fr {ro:Option Nat} (k:Nat):(FR ro).room k:=fun _ h=>by simp[FR,Fence.wide] at h
theorem roundIn_fr {n n':Nat} {P:Program} {l:Nat} {f:FuncId} {tmps:Array Value} {assign body:Code} {w:World} {R:Ending→World→Prop} (h:RoundIn (FR none) n P l f tmps assign body w R):RoundIn (FR none) n' P l f tmps assign body w R:=
 ⟨h.1,fun c cs _=>h.2 c cs (room_fr _)⟩
theorem putObj_ne {w:World} {r k:Nat} {o:Obj} (h:k≠r):(w.putObj r o).heap[k]?=w.heap[k]?:=World.putObj_heap_other h
theorem Same.putObj (w:World) (r:Nat) (o:Obj):Same w (w.putObj r o):=⟨rfl,rfl,rfl,by simp,Nat.le_refl _⟩
theorem SimG.lp {m0:GF} {w0 w:World} {m:Ghost} {n l:Nat} {t tl:List (Nat × AV)} {r r':Loop} {h:Heap} {a:Act} (k:SimG m0 w0 m ⟨n,t,.lp l r tl::h⟩ a w) (hr:r'.tmps=r.tmps):SimG m0 w0 m ⟨n,t,.lp l r' tl::h⟩ a (w.putObj l (.loop r')):=by
 obtain⟨h1,h2,h3⟩:=k.heap.2 _ (List.mem_cons_self ..)
 have hlt:=(Array.getElem?_eq_some_iff.1 h2).1
 refine SimG.up (s:=⟨n,t,.lp l r tl::h⟩) (x:=.lp l r tl) (x':=.lp l r' tl) k .here (Same.putObj _ _ _) (fun b o e=>putObj_ne fun e'=>?_) (fun b hb hne=>putObj_ne fun e=>hne (by rw[e];rfl)) ⟨World.putObj_heap_same hlt,fun i v e=>by rw[hr];exact h3 i v e⟩ (fun b hb=>.inl hb)
 subst e'
 rw[h1 _ rfl] at e;cases e
theorem yields_round {P:Program} {l n:Nat} {rec:Loop} {t:List (Nat × AV)} {x:List AV} {h:Heap} {R:Heap→Prop} {S:Code→Heap→Prop} (hsz:rec.tmps.size=n) (hst:rec.state=.ready) (hps:x.length=rec.params.size) (hpl:∀p∈rec.params.toList,p<n)
  (hround:W (some l) P rec.assign (Then (fun s'=>W (some l) P rec.body (RoundQ R S) s') (fun _ _=>False)) ⟨n,putPs rec.params.toList x t,h⟩) :
  Yields P l x (.lp l rec t::h) (fun b h'=>(b=true∧∃h1,h'=.lp l { rec with pending:=none } t::h1∧R h1)∨(b=false∧∃c h1,h'=.lp l { rec with state:=.done,pending:=some c } t::h1∧S c h1)):=by
 intro m w vs hm hv hh
 obtain⟨hb0,hl,htm⟩:=hh.2 _ (List.mem_cons_self ..)
 have hlen:=hv.length
 refine⟨rec.fn,_,rec.assign,rec.body,run_yield hl (by simp[hlen,hps]),roundIn_fr (n:=1) (roundIn_of_wpIn trivial ?_)⟩
 show rec.assign.wpIn (FR (some l)) 1 P _ _ w
 have hpt:=TRel.putPs (ps:=rec.params.toList) (m:=m) (t:=t) (a:=rec.tmps) htm hv (fun p hp=>by rw[hsz];exact hpl p hp)
 have efold:(rec.params.zip vs.toArray).foldl (fun tmps (p,u)=>tmps.setIfInBounds p u) rec.tmps=(rec.params.toList.zip vs).foldl (fun tmps (p,u)=>tmps.setIfInBounds p u) rec.tmps:=by
  rw[←Array.foldl_toList,Array.toList_zip]
 rw[efold]
 generalize (rec.params.toList.zip vs).foldl (fun tmps (p,u)=>tmps.setIfInBounds p u) rec.tmps=tm at hpt ⊢
 have hs0:SimG ⟨m,fun b=>∃y∈(.lp l rec t::h:Heap),y.blk=some b,[]⟩ w m ⟨n,putPs rec.params.toList x t,.lp l rec t::h⟩ { tmps:=tm,defers:=[] } w:=
  ⟨Gle.refl m,fun b o e=>.inl e,fun _ _ _=>rfl,fun y hy b hb=>.inl ⟨y,hy,hb⟩,hm,Same.refl w,Defs.refl _ _ _,by rw[hpt.2];exact hsz,hpt.1,hh⟩
 refine wpIn_mono ((hround.beside [.lp l rec t]) _ _ _ w ⟨m,hs0⟩) ?_
 rintro e a1 w1 ⟨s1,⟨s2,hq,rfl⟩,m1,hs1⟩
 cases e with
 | normal=>
  obtain⟨n2,t2,h2⟩:=s2
  have hl1:=(hs1.heap.2 _ (List.mem_cons_self ..)).2.1
  refine⟨_,run_beginRound hl1 hst,?_⟩
  have hs2:=SimG.lp (r':={ rec with state:=.busy }) hs1 rfl
  have hq:W (some l) P rec.body (RoundQ R S) ⟨n2,t2,h2⟩:=hq
  refine wpIn_mono ((hq.beside [.lp l { rec with state:=.busy } t]) _ _ _ _ ⟨m1,hs2⟩) ?_
  rintro e a3 w3 ⟨s3,⟨s4,hq4,rfl⟩,m3,hs3⟩
  have hl3:=(hs3.heap.2 _ (List.mem_cons_self ..)).2.1
  have fin:∀(j:Option Code) (h':Heap),LeH s4.h h'→Aft m (.lp l rec t::h) w m3 (.lp l { rec with state:=if j.isNone then .ready else .done,pending:=j } t::h') (w3.putObj l (.loop { rec with state:=if j.isNone then .ready else .done,pending:=j })):=fun j h' hle=>by
   have k1:=(SimG.lp (r':={ rec with state:=if j.isNone then .ready else .done,pending:=j }) hs3 rfl)
   have k2:=k1.leh (LeH.frame hle [.lp l { rec with state:=if j.isNone then .ready else .done,pending:=j } t])
   exact k2.fresh_aft
  cases e with
  | normal=>
   obtain⟨h',hle,hR⟩:=hq4
   refine⟨_,_,run_endRound none hl3,m3,true,_,rfl,fin none h' hle,.inl ⟨rfl,h',?_,hR⟩⟩
   simp[←hst]
  | ret=>
   obtain⟨h',hle,hS⟩:=hq4
   exact⟨_,_,run_endRound (some .ret) hl3,m3,false,_,rfl,fin (some .ret) h' hle,.inr ⟨rfl,.ret,h',rfl,hS⟩⟩
  | exit id=>
   obtain⟨h',hle,hS⟩:=hq4
   exact⟨_,_,run_endRound (some (.exit id)) hl3,m3,false,_,rfl,fin (some (.exit id)) h' hle,.inr ⟨rfl,.exit id,h',rfl,hS⟩⟩
  | goto id=>
   obtain⟨h',hle,hS⟩:=hq4
   exact⟨_,_,run_endRound (some (.goto id)) hl3,m3,false,_,rfl,fin (some (.goto id)) h' hle,.inr ⟨rfl,.goto id,h',rfl,hS⟩⟩
  | panic c=>exact hq4.elim
  | outgrown=>exact hq4.elim
 | exit id=>exact hq.elim
 | goto l=>exact hq.elim
 | ret=>exact hq.elim
 | panic c=>exact hq.elim
 | outgrown=>exact hq.elim
section
variable {P:Program} {n:Nat} {t:List (Nat × AV)} {h h0 hi:Heap} {Q:Exit→St→Prop} {g:Operand} {ps:Array Tmp} {assign body:Code} {f:Nat} {caps:List AV} {xs:List (List AV)}
theorem W.range [TFun P f] (R:Nat→Heap→Prop) (S:Code→Heap→Prop) (hit:Iter P f caps hi xs) (h00:R 0 h0)
  (round:∀l k x h,R k h→xs[k]?=some x→W (some l) P assign (Then (fun s'=>W (some l) P body (RoundQ (R (k+1)) S) s') (fun _ _=>False)) ⟨n,putPs ps.toList x t,h⟩)
  (done:∀h,R xs.length h→Q .normal ⟨n,t,hi++h⟩) (stop:∀c h,S c h→W none P c Q ⟨n,t,hi++h⟩)
  (hps:∀x∈xs,x.length=ps.size) (hsplit:LeH h (hi++h0)) (hg:evalA t g=some (.clo (.func f) caps):=by rfl) (hpl:∀p∈ps.toList,p<n:=by decide):W none P (.rangeFunc g ps assign body) Q ⟨n,t,h⟩:=by
 intro m0 w0 a w ⟨m,hs0⟩
 have hs:=hs0.leh hsplit
 refine wpIn_rangeFunc fun fn _=>?_
 have hg':=hs.tmps.eval hg
 simp only[Rel] at hg'
 obtain⟨cs,hg',hcs⟩:=hg'
 obtain⟨rec,hrec⟩:∃rec:Loop,rec={ state:=.ready,pending:=none,fn,tmps:=a.tmps,params:=ps,assign,body,defers:=w.heap.size }:=⟨_,rfl⟩
 obtain⟨W1,hW1⟩:∃W1,(w.alloc (.deferred (some []))).alloc (.loop rec)=W1:=⟨_,rfl⟩
 have hL1:W1.heap[w.heap.size+1]?=some (.loop rec):=by
  rw[←hW1];have:=heap_new (w.alloc (.deferred (some []))) (.loop rec);rwa[World.size_alloc] at this
 have hD1:W1.heap[w.heap.size]?=some (.deferred (some [])):=by
  rw[←hW1];exact (heap_old _ _ _ (by simp)).trans (heap_new w _)
 have hold:∀b,b<w.heap.size→W1.heap[b]?=w.heap[b]?:=fun b hb=>by
  rw[←hW1];exact (heap_old _ _ _ (by simp;omega)).trans (heap_old _ _ _ hb)
 have hsame:Same w W1:=by rw[←hW1];exact (Same.alloc _ _).trans (Same.alloc _ _)
 have hsize:W1.heap.size=w.heap.size+2:=by rw[←hW1];simp
 let m1:Ghost:=fun b=>if b=w.heap.size then some (.deferred (some [])) else m b
 have hle1:Gle m m1:=fun b o e=>by
  show (if b=w.heap.size then _ else m b)=some o
  rw[if_neg (by have:=hs.holds.lt e;omega)];exact e
 have hm1:∀b,b≠w.heap.size→m1 b=m b:=fun b hb=>if_neg hb
 have hm1D:m1 w.heap.size=some (.deferred (some [])):=if_pos rfl
 have hblk:∀x∈hi++h0,∀b,x.blk=some b→b<w.heap.size:=fun x hx b hb=>hs.heap.lt hx hb
 have hsz:=hs.same.size

 have hs1:SimG m0 w0 m1 ⟨n,t,.lp (w.heap.size+1) rec t::(hi++h0)⟩ { a with defers:=[{ target:=.collected w.heap.size,args:=#[] }]++a.defers } W1:=by
  refine⟨hs.le.trans hle1,fun b o e=>?_,fun b h1 h2=>(hold b (by omega)).trans (hs.frame b h1 h2),fun x hx b hb=>?_,fun b o e=>?_,hs.same.trans hsame,?_,hs.size,fun i v e=>?_,⟨?_,fun x hx=>?_⟩⟩
  ·by_cases hb:b=w.heap.size
   ·right;right;omega
   ·rw[hm1 b hb] at e;exact hs.grow b o e
  ·rcases List.mem_cons.1 hx with rfl|hx
   ·right;simp only[OE.blk] at hb;injection hb with hb;omega
   ·exact hs.own x hx b hb
  ·by_cases hb:b=w.heap.size
   ·subst hb;rw[hm1D] at e;injection e with e;rw[←e];exact hD1
   ·rw[hm1 b hb] at e;exact (hold b (hs.holds.lt e)).trans (hs.holds b o e)
  ·obtain⟨new,e1,e2⟩:=hs.defers
   refine⟨{ target:=.collected w.heap.size,args:=#[] }::new,by rw[e1];rfl,.cons hm1D hsz (fun d hd e=>?_) (e2.mono hle1)⟩
   obtain⟨D,e3,_,e4⟩:=e2.at d hd
   rw[e] at e3;injection e3 with e3;subst e3
   have:=hs.holds.lt e4;omega
  ·obtain⟨u,g1,g2⟩:=hs.tmps i v e;exact⟨u,g1,g2.mono hle1⟩
  ·rw[List.filterMap_cons_some (show (OE.lp (w.heap.size+1) rec t).blk=some _ from rfl),List.nodup_cons]
   refine⟨fun hmem=>?_,hs.heap.1⟩
   obtain⟨x,hx,e⟩:=mem_blks.1 hmem
   have:=hblk x hx _ e;omega
  ·rcases List.mem_cons.1 hx with rfl|hx
   ·refine⟨fun b hb=>?_,hL1,fun i v e=>?_⟩
    ·simp only[OE.blk] at hb;injection hb with hb;subst hb
     rw[hm1 _ (by omega)]
     cases e:m (w.heap.size+1) with
     | none=>rfl
     | some o=>have:=hs.holds.lt e;omega
    ·obtain⟨u,g1,g2⟩:=hs.tmps i v e;rw[hrec];exact⟨u,g1,g2.mono hle1⟩
   ·refine⟨fun b hb=>?_,((hs.heap.2 x hx).2.mono hle1).local fun b hb=>hold b (hblk x hx b hb)⟩
    rw[hm1 b (by have:=hblk x hx b hb;omega)];exact (hs.heap.2 x hx).1 b hb
 have hperm:(hi++.lp (w.heap.size+1) rec t::h0).Perm (.lp (w.heap.size+1) rec t::(hi++h0)):=List.perm_middle
 have hs2:=hs1.permh hperm
 refine⟨w.heap.size+1,[{ target:=.collected w.heap.size,args:=#[] }],W1,{ target:=.fn (.func f) cs,args:=#[.func (.yield (w.heap.size+1)) #[] #[]] },W1,f,
  #[.func (.yield (w.heap.size+1)) #[] #[]]++cs,W1,?_,?_,fun _ _=>trivial,?_,fun q=>(by cases q),?_⟩
 ·rw[←hW1,hrec];exact run_enterLoop_outer _ _ _ _ _
 ·simp only[resolve,hg']
  simp[go_sem]
 ·simp[invoke,run_callF]
 ·have hyv:RelL m1 (.val (.func (.yield (w.heap.size+1)) #[] #[])::caps) (.func (.yield (w.heap.size+1)) #[] #[]::cs.toList):=by
   simp only[RelL];exact⟨_,_,rfl,rel_val rfl,hcs.mono hle1⟩
  have key:=hit (w.heap.size+1)
   (fun k hh=>∃h1,hh=.lp (w.heap.size+1) rec t::h1∧R k h1)
   (fun hh=>∃c h1,hh=.lp (w.heap.size+1) { rec with state:=.done,pending:=some c } t::h1∧S c h1)
   (by
    rintro k x _ ⟨h1,rfl,hR⟩ hx
    have hst:rec.state=.ready:=by rw[hrec]
    have e1:{ rec with pending:=none }=rec:=by rw[hrec]
    refine (yields_round (R:=R (k+1)) (S:=S) (n:=n) (by rw[hrec];exact hs.size) hst (by rw[hrec];exact hps x (List.mem_of_getElem? hx)) (by rw[hrec];exact hpl) (by rw[hrec];exact round _ k x h1 hR hx)).mono ?_
    rw[e1]
    exact fun b h' q=>q)
   _ ⟨h0,rfl,h00⟩
  have hcall:=calls_fr (ro:=none) (n:=1 - 1) (key m1 W1 _ hs2.holds hyv hs2.heap)
  have earr:(Value.func (.yield (w.heap.size+1)) #[] #[]::cs.toList).toArray=#[.func (.yield (w.heap.size+1)) #[] #[]]++cs:=by apply Array.ext';simp
  rw[earr] at hcall
  refine hcall.mono ?_
  rintro e w2 ⟨m2,v,r,h2,rfl,g1,g2,g3,g4,g5,g6,h3,rfl,hq⟩
  have hs3:=hs2.aft ⟨g1,g2,g3,g5,g6⟩
  rcases hq with ⟨h4,rfl,hR⟩|⟨c,h4,rfl,hS⟩
  ·have hs4:=hs3.permh List.perm_middle.symm
   have hl4:=(hs4.heap.2 _ (List.mem_cons_self ..)).2.1
   have hend:=run_endLoop (P:=P) hl4 (by rw[hrec];simp)
   have hpe:rec.pending=none:=by rw[hrec]
   rw[hpe] at hend
   refine⟨none,_,hend,?_⟩
   have hs5:=(SimG.lp (r':={ rec with state:=.exhausted }) hs4 rfl).sub (List.sublist_cons_self _ _)
   rw[hpe] at hs5
   exact⟨_,done h4 hR,m2,hs5⟩
  ·have hs4:=hs3.permh List.perm_middle.symm
   have hl4:=(hs4.heap.2 _ (List.mem_cons_self ..)).2.1
   refine⟨some c,_,by have:=run_endLoop (P:=P) hl4 (by simp);exact this,?_⟩
   have hs5:=(SimG.lp (r':={ rec with state:=.exhausted,pending:=some c }) hs4 rfl).sub (List.sublist_cons_self _ _)
   exact stop c h4 hS _ _ _ _ ⟨m2,hs5⟩
end
end Go.VM
/- A function value called, whatever it is; three-index slices; clear. No condition. -/
namespace Go.VM
open Go
set_option linter.unusedVariables false
set_option linter.unusedSimpArgs false
inductive Fv:AV→Nat→List AV→Prop
 | clo (f:Nat) (l:List AV):Fv (.clo (.func f) l) f l
 | fn (f:Nat):Fv (.val (.func (.func f) #[] #[])) f []
section
variable {ro:Option Nat} {P:Program} {n:Nat} {t:List (Nat × AV)} {h:Heap} {K:St→Prop} {d:Nat} {ty:Nat} {pos:String} {af:Array Edge} {gd:Option (Nat × Bool)} {x y:Operand}
theorem S.callv {f:Nat} {args:Array Operand} {ats:Array Nat} {vs caps:List AV} {fv:AV} [TFun P f] (hF:Fv fv f caps) (hc:ACalls P f (vs++caps) h (fun r h'=>K ⟨n,(d,r)::t,h'⟩)) (hg:evalA t x=some fv:=by rfl) (hx:Evals t args.toList vs:=by (repeat (first|exact Evals.nil|(apply Evals.cons;rfl)))) (hn:Nat.blt d n=true:=by rfl) :
  Step P ⟨some d,.call { callee:=.value x,args:=args,argTypes:=ats },ty,pos,af,gd⟩ ⟨n,t,h⟩ K:=by
 cases hF with
 | clo f l=>exact step_call_clo hg hx hn hc
 | fn f=>
  refine step_of_calls (s:=⟨n,t,h⟩) (f:=f) (vs:=vs) (fun m0 w0 m a w hs=>⟨args.toList.map a.eval,hx.rel hs.tmps,?_⟩) hn (by rw[List.append_nil] at hc;exact hc)
  have e:(args.toList.map a.eval).toArray=args.map a.eval:=by apply Array.ext';simp
  rw[e]
  simp[execOp,resolve,Deferred.ofValue,eval_val hs.tmps hg,invoke,run_callF]
theorem pur_slice3_ro {xt e k bs:Nat} {g:Bool} {l:List AV} {x2 x3:Operand} {k2 k3:IntKind} {d:Option Nat} [he:TElem P xt e k bs g] (hx:evalA t x=some (.ro k l)) (h2:evalA t x2=some (.val (.int k2 (l.length:Int)))) (h3:evalA t x3=some (.val (.int k3 (l.length:Int)))) :
  PurV P ⟨d,.slice xt x none (some x2) (some x3),ty,pos,af,gd⟩ t h (.ro k l):=fun m a w0 ht g1 g2=>by
 obtain⟨q1,q2,q3,_⟩:=elemQ_spec he.h
 have hx:=ht.eval hx
 simp only[Rel] at hx
 obtain⟨A,c,hx,p1,p2,p3,p4⟩:=hx
 have e2:=eval_val ht h2
 have e3:=eval_val ht h3
 refine⟨.slice (if l.length=0 then A else A.map (·.add (0 * k))) l.length l.length,?_,fun w=>?_⟩
 ·simp only[Rel]
  refine⟨_,l.length,rfl,Nat.le_refl _,by omega,fun hA=>?_,fun hne=>?_⟩
  ·split at hA
   ·assumption
   ·have:A=none:=by cases A<;>simp_all
    have:=p3 this;omega
  ·have hl:l.length≠0:=fun q=>hne (List.eq_nil_of_length_eq_zero q)
   rw[if_neg hl]
   obtain⟨b,off,cs,e',fr,rfl,w2,w3,w4,w5⟩:=p4 hne
   exact⟨b,off,cs,e',fr,by simp[add_mk'],w2,w3,w4,w5⟩
 ·by_cases h0:l.length=0
  ·simp[execOp,hx,e2,e3,Instr.sliceAt,Instr.slice,Instr.sliceBounds,Instr.sliceBound,run_underlying q1,run_sizeOf q2,asIntOf,h0]
  ·simp[execOp,hx,e2,e3,Instr.sliceAt,Instr.slice,Instr.sliceBounds,Instr.sliceBound,run_underlying q1,run_sizeOf q2,asIntOf,p1,h0]
theorem zero_ones {m:Ghost} {z:AV} {u:Value} (hrel:Rel m z u) (ho:z.cells.all AV.one=true):∀y∈u.cells.toList,y.oneCell'=true:=by
 have h1:=hrel.cells
 intro y hy
 obtain⟨j,hj,rfl⟩:=List.getElem_of_mem hy
 have hjz:j<z.cells.length:=by rw[←h1.length];exact hj
 obtain⟨cc,c1,c2⟩:=h1.at j _ (List.getElem?_eq_getElem hjz)
 rw[List.getElem?_eq_getElem hj] at c1
 injection c1 with c1
 rw[c1]
 exact c2.one (List.all_eq_true.1 ho _ (List.getElem_mem hjz))
theorem step_clear {s:St} {h':Heap} {d:Option Nat} {xt e k bs lo n:Nat} {g:Bool} {v:Value} {l:List AV} {z:AV} [he:TElem P xt e k bs g] [hz:TZel P e z] (hx:evalA s.t x=some (.vw v k lo n)) (hln:lo+n≤l.length) (ho:z.cells.all AV.one=true)
  (hu:Up s.h (.own v k l e) (.own v k (splice l lo (List.replicate n z)) e) h') (hf:fits s d=true) (hK:K (({ s with h:=h' }:St).put d (.tup []))):Step P ⟨d,.call { callee:=.builtin .clear,args:=#[x],argTypes:=#[xt] },ty,pos,af,gd⟩ s K:=by
 intro m0 w0 a w ⟨m,hsim⟩ Q
 obtain⟨q1,q2,q3,i,zv,hi,hsz,hby,hzv,hzs⟩:=elemQ_spec he.h
 obtain⟨i',u,hi',hu',hrel,hus,_⟩:=zelQ_spec hz.h
 rw[hi] at hi';injection hi' with hi';subst hi'
 rw[hzv] at hu';injection hu' with hu';subst hu'
 have hone:=zero_ones (hrel m) ho
 obtain⟨hnone,q0⟩:=hsim.heap.2 _ hu.old
 have hx':=hsim.tmps.eval hx
 simp only[Rel] at hx'
 obtain⟨D,dc,hx',_,_,hD0,hD⟩:=hx'
 have hrt:Rel m (.tup []) (.tuple #[]):=by simp only[Rel];exact⟨#[],rfl,by simp[RelL]⟩
 unfold Oper.wp
 by_cases h0:n=0
 ·subst h0
  have hsp:splice l lo (List.replicate 0 z)=l:=by simp[splice]
  rw[hsp] at hu
  have hrr:(execOp a.eval ⟨d,.call { callee:=.builtin .clear,args:=#[x],argTypes:=#[xt] },ty,pos,af,gd⟩).run P w=.ok (.value (.tuple #[])) w:=by
   cases D<;>simp[execOp,resolve,invoke,builtin,hx',Builtin.clear_,run_underlying q1]
  rw[hrr]
  exact⟨_,hK,m,SimG.put (s:={ s with h:=h' }) (hsim.up hu (Same.refl w) (fun _ _ _=>rfl) (fun _ _ _=>rfl) q0 (fun b hb=>.inl hb)) hf hrt⟩
 ·obtain⟨b,N,cap,rfl,rfl,hN⟩:=hD (by omega)
  rcases q0.own_cases with ⟨A',hA',rfl⟩|⟨b',cap',cur,zs,hv',hc0,q7,q8,q9,q10,q11,q12,q4,q5,q6,q13⟩
  ·simp at hln;omega
  injection hv' with hv' hN' hcap
  injection hv' with hv'
  injection hv' with hv'
  subst hv';subst hN';subst hcap
  have hk1:lo * k+n * k≤l.length * k:=by rw[←Nat.add_mul];exact Nat.mul_le_mul_right _ hln
  have hk2:l.length * k≤cur.size:=by rw[q10];exact Nat.mul_le_mul_right _ q8
  have hkz:0<zv.cells.size:=by rw[hzs];exact q3
  obtain⟨ys,hys⟩:∃ys,(Builtin.zeroCells zv.cells n).toList=ys:=⟨_,rfl⟩
  have hymk:ys=(madeCells zv.cells (n * k)).toList:=by
   rw[←hys,←hzs]
   simp[Builtin.zeroCells,madeCells,Nat.mul_comm]
  have hyl:ys.length=n * k:=by rw[hymk,Array.length_toList,size_madeCells]
  have hyr:RelE m k (List.replicate n z) ys:=by rw[hymk];exact relE_zero (hrel m) hzs q3 n
  have hy1:∀y∈ys,y.oneCell'=true:=by rw[hymk];exact one_made hkz hone
  have hst:=run_storeCells_at P b (lo * k) e ys 0 cur w q7 (by omega) hy1
  simp only[Nat.add_zero] at hst
  have hzr:∀w,(zeroValue e).run P w=.ok zv w:=fun w=>by simp[zeroValue,typeInfo,hi,hzv]
  have hrr:(execOp a.eval ⟨d,.call { callee:=.builtin .clear,args:=#[x],argTypes:=#[xt] },ty,pos,af,gd⟩).run P w=.ok (.value (.tuple #[])) (w.setRow b (cur.toList.take (lo * k)++ys++cur.toList.drop (lo * k+ys.length)).toArray):=by
   obtain⟨n',rfl⟩:∃n',n=n'+1:=⟨n - 1,by omega⟩
   simp[execOp,resolve,invoke,builtin,hx',Builtin.clear_,run_underlying q1,hzr,hys]
   rw[←List.append_assoc,hst]
   simp
  rw[hrr]
  have hcur:(cur.toList.take (lo * k)++ys++cur.toList.drop (lo * k+ys.length)).take (l.length * k)=zs.take (lo * k)++ys++zs.drop (lo * k+ys.length):=by
   rw[take_splice rfl (by omega) (by simpa using hk2),q11]
  have hspl:(splice l lo (List.replicate n z)).length=l.length:=by simp[splice];omega
  have hrl:RelE m k (splice l lo (List.replicate n z)) (zs.take (lo * k)++ys++zs.drop (lo * k+ys.length)):=by
   unfold splice
   have e1:lo * k+ys.length=(lo+(List.replicate n z).length) * k:=by rw[hyl,List.length_replicate,Nat.add_mul]
   rw[e1]
   exact ((q4.take lo).append hyr).append (q4.drop _)
  refine⟨_,hK,m,SimG.put (s:={ s with h:=h' }) (hsim.up hu (Same.setRow _ _ _) (fun b' o ho=>setRow_ne w b b' _ ?_) (fun b' hb' hne=>setRow_ne w b b' _ (fun e=>hne (by rw[e];exact q6)))
   (own_set q0 hspl rfl hc0 q7 (setRow_at w b _ q7) (by simp;omega) ?_ ?_) (fun b' hb'=>.inl hb')) hf hrt⟩
  ·intro e;subst e;rw[hnone b' q6] at ho;cases ho
  ·show RelE m k (splice l lo (List.replicate n z)) ((cur.toList.take (lo * k)++ys++cur.toList.drop (lo * k+ys.length)).take (l.length * k))
   rw[hcur];exact hrl
  ·show ∀y'∈(cur.toList.take (lo * k)++ys++cur.toList.drop (lo * k+ys.length)).take (l.length * k),_
   rw[hcur];exact mem_splice q5 hy1
theorem S.clear {xt e k bs lo m:Nat} {g:Bool} {v:Value} {l:List AV} {z:AV} {h':Heap} [he:TElem P xt e k bs g] [hz:TZel P e z] (hK:K ⟨n,t,h'⟩) (hx:evalA t x=some (.vw v k lo m):=by rfl) (hu:Up h (.own v k l e) (.own v k (splice l lo (List.replicate m z)) e) h':=by (repeat (first|exact Up.here|assumption|apply Up.there))) (hln:lo+m≤l.length:=by (first|omega|(simp only[ints,splice,List.length_map,List.length_append,List.length_cons,List.length_nil,List.length_take,List.length_drop,List.length_set,List.length_replicate];omega))) (ho:z.cells.all AV.one=true:=by rfl) :
  Step P ⟨none,.call { callee:=.builtin .clear,args:=#[x],argTypes:=#[xt] },ty,pos,af,gd⟩ ⟨n,t,h⟩ K:=step_clear hx hln ho hu rfl hK
theorem iSl {s:St} {d:Option Nat} {xt:Nat} {a b c:Option Operand} (k:Step P ⟨d,.slice xt x a b c,ty,pos,af,gd⟩ s K):Step P ⟨d,.slice xt x a b c,ty,pos,af,gd⟩ s K:=k
theorem iYd {ops:Array Oper} {rest:List Oper} {s:St} {d:Option Nat} {i:Nat} {a:Array Operand} {b:Array Nat} (k:RL ro P ops (⟨d,.call ⟨.value (.tmp i),a,b⟩,ty,pos,af,gd⟩::rest) s K):RL ro P ops (⟨d,.call ⟨.value (.tmp i),a,b⟩,ty,pos,af,gd⟩::rest) s K:=k
theorem Yields.keep3 {l:Nat} {args:List AV} {h:Heap} {Q:Bool→Heap→Prop} {x y z:OE} (k:Yields P l args h Q):Yields P l args (x::y::z::h) (fun b h'=>∃h1,Q b h1∧h'=x::y::z::h1):=k.beside [x,y,z]
theorem Yields.keep1 {l:Nat} {args:List AV} {h:Heap} {Q:Bool→Heap→Prop} {x:OE} (k:Yields P l args h Q):Yields P l args (x::h) (fun b h'=>∃h1,Q b h1∧h'=x::h1):=k.beside [x]
/-! Slices of two elements, built and never changed -/
theorem S.build2r {bt e k bs:Nat} {g:Bool} {v0 v1:AV} [he:TElem P bt e k bs g] (hK:K ⟨n,(d,.ro k [v0,v1])::t,h⟩) (hx:evalA t x=some v0:=by rfl) (hy:evalA t y=some v1:=by rfl) (hk:v0.cells.length=k:=by rfl) (hk':v1.cells.length=k:=by rfl) (h1:Ones h (v0.cells++v1.cells):=by (repeat (first|exact Ones.nil|refine Ones.cons rfl ?_|refine Ones.own (by (fail_if_success (apply memG));repeat (first|exact List.Mem.head _|assumption|refine List.Mem.tail _ ?_)) ?_))) (hbig:k≤1000000:=by first|omega|(simp[AV.cells];done)) (hn:Nat.blt d n=true:=by rfl):Step P ⟨some d,.buildSlice bt 2 #[(0,x),(1,y)],ty,pos,af,gd⟩ ⟨n,t,h⟩ K:=by
 have:=S.build2 (P:=P) (ty:=ty) (pos:=pos) (af:=af) (gd:=gd) (K:=fun s'=>∃v,s'=⟨n,(d,.val v)::t,.own v k [v0,v1] e::h⟩) (bt:=bt) (fun v=>⟨v,rfl⟩) hx hy hk hk' h1 hbig hn
 intro m0 w0 a w hs Q
 refine Oper.wp_mono (fun a' w' ⟨s',⟨v,e⟩,hs'⟩=>⟨_,hK,?_⟩) (this m0 w0 a w hs Q)
 subst e
 exact hs'.frz .here (.cons .hit (.rest _)) (.rest _)
variable {ops:Array Oper} {hro:Heap} {todo:List Nat} {i:Nat}
theorem R2.two {bt e kk bs:Nat} {g:Bool} {v0 v1:AV} [he:TElem P bt e kk bs g] (k:R2 ro P ops K n hro todo ((d,.ro kk [v0,v1])::t) h)
  (hi:ops[i]?=some ⟨some d,.buildSlice bt 2 #[(0,x),(1,y)],ty,pos,af,gd⟩:=by rfl)
  (hx:evalA (restr (readsOf ops ⟨some d,.buildSlice bt 2 #[(0,x),(1,y)],ty,pos,af,gd⟩) t) x=some v0:=by rfl) (hy:evalA (restr (readsOf ops ⟨some d,.buildSlice bt 2 #[(0,x),(1,y)],ty,pos,af,gd⟩) t) y=some v1:=by rfl) (hk:v0.cells.length=kk:=by rfl) (hk':v1.cells.length=kk:=by rfl)
  (h1:Ones hro (v0.cells++v1.cells):=by (repeat (first|exact Ones.nil|refine Ones.cons rfl ?_|refine Ones.own (by (fail_if_success (apply memG));repeat (first|exact List.Mem.head _|assumption|refine List.Mem.tail _ ?_)) ?_))) (hbig:kk≤1000000:=by first|omega|(simp[AV.cells];done))
  (hw:Wanted ops (restr (readsOf ops ⟨some d,.buildSlice bt 2 #[(0,x),(1,y)],ty,pos,af,gd⟩) t) ⟨some d,.buildSlice bt 2 #[(0,x),(1,y)],ty,pos,af,gd⟩ true:=by first|exact wanted_n rfl|exact wanted_p rfl rfl rfl (by first|rfl|exact decide_eq_true (by assumption)|exact decide_eq_false (by assumption)|(simp;done)|(simp;omega)|fail)|fail)
  (hn:Nat.blt d n=true:=by rfl) (hr:rdy ops (i::todo) i=true:=by decide +kernel) (hni:inL todo i=false:=by rfl):R2 ro P ops K n hro (i::todo) t h:=
 R2.F (S.build2r (kf (LeH.refl _)) hx hy hk hk' h1 hbig hn) k hi hw rfl hn hr hni
theorem R2.permh {h':Heap} (hp:h'.Perm h) (k:R2 ro P ops K n hro todo t h'):R2 ro P ops K n hro todo t h:=.mk <| fun hok m0 w0 m a w act pend fuel c hf=>
 k.go hok m0 w0 m a w act pend fuel { c with base:=c.base.permh (hp.append_left hro) } hf
theorem R2.congt {t':List (Nat × AV)} (hm:∀x,get t' x=get t x) (k:R2 ro P ops K n hro todo t' h):R2 ro P ops K n hro todo t h:=.mk <| fun hok=>(k.go hok).congt hm
theorem R2.alloc2 {j d' e e' ty':Nat} {pos':String} {af':Array Edge} {z z':List AV} [TZero P e z] [TZero P e' z']
  (k:∀b b',R2 ro P ops K n hro todo ((d',.val (.pointer (some ⟨b',0,none⟩)))::(d,.val (.pointer (some ⟨b,0,none⟩)))::t) (.box b' z' e'::.box b z e::h))
  (hi:ops[i]?=some ⟨some d,.alloc e,ty,pos,af,none⟩:=by rfl) (hj:ops[j]?=some ⟨some d',.alloc e',ty',pos',af',none⟩:=by rfl)
  (hr:(i::j::todo).filter (rdy ops (i::j::todo))=[i,j]:=by decide +kernel) (hri:(j::todo).filter (rdy ops (j::todo))=[j]:=by decide +kernel) (hrj:(i::todo).filter (rdy ops (i::todo))=[i]:=by decide +kernel)
  (hn:Nat.blt d n=true:=by rfl) (hn':Nat.blt d' n=true:=by rfl) (hne:Nat.beq d d'=false:=by rfl) (hni:inL (j::todo) i=false:=by rfl) (hnj:inL (i::todo) j=false:=by rfl):R2 ro P ops K n hro (i::j::todo) t h:=by
 have hdd:d≠d':=fun e=>by subst e;simp at hne
 have hnj':inL todo j=false:=by
  cases q:inL todo j with
  | false=>rfl
  | true=>rw[←hnj];exact (inL_iff.2 (.tail _ (inL_iff.1 q))).symm ▸ rfl
 have hni':inL todo i=false:=by
  cases q:inL todo i with
  | false=>rfl
  | true=>rw[←hni];exact (inL_iff.2 (.tail _ (inL_iff.1 q))).symm ▸ rfl
 have ki:∀tr,Step P ⟨some d,.alloc e,ty,pos,af,none⟩ ⟨n,tr,h⟩ (fun s'=>∃v,get s'.t d=some v∧R2 ro P ops K n hro (j::todo) ((d,v)::t) s'.h):=fun tr=>
  S.alloc (fun b=>kd (R2.B (S.alloc (fun b'=>kd (k b b')) hn') hj rfl hri (wanted_n rfl) hn' hnj')) hn
 have kj:∀tr,Step P ⟨some d',.alloc e',ty',pos',af',none⟩ ⟨n,tr,h⟩ (fun s'=>∃v,get s'.t d'=some v∧R2 ro P ops K n hro (i::todo) ((d',v)::t) s'.h):=fun tr=>
  S.alloc (fun b'=>kd (R2.B (S.alloc (fun b=>kd (((k b b').permh (List.Perm.swap _ _ _)).congt fun x=>by
   rw[get_eq,get_eq,get_eq,get_eq]
   by_cases h1:d'=x
   ·rw[if_pos h1,if_neg (fun h2=>hdd (h2.trans h1.symm)),if_pos h1]
   ·rw[if_neg h1,if_neg h1])) hn) hi rfl hrj (wanted_n rfl) hn hni')) hn'
 refine .mk fun hok=>DR.core hok (fun e=>by cases e) fun q hq hrq=>?_
 have:q∈(i::j::todo).filter (rdy ops (i::j::todo)):=List.mem_filter.2 ⟨hq,hrq⟩
 rw[hr] at this
 simp at this
 rcases this with rfl|rfl
 ·rw[readsAt_eq hi]
  refine⟨_,eop_step hi (wanted_n rfl) (ki _) rfl hn,fun v h' hv=>?_⟩
  rw[dstAt_eq hi]
  exact (hv.go hok).congr (mem_filter_ne hni)
 ·rw[readsAt_eq hj]
  refine⟨_,eop_step hj (wanted_n rfl) (kj _) rfl hn',fun v h' hv=>?_⟩
  rw[dstAt_eq hj]
  refine (hv.go hok).congr fun x=>?_
  rw[←mem_filter_ne hnj x]
  simp only[List.mem_filter,List.mem_cons]
  constructor
  ·rintro⟨h1,h2⟩;exact⟨by rcases h1 with h1|h1|h1<;>simp[h1],h2⟩
  ·rintro⟨h1,h2⟩;exact⟨by rcases h1 with h1|h1|h1<;>simp[h1],h2⟩
end
end Go.VM
