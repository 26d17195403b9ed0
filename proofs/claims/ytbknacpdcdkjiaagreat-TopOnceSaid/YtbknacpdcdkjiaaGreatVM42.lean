/- Maps whose keys are pairs of numbers (structs). No condition. -/
import Derived.Test.YtbknacpdcdkjiaaGreatVM37
import Derived.Test.YtbknacpdcdkjiaaGreatU3
namespace Go.VM
open Go
set_option linter.unusedVariables false
set_option linter.unusedSimpArgs false
abbrev KY:=Int × Int
def kv (k:KY):Value:=.agg #[.int .i64 k.1,.int .u32 k.2]
def ka (k:KY):AV:=.agg [.val (.int .i64 k.1),.val (.int .u32 k.2)]
theorem kv_inj {a b:KY} (h:kv a=kv b):a=b:=by
 unfold kv at h
 injection h with h
 injection h with h
 injection h with h1 h2
 injection h2 with h2 _
 injection h1 with _ h1
 injection h2 with _ h2
 exact Prod.ext h1 h2
theorem rel_ka {m:Ghost} {k:KY} {v:Value} (h:Rel m (ka k) v):v=kv k:=by
 unfold ka at h
 simp only[Rel,RelL] at h
 obtain⟨cs,rfl,c,r,h1,⟨rfl,_⟩,c',r',rfl,⟨rfl,_⟩,rfl⟩:=h
 unfold kv
 congr 1
 exact Array.toList_inj.1 h1
theorem ka_rel (m:Ghost) (k:KY):Rel m (ka k) (kv k):=by
 unfold ka kv
 simp only[Rel,RelL]
 exact⟨_,rfl,_,_,rfl,⟨rfl,rfl⟩,_,_,rfl,⟨rfl,rfl⟩,rfl⟩
class TMapK (P:Program) (t:Nat) (kt et:outParam Nat):Prop where
 h:P.underlying t=some (.map kt et)
 e:TEqS P kt [true,true]
 ck:∀(em:Bool) (w:World) (i:KY),(Instr.checkKey em 10000 kt (kv i)).run P w=.ok () w
theorem ck_of {P:Program} {kt:Nat} {f1 f2:Field} {q1 q2:IntKind} (h:P.underlying kt=some (.struct #[f1,f2])) (n1:(f1.name == "_")=false) (n2:(f2.name == "_")=false) (o1:f1.offset=0) (o2:f2.offset=1) (v1:valQ P f1.type=some (false,1)) (v2:valQ P f2.type=some (false,1))
  (k1:P.underlying f1.type=some (.int q1)) (k2:P.underlying f2.type=some (.int q2)) (em:Bool) (w:World) (i:KY):(Instr.checkKey em 10000 kt (kv i)).run P w=.ok () w:=by
 have p1:(part f1.type #[.int .i64 i.1,.int .u32 i.2] f1.offset).run P w=.ok (.int .i64 i.1) w:=by
  rw[run_part v1 (by simp[o1]),o1];simp[mk]
 have p2:(part f2.type #[.int .i64 i.1,.int .u32 i.2] f2.offset).run P w=.ok (.int .u32 i.2) w:=by
  rw[run_part v2 (by simp[o2]),o2];simp[mk]
 have c1:∀n,(Instr.checkKey em (n+1) f1.type (.int .i64 i.1)).run P w=.ok () w:=fun n=>by
  unfold Instr.checkKey;simp[run_underlying k1,Result.andThen]
 have c2:∀n,(Instr.checkKey em (n+1) f2.type (.int .u32 i.2)).run P w=.ok () w:=fun n=>by
  unfold Instr.checkKey;simp[run_underlying k2,Result.andThen]
 have n1:f1.name≠ "_":=by simpa using n1
 have n2:f2.name≠ "_":=by simpa using n2
 show (Instr.checkKey em (9999+1) kt (kv i)).run P w=.ok () w
 unfold Instr.checkKey kv
 simp[run_underlying h,Result.andThen,n1,n2,p1,p2,c1 9998,c2 9998]
theorem run_keq {P:Program} {mt kt et:Nat} [hm:TMapK P mt kt et] (i j:KY) (w:World):(Op.equal kt (kv i) (kv j)).run P w=.ok (decide (i=j)) w:=by
 have hi:IEqS [.val (.int .i64 i.1),.val (.int .u32 i.2)] [.val (.int .i64 j.1),.val (.int .u32 j.2)] [.i .i64 i.1 j.1,.i .u32 i.2 j.2]:=.i (.i .nil)
 have hr:∀q:KY,RelL (fun _=>none) [.val (.int .i64 q.1),.val (.int .u32 q.2)] (#[Value.int .i64 q.1,.int .u32 q.2]:Array Value).toList:=fun q=>by
  simp only[RelL,Rel];exact⟨_,_,rfl,⟨rfl,rfl⟩,_,_,rfl,⟨rfl,rfl⟩,rfl⟩
 have hp:[Scl.i .i64 i.1 j.1,Scl.i .u32 i.2 j.2].all Scl.eq=decide (i=j):=by
  simp only[List.all_cons,List.all_nil,Bool.and_true,Scl.eq]
  rw[Bool.eq_iff_iff,Bool.and_eq_true,beq_iff_eq,beq_iff_eq,decide_eq_true_iff,Prod.ext_iff]
 exact eqS_key (ht:=hm.e) (hr i) (hr j) hi rfl hp w
theorem run_ask {P:Program} {mt kt et:Nat} [hm:TMapK P mt kt et] (i:KY):∀(l:List MapEntry) (n:Nat),(∀x∈l,∃q,x.key=kv q) →
  ((∀w,(Instr.findAsking kt (kv i) l n).run P w=.ok none w)∧∀x∈l,x.key≠kv i)∨∃j e,(∀w,(Instr.findAsking kt (kv i) l n).run P w=.ok (some (n+j,e.val)) w)∧l[j]?=some e∧e.key=kv i
 | [],n,_=>.inl ⟨fun w=>by simp[Instr.findAsking],by simp⟩
 | x::l,n,h=>by
  obtain⟨q,hq⟩:=h x (.head _)
  by_cases e:i=q
  ·subst e
   refine .inr ⟨0,x,fun w=>?_,rfl,hq⟩
   unfold Instr.findAsking
   rw[hq]
   simp[Result.andThen,run_keq (hm:=hm)]
  ·have hs:∀w,(Instr.findAsking kt (kv i) (x::l) n).run P w=(Instr.findAsking kt (kv i) l (n+1)).run P w:=fun w=>by
    conv=>lhs;unfold Instr.findAsking
    rw[hq]
    simp[Result.andThen,run_keq (hm:=hm),e]
   rcases run_ask (hm:=hm) i l (n+1) (fun y hy=>h y (.tail _ hy)) with ⟨h1,h2⟩|⟨j,y,h1,h2,h3⟩
   ·refine .inl ⟨fun w=>(hs w).trans (h1 w),fun y hy=>?_⟩
    rcases List.mem_cons.1 hy with rfl|hy
    ·rw[hq];exact fun e2=>e (kv_inj e2).symm
    ·exact h2 y hy
   ·exact .inr ⟨j+1,y,fun w=>(hs w).trans (by rw[h1 w,Nat.add_right_comm,Nat.add_assoc]),h2,h3⟩
theorem run_findK {P:Program} {mt kt et:Nat} [hm:TMapK P mt kt et] (i:KY) (l:List MapEntry) (w:World):(Instr.findKey kt (kv i) l).run P w=(Instr.findAsking kt (kv i) l 0).run P w:=by
 unfold Instr.findKey
 simp only[Sem.run_bind,run_underlying hm.e.h,Result.andThen]
 cases l with
 | nil=>simp[Instr.findNow,Instr.findAsking]
 | cons x l=>
  have:Instr.findNow (.struct (P.fieldsOf kt)) (kv i) (x::l) 0=none:=by
   unfold Instr.findNow
   have:Instr.sameNow (.struct (P.fieldsOf kt)) (kv i) x.key=none:=by unfold Instr.sameNow kv;rfl
   rw[this]
  rw[this]
theorem run_keyStaysK {P:Program} (i:KY) (w:World):(Instr.keyThatStays (kv i) (kv i)).run P w=.ok (kv i) w:=by
 have:Instr.sameBits 10000 (kv i) (kv i)=true:=by
  show Instr.sameBits (9999+1) (kv i) (kv i)=true
  unfold kv Instr.sameBits
  simp[Instr.sameBits]
 unfold Instr.keyThatStays
 rw[this];simp
def lkK {α:Type} (t:List (KY × α)) (i:KY):Option α:=(t.find? fun p=>decide (p.1=i)).map (·.2)
def putK {α:Type} (t:List (KY × α)) (i:KY) (a:α):List (KY × α):=if (lkK t i).isSome then t.map (fun p=>if p.1=i then (i,a) else p) else t++[(i,a)]
def mapK {α:Type} (f:α→AV) (t:List (KY × α)):AV:=.mro (t.map fun p=>kv p.1) (t.map fun p=>f p.2)
def mpK {α:Type} (b:Nat) (f:α→AV) (t:List (KY × α)):OE:=.mp b (t.map fun p=>kv p.1) (t.map fun p=>f p.2)
section
variable {α:Type} {f:α→AV} {t:List (KY × α)} {m:Ghost} {es:Array MapEntry} {clk:Nat} {es':List MapEntry}
theorem lkK_none {i:KY}:lkK t i=none↔∀p∈t,p.1≠i:=by
 unfold lkK
 rw[Option.map_eq_none_iff,List.find?_eq_none]
 simp
theorem lkK_nodup {i:KY} {a:α} (hn:(t.map (·.1)).Nodup) (h:(i,a)∈t):lkK t i=some a:=by
 induction t with
 | nil=>cases h
 | cons p r ih=>
  rw[List.map_cons,List.nodup_cons] at hn
  unfold lkK
  rw[List.find?_cons]
  rcases List.mem_cons.1 h with e|h'
  ·subst e;simp
  ·have:p.1≠i:=fun e=>hn.1 (by rw[e];exact List.mem_map.2 ⟨_,h',rfl⟩)
   rw[decide_eq_false this]
   exact ih hn.2 h'
structure EntK (m:Ghost) (f:α→AV) (t:List (KY × α)) (es:Array MapEntry) (clk:Nat) (es':List MapEntry):Prop where
 ok:MapOk es.toList clk es'
 ks:es'.map (·.key)=t.map fun p=>kv p.1
 vs:RelL m (t.map fun p=>f p.2) (es'.map (·.val))
theorem EntK.mono {m':Ghost} (k:EntK m f t es clk es') (h:Gle m m'):EntK m' f t es clk es':=⟨k.ok,k.ks,k.vs.mono h⟩
theorem EntK.len (k:EntK m f t es clk es'):es'.length=t.length:=by have:=congrArg List.length k.ks;simpa using this
theorem EntK.size (k:EntK m f t es clk es'):es.size=t.length:=by rw[←k.len,k.ok.1.length_eq,Array.length_toList]
theorem EntK.at (k:EntK m f t es clk es') {j:Nat} {e:MapEntry} (h:es'[j]?=some e):∃p,t[j]?=some p∧e.key=kv p.1∧Rel m (f p.2) e.val:=by
 have hj:j<t.length:=by rw[←k.len];exact (List.getElem?_eq_some_iff.1 h).1
 refine⟨t[j],List.getElem?_eq_getElem hj,?_,?_⟩
 ·have:=congrArg (fun l=>l[j]?) k.ks
  simp only[List.getElem?_map,h,List.getElem?_eq_getElem hj,Option.map_some] at this
  injection this
 ·obtain⟨c,h1,h2⟩:=k.vs.at j (f t[j].2) (by rw[List.getElem?_map,List.getElem?_eq_getElem hj];rfl)
  rw[List.getElem?_map,h] at h1
  injection h1 with h1
  have h1:e.val=c:=h1
  rw[h1];exact h2
theorem EntK.nodupk (k:EntK m f t es clk es'):(es'.map (·.key)).Nodup:=((k.ok.1.map _).nodup_iff).2 k.ok.2.2.2
theorem EntK.nodup (k:EntK m f t es clk es'):(t.map (·.1)).Nodup:=by
 have:=k.nodupk
 rw[k.ks] at this
 rw[List.Nodup,List.pairwise_map] at this ⊢
 exact this.imp fun h e=>h (by rw[e])
theorem EntK.keys (k:EntK m f t es clk es'):∀x∈es.toList,∃q,x.key=kv q:=fun x hx=>by
 have h1:x∈es':=k.ok.1.mem_iff.2 hx
 obtain⟨j,hj⟩:=List.mem_iff_getElem?.1 h1
 obtain⟨p,_,h2,_⟩:=k.at hj
 exact⟨p.1,h2⟩
theorem EntK.find {P:Program} {mt kt et:Nat} [hm:TMapK P mt kt et] (k:EntK m f t es clk es') (i:KY):((∀w,(Instr.findKey kt (kv i) es.toList).run P w=.ok none w)∧lkK t i=none∧∀x∈es.toList,x.key≠kv i) ∨
  ∃j e a,(∀w,(Instr.findKey kt (kv i) es.toList).run P w=.ok (some (j,e.val)) w)∧es.toList[j]?=some e∧e.key=kv i∧lkK t i=some a∧Rel m (f a) e.val:=by
 rcases run_ask (hm:=hm) i es.toList 0 k.keys with ⟨h1,h2⟩|⟨j,e,h1,h2,h3⟩
 ·refine .inl ⟨fun w=>(run_findK (hm:=hm) i _ w).trans (h1 w),lkK_none.2 fun p hp e=>?_,h2⟩
  have:kv i∈es'.map (·.key):=by rw[k.ks];exact List.mem_map.2 ⟨p,hp,by rw[e]⟩
  obtain⟨x,hx,hxk⟩:=List.mem_map.1 this
  exact h2 x (k.ok.1.mem_iff.1 hx) hxk
 ·rw[Nat.zero_add] at h1
  have he:e∈es':=k.ok.1.mem_iff.2 (List.mem_of_getElem? h2)
  obtain⟨j',hj'⟩:=List.mem_iff_getElem?.1 he
  obtain⟨p,g1,g2,g3⟩:=k.at hj'
  rw[h3] at g2
  exact .inr ⟨j,e,p.2,fun w=>(run_findK (hm:=hm) i _ w).trans (h1 w),h2,h3,lkK_nodup k.nodup (by rw[kv_inj g2];exact List.mem_of_getElem? g1),g3⟩
end
theorem mrok_cases {α:Type} {f:α→AV} {t:List (KY × α)} {m:Ghost} {v:Value} (h:Rel m (mapK f t) v):(v=.map none∧t=[])∨∃g es clk es',v=.map (some g)∧m g=some (.map es clk)∧EntK m f t es clk es':=by
 unfold mapK at h
 simp only[Rel] at h
 obtain⟨r,rfl,h⟩:=h
 rcases h with ⟨rfl,h2,_⟩|⟨g,es,clk,es',rfl,k2,k3,k4,k5⟩
 ·exact .inl ⟨rfl,by simpa using h2⟩
 ·exact .inr ⟨g,es,clk,es',rfl,k2,k3,k4,k5⟩
theorem mpk_cases {α:Type} {f:α→AV} {t:List (KY × α)} {m:Ghost} {b:Nat} {w:World} (h:OERel m w (mpK b f t)):∃es clk es',w.heap[b]?=some (.map es clk)∧EntK m f t es clk es':=by
 unfold mpK at h
 simp only[OERel] at h
 obtain⟨es,clk,es',h0,h1,h2,h3⟩:=h
 exact⟨es,clk,es',h0,h1,h2,h3⟩
theorem mpk_mk {α:Type} {f:α→AV} {t:List (KY × α)} {m:Ghost} {b:Nat} {w:World} {es:Array MapEntry} {clk:Nat} {es':List MapEntry} (h0:w.heap[b]?=some (.map es clk)) (k:EntK m f t es clk es'):OERel m w (mpK b f t):=by
 unfold mpK
 simp only[OERel]
 exact⟨es,clk,es',h0,k.ok,k.ks,k.vs⟩
section
variable {P:Program} {w:World} {mt kt et:Nat} {z:Value}
theorem run_lookk_nil [hm:TMapK P mt kt et] (hz:(zeroValue et).run P w=.ok z w) (i:KY) (c:Bool):(Instr.lookup mt (.map none) (kv i) c).run P w=.ok (if c then .tuple #[z,.bool false] else z) w:=by
 simp[Instr.lookup,run_underlying hm.h,hm.ck,run_findK (hm:=hm),Instr.findAsking,Result.andThen,hz]
theorem run_lookk_none [hm:TMapK P mt kt et] (hz:(zeroValue et).run P w=.ok z w) {b:Nat} {es:Array MapEntry} {clk:Nat} (hb:w.heap[b]?=some (.map es clk)) {i:KY}
  (h1:(Instr.findKey kt (kv i) es.toList).run P w=.ok none w) (c:Bool):(Instr.lookup mt (.map (some b)) (kv i) c).run P w=.ok (if c then .tuple #[z,.bool false] else z) w:=by
 simp[Instr.lookup,run_underlying hm.h,MapKept.run_getObj_map hb,hm.ck,h1,Result.andThen,hz]
theorem run_lookk_some [hm:TMapK P mt kt et] {b:Nat} {es:Array MapEntry} {clk:Nat} (hb:w.heap[b]?=some (.map es clk)) {i:KY} {j:Nat} {v:Value}
  (h1:(Instr.findKey kt (kv i) es.toList).run P w=.ok (some (j,v)) w) (c:Bool):(Instr.lookup mt (.map (some b)) (kv i) c).run P w=.ok (if c then .tuple #[v,.bool true] else v) w:=by
 simp[Instr.lookup,run_underlying hm.h,MapKept.run_getObj_map hb,hm.ck,h1,Result.andThen]
end
section
variable {ro:Option Nat} {P:Program} {d:Option Nat} {ty:Nat} {pos:String} {af:Array Edge} {gd:Option (Nat × Bool)} {tm:List (Nat × AV)} {h:Heap} {x y z':Operand} {mt kt et:Nat} {z:AV} {α:Type} {f:α→AV} {t:List (KY × α)} {i:KY} {v:AV}
theorem pur_lookk_ro [hm:TMapK P mt kt et] [hz:TZel P et z] (hx:evalA tm x=some (mapK f t)) (hy:evalA tm y=some (ka i)) (hw:Wk (lkV f z (lkK t i)) v):Pur P ⟨d,.lookup mt x y false,ty,pos,af,gd⟩ tm h v:=fun m a w0 ht hh hr=>by
 obtain⟨u,hu1,hu2⟩:=zel_run (hz:=hz)
 have e2:=rel_ka (ht.eval hy)
 rcases mrok_cases (ht.eval hx) with ⟨e1,rfl⟩|⟨g,es,clk,es',e1,hg,k⟩
 ·refine⟨u,hw.rel (by simpa[lkK,lkV] using hu2 m),fun w _ _=>?_⟩
  simp[execOp,e1,e2,run_lookk_nil (hm:=hm) (hu1 w)]
 ·rcases k.find (hm:=hm) i with ⟨h1,h2,_⟩|⟨j,e,b,h1,_,_,h2,h3⟩
  ·refine⟨u,hw.rel (by rw[h2];exact hu2 m),fun w hw' _=>?_⟩
   simp[execOp,e1,e2,run_lookk_none (hm:=hm) (hu1 w) (hw' g _ hg) (h1 w)]
  ·refine⟨e.val,hw.rel (by rw[h2];exact h3),fun w hw' _=>?_⟩
   simp[execOp,e1,e2,run_lookk_some (hm:=hm) (hw' g _ hg) (h1 w)]
theorem pur_lenk_ro [hm:TMapK P mt kt et] (hx:evalA tm x=some (mapK f t)):Pur P ⟨d,.call { callee:=.builtin .len,args:=#[x],argTypes:=#[mt] },ty,pos,af,gd⟩ tm h (.val (.int .i64 (t.length:Int))):=fun m a w0 ht hh hr=>by
 refine⟨_,rel_val rfl,fun w hw _=>?_⟩
 rcases mrok_cases (ht.eval hx) with ⟨e1,rfl⟩|⟨g,es,clk,es',e1,hg,k⟩
 ·simp[execOp,resolve,invoke,builtin,e1,run_lenm0 hm.h]
 ·simp[execOp,resolve,invoke,builtin,e1,run_lenm hm.h (hw g _ hg),k.size]
end
section
variable {α:Type} {f:α→AV} {t:List (KY × α)} {m:Ghost} {es:Array MapEntry} {clk:Nat} {es':List MapEntry}
theorem EntK.nil (m:Ghost) (f:α→AV):EntK m f [] #[] 0 []:=⟨⟨by simp,by simp,by simp,by simp⟩,rfl,by simp[RelL]⟩
theorem EntK.push (k:EntK m f t es clk es') {i:KY} {a:α} {v:Value} (hn:∀x∈es.toList,x.key≠kv i) (hv:Rel m (f a) v):EntK m f (t++[(i,a)]) (es.push { key:=kv i,val:=v,born:=clk }) (clk+1) (es'++[{ key:=kv i,val:=v,born:=clk }]):=by
 obtain⟨q1,q2,q3,q4⟩:=k.ok
 refine⟨⟨by rw[Array.toList_push];exact q1.append_right _,fun e he=>?_,?_,?_⟩,by rw[List.map_append,List.map_append,k.ks];rfl,?_⟩
 ·rw[Array.toList_push,List.mem_append] at he
  rcases he with he|he
  ·have:=q2 e he;omega
  ·simp at he;subst he;simp
 ·rw[Array.toList_push,List.map_append,List.nodup_append]
  refine⟨q3,by simp,fun x hx y hy e=>?_⟩
  obtain⟨z,hz,rfl⟩:=List.mem_map.1 hx
  simp at hy
  have:=q2 z hz;omega
 ·rw[Array.toList_push,List.map_append,List.nodup_append]
  refine⟨q4,by simp,fun x hx y hy e=>?_⟩
  obtain⟨z,hz,rfl⟩:=List.mem_map.1 hx
  simp at hy
  exact hn z hz (by rw[e,hy])
 ·rw[List.map_append,List.map_append]
  exact k.vs.append (by simp only[List.map_cons,List.map_nil,RelL];exact⟨_,_,rfl,hv,rfl⟩)
theorem EntK.set (k:EntK m f t es clk es') {i:KY} {a:α} {v:Value} {j:Nat} {e:MapEntry} (hj:es.toList[j]?=some e) (he:e.key=kv i) (hv:Rel m (f a) v) :
  ∃es2,EntK m f (t.map fun p=>if p.1=i then (i,a) else p) (es.modify j fun e=>{ e with key:=kv i,val:=v }) clk es2:=by
 obtain⟨q1,q2,q3,q4⟩:=k.ok
 have hm:e∈es':=q1.mem_iff.2 (List.mem_of_getElem? hj)
 obtain⟨j',hj'⟩:=List.mem_iff_getElem?.1 hm
 have hjl:j<es.toList.length:=(List.getElem?_eq_some_iff.1 hj).1
 obtain⟨p,g1,g2,g3⟩:=k.at hj'
 have hpi:p.1=i:=by rw[he] at g2;exact (kv_inj g2).symm
 have hkey:∀y,es.toList[j]?=some y→({ e with key:=kv i,val:=v }:MapEntry).key=y.key:=fun y hy=>by rw[hj] at hy;injection hy with hy;subst hy;exact he.symm
 have hborn:∀y,es.toList[j]?=some y→({ e with key:=kv i,val:=v }:MapEntry).born=y.born:=fun y hy=>by rw[hj] at hy;injection hy with hy;subst hy;rfl
 have hjt:j'<t.length:=(List.getElem?_eq_some_iff.1 g1).1
 have htm:(t.map fun p=>if p.1=i then (i,a) else p)=t.set j' (i,a):=by
  apply List.ext_getElem?
  intro q
  rw[List.getElem?_map]
  by_cases hq:j'=q
  ·subst hq
   rw[g1,List.getElem?_set_self hjt]
   simp[hpi]
  ·rw[List.getElem?_set_ne hq]
   cases hx:t[q]? with
   | none=>rfl
   | some p'=>
    have hne:p'.1≠i:=fun e'=>by
     have hnd:=k.nodup
     have hql:=(List.getElem?_eq_some_iff.1 hx).1
     have:=List.getElem?_inj (l:=t.map (·.1)) (i:=j') (j:=q) (by simpa using hjt) hnd |>.1 (by rw[List.getElem?_map,List.getElem?_map,g1,hx];simp[hpi,e'])
     exact hq this
    simp[hne]
 refine⟨es'.set j' { e with key:=kv i,val:=v },⟨?_,?_,?_,?_⟩,?_,?_⟩
 ·rw[modify_toList hj];exact perm_set q1 hj hj'
 ·intro x hx
  rw[modify_toList hj] at hx
  rcases List.mem_or_eq_of_mem_set hx with hx|rfl
  ·exact q2 x hx
  ·exact q2 e (List.mem_of_getElem? hj)
 ·rw[modify_toList hj,set_map_eq hborn];exact q3
 ·rw[modify_toList hj,set_map_eq hkey];exact q4
 ·rw[htm,set_map_eq (fun y hy=>by rw[hj'] at hy;injection hy with hy;subst hy;exact he.symm),k.ks,set_map_eq (fun y hy=>by rw[g1] at hy;injection hy with hy;subst hy;rw[hpi])]
 ·rw[htm,List.map_set,List.map_set]
  exact k.vs.set hv
end
section
variable {ro:Option Nat} {P:Program} {d:Option Nat} {ty:Nat} {pos:String} {af:Array Edge} {gd:Option (Nat × Bool)} {x y z:Operand} {mt kt et:Nat} {α:Type} {f:α→AV} {t:List (KY × α)} {i:KY} {v:AV} {s:St} {K:St→Prop}
theorem step_makeMapK {o:Option Operand} [hm:TMapK P mt kt et] (ho:∀q,o=some q→∃k n,evalA s.t q=some (.val (.int k n))) (hf:fits s d=true) (f:α→AV)
  (hK:∀b,K (({ s with h:=mpK b f []::s.h }:St).put d (.val (.map (some b))))):Step P ⟨d,.makeMap mt o,ty,pos,af,gd⟩ s K:=by
 intro m0 w0 a w ⟨m,hs⟩ Q
 unfold Oper.wp
 have hr:(execOp a.eval ⟨d,.makeMap mt o,ty,pos,af,gd⟩).run P w=.ok (.value (.map (some w.heap.size))) (w.alloc (.map #[] 0)):=by
  cases o with
  | none=>rfl
  | some q=>
   obtain⟨k,n,hq⟩:=ho q rfl
   simp[execOp,Instr.makeMap,newObj,eval_val hs.tmps hq,run_underlying hm.h,asInt]
   rfl
 rw[hr]
 have hx:OERel m (w.alloc (.map #[] 0)) (mpK w.heap.size f []):=mpk_mk (heap_new _ _) (EntK.nil m f)
 exact⟨_,hK w.heap.size,m,SimG.put (s:={ s with h:=_::s.h }) (hs.new_ (Same.alloc w _) (fun b hb=>heap_old w _ b hb) hx (fun b hb=>by injection hb with hb;omega)) hf (rel_val rfl)⟩
theorem step_mapUpdateK {b:Nat} {a:α} {v':AV} [hm:TMapK P mt kt et] (hx:evalA s.t x=some (.val (.map (some b)))) (hy:evalA s.t y=some (ka i)) (hz:evalA s.t z=some v') (hv:Wk v' (f a)) {h':Heap} (hu:Up s.h (mpK b f t) (mpK b f (putK t i a)) h')
  (hK:K { s with h:=h' }):Step P ⟨none,.mapUpdate mt x y z,ty,pos,af,gd⟩ s K:=by
 intro m0 w0 ac w ⟨m,hs⟩ Q
 obtain⟨es,clk,es',h0,k⟩:=mpk_cases (hs.heap.2 _ hu.old).2
 have e1:=eval_val hs.tmps hx
 have e2:=rel_ka (hs.tmps.eval hy)
 have hr:=hv.rel (hs.tmps.eval hz)
 unfold Oper.wp
 rcases k.find (hm:=hm) i with ⟨h1,h2,h3⟩|⟨j,e,a',h1,h2,h3,h4,h5⟩
 ·have hrun:(execOp ac.eval ⟨none,.mapUpdate mt x y z,ty,pos,af,gd⟩).run P w=.ok .skip { w with heap:=w.heap.setIfInBounds b (.map (es.push { key:=kv i,val:=ac.eval z,born:=clk }) (clk+1)) }:=by
   simp[execOp,Instr.mapUpdate,e1,e2,run_underlying hm.h,MapKept.run_getObj_map h0,hm.ck,h1,MapKept.run_setObj_map _ h0,Result.andThen]
  rw[hrun]
  refine⟨_,hK,m,SimG.turn hs hu h0 rfl rfl ?_⟩
  unfold putK
  rw[h2]
  exact mpk_mk (heap_set_at h0) (k.push h3 hr)
 ·have hjs:es[j]?=some e:=by rw[←Array.getElem?_toList];exact h2
  have hrun:(execOp ac.eval ⟨none,.mapUpdate mt x y z,ty,pos,af,gd⟩).run P w=.ok .skip { w with heap:=w.heap.setIfInBounds b (.map (es.modify j fun e=>{ e with key:=kv i,val:=ac.eval z }) clk) }:=by
   simp[execOp,Instr.mapUpdate,e1,e2,run_underlying hm.h,MapKept.run_getObj_map h0,hm.ck,h1,MapKept.run_setObj_map _ h0,Result.andThen,hjs,h3,run_keyStaysK]
  rw[hrun]
  refine⟨_,hK,m,SimG.turn hs hu h0 rfl rfl ?_⟩
  unfold putK
  rw[h4]
  obtain⟨es2,k2⟩:=k.set h2 h3 hr
  exact mpk_mk (heap_set_at h0) k2
end
def mitK {α:Type} (b:Nat) (f:α→AV) (t:List (KY × α)) (left:List Nat) (last:Option Nat):OE:=.mit b (t.map fun p=>kv p.1) (t.map fun p=>f p.2) left last
theorem mitk_cases {α:Type} {f:α→AV} {t:List (KY × α)} {m:Ghost} {b:Nat} {w:World} {left:List Nat} {last:Option Nat} (h:OERel m w (mitK b f t left last)) :
  (t=[]∧left=[]∧∃a c d,w.heap[b]?=some (.mapIter none a c d))∨∃g es clk es' seen,w.heap[b]?=some (.mapIter (some g) clk seen clk)∧m g=some (.map es clk)∧EntK m f t es clk es'∧(∀i,i∈left↔∃e,es'[i]?=some e∧e.born∉seen)∧left.Nodup ∧
   (∀i,last=some i→∃(e:MapEntry) (seen0:Array Nat),es'[i]?=some e∧seen=seen0.push e.born):=by
 unfold mitK at h
 simp only[OERel] at h
 obtain⟨o,h0,h|h⟩:=h
 ·obtain⟨h1,h2,a,c,d,rfl⟩:=h
  exact .inl ⟨by simpa using h1,h2,a,c,d,h0⟩
 ·obtain⟨g,es,clk,es',seen,rfl,h1,h2,h3,h4,h5,h6,h7⟩:=h
  exact .inr ⟨g,es,clk,es',seen,h0,h1,⟨h2,h3,h4⟩,h5,h6,h7⟩
section
variable {ro:Option Nat} {P:Program} {d:Option Nat} {ty:Nat} {pos:String} {af:Array Edge} {gd:Option (Nat × Bool)} {x y z:Operand} {mt kt et:Nat} {α:Type} {f:α→AV} {t:List (KY × α)} {i:KY} {v:AV} {s:St} {K:St→Prop}
theorem step_rangeK [hm:TMapK P mt kt et] (hx:evalA s.t x=some (mapK f t)) (hf:fits s d=true)
  (hK:∀b,K (({ s with h:=mitK b f t (List.range t.length) none::s.h }:St).put d (.val (.pointer (some ⟨b,0,none⟩))))):Step P ⟨d,.range mt x,ty,pos,af,gd⟩ s K:=by
 intro m0 w0 a w ⟨m,hs⟩ Q
 unfold Oper.wp
 rcases mrok_cases (hs.tmps.eval hx) with ⟨e1,rfl⟩|⟨g,es,clk,es',e1,hg,k⟩
 ·have hr:(execOp a.eval ⟨d,.range mt x,ty,pos,af,gd⟩).run P w=.ok (.value (.pointer (some ⟨w.heap.size,0,none⟩))) (w.alloc (.mapIter none 0 #[] 0)):=by
   simp[execOp,Instr.range,e1,run_underlying hm.h,newObj]
   rfl
  rw[hr]
  have hx:OERel m (w.alloc (.mapIter none 0 #[] 0)) (mitK w.heap.size f ([]:List (KY × α)) (List.range 0) none):=by
   unfold mitK;simp only[OERel]
   exact⟨_,heap_new _ _,.inl ⟨rfl,rfl,_,_,_,rfl⟩⟩
  exact⟨_,hK w.heap.size,m,SimG.put (s:={ s with h:=_::s.h }) (hs.new_ (Same.alloc w _) (fun b hb=>heap_old w _ b hb) hx (fun b hb=>by injection hb with hb;omega)) hf (rel_val rfl)⟩
 ·have hb:=hs.holds g _ hg
  have hr:(execOp a.eval ⟨d,.range mt x,ty,pos,af,gd⟩).run P w=.ok (.value (.pointer (some ⟨w.heap.size,0,none⟩))) (w.alloc (.mapIter (some g) clk #[] clk)):=by
   simp[execOp,Instr.range,e1,run_underlying hm.h,newObj,MapKept.run_getObj_map hb]
   rfl
  rw[hr]
  have hx:OERel m (w.alloc (.mapIter (some g) clk #[] clk)) (mitK w.heap.size f t (List.range t.length) none):=by
   unfold mitK;simp only[OERel]
   refine⟨_,heap_new _ _,.inr ⟨g,es,clk,es',#[],rfl,hg,k.ok,k.ks,k.vs,fun i=>?_,List.nodup_range,fun i h=>by cases h⟩⟩
   rw[List.mem_range,←k.len]
   constructor
   ·intro h;exact⟨es'[i],List.getElem?_eq_getElem h,by simp⟩
   ·rintro⟨e,h,_⟩;exact (List.getElem?_eq_some_iff.1 h).1
  exact⟨_,hK w.heap.size,m,SimG.put (s:={ s with h:=_::s.h }) (hs.new_ (Same.alloc w _) (fun b hb=>heap_old w _ b hb) hx (fun b hb=>by injection hb with hb;omega)) hf (rel_val rfl)⟩
theorem step_nextK {b:Nat} {left:List Nat} {last:Option Nat} {h':Nat→Heap} (hx:evalA s.t x=some (.val (.pointer (some ⟨b,0,none⟩)))) (hu:∀i,Up s.h (mitK b f t left last) (mitK b f t (left.erase i) (some i)) (h' i)) (hf:fits s d=true)
  (h0:left=[]→K (s.put d (.tup [.val (.bool false)]))) (h1:∀i p,i∈left→t[i]?=some p→K (({ s with h:=h' i }:St).put d (.tup [.val (.bool true),ka p.1,f p.2]))):Step P ⟨d,.next x false,ty,pos,af,gd⟩ s K:=by
 intro m0 w0 a w ⟨m,hs⟩ Q
 have e1:=eval_val hs.tmps hx
 have hov:Rel m (.tup [.val (.bool false)]) (.tuple #[.bool false]):=by simp only[Rel];exact⟨_,rfl,by simp only[RelL];exact⟨_,_,rfl,rel_val rfl,rfl⟩⟩
 unfold Oper.wp
 rcases mitk_cases (hs.heap.2 _ (hu 0).old).2 with ⟨rfl,rfl,q1,q2,q3,hb⟩|⟨g,es,clk,es',seen,hb,hg,k,hl,hn,hla⟩
 ·have hr:(execOp a.eval ⟨d,.next x false,ty,pos,af,gd⟩).run P w=.ok (.value (.tuple #[.bool false])) w:=by
   simp[execOp,Instr.next,e1,getObj,Sem.run,hb,Result.andThen]
  rw[hr]
  exact⟨_,h0 rfl,m,SimG.put hs hf hov⟩
 ·have hgw:=hs.holds g _ hg
  rcases run_next_at (P:=P) w ty b g clk clk seen es clk hb hgw k.ok.2.1 (Nat.le_refl _) with ⟨hz,hrun⟩|⟨e,he,w1,hw1,hrun⟩
  ·have hr:(execOp a.eval ⟨d,.next x false,ty,pos,af,gd⟩).run P w=.ok (.value (.tuple #[.bool false])) w:=by
    simp[execOp,e1,hrun]
   rw[hr]
   refine⟨_,h0 ?_,m,SimG.put hs hf hov⟩
   cases hll:left with
   | nil=>rfl
   | cons i r=>
    exfalso
    obtain⟨e,g1,g2⟩:=(hl i).1 (by rw[hll];simp)
    have:e∈(leftOf es seen).toList:=by
     unfold leftOf
     have he:e∈es.toList:=k.ok.1.mem_iff.1 (List.mem_of_getElem? g1)
     simpa using ⟨by simpa using he,by simpa using g2⟩
    have h2:(leftOf es seen).toList.length=0:=by simpa using hz
    rw[List.eq_nil_of_length_eq_zero h2] at this
    cases this
  ·have hee:e∈es.toList∧e.born∉seen:=by
    unfold leftOf at he
    simp at he
    exact⟨by simpa using he.1,by simpa using he.2⟩
   obtain⟨i,hi⟩:=List.mem_iff_getElem?.1 (k.ok.1.mem_iff.2 hee.1)
   have hil:i∈left:=(hl i).2 ⟨e,hi,hee.2⟩
   obtain⟨p,g1,g2,g3⟩:=k.at hi
   have hr:(execOp a.eval ⟨d,.next x false,ty,pos,af,gd⟩).run P w=.ok (.value (.tuple #[.bool true,e.key,e.val])) (Go.ChangeMaps.setBlock w1 b (.mapIter (some g) clk (seen.push e.born) clk)):=by
    simp[execOp,e1,hrun]
   rw[hr]
   have hs1:SimG m0 w0 m s a w1:=by rcases hw1 with rfl|rfl;exact hs;exact hs.drew
   have hb1:w1.heap[b]?=some (.mapIter (some g) clk seen clk):=by rcases hw1 with rfl|rfl<;>exact hb
   have hx2:OERel m { w1 with heap:=w1.heap.setIfInBounds b (.mapIter (some g) clk (seen.push e.born) clk) } (mitK b f t (left.erase i) (some i)):=by
    unfold mitK;simp only[OERel]
    refine⟨_,heap_set_at hb1,.inr ⟨g,es,clk,es',_,rfl,hg,k.ok,k.ks,k.vs,fun q=>?_,hn.erase i,fun q hq=>?_⟩⟩
    ·rw[hn.mem_erase_iff,hl q]
     constructor
     ·rintro⟨hne,e2,q1,q2⟩
      refine⟨e2,q1,fun hmem=>?_⟩
      rw[Array.mem_push] at hmem
      rcases hmem with hmem|hmem
      ·exact q2 hmem
      ·have hbn:(es'.map (·.born)).Nodup:=((k.ok.1.map _).nodup_iff).2 k.ok.2.2.1
       have hql:=(List.getElem?_eq_some_iff.1 q1).1
       exact hne (List.getElem?_inj (l:=es'.map (·.born)) (i:=q) (j:=i) (by simpa using hql) hbn |>.1 (by rw[List.getElem?_map,List.getElem?_map,q1,hi];simp[hmem]))
     ·rintro⟨e2,q1,q2⟩
      rw[Array.mem_push] at q2
      refine⟨fun e3=>?_,e2,q1,fun hmem=>q2 (.inl hmem)⟩
      subst e3
      rw[q1] at hi;injection hi with hi;subst hi
      exact q2 (.inr rfl)
    ·injection hq with hq;subst hq
     exact⟨e,seen,hi,rfl⟩
   refine⟨_,h1 i p hil g1,m,SimG.put (s:={ s with h:=h' i }) (SimG.turn hs1 (hu i) hb1 rfl rfl hx2) hf ?_⟩
   simp only[Rel]
   exact⟨_,rfl,by simp only[RelL];exact⟨_,_,rfl,rel_val rfl,_,_,rfl,by rw[g2];exact ka_rel _ _,_,_,rfl,g3,rfl⟩⟩
theorem pur_entryK {tm:List (Nat × AV)} {h:Heap} {b i:Nat} {left:List Nat} {p:KY × α} (hx:evalA tm x=some (.val (.pointer (some ⟨b,0,none⟩)))) (hb:mitK b f t left (some i)∈h) (hp:t[i]?=some p):Pur P ⟨d,.entry x,ty,pos,af,gd⟩ tm h (.tup [ka p.1,f p.2]):=fun m a w0 ht hh hr=>by
 have e1:=eval_val ht hx
 rcases mitk_cases (hr.2 _ hb).2 with ⟨rfl,_⟩|⟨g,es,clk,es',seen,hbb,hg,k,hl,hn,hla⟩
 ·simp at hp
 ·obtain⟨e,seen0,q1,rfl⟩:=hla i rfl
  obtain⟨p',g1,g2,g3⟩:=k.at q1
  rw[hp] at g1;injection g1 with g1;subst g1
  refine⟨.tuple #[e.key,e.val],?_,fun w hw ha=>?_⟩
  ·simp only[Rel]
   exact⟨_,rfl,by simp only[RelL];exact⟨_,_,rfl,by rw[g2];exact ka_rel _ _,_,_,rfl,g3,rfl⟩⟩
  ·have h1:=run_entry_at (P:=P) w b g clk seen0 es clk e ((ha _ hb b rfl).trans hbb) (hw g _ hg) (k.ok.1.mem_iff.1 (List.mem_of_getElem? q1)) k.ok.2.2.1
   simp[execOp,e1,h1]
end
theorem mpk_ro {α:Type} {f:α→AV} {t:List (KY × α)} {b:Nat} {w:World} (m m'':Ghost) (h:OERel m w (mpK b f t)) (hm:Gle m m'') (hb:∀b',(mpK b f t).blk=some b'→m'' b'=w.heap[b']?):Rel m'' (mapK f t) (.map (some b)):=by
 obtain⟨es,clk,es',h0,k⟩:=mpk_cases h
 have k:=k.mono hm
 unfold mapK
 simp only[Rel]
 exact⟨some b,rfl,.inr ⟨b,es,clk,es',rfl,(hb b rfl).trans h0,k.ok,k.ks,k.vs⟩⟩
theorem S.mkk {P:Program} {n d:Nat} {T:List (Nat × AV)} {h:Heap} {K:St→Prop} {q:Operand} {kk:IntKind} {nn:Int} {mt kt et ty:Nat} {pos:String} {af:Array Edge} {gd:Option (Nat × Bool)} {α:Type} [hm:TMapK P mt kt et] (f:α→AV) (hK:∀b,K ⟨n,(d,.val (.map (some b)))::T,mpK b f []::h⟩) (hq:evalA T q=some (.val (.int kk nn)):=by rfl) (hn:Nat.blt d n=true:=by rfl):Step P ⟨some d,.makeMap mt (some q),ty,pos,af,gd⟩ ⟨n,T,h⟩ K:=
 step_makeMapK (fun q' e=>by injection e with e;subst e;exact⟨_,_,hq⟩) hn f hK
section
variable {ro:Option Nat} {P:Program} {n:Nat} {T T':List (Nat × AV)} {h h1 h2:Heap} {α:Type} {f:α→AV} {t:List (KY × α)} {b:Nat}
theorem W.frzk {c:Code} {Q:Exit→St→Prop} (tk:Tk h (mpK b f t) h1) (ht:FzT (.map (some b)) (mapK f t) T T') (hh:FzH (.map (some b)) (mapK f t) h1 h2) (q:W ro P c Q ⟨n,T',h2⟩):W ro P c Q ⟨n,T,h⟩:=fun m0 w0 a w hs=>q m0 w0 a w (hs.fz tk mpk_ro ht hh)
end
section
variable {ro:Option Nat} {P:Program} {n d:Nat} {ty:Nat} {pos:String} {af:Array Edge} {gd:Option (Nat × Bool)} {T:List (Nat × AV)} {h:Heap} {x y z:Operand} {mt kt et:Nat} {α:Type} {f:α→AV} {m:List (KY × α)} {i:KY} {K:St→Prop}
theorem S.mapUK {b:Nat} {a:α} {v':AV} {h':Heap} [hm:TMapK P mt kt et] (hK:K ⟨n,T,h'⟩) (hx:evalA T x=some (.val (.map (some b))):=by rfl) (hu:Up h (mpK b f m) (mpK b f (putK m i a)) h':=by (repeat (first|exact Up.here|assumption|apply Up.there))) (hy:evalA T y=some (ka i):=by rfl) (hz:evalA T z=some v':=by rfl) (hv:Wk v' (f a):=by exact Wk.refl _) :
  Step P ⟨none,.mapUpdate mt x y z,ty,pos,af,gd⟩ ⟨n,T,h⟩ K:=step_mapUpdateK hx hy hz hv hu hK
theorem S.rngK [hm:TMapK P mt kt et] (hK:∀b,K ⟨n,(d,.val (.pointer (some ⟨b,0,none⟩)))::T,mitK b f m (List.range m.length) none::h⟩) (hx:evalA T x=some (mapK f m):=by rfl) (hn:Nat.blt d n=true:=by rfl):Step P ⟨some d,.range mt x,ty,pos,af,gd⟩ ⟨n,T,h⟩ K:=step_rangeK hx hn hK
theorem S.nextK {b:Nat} {left:List Nat} {last:Option Nat} {h':Nat→Heap} (h0:left=[]→K ⟨n,(d,.tup [.val (.bool false)])::T,h⟩) (h1:∀i p,i∈left→m[i]?=some p→K ⟨n,(d,.tup [.val (.bool true),ka p.1,f p.2])::T,h' i⟩) (hx:evalA T x=some (.val (.pointer (some ⟨b,0,none⟩))):=by rfl)
  (hu:∀i,Up h (mitK b f m left last) (mitK b f m (left.erase i) (some i)) (h' i):=by intro i;(repeat (first|exact Up.here|assumption|apply Up.there))) (hn:Nat.blt d n=true:=by rfl):Step P ⟨some d,.next x false,ty,pos,af,gd⟩ ⟨n,T,h⟩ K:=
 step_nextK hx hu hn h0 h1
end
end Go.VM
