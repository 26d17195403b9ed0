import Derived.WalkKit
import Derived.WalkSpells
import Derived.Below
import Derived.Lib.Hide
import Derived.OrdersHeld
import Derived.OrdersIn
import Derived.RangeFuncCalls
import Derived.Laws.CopyRow
import Derived.Laws.AppendOwn
import Derived.Laws.Tables
import Derived.KernelRfl
import Derived.Laws.StructEq
import Derived.Laws.Small
import Derived.Maps.AppendAt
import Derived.Laws.OwnMore
import Derived.Laws.MakeOwn
import Derived.RangeFuncRecord
/- Values by what they read as, worlds by what is owned: the words of the walk. No condition. -/
namespace Go.VM
open Go
set_option linter.unusedVariables false
set_option linter.unusedSimpArgs false
/-! ### Abstract values -/
abbrev Ghost:=Nat→Option Obj
def Gle (m m':Ghost):Prop:=∀b o,m b=some o→m' b=some o
theorem Gle.refl (m:Ghost):Gle m m:=fun _ _ h=>h
theorem Gle.trans {a b c:Ghost} (h:Gle a b) (k:Gle b c):Gle a c:=fun x o e=>k x o (h x o e)
/-- A value as it is; a struct by its cells; a tuple; an immutable slice by its elements (k cells each); a place in one; a function value; an immutable map;
a piece (n elements from lo on) of the owned slice v; a place in it; a slice with no capacity. -/
inductive AV where
 | val (v:Value)
 | agg (l:List AV)
 | tup (l:List AV)
 | ro (k:Nat) (l:List AV)
 | rp (k:Nat) (l:List AV) (i off:Nat)
 | clo (f:Fn) (l:List AV)
 | bnd (f:Fn) (l:List AV)
 | mro (ks:List Value) (l:List AV)
 | vw (v:Value) (k lo n:Nat)
 | ep (v:Value) (k i off:Nat)
 | emp
def Win (m:Ghost) (A:Option Addr) (N:Nat) (R:List Value→Prop):Prop:=
 ∃b off cs e fr,A=some ⟨b,off,none⟩∧m b=some (.cells cs e fr)∧off+N≤cs.size∧R ((cs.toList.drop off).take N)∧∀y∈(cs.toList.drop off).take N,y.oneCell'=true
def MapOk (es:List MapEntry) (clk:Nat) (es':List MapEntry):Prop:=es'.Perm es∧(∀e∈es,e.born<clk)∧(es.map (·.born)).Nodup∧(es.map (·.key)).Nodup
mutual
def Rel (m:Ghost):AV→Value→Prop
 | .val u,v=>v=u∧u.oneCell'=true
 | .agg l,v=>∃cs,v=.agg cs∧RelL m l cs.toList
 | .tup l,v=>∃cs,v=.tuple cs∧RelL m l cs.toList
 | .ro k l,v=>∃A c,v=.slice A l.length c∧l.length≤c∧c≤maxLen∧(A=none→c=0)∧(l≠[]→Win m A (l.length * k) (fun ys=>RelE m k l ys))
 | .rp k l i off,v=>∃b o,v=.pointer (some ⟨b,o+(i * k+off),none⟩)∧i<l.length∧Win m (some ⟨b,o,none⟩) (l.length * k) (fun ys=>RelE m k l ys)
 | .clo f l,v=>∃cs,v=.func f #[] cs∧RelL m l cs.toList
 | .bnd f l,v=>∃cs,v=.func f cs #[]∧RelL m l cs.toList
 | .mro ks l,v=>∃r,v=.map r∧((r=none∧ks=[]∧l=[])∨∃g es clk es',r=some g∧m g=some (.map es clk)∧MapOk es.toList clk es'∧es'.map (·.key)=ks∧RelL m l (es'.map (·.val)))
 | .vw v k lo n,u=>∃A c,u=.slice A n c∧n≤c∧c≤maxLen∧(A=none→c=0)∧(0<n→∃g N cap,v=.slice (some ⟨g,0,none⟩) N cap∧A=some ⟨g,lo * k,none⟩∧lo+n≤N)
 | .ep v k i off,u=>∃g N cap,u=.pointer (some ⟨g,i * k+off,none⟩)∧v=.slice (some ⟨g,0,none⟩) N cap∧i<N
 | .emp,u=>∃A,u=.slice A 0 0
def RelL (m:Ghost):List AV→List Value→Prop
 | [],cs=>cs=[]
 | x::xs,cs=>∃c r,cs=c::r∧Rel m x c∧RelL m xs r
def RelE (m:Ghost) (k:Nat):List AV→List Value→Prop
 | [],cs=>cs=[]
 | x::xs,cs=>∃v r,cs=v.cells.toList++r∧v.cells.size=k∧Rel m x v∧RelE m k xs r
end
theorem Win.mono {m m':Ghost} (h:Gle m m') {A:Option Addr} {N:Nat} {R R':List Value→Prop} (hr:∀ys,R ys→R' ys) (k:Win m A N R):Win m' A N R':=by
 obtain⟨b,off,cs,e,fr,h1,h2,h3,h4,h5⟩:=k
 exact⟨b,off,cs,e,fr,h1,h _ _ h2,h3,hr _ h4,h5⟩
mutual
theorem Rel.mono {m m':Ghost} (h:Gle m m'):∀{x:AV} {v:Value},Rel m x v→Rel m' x v
 | .val _,v,k=>by simpa only[Rel] using k
 | .agg l,v,k=>by
  simp only[Rel] at *
  obtain⟨cs,rfl,k⟩:=k
  exact⟨cs,rfl,RelL.mono h k⟩
 | .tup l,v,k=>by
  simp only[Rel] at *
  obtain⟨cs,rfl,k⟩:=k
  exact⟨cs,rfl,RelL.mono h k⟩
 | .ro k l,v,q=>by
  simp only[Rel] at *
  obtain⟨A,c,rfl,h1,h2,h3,h4⟩:=q
  exact⟨A,c,rfl,h1,h2,h3,fun hl=>(h4 hl).mono h (fun ys=>RelE.mono h)⟩
 | .rp k l i off,v,q=>by
  simp only[Rel] at *
  obtain⟨b,o,rfl,h1,h2⟩:=q
  exact⟨b,o,rfl,h1,h2.mono h (fun ys=>RelE.mono h)⟩
 | .clo f l,v,k=>by
  simp only[Rel] at *
  obtain⟨cs,rfl,k⟩:=k
  exact⟨cs,rfl,RelL.mono h k⟩
 | .bnd f l,v,k=>by
  simp only[Rel] at *
  obtain⟨cs,rfl,k⟩:=k
  exact⟨cs,rfl,RelL.mono h k⟩
 | .mro ks l,v,k=>by
  simp only[Rel] at *
  obtain⟨r,rfl,k⟩:=k
  refine⟨r,rfl,?_⟩
  rcases k with k|⟨g,es,clk,es',k1,k2,k3,k4,k5⟩
  ·exact .inl k
  ·exact .inr ⟨g,es,clk,es',k1,h _ _ k2,k3,k4,RelL.mono h k5⟩
 | .vw _ _ _ _,v,k=>by simpa only[Rel] using k
 | .ep _ _ _ _,v,k=>by simpa only[Rel] using k
 | .emp,v,k=>by simpa only[Rel] using k
theorem RelL.mono {m m':Ghost} (h:Gle m m'):∀{xs:List AV} {cs:List Value},RelL m xs cs→RelL m' xs cs
 | [],cs,k=>by simpa only[RelL] using k
 | x::xs,cs,k=>by
  simp only[RelL] at *
  obtain⟨c,r,rfl,k1,k2⟩:=k
  exact⟨c,r,rfl,Rel.mono h k1,RelL.mono h k2⟩
theorem RelE.mono {m m':Ghost} (h:Gle m m') {k:Nat}:∀{xs:List AV} {cs:List Value},RelE m k xs cs→RelE m' k xs cs
 | [],cs,q=>by simpa only[RelE] using q
 | x::xs,cs,q=>by
  simp only[RelE] at *
  obtain⟨v,r,rfl,h1,k1,k2⟩:=q
  exact⟨v,r,rfl,h1,Rel.mono h k1,RelE.mono h k2⟩
end
def AV.cells:AV→List AV
 | .agg l=>l
 | x=>[x]
def AV.one:AV→Bool
 | .agg _=>false
 | .tup _=>false
 | _=>true
theorem RelL.length {m:Ghost}:∀{xs:List AV} {cs:List Value},RelL m xs cs→cs.length=xs.length
 | [],cs,h=>by simp only[RelL] at h;subst h;rfl
 | x::xs,cs,h=>by
  simp only[RelL] at h
  obtain⟨c,r,rfl,_,h2⟩:=h
  simp[h2.length]
theorem RelL.at {m:Ghost}:∀{xs:List AV} {cs:List Value},RelL m xs cs→∀(i:Nat) (x:AV),xs[i]?=some x→∃c,cs[i]?=some c∧Rel m x c
 | [],cs,_,i,x,hx=>by simp at hx
 | y::xs,cs,h,i,x,hx=>by
  simp only[RelL] at h
  obtain⟨c,r,rfl,h1,h2⟩:=h
  cases i with
  | zero=>simp at hx;subst hx;exact⟨c,rfl,h1⟩
  | succ i=>simpa using h2.at i x (by simpa using hx)
theorem relL_of_at {m:Ghost}:∀{xs:List AV} {cs:List Value},cs.length=xs.length→(∀(i:Nat) (x:AV) (c:Value),xs[i]?=some x→cs[i]?=some c→Rel m x c)→RelL m xs cs
 | [],cs,hl,_=>by simp only[RelL];exact List.eq_nil_of_length_eq_zero hl
 | x::xs,[],hl,_=>by simp at hl
 | x::xs,c::cs,hl,h=>by
  simp only[RelL]
  exact⟨c,cs,rfl,h 0 x c rfl rfl,relL_of_at (by simpa using hl) (fun i y d hy hd=>h (i+1) y d (by simpa using hy) (by simpa using hd))⟩
theorem RelL.drop {m:Ghost} {xs:List AV} {cs:List Value} (h:RelL m xs cs) (n:Nat):RelL m (xs.drop n) (cs.drop n):=
 relL_of_at (by simp[h.length]) fun i x c hx hc=>by
  rw[List.getElem?_drop] at hx hc
  obtain⟨c',h1,h2⟩:=h.at _ _ hx
  rw[h1] at hc;injection hc with hc;subst hc;exact h2
theorem RelL.take {m:Ghost} {xs:List AV} {cs:List Value} (h:RelL m xs cs) (n:Nat):RelL m (xs.take n) (cs.take n):=
 relL_of_at (by simp[h.length]) fun i x c hx hc=>by
  rw[List.getElem?_take] at hx hc
  split at hx
  ·rename_i hi
   rw[if_pos hi] at hc
   obtain⟨c',h1,h2⟩:=h.at _ _ hx
   rw[h1] at hc;injection hc with hc;subst hc;exact h2
  ·cases hx
theorem RelL.append {m:Ghost} {xs ys:List AV} {cs ds:List Value} (h:RelL m xs cs) (k:RelL m ys ds):RelL m (xs++ys) (cs++ds):=by
 induction xs generalizing cs with
 | nil=>simp only[RelL] at h;subst h;exact k
 | cons x xs ih=>
  simp only[RelL] at h
  obtain⟨c,r,rfl,h1,h2⟩:=h
  simp only[List.cons_append,RelL]
  exact⟨c,_,rfl,h1,ih h2⟩
theorem RelL.set {m:Ghost} {xs:List AV} {cs:List Value} (h:RelL m xs cs) {i:Nat} {x:AV} {c:Value} (hx:Rel m x c):RelL m (xs.set i x) (cs.set i c):=
 relL_of_at (by simp[h.length]) fun j y d hy hd=>by
  by_cases hij:i=j
  ·subst hij
   rw[List.getElem?_set_self'] at hy hd
   cases h1:xs[i]?<;>rw[h1] at hy<;>simp at hy
   cases h2:cs[i]?<;>rw[h2] at hd<;>simp at hd
   subst hy;subst hd;exact hx
  ·rw[List.getElem?_set_ne hij] at hy hd
   obtain⟨d',h1,h2⟩:=h.at _ _ hy
   rw[h1] at hd;injection hd with hd;subst hd;exact h2
theorem Rel.one {m:Ghost} {x:AV} {v:Value} (h:Rel m x v) (h1:x.one=true):v.oneCell'=true:=by
 cases x<;>simp only[Rel] at h
 case val u=>obtain⟨rfl,h⟩:=h;exact h
 case agg=>simp[AV.one] at h1
 case tup=>simp[AV.one] at h1
 case ro=>obtain⟨A,c,rfl,_⟩:=h;rfl
 case rp=>obtain⟨A,c,rfl,_⟩:=h;rfl
 case clo=>obtain⟨A,rfl,_⟩:=h;rfl
 case bnd=>obtain⟨A,rfl,_⟩:=h;rfl
 case mro=>obtain⟨A,rfl,_⟩:=h;rfl
 case vw=>obtain⟨A,c,rfl,_⟩:=h;rfl
 case ep=>obtain⟨A,c,cap,rfl,_⟩:=h;rfl
 case emp=>obtain⟨A,rfl⟩:=h;rfl
theorem rel_val {m:Ghost} {v:Value} (h:v.oneCell'=true):Rel m (.val v) v:=by unfold Rel;exact⟨rfl,h⟩
theorem rel_undef {m:Ghost}:Rel m (.tup []) undef:=by simp only[Rel];exact⟨#[],rfl,by simp[RelL]⟩
theorem relL_vals (m:Ghost):∀cs:List Value,(∀c∈cs,c.oneCell'=true)→RelL m (cs.map .val) cs
 | [],_=>by simp[RelL]
 | c::cs,h=>by
  simp only[List.map_cons,RelL]
  exact⟨c,cs,rfl,rel_val (h c (by simp)),relL_vals m cs fun x hx=>h x (by simp[hx])⟩
theorem cells_one {v:Value} (h:v.oneCell'=true):v.cells=#[v]:=by cases v<;>first|rfl|(simp[Value.oneCell'] at h)
theorem Rel.cells {m:Ghost} {x:AV} {v:Value} (h:Rel m x v):RelL m x.cells v.cells.toList:=by
 cases x
 case agg l=>simp only[Rel] at h;obtain⟨cs,rfl,h⟩:=h;exact h
 case val u=>
  simp only[Rel] at h
  obtain⟨rfl,h⟩:=h
  rw[cells_one h]
  simp only[AV.cells,RelL]
  exact⟨_,_,rfl,rel_val h,rfl⟩
 all_goals
  have hv:v.cells=#[v]:=by
   simp only[Rel] at h
   first
    | (obtain⟨_,rfl,_⟩:=h;rfl)
    | (obtain⟨_,rfl⟩:=h;rfl)
    | (obtain⟨_,_,rfl,_⟩:=h;rfl)
    | (obtain⟨_,_,_,rfl,_⟩:=h;rfl)
  rw[hv]
  simp only[AV.cells,RelL]
  exact⟨_,_,rfl,h,rfl⟩
theorem RelE.length {m:Ghost} {k:Nat}:∀{xs:List AV} {cs:List Value},RelE m k xs cs→cs.length=xs.length * k
 | [],cs,h=>by simp only[RelE] at h;subst h;simp
 | x::xs,cs,h=>by
  simp only[RelE] at h
  obtain⟨v,r,rfl,h0,_,h2⟩:=h
  rw[List.length_append,h2.length,List.length_cons,Nat.succ_mul,Array.length_toList,h0,Nat.add_comm]
theorem RelE.at {m:Ghost} {k:Nat}:∀{xs:List AV} {cs:List Value},RelE m k xs cs→∀(i:Nat) (x:AV),xs[i]?=some x →
  ∃v,Rel m x v∧v.cells.size=k∧(cs.drop (i * k)).take k=v.cells.toList
 | [],cs,_,i,x,hx=>by simp at hx
 | y::xs,cs,h,i,x,hx=>by
  simp only[RelE] at h
  obtain⟨v,r,rfl,h0,h1,h2⟩:=h
  cases i with
  | zero=>
   simp at hx;subst hx
   refine⟨v,h1,h0,?_⟩
   rw[Nat.zero_mul,List.drop_zero,List.take_left' (by simpa using h0)]
  | succ i=>
   obtain⟨u,g1,g2,g3⟩:=h2.at i x (by simpa using hx)
   refine⟨u,g1,g2,?_⟩
   rw[←g3,Nat.succ_mul,Nat.add_comm,←List.drop_drop,List.drop_left' (by simpa using h0)]
theorem RelE.append {m:Ghost} {k:Nat} {xs ys:List AV} {cs ds:List Value} (h:RelE m k xs cs) (q:RelE m k ys ds):RelE m k (xs++ys) (cs++ds):=by
 induction xs generalizing cs with
 | nil=>simp only[RelE] at h;subst h;exact q
 | cons x xs ih=>
  simp only[RelE] at h
  obtain⟨v,r,rfl,h0,h1,h2⟩:=h
  simp only[List.cons_append,RelE]
  exact⟨v,_,by rw[List.append_assoc],h0,h1,ih h2⟩
theorem RelE.take {m:Ghost} {k:Nat}:∀{xs:List AV} {cs:List Value},RelE m k xs cs→∀n,RelE m k (xs.take n) (cs.take (n * k))
 | [],cs,h,n=>by simp only[RelE] at h;subst h;simp[RelE]
 | x::xs,cs,h,0=>by simp[RelE]
 | x::xs,cs,h,n+1=>by
  simp only[RelE] at h
  obtain⟨v,r,rfl,h0,h1,h2⟩:=h
  simp only[List.take_succ_cons,RelE]
  refine⟨v,r.take (n * k),?_,h0,h1,h2.take n⟩
  rw[List.take_append,List.take_of_length_le (by rw[Array.length_toList,h0,Nat.succ_mul];omega),Array.length_toList,h0,Nat.succ_mul]
  congr 2
  omega
theorem RelE.drop {m:Ghost} {k:Nat}:∀{xs:List AV} {cs:List Value},RelE m k xs cs→∀n,RelE m k (xs.drop n) (cs.drop (n * k))
 | [],cs,h,n=>by simp only[RelE] at h;subst h;simp[RelE]
 | x::xs,cs,h,0=>by simpa using h
 | x::xs,cs,h,n+1=>by
  simp only[RelE] at h
  obtain⟨v,r,rfl,h0,h1,h2⟩:=h
  simp only[List.drop_succ_cons]
  rw[Nat.succ_mul,Nat.add_comm,←List.drop_drop,List.drop_left' (by simpa using h0)]
  exact h2.drop n
theorem relE_set {m:Ghost} {k:Nat}:∀{xs:List AV} {cs:List Value},RelE m k xs cs→∀(i:Nat) (x:AV) (v:Value),Rel m x v→v.cells.size=k→i<xs.length →
  RelE m k (xs.set i x) (cs.take (i * k)++v.cells.toList++cs.drop (i * k+k))
 | [],cs,_,i,x,v,_,_,hi=>by simp at hi
 | y::xs,cs,h,i,x,v,hx,hv,hi=>by
  simp only[RelE] at h
  obtain⟨u,r,rfl,h0,h1,h2⟩:=h
  cases i with
  | zero=>
   simp only[List.set_cons_zero,RelE]
   refine⟨v,r,?_,hv,hx,h2⟩
   simp only[Nat.zero_mul,List.take_zero,List.nil_append,Nat.zero_add]
   rw[List.drop_left' (by simpa using h0)]
  | succ i=>
   simp only[List.set_cons_succ,RelE]
   refine⟨u,_,?_,h0,h1,relE_set h2 i x v hx hv (by simpa using hi)⟩
   have e1:(i+1) * k=k+i * k:=by rw[Nat.succ_mul,Nat.add_comm]
   rw[e1,List.take_append,List.take_of_length_le (by rw[Array.length_toList,h0];omega),Array.length_toList,h0,Nat.add_sub_cancel_left,
    show k+i * k+k=k+(i * k+k) by omega,←List.drop_drop (i:=i * k+k),List.drop_left' (by simpa using h0)]
   simp only[List.append_assoc]
def get:List (Nat × AV)→Nat→Option AV
 | [],_=>none
 | (k,v)::r,t=>bif Nat.beq k t then some v else get r t
/-! ### What is owned -/
inductive OE where
 | box (b:Nat) (l:List AV) (ty:Nat)
 | own (v:Value) (k:Nat) (l:List AV) (e:Nat)
 | raw (b:Nat) (o:Obj)
 | mp (b:Nat) (ks:List Value) (l:List AV)
 | mit (b:Nat) (ks:List Value) (l:List AV) (left:List Nat) (last:Option Nat)
 | lp (b:Nat) (r:Loop) (t:List (Nat × AV))
def ownBlk:Value→Option Nat
 | .slice (some a) _ c=>if c=0 then none else some a.block
 | _=>none
def OE.blk:OE→Option Nat
 | .box b _ _=>some b
 | .own v _ _ _=>ownBlk v
 | .raw b _=>some b
 | .mp b _ _=>some b
 | .mit b _ _ _ _=>some b
 | .lp b _ _=>some b
def OERel (m:Ghost) (w:World):OE→Prop
 | .box b l ty=>∃cs,w.heap[b]?=some (.cells cs ty (0,0))∧RelL m l cs.toList
 | .own v k l e=>(∃A,v=.slice A 0 0∧l=[])∨(∃b,ownBlk v=some b∧∃xs,w.ownsRow 0 e k v l.length xs∧RelE m k l xs∧(∀y∈xs,y.oneCell'=true))
 | .raw b o=>w.heap[b]?=some o
 | .lp b r t=>w.heap[b]?=some (.loop r)∧∀i v,get t i=some v→∃u,r.tmps[i]?=some u∧Rel m v u
 | .mp b ks l=>∃es clk es',w.heap[b]?=some (.map es clk)∧MapOk es.toList clk es'∧es'.map (·.key)=ks∧RelL m l (es'.map (·.val))
 | .mit b ks l left last=>∃o,w.heap[b]?=some o∧((ks=[]∧left=[]∧∃a c d,o=.mapIter none a c d)∨∃g es clk es' seen,o=.mapIter (some g) clk seen clk∧m g=some (.map es clk)∧MapOk es.toList clk es' ∧
   es'.map (·.key)=ks∧RelL m l (es'.map (·.val))∧(∀i,i∈left↔∃e,es'[i]?=some e∧e.born∉seen)∧left.Nodup∧(∀i,last=some i→∃(e:MapEntry) (seen0:Array Nat),es'[i]?=some e∧seen=seen0.push e.born))
theorem ownBlk_own {v:Value} {b:Nat} (h:ownBlk v=some b):v.ownBlock=some b:=by
 unfold ownBlk at h
 split at h
 ·split at h
  ·cases h
  ·exact h
 ·cases h
theorem OERel.mono {m m':Ghost} (h:Gle m m') {x:OE} {w:World} (k:OERel m w x):OERel m' w x:=by
 cases x<;>simp only[OERel] at *
 case box=>obtain⟨cs,h1,k⟩:=k;exact⟨cs,h1,k.mono h⟩
 case own=>
  rcases k with k|⟨b,kb,xs,k1,k2,k3⟩
  ·exact .inl k
  ·exact .inr ⟨b,kb,xs,k1,k2.mono h,k3⟩
 case raw=>exact k
 case lp=>exact⟨k.1,fun i v e=>by obtain⟨u,h1,h2⟩:=k.2 i v e;exact⟨u,h1,h2.mono h⟩⟩
 case mp=>obtain⟨es,clk,es',k0,k1,k2,k3⟩:=k;exact⟨es,clk,es',k0,k1,k2,k3.mono h⟩
 case mit=>
  obtain⟨o,k0,k⟩:=k
  refine⟨o,k0,?_⟩
  rcases k with k|⟨g,es,clk,es',seen,k1,k2,k3,k4,k5,k6⟩
  ·exact .inl k
  ·exact .inr ⟨g,es,clk,es',seen,k1,h _ _ k2,k3,k4,k5.mono h,k6⟩
theorem OERel.lt {m:Ghost} {x:OE} {w:World} (k:OERel m w x) {b:Nat} (hb:x.blk=some b):b<w.heap.size:=by
 cases x<;>simp only[OERel,OE.blk] at *
 case box=>injection hb with hb;subst hb;obtain⟨cs,h1,k⟩:=k;exact (Array.getElem?_eq_some_iff.1 h1).1
 case own=>
  rcases k with ⟨A,rfl,_⟩|⟨b',kb,xs,k1,k2,k3⟩
  ·cases A<;>simp[ownBlk] at hb
  ·exact (k1.lt _ (ownBlk_own hb)).2
 case raw=>injection hb with hb;subst hb;exact (Array.getElem?_eq_some_iff.1 k).1
 case lp=>injection hb with hb;subst hb;exact (Array.getElem?_eq_some_iff.1 k.1).1
 case mp=>injection hb with hb;subst hb;obtain⟨es,clk,es',k0,_⟩:=k;exact (Array.getElem?_eq_some_iff.1 k0).1
 case mit=>injection hb with hb;subst hb;obtain⟨o,k0,_⟩:=k;exact (Array.getElem?_eq_some_iff.1 k0).1
theorem OERel.local {m:Ghost} {x:OE} {w w':World} (k:OERel m w x) (h:∀b,x.blk=some b→w'.heap[b]?=w.heap[b]?):OERel m w' x:=by
 cases x<;>simp only[OERel,OE.blk] at *
 case box=>rw[h _ rfl];exact k
 case own v kk l e=>
  rcases k with k|⟨b',kb,xs,⟨k0,k1⟩,k2⟩
  ·exact .inl k
  refine .inr ⟨b',kb,xs,⟨k0,?_⟩,k2⟩
  rcases k1 with k1|⟨g,cap,cur,rfl,hb,hg,r⟩
  ·exact .inl k1
  ·have:b'=g:=by have:=ownBlk_own kb;simp[Value.ownBlock] at this;exact this.symm
   subst this
   exact .inr ⟨b',cap,cur,rfl,hb,(h b' kb).trans hg,r⟩
 case raw=>rw[h _ rfl];exact k
 case lp=>rw[h _ rfl];exact k
 case mp=>rw[h _ rfl];exact k
 case mit=>rw[h _ rfl];exact k
theorem OERel.own_cases {m:Ghost} {w:World} {v:Value} {k e:Nat} {l:List AV} (h:OERel m w (.own v k l e)) :
  (∃A,v=.slice A 0 0∧l=[])∨(∃g cap cur xs,v=.slice (some ⟨g,0,none⟩) l.length cap∧0<cap∧w.heap[g]?=some (.cells cur e (0,0))∧l.length≤cap∧cap≤maxLen∧cur.size=cap * k ∧
   cur.toList.take (l.length * k)=xs∧xs.length=l.length * k∧RelE m k l xs∧(∀y∈xs,y.oneCell'=true)∧ownBlk v=some g∧w.ownsRow 0 e k v l.length xs):=by
 simp only[OERel] at h
 rcases h with h|⟨b,kb,xs,h1,h2,h3⟩
 ·exact .inl h
 ·right
  have h1':=h1
  obtain⟨k0,k1⟩:=h1
  rcases k1 with ⟨rfl,_⟩|⟨g,cap,cur,rfl,_,hg,r1,r2,r3,r4⟩
  ·simp[ownBlk] at kb
  ·have hc:0<cap:=by
    simp only[ownBlk] at kb
    split at kb
    ·cases kb
    ·omega
   exact⟨g,cap,cur,xs,rfl,hc,hg,r1,r2,r3,r4,k0,h2,h3,by simp[ownBlk];omega,h1'⟩
theorem oerel_own {m:Ghost} {w:World} {g cap n k e:Nat} {l:List AV} {cur:Array Value} (hn:n=l.length) (hc:0<cap) (hg:w.heap[g]?=some (.cells cur e (0,0))) (h1:l.length≤cap) (h2:cap≤maxLen) (h3:cur.size=cap * k)
  (h4:RelE m k l (cur.toList.take (l.length * k))) (h5:∀y∈cur.toList.take (l.length * k),y.oneCell'=true):OERel m w (.own (.slice (some ⟨g,0,none⟩) n cap) k l e):=by
 subst hn
 right
 refine⟨g,by simp[ownBlk];omega,_,⟨h4.length,.inr ⟨g,cap,cur,rfl,Nat.zero_le _,hg,h1,h2,h3,rfl⟩⟩,h4,h5⟩
abbrev Heap:=List OE
def Holds (m:Ghost) (w:World):Prop:=∀b o,m b=some o→w.heap[b]?=some o
def HRel (m:Ghost) (h:Heap) (w:World):Prop:=
 (h.filterMap OE.blk).Nodup∧∀x∈h,(∀b,x.blk=some b→m b=none)∧OERel m w x
structure Same (w w':World):Prop where
 os:w'.os=w.os
 tape:w'.tape=w.tape
 output:w'.output=w.output
 size:w.heap.size≤w'.heap.size
 drawn:w.drawn≤w'.drawn
theorem Same.refl (w:World):Same w w:=⟨rfl,rfl,rfl,Nat.le_refl _,Nat.le_refl _⟩
theorem Same.trans {a b c:World} (h:Same a b) (k:Same b c):Same a c:=⟨k.os.trans h.os,k.tape.trans h.tape,k.output.trans h.output,Nat.le_trans h.size k.size,Nat.le_trans h.drawn k.drawn⟩
theorem Same.drew {a w:World} (h:Same a w):Same a w.drew:=⟨h.os,h.tape,h.output,h.size,Nat.le_succ_of_le h.drawn⟩
structure St where
 n:Nat
 t:List (Nat × AV)
 h:Heap
def TRel (m:Ghost) (t:List (Nat × AV)) (tmps:Array Value):Prop:=∀i v,get t i=some v→∃u,tmps[i]?=some u∧Rel m v u
structure GF where
 g:Ghost
 c:Nat→Prop
 d:List Deferred
inductive Marks (m:Ghost) (B:Nat):List Deferred→Prop
 | nil:Marks m B []
 | cons {D:Nat} {ds:List Deferred} (h:m D=some (.deferred (some []))) (hB:B≤D) (hn:∀d∈ds,d.target≠.collected D) (k:Marks m B ds):Marks m B ({ target:=.collected D,args:=#[] }::ds)
theorem Marks.mono {m m':Ghost} (h:Gle m m') {B:Nat} {ds:List Deferred} (k:Marks m B ds):Marks m' B ds:=by
 induction k with
 | nil=>exact .nil
 | cons h1 h2 h3 _ ih=>exact .cons (h _ _ h1) h2 h3 ih
theorem Marks.at {m:Ghost} {B:Nat} {ds:List Deferred} (k:Marks m B ds):∀d∈ds,∃D,d.target=.collected D∧B≤D∧m D=some (.deferred (some [])):=by
 induction k with
 | nil=>intro d h;cases h
 | cons h1 h2 h3 _ ih=>
  intro d hd
  rcases List.mem_cons.1 hd with rfl|hd
  ·exact⟨_,rfl,h2,h1⟩
  ·exact ih d hd
theorem Marks.append {m:Ghost} {B B':Nat} {ds ds':List Deferred} (k':Marks m B' ds') (k:Marks m B ds) (hle:B≤B') (hlt:∀d∈ds,∀D,d.target=.collected D→D<B'):Marks m B (ds'++ds):=by
 induction k' with
 | nil=>exact k
 | cons h1 h2 h3 _ ih=>
  refine .cons h1 (Nat.le_trans hle h2) (fun d hd e=>?_) ih
  rcases List.mem_append.1 hd with hd|hd
  ·exact h3 d hd e
  ·have:=hlt d hd _ e;omega
def Defs (m:Ghost) (B:Nat) (d0 ds:List Deferred):Prop:=∃new,ds=new++d0∧Marks m B new
theorem Defs.refl (m:Ghost) (B:Nat) (d:List Deferred):Defs m B d d:=⟨[],rfl,.nil⟩
theorem Defs.mono {m m':Ghost} (h:Gle m m') {B:Nat} {d0 ds:List Deferred} (k:Defs m B d0 ds):Defs m' B d0 ds:=let ⟨n,e,q⟩:=k;⟨n,e,q.mono h⟩
theorem Defs.trans {m m':Ghost} (h:Gle m m') {B B':Nat} {d0 d1 d2:List Deferred} (k:Defs m B d0 d1) (k':Defs m' B' d1 d2) (hle:B≤B') (hlt:∀D o,m D=some o→D<B'):Defs m' B d0 d2:=by
 obtain⟨n,rfl,q⟩:=k
 obtain⟨n',rfl,q'⟩:=k'
 refine⟨n'++n,by rw[List.append_assoc],q'.append (q.mono h) hle fun d hd D e=>?_⟩
 obtain⟨D',e',_,hm⟩:=q.at d hd
 rw[e] at e';injection e' with e';subst e'
 exact hlt _ _ hm
structure SimG (m0:GF) (w0:World) (m:Ghost) (s:St) (a:Act) (w:World):Prop where
 le:Gle m0.1 m
 grow:∀b o,m b=some o→m0.1 b=some o∨m0.2 b∨w0.heap.size≤b
 frame:∀b,b<w0.heap.size→¬ m0.2 b→w.heap[b]?=w0.heap[b]?
 own:∀x∈s.h,∀b,x.blk=some b→m0.2 b∨w0.heap.size≤b
 holds:Holds m w
 same:Same w0 w
 defers:Defs m w0.heap.size m0.3 a.defers
 size:a.tmps.size=s.n
 tmps:TRel m s.t a.tmps
 heap:HRel m s.h w
def Sim (m0:GF) (w0:World) (s:St) (a:Act) (w:World):Prop:=∃m,SimG m0 w0 m s a w
theorem get_eq {t:List (Nat × AV)} {i k:Nat} {v:AV}:get ((k,v)::t) i=if k=i then some v else get t i:=by
 simp only[get]
 by_cases h:k=i
 ·subst h;simp
 ·have:Nat.beq k i=false:=by
   cases hb:Nat.beq k i
   ·rfl
   ·exact absurd (Nat.eq_of_beq_eq_true hb) h
  rw[this,if_neg h];rfl
theorem TRel.mono {m m':Ghost} (h:Gle m m') {t:List (Nat × AV)} {a:Array Value} (k:TRel m t a):TRel m' t a:=fun i v e=>by
 obtain⟨u,h1,h2⟩:=k i v e
 exact⟨u,h1,h2.mono h⟩
theorem TRel.put {m:Ghost} {t:List (Nat × AV)} {a:Array Value} (k:TRel m t a) {d:Nat} (hd:d<a.size) {v:AV} {u:Value} (hv:Rel m v u):TRel m ((d,v)::t) (a.setIfInBounds d u):=by
 intro i x hx
 rw[get_eq] at hx
 by_cases h:d=i
 ·subst h
  rw[if_pos rfl] at hx
  injection hx with hx
  subst hx
  exact⟨u,by simp[hd],hv⟩
 ·rw[if_neg h] at hx
  obtain⟨y,h1,h2⟩:=k i x hx
  exact⟨y,by rw[Array.getElem?_setIfInBounds_ne h];exact h1,h2⟩
def St.put (s:St) (dst:Option Nat) (v:AV):St:=match dst with|some d=>{ s with t:=(d,v)::s.t }|none=>s
def fits (s:St) (dst:Option Nat):Bool:=match dst with|some d=>Nat.blt d s.n|none=>true
theorem SimG.put {m0:GF} {m:Ghost} {w0 w:World} {s:St} {a:Act} (h:SimG m0 w0 m s a w) {dst:Option Nat} (hf:fits s dst=true) {v:AV} {u:Value} (hv:Rel m v u):SimG m0 w0 m (s.put dst v) (a.put dst u) w:=by
 cases dst with
 | none=>exact h
 | some d=>
  have hd:d<a.tmps.size:=by rw[h.size];simpa[fits] using hf
  exact { h with size:=by simp[Act.put,St.put,h.size],tmps:=TRel.put h.tmps hd hv,own:=h.own }
theorem HRel.mono {m m':Ghost} (h:Gle m m') {hp:Heap} {w:World} (k:HRel m hp w) (hn:∀x∈hp,∀b,x.blk=some b→m' b=none):HRel m' hp w:=
 ⟨k.1,fun x hx=>⟨hn x hx,(k.2 x hx).2.mono h⟩⟩
theorem Holds.lt {m:Ghost} {w:World} (h:Holds m w) {b:Nat} {o:Obj} (k:m b=some o):b<w.heap.size:=(Array.getElem?_eq_some_iff.1 (h b o k)).1
theorem HRel.lt {m:Ghost} {hp:Heap} {w:World} (h:HRel m hp w) {x:OE} (k:x∈hp) {b:Nat} (hb:x.blk=some b):b<w.heap.size:=(h.2 x k).2.lt hb
/-! ### What a call promises, and a piece of code -/
structure Kept (m:Ghost) (h:Heap) (w:World) (m':Ghost) (h':Heap) (w':World):Prop where
 grow:∀b o,m' b=some o→m b=some o∨(∃y∈h,y.blk=some b)∨w.heap.size≤b
 frame:∀b,b<w.heap.size→(¬ ∃y∈h,y.blk=some b)→w'.heap[b]?=w.heap[b]?
 own:∀x∈h',∀b,x.blk=some b→(∃y∈h,y.blk=some b)∨w.heap.size≤b
def ACalls (P:Program) (f:FuncId) (args:List AV) (h:Heap) (Q:AV→Heap→Prop):Prop:=
 ∀(m:Ghost) (w:World) (vs:List Value),Holds m w→RelL m args vs→HRel m h w →
  Calls P f vs.toArray w fun e w'=>∃m' v r h',e=.returned v∧Gle m m'∧Holds m' w'∧Same w w'∧Rel m' r v∧HRel m' h' w'∧Kept m h w m' h' w'∧Q r h'
theorem ACalls.mono {P:Program} {f:FuncId} {args:List AV} {h:Heap} {Q Q':AV→Heap→Prop} (k:ACalls P f args h Q) (hq:∀r h',Q r h'→Q' r h'):ACalls P f args h Q':=
 fun m w vs h1 h2 h3=>(k m w vs h1 h2 h3).mono fun e w' ⟨m',v,r,h',g1,g2,g3,g4,g5,g6,g7,g8⟩=>⟨m',v,r,h',g1,g2,g3,g4,g5,g6,g7,hq _ _ g8⟩
def FR (ro:Option Nat):Fence:={ Fence.wide with round:=ro }
theorem calls_fr {ro:Option Nat} {n:Nat} {P:Program} {f:FuncId} {args:Array Value} {w:World} {R:Ending→World→Prop} (h:Calls P f args w R):CallsIn (FR ro) n P f args w R:=by
 have h1:CallsIn Fence.wide n P f args w R:=callsIn_wide.2 h
 cases ro with
 | none=>exact h1
 | some l=>exact CallsIn.inRound l h1
theorem rows_fr {ro:Option Nat} {n:Nat} {P:Program} {row:String} {args:Array Value} {w:World} {R:Value→World→Prop} (h:Rows P row args w R):RowsIn (FR ro) n P row args w R:=by
 intro c cs _
 obtain⟨v,w',r,s⟩:=h c cs
 refine⟨v,w',r,?_⟩
 have:=(stepsIn_wide (P:=P)).2 s
 cases ro<;>exact this
def noDefer:Op→Bool
 | .defer _=>false
 | _=>true
theorem wpIn_of_wp {ro:Option Nat} {n:Nat} {P:Program} {o:Oper} {a:Act} {w:World} {K:Act→World→Prop} {Q:Exit→Act→World→Prop} (hd:noDefer o.op=true) (h:o.wp P a w K Q):o.wpIn (FR ro) n P a w K Q:=by
 unfold Oper.wpIn
 refine⟨fun _ _=>trivial,?_⟩
 have e:(o.semAt (FR ro).round a.eval)=execOp a.eval o:=Oper.semAt_eq _ _ _ fun c hc=>by rw[hc] at hd;cases hd
 rw[e]
 unfold Oper.wp at h
 generalize (execOp a.eval o).run P w=r at h ⊢
 cases r with
 | ok x w'=>
  cases x<;>simp only[Oper.upon,Oper.uponIn] at h ⊢<;>first
   | exact h
   | exact⟨fun q=>(by cases q),calls_fr h⟩
   | exact⟨fun q=>(by cases q),rows_fr h⟩
 | halt x w'=>cases x<;>simp only[Oper.upon,Oper.uponIn] at h ⊢<;>exact h
def W (ro:Option Nat) (P:Program) (c:Code) (Q:Exit→St→Prop) (s:St):Prop:=
 ∀m0 w0 a w,Sim m0 w0 s a w→c.wpIn (FR ro) 1 P (fun e a' w'=>∃s',Q e s'∧Sim m0 w0 s' a' w') a w
def Step (P:Program) (o:Oper) (s:St) (K:St→Prop):Prop:=
 ∀m0 w0 a w,Sim m0 w0 s a w→∀Q,o.wp P a w (fun a' w'=>∃s',K s'∧Sim m0 w0 s' a' w') Q
def Agr (h:Heap) (w0 w:World):Prop:=∀x∈h,∀b,x.blk=some b→w.heap[b]?=w0.heap[b]?
def Pur (P:Program) (o:Oper) (t:List (Nat × AV)) (h:Heap) (v:AV):Prop:=
 ∀(m:Ghost) (a:Act) (w0:World),TRel m t a.tmps→Holds m w0→HRel m h w0→∃u,Rel m v u∧∀w,Holds m w→Agr h w0 w→(execOp a.eval o).run P w=.ok (.value u) w
def PurV (P:Program) (o:Oper) (t:List (Nat × AV)) (h:Heap) (v:AV):Prop:=
 ∀(m:Ghost) (a:Act) (w0:World),TRel m t a.tmps→Holds m w0→HRel m h w0→∃u,Rel m v u∧∀w,(execOp a.eval o).run P w=.ok (.value u) w
theorem PurV.pur {P:Program} {o:Oper} {t:List (Nat × AV)} {h:Heap} {v:AV} (k:PurV P o t h v):Pur P o t h v:=fun m a w0 h1 h2 h3=>
 let ⟨u,g1,g2⟩:=k m a w0 h1 h2 h3;⟨u,g1,fun w _ _=>g2 w⟩
def RL (ro:Option Nat) (P:Program) (ops:Array Oper) (rest:List Oper) (s:St) (K:St→Prop):Prop:=
 ∀i,ops.toList.drop i=rest→∀m0 w0 a w,Sim m0 w0 s a w→∀Q:Exit→Act→World→Prop,(∀a' w' s',K s'→Sim m0 w0 s' a' w'→Q .normal a' w')→wpOpsIn (FR ro) 1 P ops Q (List.range' i rest.length) a w
section
variable {ro:Option Nat} {P:Program} {ops:Array Oper} {o:Oper} {rest:List Oper} {s:St} {K:St→Prop} {Q:Exit→St→Prop}
theorem step_pur {v:AV} (h:Pur P o s.t s.h v) (hf:fits s o.dst=true) (k:K (s.put o.dst v)):Step P o s K:=by
 intro m0 w0 a w ⟨m,hs⟩ Q
 obtain⟨u,hu,hr⟩:=h m a w hs.tmps hs.holds hs.heap
 unfold Oper.wp
 rw[hr w hs.holds (fun _ _ _ _=>rfl)]
 exact⟨_,k,m,hs.put hf hu⟩
theorem step_v {v:AV} (h:PurV P o s.t s.h v) (hf:fits s o.dst=true) (k:K (s.put o.dst v)):Step P o s K:=step_pur h.pur hf k
theorem RL.nil (h:K s):RL ro P ops [] s K:=fun i _ m0 w0 a w hs Q hQ=>hQ _ _ _ h hs
theorem drop_cons {α:Type} {l rest:List α} {i:Nat} {x:α} (h:l.drop i=x::rest):l[i]?=some x∧l.drop (i+1)=rest:=by
 constructor
 ·have:=congrArg List.head? h
  simpa[List.head?_drop] using this
 ·have:=congrArg List.tail h
  simpa[List.tail_drop] using this
theorem RL.cons (hg:o.guard=none) (h:Step P o s (fun s'=>RL ro P ops rest s' K)) (hnd:noDefer o.op=true:=by rfl):RL ro P ops (o::rest) s K:=by
 intro i hi m0 w0 a w hs Q hQ
 obtain⟨h1,h2⟩:=drop_cons hi
 have h1':ops[i]?=some o:=by simpa using h1
 rw[List.length_cons,List.range'_succ,wpOpsIn_cons]
 unfold wpOpIn
 simp only[h1']
 rw[if_pos (by simp[Region.wanted,hg])]
 exact wpIn_of_wp hnd (Oper.wp_mono (fun a' w' ⟨s',hk,hs'⟩=>hk _ h2 _ _ _ _ hs' Q hQ) (h m0 w0 a w hs Q))
theorem RL.guarded {j:Nat} {want b:Bool} {d:Nat} (hg:o.guard=some (j,want)) (hj:(ops[j]?).bind (·.dst)=some d) (hd:get s.t d=some (.val (.bool b)))
  (h1:b=want→Step P o s (fun s'=>RL ro P ops rest s' K)) (hf:fits s o.dst=true) (h2:b≠want→RL ro P ops rest (s.put o.dst (.tup [])) K) (hnd:noDefer o.op=true:=by rfl):RL ro P ops (o::rest) s K:=by
 intro i hi m0 w0 a w hs Q hQ
 obtain⟨e1,e2⟩:=drop_cons hi
 have h1':ops[i]?=some o:=by simpa using e1
 rw[List.length_cons,List.range'_succ,wpOpsIn_cons]
 have hy:yielded ops a.tmps j=some b:=by
  obtain⟨m,hm⟩:=hs
  obtain⟨u,g1,g2⟩:=hm.tmps d _ hd
  simp only[Rel] at g2
  obtain⟨rfl,_⟩:=g2
  simp[yielded,hj,g1]
 unfold wpOpIn
 simp only[h1']
 by_cases hb:b=want
 ·rw[if_pos (by simp[Region.wanted,hg,hy,hb])]
  exact wpIn_of_wp hnd (Oper.wp_mono (fun a' w' ⟨s',hk,hs'⟩=>hk _ e2 _ _ _ _ hs' Q hQ) (h1 hb m0 w0 a w hs Q))
 ·rw[if_neg (by simp[Region.wanted,hg,hy,hb])]
  obtain⟨m,hm⟩:=hs
  exact⟨fun _ _=>trivial,h2 hb _ e2 _ _ _ _ ⟨m,hm.put hf rel_undef⟩ Q hQ⟩
def Then (K:St→Prop) (Q:Exit→St→Prop):Exit→St→Prop
 | .normal,s=>K s
 | e,s=>Q e s
theorem W.region {id:Nat} (h:RL ro P ops ops.toList s (Q .normal)):W ro P (.region id ops false) Q s:=by
 intro m0 w0 a w hs
 refine wpIn_region ?_
 have:=h 0 (by simp) m0 w0 a w hs (fun e a' w'=>∃s',Q e s'∧Sim m0 w0 s' a' w') (fun a' w' s' h1 h2=>⟨s',h1,h2⟩)
 simpa[List.range_eq_range'] using this
theorem W.seq {x y:Code} (h:W ro P x (Then (W ro P y Q) Q) s):W ro P (.seq x y) Q s:=by
 intro m0 w0 a w hs
 refine wpIn_seq (wpIn_mono (h m0 w0 a w hs) fun e a' w' ⟨s',h1,h2⟩=>?_)
 cases e<;>first|exact h1 m0 w0 a' w' h2|exact⟨s',h1,h2⟩
theorem W.skip (h:Q .normal s):W ro P .skip Q s:=fun m0 w0 a w hs=>wpIn_skip ⟨s,h,hs⟩
theorem W.label {l:Nat} (h:Q .normal s):W ro P (.label l) Q s:=fun m0 w0 a w hs=>wpIn_label ⟨s,h,hs⟩
theorem W.exit {id:Nat} (h:Q (.exit id) s):W ro P (.exit id) Q s:=fun m0 w0 a w hs=>wpIn_exit ⟨s,h,hs⟩
theorem W.ret (h:Q .ret s):W ro P .ret Q s:=fun m0 w0 a w hs=>wpIn_ret ⟨s,h,hs⟩
def evalA (t:List (Nat × AV)):Operand→Option AV
 | .tmp i=>get t i
 | .const (.agg cs)=>if cs.all (·.oneCell') then some (.agg (cs.toList.map .val)) else none
 | .const (.tuple _)=>none
 | .const v=>some (.val v)
 | .global g=>some (.val (.pointer (some ⟨g,0,none⟩)))
 | .func f=>some (.val (.func (.func f) #[] #[]))
theorem TRel.eval {m:Ghost} {t:List (Nat × AV)} {a:Act} (h:TRel m t a.tmps) {x:Operand} {v:AV} (hx:evalA t x=some v):Rel m v (a.eval x):=by
 cases x with
 | tmp i=>
  obtain⟨u,h1,h2⟩:=h i v hx
  simpa[Act.eval,h1] using h2
 | const u=>
  cases u
  case agg cs=>
   simp only[evalA] at hx
   split at hx
   ·rename_i hc
    injection hx with hx;subst hx
    simp only[Rel,Act.eval]
    exact⟨cs,rfl,relL_vals m _ fun c hc'=>by simpa using (Array.all_eq_true_iff_forall_mem.1 hc) c (by simpa using hc')⟩
   ·cases hx
  case tuple cs=>simp[evalA] at hx
  all_goals simp only[evalA] at hx;injection hx with hx;subst hx;exact rel_val rfl
 | global g=>simp only[evalA] at hx;injection hx with hx;subst hx;exact rel_val rfl
 | func f=>simp only[evalA] at hx;injection hx with hx;subst hx;exact rel_val rfl
theorem W.cond {c:Operand} {x y:Code} {b:Bool} (hc:evalA s.t c=some (.val (.bool b))) (h1:b=true→W ro P x Q s) (h2:b=false→W ro P y Q s):W ro P (.cond c x y) Q s:=by
 intro m0 w0 a w hs
 have he:a.eval c=.bool b:=by
  obtain⟨m,hm⟩:=hs
  have:=hm.tmps.eval hc
  simp only[Rel] at this
  exact this.1
 exact wpIn_cond_split he (fun hb=>h1 hb m0 w0 a w hs) (fun hb=>h2 hb m0 w0 a w hs)
def InBlock (id:Nat) (Q:Exit→St→Prop):Exit→St→Prop
 | .exit i,s=>if i=id then Q .normal s else Q (.exit i) s
 | e,s=>Q e s
theorem W.block {id:Nat} {c:Code} (h:W ro P c (InBlock id Q) s):W ro P (.block id c) Q s:=by
 intro m0 w0 a w hs
 refine wpIn_block (wpIn_mono (h m0 w0 a w hs) fun e a' w' ⟨s',h1,h2⟩=>?_)
 cases e with
 | exit i=>
  simp only[Exit.inBlock,InBlock] at *
  split<;>rename_i hi
  ·rw[if_pos hi] at h1;exact⟨s',h1,h2⟩
  ·rw[if_neg hi] at h1;exact⟨s',h1,h2⟩
 | _=>exact⟨s',h1,h2⟩
/-! ### Less is known -/
theorem entries_perm {m:Ghost} {a b:List (Value × AV)} (h:a.Perm b):∀{es:List MapEntry},es.map (·.key)=a.map (·.1)→RelL m (a.map (·.2)) (es.map (·.val)) →
  ∃es':List MapEntry,es'.Perm es∧es'.map (·.key)=b.map (·.1)∧RelL m (b.map (·.2)) (es'.map (·.val)):=by
 induction h with
 | nil=>intro es h1 h2;exact⟨es,.refl _,h1,h2⟩
 | @cons x l1 l2 _ ih=>
  intro es h1 h2
  cases es with
  | nil=>simp at h1
  | cons e es=>
   simp only[List.map_cons,List.cons.injEq] at h1
   simp only[List.map_cons,RelL] at h2
   obtain⟨c,r,e1,h3,h4⟩:=h2
   injection e1 with e1 e2
   subst e1;subst e2
   obtain⟨es',k1,k2,k3⟩:=ih h1.2 h4
   exact⟨e::es',k1.cons _,by simp[k2,h1.1],by simp only[List.map_cons,RelL];exact⟨_,_,rfl,h3,k3⟩⟩
 | swap x y l=>
  intro es h1 h2
  match es,h1,h2 with
  | [],h1,h2=>simp at h1
  | [_],h1,h2=>simp at h1
  | e::f::es,h1,h2=>
   simp only[List.map_cons,List.cons.injEq] at h1
   simp only[List.map_cons,RelL] at h2
   obtain⟨c,r,e1,h3,c2,r2,e2,h4,h5⟩:=h2
   injection e1 with e1 e3
   subst e1
   rw[e2] at e3
   injection e3 with e4 e5
   subst e4;subst e5
   exact⟨f::e::es,List.Perm.swap _ _ _,by simp[h1.1,h1.2.1,h1.2.2],by simp only[List.map_cons,RelL];exact⟨_,_,rfl,h4,_,_,rfl,h3,h5⟩⟩
 | trans _ _ ih1 ih2=>
  intro es h1 h2
  obtain⟨es1,k1,k2,k3⟩:=ih1 h1 h2
  obtain⟨es2,q1,q2,q3⟩:=ih2 k2 k3
  exact⟨es2,q1.trans k1,q2,q3⟩
theorem MapOk.perm {es:List MapEntry} {clk:Nat} {es' es2:List MapEntry} (h:MapOk es clk es') (k:es2.Perm es'):MapOk es clk es2:=⟨k.trans h.1,h.2⟩
inductive Wk:AV→AV→Prop
 | refl (x:AV):Wk x x
 | nilr (k:Nat):Wk (.val (.slice none 0 0)) (.ro k [])
 | nilm:Wk (.val (.map none)) (.mro [] [])
 | mapp {a b:List (Value × AV)} (h:a.Perm b):Wk (.mro (a.map (·.1)) (a.map (·.2))) (.mro (b.map (·.1)) (b.map (·.2)))
 | aggn:Wk (.agg []) (.agg [])
 | aggc {x y:AV} {r q:List AV} (h:Wk x y) (hr:Wk (.agg r) (.agg q)):Wk (.agg (x::r)) (.agg (y::q))
 | tupn:Wk (.tup []) (.tup [])
 | tupc {x y:AV} {r q:List AV} (h:Wk x y) (hr:Wk (.tup r) (.tup q)):Wk (.tup (x::r)) (.tup (y::q))
theorem Wk.rel {x y:AV} (h:Wk x y) {m:Ghost}:∀{u},Rel m x u→Rel m y u:=by
 induction h with
 | refl=>exact fun h=>h
 | nilr k=>intro u h;simp only[Rel] at h ⊢;obtain⟨rfl,_⟩:=h;exact⟨none,0,rfl,Nat.le_refl _,Nat.zero_le _,fun _=>rfl,fun h=>absurd rfl h⟩
 | nilm=>intro u h;simp only[Rel] at h ⊢;obtain⟨rfl,_⟩:=h;exact⟨none,rfl,.inl (by simp)⟩
 | @mapp a b hp=>
  intro u h
  simp only[Rel] at h ⊢
  obtain⟨r,rfl,h⟩:=h
  refine⟨r,rfl,?_⟩
  rcases h with ⟨h1,h2,_⟩|⟨g,es,clk,es',k1,k2,k3,k4,k5⟩
  ·have:a=[]:=by simpa using h2
   subst this
   have:=hp.nil_eq
   subst this
   exact .inl ⟨h1,by simp⟩
  ·obtain⟨es2,q1,q2,q3⟩:=entries_perm hp k4 k5
   exact .inr ⟨g,es,clk,es2,k1,k2,k3.perm q1,q2,q3⟩
 | aggn=>exact fun h=>h
 | tupn=>exact fun h=>h
 | aggc h hr ih1 ih2=>
  intro u k
  simp only[Rel] at k
  obtain⟨cs,rfl,k⟩:=k
  obtain⟨c,r,e,k1,k2⟩:=(by simpa only[RelL] using k)
  have:=ih2 (u:=.agg r.toArray) (by simp only[Rel];exact⟨_,rfl,k2⟩)
  simp only[Rel] at this ⊢
  obtain⟨cs',e',k3⟩:=this
  injection e' with e'
  refine⟨cs,rfl,?_⟩
  rw[e]
  simp only[RelL]
  exact⟨c,r,rfl,ih1 k1,by rw[←e'] at k3;exact k3⟩
 | tupc h hr ih1 ih2=>
  intro u k
  simp only[Rel] at k
  obtain⟨cs,rfl,k⟩:=k
  obtain⟨c,r,e,k1,k2⟩:=(by simpa only[RelL] using k)
  have:=ih2 (u:=.tuple r.toArray) (by simp only[Rel];exact⟨_,rfl,k2⟩)
  simp only[Rel] at this ⊢
  obtain⟨cs',e',k3⟩:=this
  injection e' with e'
  refine⟨cs,rfl,?_⟩
  rw[e]
  simp only[RelL]
  exact⟨c,r,rfl,ih1 k1,by rw[←e'] at k3;exact k3⟩
theorem Wk.relL {l l':List AV} (h:Wk (.agg l) (.agg l')) {m:Ghost} {cs:List Value} (k:RelL m l cs):RelL m l' cs:=by
 have:=h.rel (u:=.agg cs.toArray) (by simp only[Rel];exact⟨_,rfl,k⟩)
 simp only[Rel] at this
 obtain⟨cs',e,k'⟩:=this
 injection e with e
 rw[←e] at k';exact k'
theorem ACalls.args {P:Program} {f:FuncId} {vs vs':List AV} {h:Heap} {Q:AV→Heap→Prop} (hw:Wk (.agg vs) (.agg vs')) (k:ACalls P f vs' h Q):ACalls P f vs h Q:=
 fun m w us h1 h2 h3=>k m w us h1 (hw.relL h2) h3
theorem ACalls.wk {P:Program} {f:FuncId} {args:List AV} {h:Heap} {Q Q':AV→Heap→Prop} (k:ACalls P f args h Q) (hq:∀r h',Q r h'→∃r',Wk r r'∧Q' r' h'):ACalls P f args h Q':=
 fun m w vs h1 h2 h3=>(k m w vs h1 h2 h3).mono fun e w' ⟨m',v,r,h',g1,g2,g3,g4,g5,g6,g7,g8⟩=>by
  obtain⟨r',q1,q2⟩:=hq _ _ g8
  exact⟨m',v,r',h',g1,g2,g3,g4,q1.rel g5,g6,g7,q2⟩
inductive LeT (t:List (Nat × AV)):List (Nat × AV)→Prop
 | nil:LeT t []
 | cons {i:Nat} {v:AV} {r:List (Nat × AV)} (h:get t i=some v) (hr:LeT t r):LeT t ((i,v)::r)
 | consw {i:Nat} {v v':AV} {r:List (Nat × AV)} (h:get t i=some v) (hw:Wk v v') (hr:LeT t r):LeT t ((i,v')::r)
 | refl:LeT t t
inductive Tk:Heap→OE→Heap→Prop
 | here {x:OE} {r:Heap}:Tk (x::r) x r
 | there {x y:OE} {r r':Heap} (h:Tk r x r'):Tk (y::r) x (y::r')
theorem tkG (hf:False) {x:OE} {r:Heap}:Tk [] x r:=hf.elim
inductive LeH:Heap→Heap→Prop
 | refl (h:Heap):LeH h h
 | nil (h:Heap):LeH h []
 | skip {x:OE} {h h':Heap} (k:LeH h h'):LeH (x::h) h'
 | cons {x:OE} {h r h':Heap} (t:Tk h x r) (k:LeH r h'):LeH h (x::h')
 | boxw {b ty:Nat} {l l':List AV} {h r h':Heap} (t:Tk h (.box b l ty) r) (hw:Wk (.agg l) (.agg l')) (k:LeH r h'):LeH h (.box b l' ty::h')
 | mapp {b:Nat} {x y:List (Value × AV)} {h r h':Heap} (t:Tk h (.mp b (x.map (·.1)) (x.map (·.2))) r) (hp:x.Perm y) (k:LeH r h'):LeH h (.mp b (y.map (·.1)) (y.map (·.2))::h')
theorem Tk.perm {h r:Heap} {x:OE} (t:Tk h x r):(x::r).Perm h:=by
 induction t with
 | here=>exact .refl _
 | there _ ih=>exact (List.Perm.swap _ _ _).trans (ih.cons _)
theorem LeT.spec {t r:List (Nat × AV)} (h:LeT t r):∀i v,get r i=some v→∃u,get t i=some u∧Wk u v:=by
 induction h with
 | nil=>intro i v h;cases h
 | @cons k x r h _ ih=>
  intro i v hv
  rw[get_eq] at hv
  by_cases hk:k=i
  ·subst hk
   rw[if_pos rfl] at hv
   injection hv with hv
   subst hv
   exact⟨_,h,.refl _⟩
  ·rw[if_neg hk] at hv
   exact ih i v hv
 | @consw k x y r h hw _ ih=>
  intro i v hv
  rw[get_eq] at hv
  by_cases hk:k=i
  ·subst hk
   rw[if_pos rfl] at hv
   injection hv with hv
   subst hv
   exact⟨_,h,hw⟩
  ·rw[if_neg hk] at hv
   exact ih i v hv
 | refl=>exact fun i v h=>⟨v,h,.refl _⟩
theorem HRel.sub {m:Ghost} {h h':Heap} {w:World} (k:HRel m h w) (hs:h'.Sublist h):HRel m h' w:=
 ⟨(hs.filterMap _).nodup k.1,fun x hx=>k.2 x (hs.subset hx)⟩
theorem HRel.perm {m:Ghost} {h h':Heap} {w:World} (k:HRel m h w) (hs:h'.Perm h):HRel m h' w:=
 ⟨(hs.filterMap _).nodup_iff.2 k.1,fun x hx=>k.2 x (hs.subset hx)⟩
theorem LeH.mem {h h':Heap} (hl:LeH h h'):∀{x:OE},x∈h'→∃y∈h,y.blk=x.blk:=by
 induction hl with
 | refl=>exact fun {x} hx=>⟨x,hx,rfl⟩
 | nil=>intro x hx;simp at hx
 | skip _ ih=>intro x hx;obtain⟨y,h1,h2⟩:=ih hx;exact⟨y,.tail _ h1,h2⟩
 | cons t _ ih=>
  intro x hx
  rcases List.mem_cons.1 hx with rfl|hx
  ·exact⟨_,t.perm.subset (.head _),rfl⟩
  ·obtain⟨y,h1,h2⟩:=ih hx;exact⟨y,t.perm.subset (.tail _ h1),h2⟩
 | boxw t _ _ ih=>
  intro x hx
  rcases List.mem_cons.1 hx with rfl|hx
  ·exact⟨_,t.perm.subset (.head _),rfl⟩
  ·obtain⟨y,h1,h2⟩:=ih hx;exact⟨y,t.perm.subset (.tail _ h1),h2⟩
 | mapp t _ _ ih=>
  intro x hx
  rcases List.mem_cons.1 hx with rfl|hx
  ·exact⟨_,t.perm.subset (.head _),rfl⟩
  ·obtain⟨y,h1,h2⟩:=ih hx;exact⟨y,t.perm.subset (.tail _ h1),h2⟩
theorem HRel.tail {m:Ghost} {x:OE} {h:Heap} {w:World} (k:HRel m (x::h) w):HRel m h w:=
 ⟨((List.sublist_cons_self x h).filterMap _).nodup k.1,fun y hy=>k.2 y (.tail _ hy)⟩
theorem HRel.put {m:Ghost} {x y:OE} {h h':Heap} {w:World} (k:HRel m (x::h) w) (k':HRel m h' w) (hb:y.blk=x.blk) (hy:(∀b,y.blk=some b→m b=none)∧OERel m w y) (hm:∀{z:OE},z∈h'→∃z'∈h,z'.blk=z.blk):HRel m (y::h') w:=by
 refine⟨?_,fun z hz=>?_⟩
 ·cases e:y.blk with
  | none=>rw[List.filterMap_cons_none e];exact k'.1
  | some b=>
   rw[List.filterMap_cons_some e,List.nodup_cons]
   refine⟨fun hmem=>?_,k'.1⟩
   obtain⟨z,hz,e2⟩:=List.mem_filterMap.1 hmem
   obtain⟨z',h1,h2⟩:=hm hz
   have h3:=k.1
   rw[List.filterMap_cons_some (hb.symm.trans e),List.nodup_cons] at h3
   exact h3.1 (List.mem_filterMap.2 ⟨z',h1,h2.trans e2⟩)
 ·rcases List.mem_cons.1 hz with rfl|hz
  ·exact hy
  ·exact k'.2 z hz
theorem LeH.hrel {m:Ghost} {h h':Heap} {w:World} (k:HRel m h w) (hl:LeH h h'):HRel m h' w:=by
 induction hl with
 | refl=>exact k
 | nil=>exact⟨by simp,fun x hx=>by simp at hx⟩
 | skip _ ih=>exact ih k.tail
 | cons t l ih=>
  have k1:=k.perm t.perm
  exact k1.put (ih k1.tail) rfl (k1.2 _ (.head _)) l.mem
 | boxw t hw l ih=>
  have k1:=k.perm t.perm
  refine k1.put (ih k1.tail) rfl ⟨(k1.2 _ (.head _)).1,?_⟩ l.mem
  have:=(k1.2 _ (.head _)).2
  simp only[OERel] at this ⊢
  obtain⟨cs,q1,q2⟩:=this
  exact⟨cs,q1,hw.relL q2⟩
 | mapp t hp l ih=>
  have k1:=k.perm t.perm
  refine k1.put (ih k1.tail) rfl ⟨(k1.2 _ (.head _)).1,?_⟩ l.mem
  have:=(k1.2 _ (.head _)).2
  simp only[OERel] at this ⊢
  obtain⟨es,clk,es',q0,q1,q2,q3⟩:=this
  obtain⟨es2,r1,r2,r3⟩:=entries_perm hp q2 q3
  exact⟨es,clk,es2,q0,q1.perm r1,r2,r3⟩
structure Le (s s':St):Prop where
 n:s'.n=s.n
 t:LeT s.t s'.t
 h:LeH s.h s'.h
theorem Sim.le {m0:GF} {w0:World} {s':St} {a:Act} {w:World} (h:Sim m0 w0 s a w) (k:Le s s'):Sim m0 w0 s' a w:=by
 obtain⟨m,hm⟩:=h
 exact⟨m,{ hm with size:=hm.size.trans k.n.symm,tmps:=fun i v e=>by obtain⟨u,e1,e2⟩:=k.t.spec i v e;obtain⟨c,q1,q2⟩:=hm.tmps i u e1;exact⟨c,q1,e2.rel q2⟩,heap:=k.h.hrel hm.heap,own:=fun x hx b hb=>by obtain⟨y,h1,h2⟩:=k.h.mem hx;exact hm.own y h1 b (h2.trans hb) }⟩
theorem W.le {c:Code} {s':St} (k:Le s s') (h:W ro P c Q s'):W ro P c Q s:=fun m0 w0 a w hs=>h m0 w0 a w (hs.le k)
/-! ### Loops -/
theorem W.loop {X:Type} {c:Code} (J:X→St) (Φ:X→Prop) (μ:X→Nat) (x0:X) (h0:Le s (J x0)) (h1:Φ x0)
  (round:∀x,Φ x→W ro P c (Then (fun s'=>∃x',Φ x'∧Le s' (J x')∧μ x'<μ x) Q) (J x)):W ro P (.loop c) Q s:=by
 intro m0 w0 a w hs b k cs hro hb hr
 have key:∀n x a w,μ x=n→Φ x→Sim m0 w0 (J x) a w →
   ∃e a' w',(∃s',Q e s'∧Sim m0 w0 s' a' w')∧ArrivesIn (Machine.fenced P (FR ro)) P (lone (b.atR a (.code c::.inLoop c::k)) cs w) b k cs e a' w':=by
  intro n
  induction n using Nat.strongRecOn with
  | _ n ih=>
   intro x a w hn hx hI
   obtain⟨e,a₁,w₁,⟨s₁,hq,hs₁⟩,harr⟩:=round x hx m0 w0 a w hI b (.inLoop c::k) cs hro hb hr
   cases e with
   | normal=>
    obtain⟨x',hx',hle,hlt⟩:=hq
    obtain⟨e₂,a₂,w₂,hq₂,harr₂⟩:=ih (μ x') (hn ▸ hlt) x' a₁ w₁ rfl hx' (hs₁.le hle)
    exact⟨e₂,a₂,w₂,hq₂,.of_steps (StepsIn.trans harr (.one (fenced_calm hb hr rfl) stepR_inLoop)) harr₂⟩
   | exit id=>exact⟨_,a₁,w₁,⟨s₁,hq,hs₁⟩,.pass (x:=.inLoop c) rfl (fun _ _=>.inl (by simp)) harr⟩
   | goto l=>exact⟨_,a₁,w₁,⟨s₁,hq,hs₁⟩,.pass (x:=.inLoop c) rfl (fun _ _=>.inl (by simp)) harr⟩
   | ret=>exact⟨_,a₁,w₁,⟨s₁,hq,hs₁⟩,.pass (x:=.inLoop c) rfl (fun _ _=>.inl (by simp)) harr⟩
   | panic ch=>exact⟨_,a₁,w₁,⟨s₁,hq,hs₁⟩,.pass (x:=.inLoop c) rfl (fun _ _=>.inl (by simp)) harr⟩
   | outgrown=>exact⟨_,a₁,w₁,⟨s₁,hq,hs₁⟩,.pass (x:=.inLoop c) rfl (fun _ _=>.inl (by simp)) harr⟩
 obtain⟨e,a',w',hq,harr⟩:=key _ x0 a w rfl h1 (hs.le h0)
 exact⟨e,a',w',hq,.of_steps (.one (fenced_calm hb hr rfl) stepR_loop) harr⟩
end
end Go.VM
namespace Go.VM
open Go
set_option linter.unusedVariables false
set_option linter.unusedSimpArgs false
/-! ### The program's types, asked by the kernel -/
def valQ (P:Program) (t:Nat):Option (Bool × Nat):=
 match P.underlying t,P.info? t with
 | some (.struct _),some i=>some (true,i.size)
 | some (.array _ _),some i=>some (true,i.size)
 | some _,some i=>if i.size=1 then some (false,1) else none
 | _,_=>none
def fldQ (P:Program) (t i:Nat):Option (Nat × Nat × Bool):=
 match P.underlying t with
 | some (.struct fs)=>
  match fs[i]? with
  | some f=>match valQ P f.type with
   | some (g,n)=>if n=0 then none else some (f.offset,n,g)
   | none=>none
  | none=>none
 | _=>none
def zeroQ (P:Program) (t:Nat):Option (List AV):=
 match P.info? t with
 | some i=>match i.zero with
  | some z=>if z.cells.size=i.size∧z.cells.all (·.oneCell')=true then some (z.cells.toList.map .val) else none
  | none=>none
 | none=>none
def elemQ (P:Program) (t:Nat):Option (Nat × Nat × Nat × Bool):=
 match P.underlying t with
 | some (.slice e)=>
  match P.info? e,valQ P e with
  | some i,some (g,n)=>match i.zero with
   | some z=>if z.cells.size=i.size∧0<i.size then some (e,i.size,i.bytes,g) else none
   | none=>none
  | _,_=>none
 | _=>none
class TVal (P:Program) (t:Nat) (g:outParam Bool) (n:outParam Nat):Prop where h:valQ P t=some (g,n)
class TFld (P:Program) (t i:Nat) (off n:outParam Nat) (g:outParam Bool):Prop where h:fldQ P t i=some (off,n,g)
class TZero (P:Program) (t:Nat) (z:outParam (List AV)):Prop where h:zeroQ P t=some z
class TElem (P:Program) (t:Nat) (e k by_:outParam Nat) (g:outParam Bool):Prop where h:elemQ P t=some (e,k,by_,g)
class TInt (P:Program) (t:Nat) (k:outParam IntKind):Prop where h:P.underlying t=some (.int k)
class TStr (P:Program) (t:Nat):Prop where h:P.underlying t=some .string
class TArr (P:Program) (t:Nat) (n e k:outParam Nat) (g:outParam Bool):Prop where
 h:P.underlying t=some (.array n e)
 v:valQ P e=some (g,k)
section
variable {ro:Option Nat} {P:Program} {t:Nat}
theorem valQ_spec {g:Bool} {n:Nat} (h:valQ P t=some (g,n)):(∃d,P.underlying t=some d∧(match d with|.struct _|.array _ _=>true|_=>false)=g)∧(∃i,P.info? t=some i∧i.size=n)∧(g=false→n=1):=by
 unfold valQ at h
 split at h
 ·rename_i fs i hu hi
  injection h with h;injection h with h1 h2
  subst h1;subst h2
  exact⟨⟨_,hu,rfl⟩,⟨i,hi,rfl⟩,fun h=>by cases h⟩
 ·rename_i fs i hu hi
  injection h with h;injection h with h1 h2
  subst h1;subst h2
  exact⟨⟨_,hu,rfl⟩,⟨i,hi,rfl⟩,fun h=>by cases h⟩
 ·rename_i d i hns hna hu hi
  split at h
  ·rename_i hs
   injection h with h;injection h with h1 h2
   subst h1;subst h2
   refine⟨⟨d,hu,?_⟩,⟨i,hi,hs⟩,fun _=>rfl⟩
   cases d<;>first|rfl|(exfalso;first|exact hns _ rfl|exact hna _ _ rfl)
  ·cases h
 ·cases h
theorem run_isAgg {g:Bool} {n:Nat} (h:valQ P t=some (g,n)) (w:World):(isAgg t).run P w=.ok g w:=by
 obtain⟨⟨d,hd,hg⟩,_⟩:=valQ_spec h
 unfold isAgg
 simp only[Sem.run_bind,run_underlying hd,Result.andThen_ok]
 subst hg
 cases d<;>rfl
theorem run_sizeOf {g:Bool} {n:Nat} (h:valQ P t=some (g,n)) (w:World):(sizeOf t).run P w=.ok n w:=by
 obtain⟨_,⟨i,hi,hs⟩,_⟩:=valQ_spec h
 simp[sizeOf,typeInfo,hi,hs]
def mk (g:Bool) (ys:List Value):Value:=match g,ys with
 | true,ys=>.agg ys.toArray
 | false,y::_=>y
 | false,[]=>undef
theorem add_mk' (b off i:Nat):(⟨b,off,none⟩:Addr).add i=⟨b,off+i,none⟩:=by unfold Addr.add;split<;>simp_all
theorem cell_of {w:World} {b off:Nat} {cs:Array Value} {e:Nat} {fr:Nat × Nat} (hb:w.heap[b]?=some (.cells cs e fr)):w.cell? ⟨b,off,none⟩=cs[off]?:=by
 simp[World.cell?,hb]
theorem run_loadVar' {g:Bool} {n b off:Nat} {cs:Array Value} {e:Nat} {fr:Nat × Nat} {w:World} (h:valQ P t=some (g,n)) (hb:w.heap[b]?=some (.cells cs e fr)) (hl:off+n≤cs.size) :
  (loadVar t ⟨b,off,none⟩).run P w=.ok (mk g ((cs.toList.drop off).take n)) w:=by
 unfold loadVar
 simp only[Sem.run_bind,run_isAgg h,Result.andThen_ok]
 cases g with
 | true=>
  simp only[if_true,Sem.run_bind,run_sizeOf h,Result.andThen_ok]
  have:=run_loadCells_list (P:=P) (w:=w) ⟨b,off,none⟩ ((cs.toList.drop off).take n) (fun j v hj=>by
   rw[add_mk',cell_of hb]
   rw[List.getElem?_take] at hj
   split at hj
   ·rw[List.getElem?_drop] at hj;simpa using hj
   ·cases hj)
  have hlen:((cs.toList.drop off).take n).length=n:=by rw[List.length_take,List.length_drop];simp;omega
  rw[hlen] at this
  rw[this]
  rfl
 | false=>
  have hn:=(valQ_spec h).2.2 rfl
  subst hn
  simp only[Bool.false_eq_true,if_false,run_load,cell_of hb]
  have:cs[off]?=some cs[off]:=Array.getElem?_eq_getElem (by omega)
  rw[this]
  have e2:(cs.toList.drop off).take 1=[cs[off]]:=by
   rw[List.drop_eq_getElem_cons (by simp;omega)]
   simp
  rw[e2]
  rfl
def loadA (g:Bool) (n:Nat) (l:List AV) (off:Nat):Option AV:=match g with
 | true=>if off+n≤l.length then some (.agg ((l.drop off).take n)) else none
 | false=>l[off]?
theorem mk_rel {m:Ghost} {g:Bool} {n off:Nat} {l:List AV} {cs:List Value} {v:AV} (h:RelL m l cs) (hv:loadA g n l off=some v) (hn:g=false→n=1) :
  Rel m v (mk g ((cs.drop off).take n))∧off+n≤cs.length:=by
 cases g with
 | true=>
  simp only[loadA] at hv
  split at hv
  ·injection hv with hv
   subst hv
   refine⟨?_,by rw[h.length];assumption⟩
   simp only[Rel,mk]
   exact⟨_,rfl,(h.drop off).take n⟩
  ·cases hv
 | false=>
  simp only[loadA] at hv
  have hn:=hn rfl
  subst hn
  obtain⟨c,h1,h2⟩:=h.at _ _ hv
  have hlt:=(List.getElem?_eq_some_iff.1 h1).1
  rw[List.drop_eq_getElem_cons hlt]
  refine⟨?_,hlt⟩
  simp only[mk,List.take_succ_cons]
  rw[List.getElem?_eq_getElem hlt] at h1
  injection h1 with h1
  rw[h1];exact h2
variable {d:Option Nat} {ty:Nat} {pos:String} {af:Array Edge} {gd:Option (Nat × Bool)} {tm:List (Nat × AV)} {h:Heap} {x y:Operand}
theorem pur_move {v:AV} (hx:evalA tm x=some v):PurV P ⟨d,.move x,ty,pos,af,gd⟩ tm h v:=
 fun m a _ ht _ _=>⟨_,ht.eval hx,fun w=>rfl⟩
theorem pur_assign {v:AV} (hx:evalA tm x=some v):PurV P ⟨d,.assign x,ty,pos,af,gd⟩ tm h v:=
 fun m a _ ht _ _=>⟨_,ht.eval hx,fun w=>rfl⟩
theorem pur_pick_t {c:Operand} {b:Bool} {v:AV} (hc:evalA tm c=some (.val (.bool b))) (hb:b=true) (hx:evalA tm x=some v):PurV P ⟨d,.pick c x y,ty,pos,af,gd⟩ tm h v:=
 fun m a _ ht _ _=>⟨_,ht.eval hx,fun w=>by
  have:=ht.eval hc
  simp only[Rel] at this
  simp[execOp,this.1,asBool,hb]⟩
theorem pur_pick_f {c:Operand} {b:Bool} {v:AV} (hc:evalA tm c=some (.val (.bool b))) (hb:b=false) (hx:evalA tm y=some v):PurV P ⟨d,.pick c x y,ty,pos,af,gd⟩ tm h v:=
 fun m a _ ht _ _=>⟨_,ht.eval hx,fun w=>by
  have:=ht.eval hc
  simp only[Rel] at this
  simp[execOp,this.1,asBool,hb]⟩
theorem pur_val {o:Oper} {v:Value} (hr:∀(m:Ghost) (a:Act),TRel m tm a.tmps→∀w,(execOp a.eval o).run P w=.ok (.value v) w) (h1:v.oneCell'=true:=by rfl):PurV P o tm h (.val v):=
 fun m a _ ht _ _=>⟨v,rel_val h1,fun w=>hr m a ht w⟩
theorem eval_val {m:Ghost} {a:Act} {v:Value} (ht:TRel m tm a.tmps) (hx:evalA tm x=some (.val v)):a.eval x=v:=by
 have:=ht.eval hx
 simp only[Rel] at this
 exact this.1
/-! Integers -/
section
variable {xt yt:Nat} {k:IntKind} {a b c:Int}
theorem pur_add (hx:evalA tm x=some (.val (.int k a))) (hy:evalA tm y=some (.val (.int k b))) (hw:k.wrap (a+b)=c):PurV P ⟨d,.binOp .add xt x y yt,ty,pos,af,gd⟩ tm h (.val (.int k c)):=
 pur_val fun m ac ht w=>by simp[execOp,eval_val ht hx,eval_val ht hy,eqGuard,binOp,Op.intArith,hw]
theorem pur_sub (hx:evalA tm x=some (.val (.int k a))) (hy:evalA tm y=some (.val (.int k b))) (hw:k.wrap (a - b)=c):PurV P ⟨d,.binOp .sub xt x y yt,ty,pos,af,gd⟩ tm h (.val (.int k c)):=
 pur_val fun m ac ht w=>by simp[execOp,eval_val ht hx,eval_val ht hy,eqGuard,binOp,Op.intArith,hw]
theorem pur_mul (hx:evalA tm x=some (.val (.int k a))) (hy:evalA tm y=some (.val (.int k b))) (hw:k.wrap (a * b)=c):PurV P ⟨d,.binOp .mul xt x y yt,ty,pos,af,gd⟩ tm h (.val (.int k c)):=
 pur_val fun m ac ht w=>by simp[execOp,eval_val ht hx,eval_val ht hy,eqGuard,binOp,Op.intArith,hw]
theorem pur_quo (hx:evalA tm x=some (.val (.int k a))) (hy:evalA tm y=some (.val (.int k b))) (hb:b≠0) (hw:k.wrap (a.tdiv b)=c):PurV P ⟨d,.binOp .quo xt x y yt,ty,pos,af,gd⟩ tm h (.val (.int k c)):=
 pur_val fun m ac ht w=>by simp[execOp,eval_val ht hx,eval_val ht hy,eqGuard,binOp,Op.intDiv,hb,hw]
theorem pur_rem (hx:evalA tm x=some (.val (.int k a))) (hy:evalA tm y=some (.val (.int k b))) (hb:b≠0) (hw:a.tmod b=c):PurV P ⟨d,.binOp .rem xt x y yt,ty,pos,af,gd⟩ tm h (.val (.int k c)):=
 pur_val fun m ac ht w=>by simp[execOp,eval_val ht hx,eval_val ht hy,eqGuard,binOp,Op.intDiv,hb,hw]
def bitsI (op:BinOp) (k:IntKind) (a b:Int):Int:=
 k.wrap ((match op with
  | .and=>BitVec.ofInt k.bits a &&& BitVec.ofInt k.bits b
  | .or=>BitVec.ofInt k.bits a ||| BitVec.ofInt k.bits b
  | .xor=>BitVec.ofInt k.bits a ^^^ BitVec.ofInt k.bits b
  | _=>BitVec.ofInt k.bits a &&& ~~~ BitVec.ofInt k.bits b).toNat)
theorem pur_bits {op:BinOp} (hop:(match op with|.and|.or|.xor|.andNot=>true|_=>false)=true) (hx:evalA tm x=some (.val (.int k a))) (hy:evalA tm y=some (.val (.int k b))) (hw:bitsI op k a b=c):PurV P ⟨d,.binOp op xt x y yt,ty,pos,af,gd⟩ tm h (.val (.int k c)):=
 pur_val fun m ac ht w=>by
  cases op<;>first|(simp at hop;done)|(simp[execOp,eval_val ht hx,eval_val ht hy,eqGuard,binOp,Op.intBits,←hw,bitsI])
theorem pur_shl {k':IntKind} (hx:evalA tm x=some (.val (.int k a))) (hy:evalA tm y=some (.val (.int k' b))) (hb:0≤b) (hw:k.wrap (a * 2 ^ (min b.toNat k.bits))=c):PurV P ⟨d,.binOp .shl xt x y yt,ty,pos,af,gd⟩ tm h (.val (.int k c)):=
 pur_val fun m ac ht w=>by
  have:¬ b<0:=by omega
  simp[execOp,eval_val ht hx,eval_val ht hy,eqGuard,binOp,Op.shift,this,hw]
theorem pur_shr {k':IntKind} (hx:evalA tm x=some (.val (.int k a))) (hy:evalA tm y=some (.val (.int k' b))) (hb:0≤b) (hw:a.fdiv (2 ^ (min b.toNat k.bits))=c):PurV P ⟨d,.binOp .shr xt x y yt,ty,pos,af,gd⟩ tm h (.val (.int k c)):=
 pur_val fun m ac ht w=>by
  have:¬ b<0:=by omega
  simp[execOp,eval_val ht hx,eval_val ht hy,eqGuard,binOp,Op.shift,this,hw]
theorem pur_lss (hx:evalA tm x=some (.val (.int k a))) (hy:evalA tm y=some (.val (.int k b))):PurV P ⟨d,.binOp .lss xt x y yt,ty,pos,af,gd⟩ tm h (.val (.bool (decide (a<b)))):=
 pur_val fun m ac ht w=>by simp[execOp,eval_val ht hx,eval_val ht hy,eqGuard,binOp,Op.intCmp]
theorem pur_leq (hx:evalA tm x=some (.val (.int k a))) (hy:evalA tm y=some (.val (.int k b))):PurV P ⟨d,.binOp .leq xt x y yt,ty,pos,af,gd⟩ tm h (.val (.bool (decide (a≤b)))):=
 pur_val fun m ac ht w=>by simp[execOp,eval_val ht hx,eval_val ht hy,eqGuard,binOp,Op.intCmp]
theorem pur_gtr (hx:evalA tm x=some (.val (.int k a))) (hy:evalA tm y=some (.val (.int k b))):PurV P ⟨d,.binOp .gtr xt x y yt,ty,pos,af,gd⟩ tm h (.val (.bool (decide (b<a)))):=
 pur_val fun m ac ht w=>by simp[execOp,eval_val ht hx,eval_val ht hy,eqGuard,binOp,Op.intCmp]
theorem pur_geq (hx:evalA tm x=some (.val (.int k a))) (hy:evalA tm y=some (.val (.int k b))):PurV P ⟨d,.binOp .geq xt x y yt,ty,pos,af,gd⟩ tm h (.val (.bool (decide (b≤a)))):=
 pur_val fun m ac ht w=>by simp[execOp,eval_val ht hx,eval_val ht hy,eqGuard,binOp,Op.intCmp]
theorem pur_eql (hx:evalA tm x=some (.val (.int k a))) (hy:evalA tm y=some (.val (.int k b))):PurV P ⟨d,.binOp .eql xt x y yt,ty,pos,af,gd⟩ tm h (.val (.bool (decide (a=b)))):=
 pur_val fun m ac ht w=>by
  simp[execOp,eval_val ht hx,eval_val ht hy,eqGuard,binOp,Op.intCmp]
  rw[Bool.eq_iff_iff];simp
theorem pur_neq (hx:evalA tm x=some (.val (.int k a))) (hy:evalA tm y=some (.val (.int k b))):PurV P ⟨d,.binOp .neq xt x y yt,ty,pos,af,gd⟩ tm h (.val (.bool (decide (a≠b)))):=
 pur_val fun m ac ht w=>by
  simp[execOp,eval_val ht hx,eval_val ht hy,eqGuard,binOp,Op.intCmp]
  rw[Bool.eq_iff_iff];simp
theorem pur_conv {k':IntKind} {st dt:Nat} [h1:TInt P dt k'] [h2:TInt P st k] (hx:evalA tm x=some (.val (.int k a))) (hw:k'.wrap a=c):PurV P ⟨d,.convert st dt x,ty,pos,af,gd⟩ tm h (.val (.int k' c)):=
 pur_val fun m ac ht w=>by simp[execOp,eval_val ht hx,convert,run_underlying h1.h,run_underlying h2.h,Conv.intToInt,hw]
end
theorem pur_not {xt:Nat} {p:Prop} [Decidable p] (hx:evalA tm x=some (.val (.bool (decide p)))):PurV P ⟨d,.unOp .not xt x,ty,pos,af,gd⟩ tm h (.val (.bool (decide (¬ p)))):=
 pur_val fun m ac ht w=>by simp[execOp,eval_val ht hx,Op.unary]
theorem pur_notb {xt:Nat} {p:Bool} (hx:evalA tm x=some (.val (.bool p))):PurV P ⟨d,.unOp .not xt x,ty,pos,af,gd⟩ tm h (.val (.bool (!p))):=
 pur_val fun m ac ht w=>by simp[execOp,eval_val ht hx,Op.unary]
/-! Wrapping -/
theorem wrap_i64 {a:Int} (h1:-9223372036854775808≤a) (h2:a≤9223372036854775807):IntKind.i64.wrap a=a:=by
 simp[IntKind.wrap,IntKind.bits,IntKind.signed];omega
theorem wrap_u8 {a:Int} (h1:0≤a) (h2:a≤255):IntKind.u8.wrap a=a:=by
 simp[IntKind.wrap,IntKind.bits,IntKind.signed];omega
theorem wrap_u32 {a:Int} (h1:0≤a) (h2:a≤4294967295):IntKind.u32.wrap a=a:=by
 simp[IntKind.wrap,IntKind.bits,IntKind.signed];omega
theorem tmod_nn {a b:Int} (h1:0≤a):a.tmod b=a % b:=Int.tmod_eq_emod_of_nonneg h1
/-! Bools, tuples, structs -/
theorem pur_extract {l:List AV} {v:AV} {i:Nat} (hx:evalA tm x=some (.tup l)) (hv:l[i]?=some v):PurV P ⟨d,.extract x i,ty,pos,af,gd⟩ tm h v:=fun m a w0 ht g1 g2=>by
 have h1:=ht.eval hx
 simp only[Rel] at h1
 obtain⟨cs,h1,h2⟩:=h1
 obtain⟨c,h3,h4⟩:=h2.at _ _ hv
 refine⟨c,h4,fun w=>?_⟩
 have h3':cs[i]?=some c:=by simpa using h3
 simp[execOp,h1,Instr.extract,h3']
theorem fldQ_spec {i off n:Nat} {g:Bool} (hf:fldQ P t i=some (off,n,g)):∃fs f,P.underlying t=some (.struct fs)∧fs[i]?=some f∧f.offset=off∧valQ P f.type=some (g,n)∧n≠0:=by
 unfold fldQ at hf
 split at hf
 ·rename_i fs hu
  split at hf
  ·rename_i f hf'
   split at hf
   ·rename_i g' n' hv
    split at hf
    ·cases hf
    ·rename_i hn
     injection hf with hf;injection hf with h1 hf;injection hf with h2 h3
     subst h1;subst h2;subst h3
     exact⟨fs,f,hu,hf',rfl,hv,hn⟩
   ·cases hf
  ·cases hf
 ·cases hf
theorem run_part {g:Bool} {n off:Nat} {cs:Array Value} {w:World} (hv:valQ P t=some (g,n)) (hl:off+n≤cs.size):(part t cs off).run P w=.ok (mk g ((cs.toList.drop off).take n)) w:=by
 unfold part
 simp only[Sem.run_bind,run_isAgg hv,Result.andThen_ok]
 cases g with
 | true=>
  simp only[if_true,Sem.run_bind,run_sizeOf hv,Result.andThen_ok,Sem.run_pure,mk]
  congr 2
  apply Array.ext'
  simp[Array.toList_extract,List.extract_eq_take_drop]
 | false=>
  have hn:=(valQ_spec hv).2.2 rfl
  subst hn
  have:cs[off]?=some cs[off]:=Array.getElem?_eq_getElem (by omega)
  simp only[Bool.false_eq_true,if_false,this,Sem.run_pure]
  have e2:(cs.toList.drop off).take 1=[cs[off]]:=by
   rw[List.drop_eq_getElem_cons (by simp;omega)]
   simp
  rw[e2];rfl
theorem pur_field {xt i off n:Nat} {g:Bool} {l:List AV} {v:AV} [hf:TFld P xt i off n g] (hx:evalA tm x=some (.agg l)) (hv:loadA g n l off=some v):PurV P ⟨d,.field xt x i,ty,pos,af,gd⟩ tm h v:=fun m a w0 ht g1 g2=>by
 obtain⟨fs,f,h1,h2,h3,h4,h5⟩:=fldQ_spec hf.h
 have hx:=ht.eval hx
 simp only[Rel] at hx
 obtain⟨cs,hx,hr⟩:=hx
 obtain⟨h6,h7⟩:=mk_rel hr hv (valQ_spec h4).2.2
 refine⟨_,h6,fun w=>?_⟩
 simp[execOp,hx,Instr.field,run_underlying h1,h2,asAgg,h3,run_part h4 (by simpa using h7)]
theorem run_fieldPlace {f:Field} {g:Bool} {n b off:Nat} {w:World} (hv:valQ P f.type=some (g,n)) (hn:n≠0):(fieldPlace ⟨b,off,none⟩ f).run P w=.ok ⟨b,off+f.offset,none⟩ w:=by
 unfold fieldPlace
 simp[run_sizeOf hv,hn,add_mk']
theorem pur_fieldAddr {xt i off n b o:Nat} {g:Bool} [hf:TFld P xt i off n g] (hx:evalA tm x=some (.val (.pointer (some ⟨b,o,none⟩)))):PurV P ⟨d,.fieldAddr xt x i,ty,pos,af,gd⟩ tm h (.val (.pointer (some ⟨b,o+off,none⟩))):=by
 obtain⟨fs,f,h1,h2,h3,h4,h5⟩:=fldQ_spec hf.h
 exact pur_val fun m a ht w=>by simp[execOp,eval_val ht hx,Instr.fieldAt,run_underlying h1,h2,Instr.sureAddr,run_fieldPlace h4 h5,h3]
theorem pur_fieldAddr00 {xt i off n b:Nat} {g:Bool} [hf:TFld P xt i off n g] (hx:evalA tm x=some (.val (.pointer (some ⟨b,0,none⟩)))):PurV P ⟨d,.fieldAddr xt x i,ty,pos,af,gd⟩ tm h (.val (.pointer (some ⟨b,off,none⟩))):=by
 have:=pur_fieldAddr (P:=P) (d:=d) (ty:=ty) (pos:=pos) (af:=af) (gd:=gd) (h:=h) (hf:=hf) hx
 rwa[Nat.zero_add] at this
theorem pur_fieldAddr_rp {xt i off n k j o:Nat} {l:List AV} {g:Bool} [hf:TFld P xt i off n g] (hx:evalA tm x=some (.rp k l j o)):PurV P ⟨d,.fieldAddr xt x i,ty,pos,af,gd⟩ tm h (.rp k l j (o+off)):=fun m a w0 ht g1 g2=>by
 obtain⟨fs,f,h1,h2,h3,h4,h5⟩:=fldQ_spec hf.h
 have hx:=ht.eval hx
 simp only[Rel] at hx
 obtain⟨b,o',hx,hj,hw⟩:=hx
 refine⟨.pointer (some ⟨b,o'+(j * k+(o+off)),none⟩),by simp only[Rel];exact⟨b,o',rfl,hj,hw⟩,fun w=>?_⟩
 simp[execOp,hx,Instr.fieldAt,run_underlying h1,h2,Instr.sureAddr,run_fieldPlace h4 h5,h3,Nat.add_assoc]
theorem pur_fieldAddr_ep {xt i off n k j o:Nat} {v:Value} {g:Bool} [hf:TFld P xt i off n g] (hx:evalA tm x=some (.ep v k j o)):PurV P ⟨d,.fieldAddr xt x i,ty,pos,af,gd⟩ tm h (.ep v k j (o+off)):=fun m a w0 ht g1 g2=>by
 obtain⟨fs,f,h1,h2,h3,h4,h5⟩:=fldQ_spec hf.h
 have hx:=ht.eval hx
 simp only[Rel] at hx
 obtain⟨b,N,cap,hx,hj,hw⟩:=hx
 refine⟨.pointer (some ⟨b,j * k+(o+off),none⟩),by simp only[Rel];exact⟨b,N,cap,rfl,hj,hw⟩,fun w=>?_⟩
 simp[execOp,hx,Instr.fieldAt,run_underlying h1,h2,Instr.sureAddr,run_fieldPlace h4 h5,h3,Nat.add_assoc]
/-! Loads -/
theorem pur_load_box {lt n b o bt:Nat} {g:Bool} {l:List AV} {v:AV} [hv:TVal P lt g n] (hx:evalA tm x=some (.val (.pointer (some ⟨b,o,none⟩)))) (hb:OE.box b l bt∈h) (hl:loadA g n l o=some v) :
  Pur P ⟨d,.load lt x,ty,pos,af,gd⟩ tm h v:=fun m a w0 ht g1 g2=>by
 obtain⟨_,cs,q3,q4⟩:=g2.2 _ hb
 obtain⟨h6,h7⟩:=mk_rel q4 hl (valQ_spec hv.h).2.2
 refine⟨_,h6,fun w _ hw=>?_⟩
 have q3':=(hw _ hb b rfl).trans q3
 simp[execOp,eval_val ht hx,Instr.loadAt,Instr.sureAddr,run_loadVar' hv.h q3' (by simpa using h7)]
theorem relE_load {m:Ghost} {k i off n:Nat} {g:Bool} {l:List AV} {xs:List Value} {e v:AV} (h:RelE m k l xs) (he:l[i]?=some e) (hl:loadA g n e.cells off=some v) (hn:g=false→n=1) :
  Rel m v (mk g ((xs.drop (i * k+off)).take n))∧i * k+off+n≤xs.length:=by
 obtain⟨u,h1,h2,h3⟩:=h.at i e he
 have h4:=h1.cells
 obtain⟨h6,h7⟩:=mk_rel h4 hl hn
 have hlen:=h.length
 have hi:=(List.getElem?_eq_some_iff.1 he).1
 have hle:i * k+k≤xs.length:=by
  rw[hlen,←Nat.succ_mul]
  exact Nat.mul_le_mul_right _ hi
 rw[Array.length_toList,h2] at h7
 rw[←h3,List.drop_take,List.drop_drop,List.take_take,Nat.min_eq_left (by omega)] at h6
 exact⟨h6,by omega⟩
theorem pur_load_ep {lt n k i o e:Nat} {g:Bool} {l:List AV} {v el:AV} {s:Value} [hv:TVal P lt g n] (hx:evalA tm x=some (.ep s k i o)) (hb:OE.own s k l e∈h) (he:l[i]?=some el) (hl:loadA g n el.cells o=some v) :
  Pur P ⟨d,.load lt x,ty,pos,af,gd⟩ tm h v:=fun m a w0 ht g1 g2=>by
 have hx:=ht.eval hx
 simp only[Rel] at hx
 obtain⟨b,N,cap,hx,hs,hi⟩:=hx
 rcases (g2.2 _ hb).2.own_cases with ⟨A,_,rfl⟩|⟨g',cap',cur,xs,hs',hc0,q7,q8,q9,q10,q11,q12,q4,q5,q6,_⟩
 ·simp at he
 obtain⟨h6,h7⟩:=relE_load q4 he hl (valQ_spec hv.h).2.2
 rw[hs] at hs'
 injection hs' with hs' _ _
 injection hs' with hs'
 injection hs' with hs'
 subst hs'
 refine⟨_,h6,fun w _ hw=>?_⟩
 have q7':=(hw _ hb b q6).trans q7
 have hlen:(l.length * k)≤cur.size:=by rw[q10];exact Nat.mul_le_mul_right _ q8
 have:=run_loadVar' (P:=P) (t:=lt) (off:=i * k+o) hv.h q7' (by omega)
 simp only[execOp,hx,Instr.loadAt,Instr.sureAddr,Sem.run_bind,Sem.run_pure,Result.andThen_ok,this]
 have e2:(cur.toList.drop (i * k+o)).take n=(xs.drop (i * k+o)).take n:=by
  rw[←q11,List.drop_take,List.take_take,Nat.min_eq_left]
  omega
 rw[e2]
theorem pur_load_rp {lt n k i o:Nat} {g:Bool} {l:List AV} {v el:AV} [hv:TVal P lt g n] (hx:evalA tm x=some (.rp k l i o)) (he:l[i]?=some el) (hl:loadA g n el.cells o=some v) :
  Pur P ⟨d,.load lt x,ty,pos,af,gd⟩ tm h v:=fun m a w0 ht g1 g2=>by
 have hx:=ht.eval hx
 simp only[Rel] at hx
 obtain⟨b,o',hx,hi,b1,off,cs,e,fr,e1,e2,e3,e4,e5⟩:=hx
 injection e1 with e1
 injection e1 with e1 e1'
 subst e1;subst e1'
 obtain⟨h6,h7⟩:=relE_load e4 he hl (valQ_spec hv.h).2.2
 have hlen:((cs.toList.drop o').take (l.length * k)).length=l.length * k:=by rw[List.length_take,List.length_drop];simp;omega
 rw[hlen] at h7
 refine⟨_,h6,fun w hm _=>?_⟩
 have:=run_loadVar' (P:=P) (t:=lt) (off:=o'+(i * k+o)) hv.h (hm _ _ e2) (by omega)
 simp only[execOp,hx,Instr.loadAt,Instr.sureAddr,Sem.run_bind,Sem.run_pure,Result.andThen_ok,this]
 have e6:(cs.toList.drop (o'+(i * k+o))).take n=(((cs.toList.drop o').take (l.length * k)).drop (i * k+o)).take n:=by
  rw[List.drop_take,List.drop_drop,List.take_take,Nat.min_eq_left (by omega)]
 rw[e6]
end
end Go.VM
namespace Go.VM
open Go
set_option linter.unusedVariables false
set_option linter.unusedSimpArgs false
section
variable {ro:Option Nat} {P:Program} {t:Nat}
variable {d:Option Nat} {ty:Nat} {pos:String} {af:Array Edge} {gd:Option (Nat × Bool)} {tm:List (Nat × AV)} {h:Heap} {x y:Operand}
theorem elemQ_spec {e k bs:Nat} {g:Bool} (h:elemQ P t=some (e,k,bs,g)):P.underlying t=some (.slice e)∧valQ P e=some (g,k)∧0<k∧∃i z,P.info? e=some i∧i.size=k∧i.bytes=bs∧i.zero=some z∧z.cells.size=k:=by
 unfold elemQ at h
 split at h
 ·rename_i e' hu
  split at h
  ·rename_i i g' n' hi hv
   split at h
   ·rename_i z hz
    split at h
    ·rename_i hc
     injection h with h;injection h with h1 h;injection h with h2 h;injection h with h3 h4
     subst h1;subst h2;subst h3;subst h4
     obtain⟨_,⟨i',hi',hs⟩,_⟩:=valQ_spec hv
     rw[hi] at hi';injection hi' with hi';subst hi'
     subst hs
     exact⟨hu,hv,hc.2,i,z,hi,rfl,rfl,hz,hc.1⟩
    ·cases h
   ·cases h
  ·cases h
 ·cases h
/-! ### Places -/
theorem run_indexAt_slice {e k bs:Nat} {g:Bool} (he:elemQ P t=some (e,k,bs,g)) {b off n c:Nat} {kd:IntKind} {j:Nat} (hj:j<n) (w:World) :
  (Instr.indexAt t (.slice (some ⟨b,off,none⟩) n c) (.int kd (j:Int))).run P w=.ok (.pointer (some ⟨b,off+j * k,none⟩)) w:=by
 obtain⟨h1,h2,h3,_⟩:=elemQ_spec he
 simp[Instr.indexAt,asIntOf,run_underlying h1,hj,run_sizeOf h2,add_mk']
theorem pur_index_ro {xt e k bs j:Nat} {g:Bool} {l:List AV} {kd:IntKind} {i:Int} [he:TElem P xt e k bs g] (hx:evalA tm x=some (.ro k l)) (hy:evalA tm y=some (.val (.int kd i))) (hi:i=(j:Int)) (hj:j<l.length) :
  PurV P ⟨d,.indexAddr xt x y,ty,pos,af,gd⟩ tm h (.rp k l j 0):=fun m a w0 ht g1 g2=>by
 have hx:=ht.eval hx
 simp only[Rel] at hx
 obtain⟨A,c,hx,h1,h2,h3,h4⟩:=hx
 have hw:=h4 (by intro hl;subst hl;simp at hj)
 have hw':=hw
 obtain⟨b,off,cs,e',fr,rfl,_⟩:=hw
 refine⟨.pointer (some ⟨b,off+(j * k+0),none⟩),by simp only[Rel];exact⟨b,off,rfl,hj,hw'⟩,fun w=>?_⟩
 subst hi
 simp[execOp,hx,eval_val ht hy,run_indexAt_slice he.h hj]
theorem pur_index_own {xt e k bs j:Nat} {g:Bool} {l:List AV} {v:Value} {e':Nat} {kd:IntKind} {i:Int} [he:TElem P xt e k bs g] (hx:evalA tm x=some (.val v)) (hb:OE.own v k l e'∈h) (hy:evalA tm y=some (.val (.int kd i))) (hi:i=(j:Int)) (hj:j<l.length) :
  PurV P ⟨d,.indexAddr xt x y,ty,pos,af,gd⟩ tm h (.ep v k j 0):=fun m a w0 ht g1 g2=>by
 rcases (g2.2 _ hb).2.own_cases with ⟨A,_,rfl⟩|⟨b,cap,cur,xs,rfl,_⟩
 ·simp at hj
 refine⟨.pointer (some ⟨b,j * k+0,none⟩),by simp only[Rel];exact⟨b,_,cap,rfl,rfl,hj⟩,fun w=>?_⟩
 subst hi
 simp[execOp,eval_val ht hx,eval_val ht hy,run_indexAt_slice he.h hj]
theorem pur_index_vw {xt e k bs j lo n:Nat} {g:Bool} {v:Value} {kd:IntKind} {i:Int} [he:TElem P xt e k bs g] (hx:evalA tm x=some (.vw v k lo n)) (hy:evalA tm y=some (.val (.int kd i))) (hi:i=(j:Int)) (hj:j<n) :
  PurV P ⟨d,.indexAddr xt x y,ty,pos,af,gd⟩ tm h (.ep v k (lo+j) 0):=fun m a w0 ht g1 g2=>by
 have hx:=ht.eval hx
 simp only[Rel] at hx
 obtain⟨A,c,hx,h1,h2,_,h3⟩:=hx
 obtain⟨b,N,cap,rfl,rfl,h4⟩:=h3 (by omega)
 refine⟨.pointer (some ⟨b,(lo+j) * k+0,none⟩),by simp only[Rel];exact⟨b,_,cap,rfl,rfl,by omega⟩,fun w=>?_⟩
 subst hi
 simp[execOp,hx,eval_val ht hy,run_indexAt_slice he.h hj,Nat.add_mul]
theorem pur_index_arr {xt n e k b o j:Nat} {g:Bool} {kd:IntKind} {i:Int} [ha:TArr P xt n e k g] (hx:evalA tm x=some (.val (.pointer (some ⟨b,o,none⟩)))) (hy:evalA tm y=some (.val (.int kd i))) (hi:i=(j:Int)) (hj:j<n) :
  PurV P ⟨d,.indexAddr xt x y,ty,pos,af,gd⟩ tm h (.val (.pointer (some ⟨b,o+j * k,none⟩))):=pur_val fun m a ht w=>by
 subst hi
 have:(j:Int)<(n:Int):=by omega
 simp[execOp,eval_val ht hx,eval_val ht hy,Instr.indexAt,asIntOf,run_underlying ha.h,Instr.sureAddr,hj,run_sizeOf ha.v,add_mk']
/-! ### Pieces of slices -/
def bndA (tm:List (Nat × AV)) (dflt:Nat):Option Operand→Nat→Prop
 | none,n=>n=dflt
 | some x,n=>∃kd i,evalA tm x=some (.val (.int kd i))∧i=(n:Int)
theorem run_slice_any {e k bs:Nat} {g:Bool} (he:elemQ P t=some (e,k,bs,g)) {m:Ghost} {a:Act} (ht:TRel m tm a.tmps) {A:Option Addr} {n c lo hi:Nat} {x1 x2:Option Operand}
  (h1:bndA tm 0 x1 lo) (h2:bndA tm n x2 hi) (hl:lo≤hi) (hh:hi≤n) (hc:n≤c) (w:World) :
  (Instr.sliceAt t (.slice A n c) (x1.map a.eval) (x2.map a.eval) none).run P w=.ok (.slice (if c=lo then A else A.map (·.add (lo * k))) (hi - lo) (c - lo)) w:=by
 obtain⟨q1,q2,q3,_⟩:=elemQ_spec he
 have hic:(hi:Int)≤(c:Int):=by omega
 have hlh:(lo:Int)≤(hi:Int):=by omega
 cases x1 with
 | none=>
  simp only[bndA] at h1;subst h1
  cases x2 with
  | none=>
   simp only[bndA] at h2;subst h2
   simp[Instr.sliceAt,Instr.slice,Instr.sliceBounds,run_underlying q1,run_sizeOf q2]
  | some y=>
   obtain⟨kd,i,h2,rfl⟩:=h2
   simp[Instr.sliceAt,Instr.slice,Instr.sliceBounds,Instr.sliceBound,run_underlying q1,run_sizeOf q2,eval_val ht h2,asIntOf,show hi≤c by omega]
 | some x=>
  obtain⟨kd,i,h1,rfl⟩:=h1
  cases x2 with
  | none=>
   simp only[bndA] at h2;subst h2
   simp[Instr.sliceAt,Instr.slice,Instr.sliceBounds,Instr.sliceBound,run_underlying q1,run_sizeOf q2,eval_val ht h1,asIntOf,hl]
  | some y=>
   obtain⟨kd2,i2,h2,rfl⟩:=h2
   simp[Instr.sliceAt,Instr.slice,Instr.sliceBounds,Instr.sliceBound,run_underlying q1,run_sizeOf q2,eval_val ht h1,eval_val ht h2,asIntOf,hl,show hi≤c by omega]
theorem pur_slice_ro {xt e k bs lo hi:Nat} {g:Bool} {l:List AV} {x1 x2:Option Operand} [he:TElem P xt e k bs g] (hx:evalA tm x=some (.ro k l)) (h1:bndA tm 0 x1 lo) (h2:bndA tm l.length x2 hi) (hl:lo≤hi) (hh:hi≤l.length) :
  PurV P ⟨d,.slice xt x x1 x2 none,ty,pos,af,gd⟩ tm h (.ro k ((l.drop lo).take (hi - lo))):=fun m a w0 ht g1 g2=>by
 have hx:=ht.eval hx
 simp only[Rel] at hx
 obtain⟨A,c,hx,q1,q2,q3,q4⟩:=hx
 have hlen:((l.drop lo).take (hi - lo)).length=hi - lo:=by rw[List.length_take,List.length_drop];omega
 refine⟨.slice (if c=lo then A else A.map (·.add (lo * k))) (hi - lo) (c - lo),?_,fun w=>?_⟩
 ·simp only[Rel]
  rw[hlen]
  refine⟨_,_,rfl,by omega,by omega,?_,fun hne=>?_⟩
  ·split
   ·intro _;omega
   ·intro h
    have:A=none:=by cases A<;>simp_all
    have:=q3 this
    omega
  ·have hpos:0<hi - lo:=by
    rw[←hlen]
    exact List.length_pos_iff.2 hne
   obtain⟨b,off,cs,e',fr,rfl,w2,w3,w4,w5⟩:=q4 (by intro h;subst h;simp at hh;omega)
   rw[if_neg (by omega)]
   have hm:(hi - lo) * k≤l.length * k - lo * k:=by rw[←Nat.sub_mul];exact Nat.mul_le_mul_right _ (by omega)
   have hm2:lo * k≤l.length * k:=Nat.mul_le_mul_right _ (by omega)
   have e1:(cs.toList.drop (off+lo * k)).take ((hi - lo) * k)=(((cs.toList.drop off).take (l.length * k)).drop (lo * k)).take ((hi - lo) * k):=by
    rw[List.drop_take,List.drop_drop,List.take_take,Nat.min_eq_left (by omega)]
   refine⟨b,off+lo * k,cs,e',fr,by simp[add_mk'],w2,by omega,?_,?_⟩
   ·rw[e1];exact (w4.drop lo).take _
   ·rw[e1]
    intro y hy
    exact w5 y (List.mem_of_mem_drop (List.mem_of_mem_take hy))
 ·simp only[execOp,hx,Option.map_none,Sem.run_bind,run_slice_any he.h ht h1 h2 hl hh q1,Result.andThen_ok,Sem.run_pure]
theorem pur_slice_own {xt e k bs lo hi e':Nat} {g:Bool} {l:List AV} {v:Value} {x1 x2:Option Operand} [he:TElem P xt e k bs g] (hx:evalA tm x=some (.val v)) (hb:OE.own v k l e'∈h) (h1:bndA tm 0 x1 lo) (h2:bndA tm l.length x2 hi) (hl:lo≤hi) (hh:hi≤l.length) :
  PurV P ⟨d,.slice xt x x1 x2 none,ty,pos,af,gd⟩ tm h (.vw v k lo (hi - lo)):=fun m a w0 ht g1 g2=>by
 have hx:=eval_val ht hx
 obtain⟨A,c,hv,hc,hcm,hN,hA⟩:∃A c,v=.slice A l.length c∧l.length≤c∧c≤maxLen∧(A=none→c=0)∧(0<l.length→∃b,A=some ⟨b,0,none⟩):=by
  rcases (g2.2 _ hb).2.own_cases with ⟨A,rfl,rfl⟩|⟨b,cap,cur,xs,rfl,_,q7,q8,q9,q10,q11,_⟩
  ·exact⟨A,0,rfl,Nat.le_refl _,Nat.zero_le _,fun _=>rfl,fun h=>absurd h (Nat.lt_irrefl _)⟩
  ·exact⟨_,cap,rfl,q8,q9,fun h=>(by cases h),fun _=>⟨b,rfl⟩⟩
 refine⟨.slice (if c=lo then A else A.map (·.add (lo * k))) (hi - lo) (c - lo),?_,fun w=>?_⟩
 ·simp only[Rel]
  refine⟨_,_,rfl,by omega,by omega,by
   split
   ·intro _;omega
   ·intro h
    have:A=none:=by cases A<;>simp_all
    have:=hN this
    omega,fun hpos=>?_⟩
  obtain⟨b,rfl⟩:=hA (by omega)
  exact⟨b,l.length,c,hv,by rw[if_neg (by omega)];simp[add_mk'],by omega⟩
 ·subst hv
  simp only[execOp,hx,Option.map_none,Sem.run_bind,run_slice_any he.h ht h1 h2 hl hh hc,Result.andThen_ok,Sem.run_pure]
/-! ### What may be read as a list -/
inductive SrcA (h:Heap) (k:Nat):AV→List AV→Prop
 | ro (l:List AV):SrcA h k (.ro k l) l
 | own {v:Value} {l:List AV} {e:Nat} (hb:OE.own v k l e∈h):SrcA h k (.val v) l
 | vw {v:Value} {l:List AV} {e lo n:Nat} (hb:OE.own v k l e∈h) (hn:lo+n≤l.length):SrcA h k (.vw v k lo n) ((l.drop lo).take n)
 | emp:SrcA h k .emp []
 | nil:SrcA h k (.val (.slice none 0 0)) []
theorem SrcA.spec {m:Ghost} {k:Nat} {v:AV} {l:List AV} {u:Value} {w:World} (hs:SrcA h k v l) (hm:Holds m w) (hr:HRel m h w) (hu:Rel m v u) :
  ∃A c ys,u=.slice A l.length c∧l.length≤c∧c≤maxLen∧RelE m k l ys∧(∀y∈ys,y.oneCell'=true)∧(A=none→c=0) ∧
   (0<l.length→∃b off cs e fr,A=some ⟨b,off,none⟩∧w.heap[b]?=some (.cells cs e fr)∧off+l.length * k≤cs.size∧(cs.toList.drop off).take (l.length * k)=ys∧(m b=some (.cells cs e fr)∨∃x∈h,x.blk=some b)):=by
 cases hs with
 | ro l=>
  simp only[Rel] at hu
  obtain⟨A,c,rfl,h1,h2,h3,h4⟩:=hu
  by_cases hl:l=[]
  ·subst hl
   exact⟨A,c,[],rfl,h1,h2,by simp[RelE],by simp,h3,fun h=>absurd h (Nat.lt_irrefl _)⟩
  ·obtain⟨b,off,cs,e',fr,rfl,w2,w3,w4,w5⟩:=h4 hl
   exact⟨_,c,_,rfl,h1,h2,w4,w5,h3,fun _=>⟨b,off,cs,e',fr,rfl,hm _ _ w2,w3,rfl,.inl w2⟩⟩
 | own hb=>
  rename_i v e
  simp only[Rel] at hu
  obtain⟨rfl,_⟩:=hu
  rcases (hr.2 _ hb).2.own_cases with ⟨A,rfl,rfl⟩|⟨b,cap,cur,xs,rfl,_,q7,q8,q9,q10,q11,q12,q4,q5,q6,_⟩
  ·exact⟨A,0,[],rfl,Nat.le_refl _,Nat.zero_le _,by simp[RelE],by simp,fun _=>rfl,fun h=>absurd h (Nat.lt_irrefl _)⟩
  ·refine⟨_,cap,xs,rfl,q8,q9,q4,q5,fun h=>(by cases h),fun _=>⟨b,0,cur,_,_,rfl,q7,?_,by simpa using q11,.inr ⟨_,hb,q6⟩⟩⟩
   rw[q10,Nat.zero_add];exact Nat.mul_le_mul_right _ q8
 | vw hb hn=>
  rename_i v l e lo n
  simp only[Rel] at hu
  obtain⟨A,c,rfl,h1,h2,hN,h3⟩:=hu
  have hlen:((l.drop lo).take n).length=n:=by rw[List.length_take,List.length_drop];omega
  rw[hlen]
  by_cases h0:n=0
  ·subst h0
   exact⟨A,c,[],rfl,h1,h2,by simp[RelE],by simp,hN,fun h=>absurd h (Nat.lt_irrefl _)⟩
  ·obtain⟨g,N,cap,rfl,rfl,h4⟩:=h3 (by omega)
   rcases (hr.2 _ hb).2.own_cases with ⟨A,_,rfl⟩|⟨b,cap',cur,xs,q6,_,q7,q8,q9,q10,q11,q12,q4,q5,q13,_⟩
   ·simp at hn;omega
   injection q6 with q6 qN qc
   injection q6 with q6
   injection q6 with q6
   subst q6;subst qN;subst qc
   have hk1:lo * k+n * k≤l.length * k:=by rw[←Nat.add_mul];exact Nat.mul_le_mul_right _ hn
   have hk2:l.length * k≤cap * k:=Nat.mul_le_mul_right _ q8
   refine⟨_,c,(xs.drop (lo * k)).take (n * k),rfl,h1,h2,(q4.drop lo).take n,?_,hN,fun _=>⟨g,lo * k,cur,_,_,rfl,q7,by omega,?_,.inr ⟨_,hb,q13⟩⟩⟩
   ·intro y hy
    exact q5 y (List.mem_of_mem_drop (List.mem_of_mem_take hy))
   ·rw[←q11,List.drop_take,List.take_take,Nat.min_eq_left (by omega)]
 | emp=>
  simp only[Rel] at hu
  obtain⟨A,rfl⟩:=hu
  exact⟨A,0,[],rfl,Nat.le_refl _,Nat.zero_le _,by simp[RelE],by simp,fun _=>rfl,fun h=>absurd h (Nat.lt_irrefl _)⟩
 | nil=>
  simp only[Rel] at hu
  obtain⟨rfl,_⟩:=hu
  exact⟨none,0,[],rfl,Nat.le_refl _,Nat.zero_le _,by simp[RelE],by simp,fun _=>rfl,fun h=>absurd h (Nat.lt_irrefl _)⟩
end
end Go.VM
namespace Go.VM
open Go
set_option linter.unusedVariables false
set_option linter.unusedSimpArgs false
/-! ### An entry turned into another, taken out, put in -/
inductive Up:Heap→OE→OE→Heap→Prop
 | here {x x':OE} {r:Heap}:Up (x::r) x x' (x'::r)
 | there {x x' y:OE} {r r':Heap} (h:Up r x x' r'):Up (y::r) x x' (y::r')
section
variable {h h':Heap} {x x':OE}
theorem Up.old (u:Up h x x' h'):x∈h:=by
 induction u with
 | here=>simp
 | there _ ih=>simp[ih]
theorem Up.sub (u:Up h x x' h'):∀y∈h',y=x'∨y∈h:=by
 induction u with
 | here=>intro y hy;simp at hy;rcases hy with hy|hy<;>simp[hy]
 | there _ ih=>
  intro z hz
  simp at hz
  rcases hz with hz|hz
  ·simp[hz]
  ·rcases ih z hz with h|h<;>simp[h]
theorem mem_blks {h:Heap} {b:Nat}:b∈h.filterMap OE.blk↔∃y∈h,y.blk=some b:=List.mem_filterMap
theorem Up.others (u:Up h x x' h'):(h.filterMap OE.blk).Nodup→∀y∈h',y=x'∨(y∈h∧∀b,y.blk=some b→x.blk≠some b):=by
 induction u with
 | @here x x' r=>
  intro nd y hy
  simp at hy
  rcases hy with hy|hy
  ·exact .inl hy
  ·refine .inr ⟨by simp[hy],fun b hb hx=>?_⟩
   rw[List.filterMap_cons_some hx] at nd
   exact (List.nodup_cons.1 nd).1 (mem_blks.2 ⟨y,hy,hb⟩)
 | @there x x' z r r' h ih=>
  intro nd y hy
  have nd':(r.filterMap OE.blk).Nodup:=(List.sublist_cons_self z r |>.filterMap _).nodup nd
  simp at hy
  rcases hy with hy|hy
  ·subst hy
   refine .inr ⟨by simp,fun b hb hx=>?_⟩
   rw[List.filterMap_cons_some hb] at nd
   exact (List.nodup_cons.1 nd).1 (mem_blks.2 ⟨x,h.old,hx⟩)
  ·rcases ih nd' y hy with h1|⟨h1,h2⟩
   ·exact .inl h1
   ·exact .inr ⟨by simp[h1],h2⟩
theorem Up.nodup (u:Up h x x' h'):(h.filterMap OE.blk).Nodup→(∀b,x'.blk=some b→x.blk=some b∨∀y∈h,y.blk≠some b)→(h'.filterMap OE.blk).Nodup:=by
 induction u with
 | @here x x' r=>
  intro nd hb
  have nd':(r.filterMap OE.blk).Nodup:=(List.sublist_cons_self x r |>.filterMap _).nodup nd
  cases hx:x'.blk with
  | none=>rw[List.filterMap_cons_none hx];exact nd'
  | some b=>
   rw[List.filterMap_cons_some hx]
   refine List.nodup_cons.2 ⟨fun hm=>?_,nd'⟩
   obtain⟨y,hy,hyb⟩:=mem_blks.1 hm
   rcases hb b hx with h1|h1
   ·rw[List.filterMap_cons_some h1] at nd
    exact (List.nodup_cons.1 nd).1 (mem_blks.2 ⟨y,hy,hyb⟩)
   ·exact h1 y (by simp[hy]) hyb
 | @there x x' z r r' h ih=>
  intro nd hb
  have nd':(r.filterMap OE.blk).Nodup:=(List.sublist_cons_self z r |>.filterMap _).nodup nd
  have ih':=ih nd' (fun b hx=>(hb b hx).imp id (fun h y hy=>h y (by simp[hy])))
  cases hz:z.blk with
  | none=>rw[List.filterMap_cons_none hz];exact ih'
  | some c=>
   rw[List.filterMap_cons_some hz] at nd ⊢
   refine List.nodup_cons.2 ⟨fun hm=>?_,ih'⟩
   obtain⟨y,hy,hyb⟩:=mem_blks.1 hm
   rcases h.sub y hy with rfl|hy
   ·rcases hb c hyb with h1|h1
    ·exact (List.nodup_cons.1 nd).1 (mem_blks.2 ⟨_,h.old,h1⟩)
    ·exact h1 z (by simp) hz
   ·exact (List.nodup_cons.1 nd).1 (mem_blks.2 ⟨y,hy,hyb⟩)
theorem HRel.up {m:Ghost} {w w':World} (k:HRel m h w) (hm:Holds m w) (u:Up h x x' h') (hw:∀b,b<w.heap.size→x.blk≠some b→w'.heap[b]?=w.heap[b]?)
  (hx':OERel m w' x') (hb:∀b,x'.blk=some b→x.blk=some b∨w.heap.size≤b):HRel m h' w':=by
 refine⟨u.nodup k.1 fun b h=>(hb b h).imp id fun hle y hy hyb=>?_,fun y hy=>?_⟩
 ·have:=(k.2 y hy).2.lt hyb;omega
 ·rcases u.others k.1 y hy with rfl|⟨h1,h2⟩
  ·refine⟨fun b hyb=>?_,hx'⟩
   rcases hb b hyb with h3|h3
   ·exact (k.2 x u.old).1 b h3
   ·cases hmb:m b with
    | none=>rfl
    | some o=>have:=hm.lt hmb;omega
  ·refine⟨(k.2 y h1).1,(k.2 y h1).2.local fun b hyb=>hw b ((k.2 y h1).2.lt hyb) (h2 b hyb)⟩
theorem HRel.cons {m:Ghost} {w w':World} (k:HRel m h w) (hm:Holds m w) (hw:∀b,b<w.heap.size→w'.heap[b]?=w.heap[b]?) (hx:OERel m w' x) (hb:∀b,x.blk=some b→w.heap.size≤b):HRel m (x::h) w':=by
 refine⟨?_,fun y hy=>?_⟩
 ·cases hx':x.blk with
  | none=>rw[List.filterMap_cons_none hx'];exact k.1
  | some b=>
   rw[List.filterMap_cons_some hx']
   refine List.nodup_cons.2 ⟨fun hmm=>?_,k.1⟩
   obtain⟨y,hy,hyb⟩:=mem_blks.1 hmm
   have:=(k.2 y hy).2.lt hyb
   have:=hb b hx'
   omega
 ·simp at hy
  rcases hy with rfl|hy
  ·refine⟨fun b hyb=>?_,hx⟩
   cases hmb:m b with
   | none=>rfl
   | some o=>have:=hm.lt hmb;have:=hb b hyb;omega
  ·exact⟨(k.2 y hy).1,(k.2 y hy).2.local fun b hyb=>hw b ((k.2 y hy).2.lt hyb)⟩
theorem Tk.sub (u:Tk h x h'):h'.Sublist h:=by
 induction u with
 | here=>exact List.sublist_cons_self _ _
 | there _ ih=>exact ih.cons_cons _
theorem Tk.old (u:Tk h x h'):x∈h:=by
 induction u with
 | here=>simp
 | there _ ih=>simp[ih]
end
section
variable {m0:GF} {m:Ghost} {w0 w w':World} {s:St} {a:Act} {h':Heap} {x x':OE}
theorem SimG.up (k:SimG m0 w0 m s a w) (u:Up s.h x x' h') (hs:Same w w') (hm:∀b o,m b=some o→w'.heap[b]?=w.heap[b]?) (hw:∀b,b<w.heap.size→x.blk≠some b→w'.heap[b]?=w.heap[b]?)
  (hx':OERel m w' x') (hb:∀b,x'.blk=some b→x.blk=some b∨w.heap.size≤b):SimG m0 w0 m { s with h:=h' } a w':=
 have hsz:=k.same.size
 {k with
  holds:=fun b o e=>(hm b o e).trans (k.holds b o e)
  same:=k.same.trans hs
  heap:=k.heap.up k.holds u hw hx' hb
  frame:=fun b h1 h2=>(hw b (by omega) (fun e=>by rcases k.own x u.old b e with h|h;exact h2 h;omega)).trans (k.frame b h1 h2)
  own:=fun y hy b hyb=>by
   rcases u.sub y hy with rfl|hy
   ·rcases hb b hyb with h|h
    ·exact k.own x u.old b h
    ·right;omega
   ·exact k.own y hy b hyb }
theorem SimG.new_ (k:SimG m0 w0 m s a w) (hs:Same w w') (hw:∀b,b<w.heap.size→w'.heap[b]?=w.heap[b]?)
  (hx:OERel m w' x) (hb:∀b,x.blk=some b→w.heap.size≤b):SimG m0 w0 m { s with h:=x::s.h } a w':=
 have hsz:=k.same.size
 {k with
  holds:=fun b o e=>(hw b (k.holds.lt e)).trans (k.holds b o e)
  same:=k.same.trans hs
  heap:=k.heap.cons k.holds hw hx hb
  frame:=fun b h1 h2=>(hw b (by omega)).trans (k.frame b h1 h2)
  own:=fun y hy b hyb=>by
   simp at hy
   rcases hy with rfl|hy
   ·right;have:=hb b hyb;omega
   ·exact k.own y hy b hyb }
end
theorem Same.alloc (w:World) (o:Obj):Same w (w.alloc o):=⟨rfl,rfl,rfl,by simp,Nat.le_refl _⟩
theorem Same.setRow (w:World) (g:Nat) (cs:Array Value):Same w (w.setRow g cs):=⟨rfl,rfl,rfl,by simp,Nat.le_refl _⟩
theorem Same.of_grown {w w':World} {r:Option Nat} (h:w.grownBy w' r) (hd:w.drawn≤w'.drawn):Same w w':=⟨h.os,h.tape,h.output,h.size,hd⟩
section
variable {ro:Option Nat} {P:Program} {t:Nat} {s:St} {K:St→Prop}
variable {d:Option Nat} {ty:Nat} {pos:String} {af:Array Edge} {gd:Option (Nat × Bool)} {h h':Heap} {x y:Operand}
theorem zeroQ_spec {z:List AV} (h:zeroQ P t=some z):∃i v,P.info? t=some i∧i.zero=some v∧z=v.cells.toList.map .val∧v.cells.size=i.size∧(∀c∈v.cells.toList,c.oneCell'=true):=by
 unfold zeroQ at h
 split at h
 ·rename_i i hi
  split at h
  ·rename_i v hv
   split at h
   ·rename_i hs
    injection h with h
    exact⟨i,v,hi,hv,h.symm,hs.1,fun c hc=>by simpa using (Array.all_eq_true_iff_forall_mem.1 hs.2) c (by simpa using hc)⟩
   ·cases h
  ·cases h
 ·cases h
theorem heap_new (w:World) (o:Obj):(w.alloc o).heap[w.heap.size]?=some o:=heap_alloc_new w o
theorem heap_old (w:World) (o:Obj) (b:Nat) (h:b<w.heap.size):(w.alloc o).heap[b]?=w.heap[b]?:=Go.RowKit.Below.heap_alloc w o b h
theorem step_alloc {e:Nat} {z:List AV} [hz:TZero P e z] (hf:fits s d=true)
  (hK:∀b,K (({ s with h:=.box b z e::s.h }:St).put d (.val (.pointer (some ⟨b,0,none⟩))))):Step P ⟨d,.alloc e,ty,pos,af,gd⟩ s K:=by
 intro m0 w0 a w ⟨m,hs⟩ Q
 obtain⟨i,v,hi,hv,rfl,_,hone⟩:=zeroQ_spec hz.h
 unfold Oper.wp
 have hr:(execOp a.eval ⟨d,.alloc e,ty,pos,af,gd⟩).run P w=.ok (.value (.pointer (some ⟨w.heap.size,0,none⟩))) (w.alloc (.cells v.cells e)):=by
  simp[execOp,Instr.alloc,zeroValue,typeInfo,hi,hv,newVar,newRow]
 rw[hr]
 have hx:OERel m (w.alloc (.cells v.cells e)) (.box w.heap.size (v.cells.toList.map .val) e):=⟨_,heap_new _ _,relL_vals m _ hone⟩
 refine⟨_,hK w.heap.size,m,SimG.put (s:={ s with h:=_::s.h }) (hs.new_ (Same.alloc w _) (fun b hb=>heap_old w _ b hb) hx (fun b hb=>by injection hb with hb;omega)) hf (rel_val rfl)⟩
theorem step_box {e:Nat} {v:AV} {l:List AV} (hx:evalA s.t x=some v) (hl:v.cells=l) (hf:fits s d=true)
  (hK:∀b,K (({ s with h:=.box b l e::s.h }:St).put d (.val (.pointer (some ⟨b,0,none⟩))))):Step P ⟨d,.box e x,ty,pos,af,gd⟩ s K:=by
 intro m0 w0 a w ⟨m,hs⟩ Q
 subst hl
 unfold Oper.wp
 have hr:(execOp a.eval ⟨d,.box e x,ty,pos,af,gd⟩).run P w=.ok (.value (.pointer (some ⟨w.heap.size,0,none⟩))) (w.alloc (.cells (a.eval x).cells e)):=by
  simp[execOp,Instr.box,newVar,newRow]
 rw[hr]
 have hx:OERel m (w.alloc (.cells (a.eval x).cells e)) (.box w.heap.size v.cells e):=⟨_,heap_new _ _,(hs.tmps.eval hx).cells⟩
 exact⟨_,hK w.heap.size,m,SimG.put (s:={ s with h:=_::s.h }) (hs.new_ (Same.alloc w _) (fun b hb=>heap_old w _ b hb) hx (fun b hb=>by injection hb with hb;omega)) hf (rel_val rfl)⟩
/-! ### Stores -/
inductive SetL:List AV→Nat→AV→List AV→Prop
 | here {x y:AV} {r:List AV}:SetL (x::r) 0 y (y::r)
 | there {x y:AV} {r r':List AV} {i:Nat} (h:SetL r i y r'):SetL (x::r) (i+1) y (x::r')
theorem SetL.eq {l l':List AV} {i:Nat} {y:AV} (h:SetL l i y l'):l'=l.set i y∧i<l.length:=by
 induction h with
 | here=>simp
 | there _ ih=>simp[ih.1,ih.2]
inductive Ones (h:Heap):List AV→Prop
 | nil:Ones h []
 | cons {x:AV} {r:List AV} (hx:x.one=true) (hr:Ones h r):Ones h (x::r)
 | own {v:Value} {k:Nat} {l:List AV} {e:Nat} {r:List AV} (hb:OE.own v k l e∈h) (hr:Ones h r):Ones h (.val v::r)
theorem own_one {m:Ghost} {w:World} {v:Value} {k:Nat} {l:List AV} {e:Nat} (h:OERel m w (.own v k l e)):v.oneCell'=true:=by
 rcases h.own_cases with ⟨A,rfl,_⟩|⟨g,cap,cur,xs,rfl,_⟩<;>rfl
theorem Ones.spec {m:Ghost} {w:World} (hr:HRel m h w) {l:List AV} (ho:Ones h l):∀{cs:List Value},RelL m l cs→∀y∈cs,y.oneCell'=true:=by
 induction ho with
 | nil=>intro cs h;simp only[RelL] at h;subst h;simp
 | @cons x r hx _ ih=>
  intro cs h
  simp only[RelL] at h
  obtain⟨c,q,rfl,h1,h2⟩:=h
  intro y hy
  simp at hy
  rcases hy with rfl|hy
  ·exact h1.one hx
  ·exact ih h2 y hy
 | @own v k l e r hb _ ih=>
  intro cs h
  simp only[RelL] at h
  obtain⟨c,q,rfl,h1,h2⟩:=h
  intro y hy
  simp at hy
  rcases hy with rfl|hy
  ·simp only[Rel] at h1;exact h1.1 ▸ h1.2
  ·exact ih h2 y hy
theorem run_storeVar_at {g:Bool} {n b off:Nat} {cs:Array Value} {e:Nat} {v:Value} {w:World} (hv:valQ P t=some (g,n)) (hb:w.heap[b]?=some (.cells cs e (0,0))) (hn:v.cells.size=n) (hl:off+n≤cs.size) (h1:∀y∈v.cells.toList,y.oneCell'=true) :
  (storeVar t ⟨b,off,none⟩ v).run P w=.ok () (w.setRow b (cs.toList.take off++v.cells.toList++cs.toList.drop (off+n)).toArray):=by
 have:=run_storeCells_at P b off e v.cells.toList 0 cs w hb (by simp;omega) h1
 unfold storeVar
 simp only[Sem.run_bind,run_sizeOf hv,Result.andThen_ok]
 rw[if_neg (by simp[hn])]
 simp only[Sem.run_bind,Sem.run_pure,Result.andThen_ok,this]
 simp[hn]
theorem setRow_at (w:World) (b:Nat) {cs:Array Value} {e:Nat} {fr:Nat × Nat} (c':Array Value) (hb:w.heap[b]?=some (.cells cs e fr)):(w.setRow b c').heap[b]?=some (.cells c' e fr):=setRow_heap w b cs c' e fr hb
theorem setRow_ne (w:World) (b b':Nat) (c':Array Value) (h:b'≠b):(w.setRow b c').heap[b']?=w.heap[b']?:=setRow_other w b b' c' h
theorem relL_splice {m:Ghost} {l ys:List AV} {cs vs:List Value} {off:Nat} (h:RelL m l cs) (k:RelL m ys vs) (hl:off+ys.length≤l.length):RelL m (l.take off++ys++l.drop (off+ys.length)) (cs.take off++vs++cs.drop (off+vs.length)):=by
 rw[k.length]
 exact ((h.take off).append k).append (h.drop _)
theorem step_store_any {t n b off bt:Nat} {g:Bool} {v:AV} {l ys:List AV} [hv:TVal P t g n] (hx:evalA s.t x=some (.val (.pointer (some ⟨b,off,none⟩)))) (hy:evalA s.t y=some v) (hc:v.cells=ys) (hn:ys.length=n)
  (hl:off+n≤l.length) (h1:Ones s.h ys) (hu:Up s.h (.box b l bt) (.box b (l.take off++ys++l.drop (off+n)) bt) h') (hf:fits s d=true) (hK:K (({ s with h:=h' }:St).put d (.tup []))):Step P ⟨d,.store t x y,ty,pos,af,gd⟩ s K:=by
 intro m0 w0 a w ⟨m,hs⟩ Q
 subst hc
 unfold Oper.wp
 obtain⟨hnone,cs,q3,q4⟩:=hs.heap.2 _ hu.old
 have hyr:=(hs.tmps.eval hy).cells
 have hlen:(a.eval y).cells.size=n:=by rw[←hn,←hyr.length];simp
 have hcs:cs.size=l.length:=by rw[←q4.length];simp
 have hr:=run_storeVar_at (P:=P) (t:=t) (off:=off) hv.h q3 hlen (by omega) (h1.spec hs.heap hyr)
 have hr2:(execOp a.eval ⟨d,.store t x y,ty,pos,af,gd⟩).run P w=.ok .skip (w.setRow b (cs.toList.take off++(a.eval y).cells.toList++cs.toList.drop (off+n)).toArray):=by
  simp[execOp,eval_val hs.tmps hx,Instr.storeAt,Instr.sureAddr,hr]
 rw[hr2]
 refine⟨_,hK,m,SimG.put (s:={ s with h:=h' }) (hs.up hu (Same.setRow _ _ _) (fun b' o ho=>setRow_ne w b b' _ ?_) (fun b' hb' hne=>setRow_ne w b b' _ (fun e=>hne (by rw[e];rfl))) ⟨_,setRow_at w b _ q3,?_⟩ (fun b' hb'=>.inl hb')) hf rel_undef⟩
 ·intro e;subst e;rw[hnone b' rfl] at ho;cases ho
 ·have:=relL_splice q4 hyr (off:=off) (by omega)
  rw[hyr.length,hn] at this
  exact this
theorem step_store_whole {t n b bt:Nat} {g:Bool} {v:AV} {l ys:List AV} [hv:TVal P t g n] (hx:evalA s.t x=some (.val (.pointer (some ⟨b,0,none⟩)))) (hy:evalA s.t y=some v) (hc:v.cells=ys) (hn:ys.length=n)
  (hl:l.length=n) (h1:Ones s.h ys) (hu:Up s.h (.box b l bt) (.box b ys bt) h') (hf:fits s d=true) (hK:K (({ s with h:=h' }:St).put d (.tup []))):Step P ⟨d,.store t x y,ty,pos,af,gd⟩ s K:=
 step_store_any (off:=0) (l:=l) (ys:=ys) hx hy hc hn (by omega) h1 (by rw[List.take_zero,List.nil_append,Nat.zero_add,List.drop_of_length_le (by omega),List.append_nil];exact hu) hf hK
theorem step_store_one {t b off bt:Nat} {g:Bool} {v:AV} {l l':List AV} [hv:TVal P t g 1] (hx:evalA s.t x=some (.val (.pointer (some ⟨b,off,none⟩)))) (hy:evalA s.t y=some v) (hc:v.cells=[v])
  (h1:Ones s.h [v]) (hs:SetL l off v l') (hu:Up s.h (.box b l bt) (.box b l' bt) h') (hf:fits s d=true) (hK:K (({ s with h:=h' }:St).put d (.tup []))):Step P ⟨d,.store t x y,ty,pos,af,gd⟩ s K:=by
 obtain⟨rfl,hlt⟩:=hs.eq
 refine step_store_any (off:=off) (n:=1) (l:=l) (bt:=bt) (ys:=[v]) hx hy hc rfl (by omega) h1 ?_ hf hK
 have:l.take off++[v]++l.drop (off+1)=l.set off v:=by rw[List.set_eq_take_append_cons_drop,if_pos hlt];simp
 rw[this];exact hu
/-! ### An owned slice's row, written anew -/
theorem own_set {m:Ghost} {w w':World} {v:Value} {k e:Nat} {l l':List AV} (h:OERel m w (.own v k l e)) (hl:l'.length=l.length) {g:Nat} {cap:Nat} (hv:v=.slice (some ⟨g,0,none⟩) l.length cap) (hc:0<cap) {cur cur':Array Value}
  (hg:w.heap[g]?=some (.cells cur e (0,0))) (hg':w'.heap[g]?=some (.cells cur' e (0,0))) (hs:cur'.size=cur.size) (hr:RelE m k l' (cur'.toList.take (l.length * k))) (h1:∀y∈cur'.toList.take (l.length * k),y.oneCell'=true):OERel m w' (.own v k l' e):=by
 rcases h.own_cases with ⟨A,hA,_⟩|⟨g',cap',cur0,xs,hv',hc',q7,q8,q9,q10,_⟩
 ·rw[hv] at hA;injection hA with _ _ hA;omega
 ·rw[hv] at hv'
  injection hv' with hv' _ hcc
  injection hv' with hv'
  injection hv' with hv'
  subst hv';subst hcc
  rw[hg] at q7
  injection q7 with q7;injection q7 with q7
  subst q7
  subst hv
  exact oerel_own hl.symm hc hg' (by omega) q9 (by rw[hs,q10]) (by rw[hl];exact hr) (by rw[hl];exact h1)
theorem take_splice {cur:List Value} {N o n:Nat} {vs:List Value} (hn:vs.length=n) (h:o+n≤N) (hN:N≤cur.length):(cur.take o++vs++cur.drop (o+n)).take N=(cur.take N).take o++vs++(cur.take N).drop (o+n):=by
 have hX:(cur.take o++vs).length=o+n:=by rw[List.length_append,List.length_take,hn];omega
 rw[List.take_append,List.take_of_length_le (by omega),hX,List.take_take,Nat.min_eq_left (by omega),List.drop_take]
theorem mem_splice {xs vs:List Value} {o n:Nat} (h:∀y∈xs,y.oneCell'=true) (h2:∀y∈vs,y.oneCell'=true):∀y∈xs.take o++vs++xs.drop (o+n),y.oneCell'=true:=by
 intro y hy
 rw[List.mem_append,List.mem_append] at hy
 rcases hy with (hy|hy)|hy
 ·exact h y (List.mem_of_mem_take hy)
 ·exact h2 y hy
 ·exact h y (List.mem_of_mem_drop hy)
theorem step_store_row {t n k j off e:Nat} {g:Bool} {sv:Value} {v el':AV} {l ys:List AV} [hv:TVal P t g n] (hx:evalA s.t x=some (.ep sv k j off)) (hy:evalA s.t y=some v) (hc:v.cells=ys) (hn:ys.length=n)
  (h1:Ones s.h ys) (hj:j<l.length) (hoff:off+n≤k)
  (hel:∀(m:Ghost) (u:Value) (vs:List Value),(∀el,l[j]?=some el→Rel m el u)→u.cells.size=k→RelL m ys vs→∀uu:Value,Rel m v uu→vs=uu.cells.toList →
   ∃u',Rel m el' u'∧u'.cells.toList=u.cells.toList.take off++vs++u.cells.toList.drop (off+n))
  (hu:Up s.h (.own sv k l e) (.own sv k (l.set j el') e) h') (hf:fits s d=true) (hK:K (({ s with h:=h' }:St).put d (.tup []))):Step P ⟨d,.store t x y,ty,pos,af,gd⟩ s K:=by
 intro m0 w0 a w ⟨m,hs⟩ Q
 subst hc
 unfold Oper.wp
 obtain⟨hnone,q0⟩:=hs.heap.2 _ hu.old
 have hx:=hs.tmps.eval hx
 simp only[Rel] at hx
 obtain⟨b,N,cap,hx,hsv,hi⟩:=hx
 have hyr0:=hs.tmps.eval hy
 have hyr:=hyr0.cells
 have hlen:(a.eval y).cells.size=n:=by rw[←hn,←hyr.length];simp
 rcases q0.own_cases with ⟨A,_,rfl⟩|⟨g',cap',cur,xs,hs',hc0,q7,q8,q9,q10,q11,q12,q4,q5,q6,_⟩
 ·simp at hj
 rw[hsv] at hs'
 injection hs' with hs' hN' hcap'
 injection hs' with hs'
 injection hs' with hs'
 subst hs';subst hN';subst hcap'
 have hlk:l.length * k≤cur.size:=by rw[q10];exact Nat.mul_le_mul_right _ q8
 have hjk:j * k+k≤l.length * k:=by rw[←Nat.succ_mul];exact Nat.mul_le_mul_right _ hj
 have hr:=run_storeVar_at (P:=P) (t:=t) (off:=j * k+off) hv.h q7 hlen (by omega) (h1.spec hs.heap hyr)
 have hr2:(execOp a.eval ⟨d,.store t x y,ty,pos,af,gd⟩).run P w=.ok .skip (w.setRow b (cur.toList.take (j * k+off)++(a.eval y).cells.toList++cur.toList.drop (j * k+off+n)).toArray):=by
  simp[execOp,hx,Instr.storeAt,Instr.sureAddr,hr]
 rw[hr2]
 obtain⟨el,hel0⟩:∃el,l[j]?=some el:=⟨_,List.getElem?_eq_getElem hj⟩
 obtain⟨u,u1,u2,u3⟩:=q4.at j el hel0
 have hvl:(a.eval y).cells.toList.length=n:=by simpa using hlen
 have hul:u.cells.toList.length=k:=by simpa using u2
 obtain⟨u',v1,v2⟩:=hel m u _ (fun el1 h=>by rw[hel0] at h;injection h with h;subst h;exact u1) u2 hyr (a.eval y) hyr0 rfl
 have hu's:u'.cells.size=k:=by
  have:=congrArg List.length v2
  simp at this
  rw[this];omega
 have hcur:(cur.toList.take (j * k+off)++(a.eval y).cells.toList++cur.toList.drop (j * k+off+n)).take (l.length * k)=xs.take (j * k)++u'.cells.toList++xs.drop (j * k+k):=by
  rw[take_splice hvl (by omega) (by simpa using hlk),q11,v2,←u3]
  have e1:xs.take (j * k+off)=xs.take (j * k)++((xs.drop (j * k)).take k).take off:=by
   rw[List.take_take,Nat.min_eq_left (by omega),List.take_add]
  have e2:xs.drop (j * k+off+n)=((xs.drop (j * k)).take k).drop (off+n)++xs.drop (j * k+k):=by
   rw[List.drop_take,List.drop_drop]
   have e3:xs.drop (j * k+k)=(xs.drop (j * k+(off+n))).drop (k - (off+n)):=by
    rw[List.drop_drop];congr 1;omega
   rw[e3,List.take_append_drop,Nat.add_assoc]
  rw[e1,e2]
  simp only[List.append_assoc]
 have hget:∀y'∈xs.take (j * k)++u'.cells.toList++xs.drop (j * k+k),y'.oneCell'=true:=by
  refine mem_splice q5 ?_
  rw[v2]
  refine mem_splice (fun y' hy'=>?_) (h1.spec hs.heap hyr)
  rw[←u3] at hy'
  exact q5 y' (List.mem_of_mem_drop (List.mem_of_mem_take hy'))
 refine⟨_,hK,m,SimG.put (s:={ s with h:=h' }) (hs.up hu (Same.setRow _ _ _) (fun b' o ho=>setRow_ne w b b' _ ?_) (fun b' hb' hne=>setRow_ne w b b' _ (fun e=>hne (by rw[e];exact q6)))
  (own_set q0 (by simp) hsv hc0 q7 (setRow_at w b _ q7) (by simp;omega) ?_ ?_) (fun b' hb'=>.inl hb')) hf rel_undef⟩
 ·intro e;subst e;rw[hnone b' q6] at ho;cases ho
 ·show RelE m k (l.set j el') ((cur.toList.take (j * k+off)++(a.eval y).cells.toList++cur.toList.drop (j * k+off+n)).take (l.length * k))
  rw[hcur]
  exact relE_set q4 j el' u' v1 hu's hj
 ·show ∀y'∈(cur.toList.take (j * k+off)++(a.eval y).cells.toList++cur.toList.drop (j * k+off+n)).take (l.length * k),_
  rw[hcur]
  exact hget
theorem step_store_elem {t k j e:Nat} {g:Bool} {sv:Value} {v:AV} {l ys:List AV} [hv:TVal P t g k] (hx:evalA s.t x=some (.ep sv k j 0)) (hy:evalA s.t y=some v) (hc:v.cells=ys) (hn:ys.length=k)
  (h1:Ones s.h ys) (hj:j<l.length) (hu:Up s.h (.own sv k l e) (.own sv k (l.set j v) e) h') (hf:fits s d=true) (hK:K (({ s with h:=h' }:St).put d (.tup []))):Step P ⟨d,.store t x y,ty,pos,af,gd⟩ s K:=
 step_store_row (off:=0) hx hy hc hn h1 hj (by omega) (fun m u vs h2 h3 h4 uu h6 h7=>⟨uu,h6,by
  rw[List.take_zero,List.nil_append,Nat.zero_add,List.drop_of_length_le (by simp[h3]),List.append_nil,h7]⟩) hu hf hK
theorem step_store_field {t k j off e:Nat} {g:Bool} {sv:Value} {v:AV} {l cs cs':List AV} [hv:TVal P t g 1] (hx:evalA s.t x=some (.ep sv k j off)) (hy:evalA s.t y=some v) (hc:v.cells=[v])
  (h1:Ones s.h [v]) (hel:l[j]?=some (.agg cs)) (hcs:cs.length=k) (hset:SetL cs off v cs') (hu:Up s.h (.own sv k l e) (.own sv k (l.set j (.agg cs')) e) h') (hf:fits s d=true) (hK:K (({ s with h:=h' }:St).put d (.tup []))):Step P ⟨d,.store t x y,ty,pos,af,gd⟩ s K:=by
 obtain⟨rfl,hlt⟩:=hset.eq
 have hj:=(List.getElem?_eq_some_iff.1 hel).1
 refine step_store_row (off:=off) (n:=1) hx hy hc rfl h1 hj (by omega) (fun m u vs h2 h3 h4 uu h6 h7=>?_) hu hf hK
 have h2':=h2 _ hel
 clear h2
 simp only[Rel] at h2'
 obtain⟨us,rfl,h2⟩:=h2'
 refine⟨.agg (us.toList.take off++vs++us.toList.drop (off+1)).toArray,?_,rfl⟩
 simp only[Rel]
 refine⟨_,rfl,?_⟩
 have:=relL_splice h2 h4 (off:=off) (by rw[List.length_singleton];omega)
 rw[h4.length] at this
 rw[List.set_eq_take_append_cons_drop,if_pos hlt]
 simpa using this
end
end Go.VM
namespace Go.VM
open Go
set_option linter.unusedVariables false
set_option linter.unusedSimpArgs false
section
variable {ro:Option Nat} {P:Program} {t:Nat} {s:St} {K:St→Prop}
variable {d:Option Nat} {ty:Nat} {pos:String} {af:Array Edge} {gd:Option (Nat × Bool)} {h h':Heap} {x y:Operand} {tm:List (Nat × AV)}
/-! ### Lengths, least and greatest -/
theorem run_len_slice {e k bs:Nat} {g:Bool} (he:elemQ P t=some (e,k,bs,g)) (A:Option Addr) (n c ty:Nat) (w:World):(Builtin.len_ #[t] ty #[.slice A n c]).run P w=.ok (.int .i64 n) w:=by
 simp[Builtin.len_,run_underlying (elemQ_spec he).1,goInt]
theorem pur_len {xt e k bs N:Nat} {g:Bool} {v:AV} {l:List AV} [he:TElem P xt e k bs g] (hx:evalA tm x=some v) (hs:SrcA h k v l) (hN:l.length=N):PurV P ⟨d,.call { callee:=.builtin .len,args:=#[x],argTypes:=#[xt] },ty,pos,af,gd⟩ tm h (.val (.int .i64 (N:Int))):=by
 subst hN
 intro m a w0 ht g1 g2
 refine⟨.int .i64 (l.length:Int),rel_val rfl,fun w=>?_⟩
 obtain⟨A,c,ys,hu,_⟩:=hs.spec g1 g2 (ht.eval hx)
 simp[execOp,resolve,invoke,builtin,hu,run_len_slice he.h]
section
variable {xt yt:Nat} {k:IntKind} {a b c:Int}
theorem pur_min (hx:evalA tm x=some (.val (.int k a))) (hy:evalA tm y=some (.val (.int k b))):PurV P ⟨d,.call { callee:=.builtin .min,args:=#[x,y],argTypes:=#[xt,yt] },ty,pos,af,gd⟩ tm h (.val (.int k (min a b))):=
 pur_val fun m ac ht w=>by
  simp[execOp,resolve,invoke,builtin,eval_val ht hx,eval_val ht hy,Builtin.min_,Builtin.min2]
  split<;>omega
theorem pur_max (hx:evalA tm x=some (.val (.int k a))) (hy:evalA tm y=some (.val (.int k b))):PurV P ⟨d,.call { callee:=.builtin .max,args:=#[x,y],argTypes:=#[xt,yt] },ty,pos,af,gd⟩ tm h (.val (.int k (max a b))):=
 pur_val fun m ac ht w=>by
  simp[execOp,resolve,invoke,builtin,eval_val ht hx,eval_val ht hy,Builtin.max_,Builtin.max2]
  split<;>omega
end
/-! ### Many operands -/
inductive Evals (tm:List (Nat × AV)):List Operand→List AV→Prop
 | nil:Evals tm [] []
 | cons {x:Operand} {v:AV} {xs:List Operand} {vs:List AV} (h:evalA tm x=some v) (hr:Evals tm xs vs):Evals tm (x::xs) (v::vs)
theorem Evals.rel {m:Ghost} {a:Act} (ht:TRel m tm a.tmps) {xs:List Operand} {vs:List AV} (h:Evals tm xs vs):RelL m vs (xs.map a.eval):=by
 induction h with
 | nil=>simp[RelL]
 | cons h _ ih=>
  simp only[List.map_cons,RelL]
  exact⟨_,_,rfl,ht.eval h,ih⟩
theorem pur_makeFunc {f:Fn} {caps:Array Operand} {l:List AV} (hx:Evals tm caps.toList l):PurV P ⟨d,.makeFunc f #[] caps,ty,pos,af,gd⟩ tm h (.clo f l):=by
 intro m a w0 ht g1 g2
 refine⟨.func f #[] (caps.map a.eval),?_,fun w=>by simp[execOp,Instr.makeFunc]⟩
 simp only[Rel]
 exact⟨_,rfl,by simpa using hx.rel ht⟩
/-! ### Structs and arrays made of parts -/
def placesQ (P:Program) (t:Nat):Option (List (Nat × Nat)):=
 match P.underlying t with
 | some (.struct fs)=>fs.toList.mapM fun f=>(P.info? f.type).map fun i=>(f.offset,i.size)
 | _=>none
class TPlaces (P:Program) (t:Nat) (pl:outParam (List (Nat × Nat))):Prop where h:placesQ P t=some pl
def splice {α:Type} (l:List α) (off:Nat) (ys:List α):List α:=l.take off++ys++l.drop (off+ys.length)
def fillA (pl:List (Nat × Nat)):List AV→List (Nat × AV)→Option (List AV)
 | z,[]=>some z
 | z,(i,v)::r=>
  match pl[i]? with
  | some (off,n)=>if v.cells.length=n∧off+n≤z.length then fillA pl (splice z off v.cells) r else none
  | none=>none
theorem foldl_splice:∀(vs:List Value) (cs:Array Value) (off j:Nat),off+j+vs.length≤cs.size →
  ((vs.zipIdx j).foldl (fun (cs:Array Value) (c:Value × Nat)=>cs.setIfInBounds (off+c.2) c.1) cs).toList=splice cs.toList (off+j) vs:=by
 intro vs
 induction vs with
 | nil=>intro cs off j _;simp[splice]
 | cons v vs ih=>
  intro cs off j hl
  simp only[List.zipIdx_cons,List.foldl_cons]
  rw[ih _ off (j+1) (by simp at hl ⊢;omega)]
  simp only[List.length_cons] at hl
  unfold splice
  rw[Array.toList_setIfInBounds]
  have h1:off+j<cs.toList.length:=by simp;omega
  rw[List.drop_set_of_lt (by omega)]
  have e1:(cs.toList.set (off+j) v).take (off+(j+1))=cs.toList.take (off+j)++[v]:=by
   rw[show off+(j+1)=(off+j)+1 by omega,List.set_eq_take_append_cons_drop,if_pos h1]
   have hlen:(cs.toList.take (off+j)).length=off+j:=by rw[List.length_take];omega
   rw[List.take_append,List.take_of_length_le (by omega),hlen]
   simp
  rw[e1,show off+(j+1)+vs.length=off+j+(vs.length+1) by omega]
  simp
theorem fill_rel {m:Ghost} {pl:List (Nat × Nat)}:∀(ps:List (Nat × AV)) (vs:List (Nat × Value)) (z z':List AV) (cs:Array Value),RelL m z cs.toList→ps.length=vs.length →
  (∀(j:Nat) (p:Nat × AV) (q:Nat × Value),ps[j]?=some p→vs[j]?=some q→p.1=q.1∧Rel m p.2 q.2)→fillA pl z ps=some z'→∃cs',Instr.fill (pl[·]?) cs vs=some cs'∧RelL m z' cs'.toList:=by
 intro ps
 induction ps with
 | nil=>
  intro vs z z' cs hz hl _ hf
  have:vs=[]:=List.eq_nil_of_length_eq_zero (by simpa using hl.symm)
  subst this
  simp only[fillA] at hf
  injection hf with hf;subst hf
  exact⟨cs,rfl,hz⟩
 | cons p ps ih=>
  intro vs z z' cs hz hl hr hf
  obtain⟨i,v⟩:=p
  cases vs with
  | nil=>simp at hl
  | cons q vs=>
   obtain⟨i',u⟩:=q
   obtain⟨h1,h2⟩:=hr 0 (i,v) (i',u) rfl rfl
   simp only at h1 h2
   subst h1
   simp only[fillA] at hf
   cases hp:pl[i]? with
   | none=>simp[hp] at hf
   | some on=>
    obtain⟨off,n⟩:=on
    simp only[hp] at hf
    split at hf
    ·rename_i hc
     have hu:=h2.cells
     have hul:u.cells.size=n:=by rw[←hc.1,←hu.length];simp
     have hcs:cs.size=z.length:=by rw[←hz.length];simp
     have e1:=foldl_splice u.cells.toList cs off 0 (by simp;omega)
     have e2:u.cells.zipIdx.foldl (fun cs (c,j)=>cs.setIfInBounds (off+j) c) cs=(u.cells.toList.zipIdx.foldl (fun (cs:Array Value) (c:Value × Nat)=>cs.setIfInBounds (off+c.2) c.1) cs):=by
      rw[←Array.foldl_toList,Array.toList_zipIdx]
     have hz':RelL m (splice z off v.cells) (u.cells.zipIdx.foldl (fun cs (c,j)=>cs.setIfInBounds (off+j) c) cs).toList:=by
      rw[e2,e1,Nat.add_zero]
      exact relL_splice hz hu (by omega)
     obtain⟨cs',g1,g2⟩:=ih vs _ z' _ hz' (by simpa using hl) (fun j p q hp hq=>hr (j+1) p q (by simpa using hp) (by simpa using hq)) hf
     refine⟨cs',?_,g2⟩
     simp only[Instr.fill,hp]
     rw[if_neg (by rw[hul];simp;omega)]
     exact g1
    ·cases hf
inductive EvalP (tm:List (Nat × AV)):List (Nat × Operand)→List (Nat × AV)→Prop
 | nil:EvalP tm [] []
 | cons {i:Nat} {x:Operand} {v:AV} {xs:List (Nat × Operand)} {vs:List (Nat × AV)} (h:evalA tm x=some v) (hr:EvalP tm xs vs):EvalP tm ((i,x)::xs) ((i,v)::vs)
theorem EvalP.spec {m:Ghost} {a:Act} (ht:TRel m tm a.tmps) {xs:List (Nat × Operand)} {vs:List (Nat × AV)} (h:EvalP tm xs vs):vs.length=(xs.map fun (i,x)=>(i,a.eval x)).length ∧
  ∀(j:Nat) (p:Nat × AV) (q:Nat × Value),vs[j]?=some p→(xs.map fun (i,x)=>(i,a.eval x))[j]?=some q→p.1=q.1∧Rel m p.2 q.2:=by
 induction h with
 | nil=>exact⟨rfl,fun j p q h _=>by simp at h⟩
 | cons h _ ih=>
  refine⟨by simpa using ih.1,fun j p q hp hq=>?_⟩
  cases j with
  | zero=>simp at hp hq;subst hp;subst hq;exact⟨rfl,ht.eval h⟩
  | succ j=>exact ih.2 j p q (by simpa using hp) (by simpa using hq)
theorem pur_build {bt:Nat} {z z':List AV} {pl:List (Nat × Nat)} {ps:Array (Nat × Operand)} {vs:List (Nat × AV)} [hz:TZero P bt z] [hp:TPlaces P bt pl] (hx:EvalP tm ps.toList vs) (hf:fillA pl z vs=some z'):PurV P ⟨d,.build bt ps,ty,pos,af,gd⟩ tm h (.agg z'):=by
 intro m a w0 ht g1 g2
 obtain⟨i,v,hi,hv,rfl,hsz,hone⟩:=zeroQ_spec hz.h
 obtain⟨h1,h2⟩:=hx.spec ht
 obtain⟨cs',h3,h4⟩:=fill_rel vs (ps.toList.map fun (i,x)=>(i,a.eval x)) _ z' v.cells (relL_vals m _ hone) h1 h2 hf
 refine⟨.agg cs',by simp only[Rel];exact⟨_,rfl,h4⟩,fun w=>?_⟩
 have hpl:=hp.h
 unfold placesQ at hpl
 split at hpl
 ·rename_i fs hu
  have hb:P.built bt (ps.map fun (i,x)=>(i,a.eval x)).toList=some cs':=by
   simp only[Program.built,hi,hu,hv,hpl]
   simpa using h3
  simp[execOp,run_build w bt _ cs' hb]
 ·cases hpl
/-! ### Slices made -/
theorem relE_vals {m:Ghost} {k:Nat}:∀{vs:List AV} {us:List Value},RelL m vs us→(∀v∈vs,v.cells.length=k)→RelE m k vs (us.flatMap fun u=>u.cells.toList)
 | [],us,h,_=>by simp only[RelL] at h;subst h;simp[RelE]
 | x::xs,us,h,hk=>by
  simp only[RelL] at h
  obtain⟨c,r,rfl,h1,h2⟩:=h
  simp only[List.flatMap_cons,RelE]
  refine⟨c,_,rfl,?_,h1,relE_vals h2 fun v hv=>hk v (by simp[hv])⟩
  rw[←hk x (by simp),←h1.cells.length];simp
theorem relL_flat {m:Ghost}:∀{vs:List AV} {us:List Value},RelL m vs us→RelL m (vs.flatMap AV.cells) (us.flatMap fun u=>u.cells.toList)
 | [],us,h=>by simp only[RelL] at h;subst h;simp[RelL]
 | x::xs,us,h=>by
  simp only[RelL] at h
  obtain⟨c,r,rfl,h1,h2⟩:=h
  simp only[List.flatMap_cons]
  exact h1.cells.append (relL_flat h2)
theorem fill_row (k:Nat) (hk:0<k):∀(us:List Value) (cs:Array Value) (j:Nat),(∀u∈us,u.cells.size=k)→(j+us.length) * k≤cs.size →
  ∃cs',Instr.fill (fun i=>some (i * k,k)) cs ((us.zipIdx j).map fun (u,i)=>(i,u))=some cs'∧cs'.toList=splice cs.toList (j * k) (us.flatMap fun u=>u.cells.toList):=by
 intro us
 induction us with
 | nil=>intro cs j _ _;exact⟨cs,rfl,by simp[splice]⟩
 | cons u us ih=>
  intro cs j hu hl
  have huk:=hu u (by simp)
  simp only[List.length_cons] at hl
  have hjk:j * k+k≤cs.size:=by
   have:(j+1) * k≤(j+(us.length+1)) * k:=Nat.mul_le_mul_right _ (by omega)
   rw[Nat.succ_mul] at this;omega
  have e1:=foldl_splice u.cells.toList cs (j * k) 0 (by simp;omega)
  have e2:u.cells.zipIdx.foldl (fun cs (c,i)=>cs.setIfInBounds (j * k+i) c) cs=(u.cells.toList.zipIdx.foldl (fun (cs:Array Value) (c:Value × Nat)=>cs.setIfInBounds (j * k+c.2) c.1) cs):=by
   rw[←Array.foldl_toList,Array.toList_zipIdx]
  rw[Nat.add_zero,←e2] at e1
  have hsz:(u.cells.zipIdx.foldl (fun cs (c,i)=>cs.setIfInBounds (j * k+i) c) cs).size=cs.size:=by
   have:=congrArg List.length e1
   rw[Array.length_toList] at this
   rw[this]
   simp[splice];omega
  have hl':(j+1+us.length) * k≤cs.size:=by
   rw[show j+1+us.length=j+(us.length+1) by omega];exact hl
  obtain⟨cs',g1,g2⟩:=ih (u.cells.zipIdx.foldl (fun cs (c,i)=>cs.setIfInBounds (j * k+i) c) cs) (j+1) (fun v hv=>hu v (by simp[hv])) (by rw[hsz];exact hl')
  refine⟨cs',?_,?_⟩
  ·simp only[List.zipIdx_cons,List.map_cons,Instr.fill]
   rw[if_neg (by rw[huk];simp;omega)]
   exact g1
  ·rw[g2,e1]
   unfold splice
   have hul:u.cells.toList.length=k:=by simpa using huk
   have hlen:(cs.toList.take (j * k)).length=j * k:=by rw[List.length_take];simp;omega
   have e3:(j+1) * k=j * k+k:=Nat.succ_mul _ _
   simp only[List.flatMap_cons,List.append_assoc,List.length_append]
   rw[e3,List.take_append,List.take_of_length_le (by omega),hlen,Nat.add_sub_cancel_left,List.take_left' hul]
   rw[show j * k+k+(us.flatMap fun u=>u.cells.toList).length=j * k+(k+(us.flatMap fun u=>u.cells.toList).length) by omega]
   rw[List.drop_append,List.drop_of_length_le (by omega),hlen,Nat.add_sub_cancel_left,List.nil_append,List.drop_append,List.drop_of_length_le (by omega),hul,Nat.add_sub_cancel_left,List.nil_append,List.drop_drop]
   simp only[List.append_assoc,Nat.add_assoc]
theorem relL_zipIdx {xs:List Operand} {a:Act} {n:Nat}:((xs.zipIdx n).map fun (p:Operand × Nat)=>(p.2,p.1)).map (fun (i,x)=>(i,a.eval x))=(((xs.map a.eval).zipIdx n).map fun (u,i)=>(i,u)):=by
 simp only[List.zipIdx_map,List.map_map]
 rfl
theorem step_buildSlice {bt n e k bs:Nat} {g:Bool} {ps:Array (Nat × Operand)} {xs:List Operand} {vs:List AV} [he:TElem P bt e k bs g] (hps:ps.toList=(xs.zipIdx).map fun p=>(p.2,p.1)) (hn:xs.length=n) (hx:Evals s.t xs vs)
  (hk:∀v∈vs,v.cells.length=k) (h1:Ones s.h (vs.flatMap AV.cells)) (hbig:n * k≤16777216) (hf:fits s d=true)
  (hK:∀v,K (({ s with h:=.own v k vs e::s.h }:St).put d (.val v))):Step P ⟨d,.buildSlice bt n ps,ty,pos,af,gd⟩ s K:=by
 intro m0 w0 a w ⟨m,hs⟩ Q
 obtain⟨q1,q2,q3,i,z,hi,hsz,hby,hz,hzs⟩:=elemQ_spec he.h
 have hr:=hx.rel hs.tmps
 have hvl:vs.length=n:=by rw[←hr.length,List.length_map,hn]
 have hus:∀u∈xs.map a.eval,u.cells.size=k:=by
  intro u hu
  obtain⟨j,hj,rfl⟩:=List.getElem_of_mem hu
  have hj':j<vs.length:=by rw[←hr.length];exact hj
  obtain⟨c,c1,c2⟩:=hr.at j vs[j] (List.getElem?_eq_getElem hj')
  rw[List.getElem?_eq_getElem hj] at c1
  injection c1 with c1
  rw[c1,←hk _ (List.getElem_mem hj'),←c2.cells.length];simp
 have hrow:=relE_vals hr hk
 have hone:∀y∈(xs.map a.eval).flatMap (fun u=>u.cells.toList),y.oneCell'=true:=by
  have:RelL m (vs.flatMap AV.cells) ((xs.map a.eval).flatMap fun u=>u.cells.toList):=relL_flat hr
  exact h1.spec hs.heap this
 unfold Oper.wp
 by_cases h0:n=0
 ·subst h0
  have:xs=[]:=List.eq_nil_of_length_eq_zero hn
  subst this
  have:vs=[]:=List.eq_nil_of_length_eq_zero hvl
  subst this
  have hps':ps=#[]:=by apply Array.ext';simpa using hps
  subst hps'
  have hrr:(execOp a.eval ⟨d,.buildSlice bt 0 #[],ty,pos,af,gd⟩).run P w=.ok (.value (.slice (some ⟨w.heap.size,0,none⟩) 0 0)) (w.alloc (.cells #[] e)):=by
   simp[execOp,Instr.buildSlice,run_underlying q1,run_sizeOf q2,newRow,Instr.fill,Array.range_zero']
  rw[hrr]
  exact⟨_,hK _,m,SimG.put (s:={ s with h:=_::s.h }) (hs.new_ (Same.alloc w _) (fun b hb=>heap_old w _ b hb) (x:=.own (.slice (some ⟨w.heap.size,0,none⟩) 0 0) k [] e) (.inl ⟨_,rfl,rfl⟩) (fun b hb=>by simp[OE.blk,ownBlk] at hb)) hf (rel_val rfl)⟩
 ·have hpos:0<n * k:=Nat.mul_pos (by omega) q3
  obtain⟨cs',f1,f2⟩:=fill_row k q3 (xs.map a.eval) ((Array.range (n * k)).map (z.cells[· % z.cells.size]!)) 0 hus (by simp[hn])
  have hcs:cs'.toList=(xs.map a.eval).flatMap fun u=>u.cells.toList:=by
   rw[f2]
   unfold splice
   have hl:((xs.map a.eval).flatMap fun u=>u.cells.toList).length=n * k:=by rw[hrow.length,hvl]
   rw[Nat.zero_mul,List.take_zero,List.nil_append,Nat.zero_add,hl,List.drop_of_length_le (by simp),List.append_nil]
  have hcsz:cs'.size=n * k:=by
   have:=congrArg List.length hcs
   rw[hrow.length,hvl] at this
   simpa using this
  have hrr:(execOp a.eval ⟨d,.buildSlice bt n ps,ty,pos,af,gd⟩).run P w=.ok (.value (.slice (some ⟨w.heap.size,0,none⟩) n n)) (w.alloc (.cells cs' e)):=by
   have hparts:(ps.map fun (i,x)=>(i,a.eval x)).toList=(((xs.map a.eval).zipIdx 0).map fun (u,i)=>(i,u)):=by
    rw[Array.toList_map,hps]
    exact relL_zipIdx
   have hzv:(zeroValue e).run P w=.ok z w:=by simp[zeroValue,typeInfo,hi,hz]
   simp only[execOp,Instr.buildSlice,run_underlying q1,run_sizeOf q2,Sem.run_bind,Result.andThen_ok]
   rw[if_neg (by omega),if_neg (by omega)]
   simp only[Sem.run_bind,hzv,Result.andThen_ok,Sem.run_pure,hparts,f1]
   simp[newRow]
  rw[hrr]
  have hbound:n≤maxLen:=by
   have:n * 1≤n * k:=Nat.mul_le_mul_left _ q3
   simp only[maxLen];omega
  refine⟨_,hK _,m,SimG.put (s:={ s with h:=_::s.h }) (hs.new_ (Same.alloc w _) (fun b hb=>heap_old w _ b hb) (x:=.own (.slice (some ⟨w.heap.size,0,none⟩) n n) k vs e) (oerel_own hvl.symm (by omega) (heap_new _ _) (by omega) hbound hcsz ?_ ?_) (fun b hb=>?_)) hf (rel_val rfl)⟩
  ·rw[List.take_of_length_le (by rw[hcs,hrow.length];exact Nat.le_refl _),hcs];exact hrow
  ·rw[List.take_of_length_le (by rw[hcs,hrow.length];exact Nat.le_refl _),hcs];exact hone
  ·simp only[OE.blk,ownBlk] at hb
   rw[if_neg h0] at hb
   injection hb with hb;omega
end
end Go.VM
namespace Go.VM
open Go
set_option linter.unusedVariables false
set_option linter.unusedSimpArgs false
section
variable {ro:Option Nat} {P:Program} {t:Nat} {s:St} {K:St→Prop}
variable {d:Option Nat} {ty:Nat} {pos:String} {af:Array Edge} {gd:Option (Nat × Bool)} {h h':Heap} {x y:Operand} {tm:List (Nat × AV)}
/-! ### append -/
theorem oerel_row {m:Ghost} {w:World} {v:Value} {k e N:Nat} {l:List AV} {zs:List Value} (h:w.ownsRow 0 e k v N zs) (hN:0<N) (hl:l.length=N) (hr:RelE m k l zs) (h1:∀y∈zs,y.oneCell'=true):OERel m w (.own v k l e)∧∃g cap,v=.slice (some ⟨g,0,none⟩) N cap∧ownBlk v=some g:=by
 have h':=h
 obtain⟨q0,q1⟩:=h
 rcases q1 with ⟨_,q1⟩|⟨g,cap,cur,rfl,_,hg,r1,r2,r3,r4⟩
 ·omega
 have hb:ownBlk (.slice (some ⟨g,0,none⟩) N cap)=some g:=by simp[ownBlk];omega
 exact⟨.inr ⟨g,hb,zs,by rw[hl];exact h',hr,h1⟩,g,cap,rfl,hb⟩
theorem run_append_zero {e k bs:Nat} {g:Bool} (he:elemQ P t=some (e,k,bs,g)) {A B:Option Addr} {n c c' ty:Nat} (hn:n≤c) (w:World) :
  (Builtin.append_ #[t,t] ty #[.slice A n c,.slice B 0 c']).run P w=.ok (.slice A n c) w:=by
 obtain⟨q1,q2,q3,i,z,hi,hsz,hby,hz,hzs⟩:=elemQ_spec he
 cases A<;>cases B<;>simp[Builtin.append_,run_underlying q1,sizeOf,typeInfo,hi,Builtin.lenOf,hn,Builtin.firstCells,loadCells,loadCellsFrom,storeCells]
theorem run_append_o {m:Ghost} {w:World} {e k bs ty:Nat} {g:Bool} (he:elemQ P t=some (e,k,bs,g)) {v:Value} {l xs:List AV} (ho:OERel m w (.own v k l e)) {A:Option Addr} {c:Nat} {ys:List Value} (hr:RelE m k xs ys) (h1:∀y∈ys,y.oneCell'=true)
  (hA:0<xs.length→∃b off cs e' fr,A=some ⟨b,off,none⟩∧w.heap[b]?=some (.cells cs e' fr)∧off+xs.length * k≤cs.size∧(cs.toList.drop off).take (xs.length * k)=ys)
  (hb1:l.length+xs.length≤maxLen) (hb2:(l.length+xs.length) * bs≤140737488355328) :
  ∃v' w',(Builtin.append_ #[t,t] ty #[v,.slice A xs.length c]).run P w=.ok v' w'∧OERel m w' (.own v' k (l++xs) e)∧(∀b,b<w.heap.size→ownBlk v≠some b→w'.heap[b]?=w.heap[b]?)∧Same w w'∧(∀b,ownBlk v'=some b→ownBlk v=some b∨w.heap.size≤b):=by
 by_cases h0:xs.length=0
 ·have:xs=[]:=List.eq_nil_of_length_eq_zero h0
  subst this
  have hsh:∃A n c,v=.slice A n c∧n≤c:=by
   rcases ho.own_cases with ⟨A,rfl,_⟩|⟨g',cap',cur,zs,rfl,hc0,q7,q8,_⟩
   ·exact⟨A,0,0,rfl,Nat.le_refl _⟩
   ·exact⟨_,_,_,rfl,q8⟩
  obtain⟨A',n,c',rfl,hn⟩:=hsh
  exact⟨_,w,run_append_zero he hn w,by rw[List.append_nil];exact ho,fun _ _ _=>rfl,Same.refl w,fun b hb=>.inl hb⟩
 ·obtain⟨q1,q2,q3,i,z,hi,hsz,hby,hz,hzs⟩:=elemQ_spec he
  obtain⟨b,off,cs,e',fr,rfl,hbh,hof,hys⟩:=hA (by omega)
  have hl:=hr.length
  have hnews:∀(j:Nat) (u:Value),ys[j]?=some u→w.cell? ((⟨b,off,none⟩:Addr).add j)=some u:=by
   intro j u hu
   rw[add_mk',cell_of hbh]
   rw[←hys,List.getElem?_take] at hu
   split at hu
   ·rw[List.getElem?_drop] at hu;simpa using hu
   ·cases hu
  subst hsz;subst hby
  rcases ho.own_cases with ⟨A,rfl,rfl⟩|⟨g',cap',cur,zs,rfl,hc0,q7,q8,q9,q10,q11,q12,q4,q5,q6,q13⟩
  ·
   have hb1':xs.length≤maxLen:=by simpa using hb1
   have hb2':xs.length * i.bytes≤140737488355328:=by simpa using hb2
   have h63:((0+xs.length:Nat):Int)≤9223372036854775807:=by simp only[maxLen] at hb1';omega
   have hge:=grownCap_ge w (0+xs.length) 0 e
   have hcm:=grownCap_le_maxLen w (0+xs.length) 0 e (by simpa using hb1')
   have hrun:(Builtin.append_ #[t,t] ty #[.slice A 0 0,.slice (some ⟨b,off,none⟩) xs.length c]).run P w =
     .ok (.slice (some ⟨w.heap.size,0,none⟩) (0+xs.length) (grownCap w (0+xs.length) 0 e)) (w.drew.alloc (.cells ((#[]:Array Value)++ys.toArray++Builtin.zeroCells z.cells (grownCap w (0+xs.length) 0 e - (0+xs.length))) e)):=by
    have hfit:Builtin.nextslicecap (0+xs.length) 0 * i.bytes≤281474976710656:=by rw[nextslicecap_zero (by omega),Nat.zero_add];omega
    cases A with
    | none=>
     have:=run_append_nil (P:=P) w t ty e i z q1 hi hz ⟨b,off,none⟩ xs.length c ys hl hnews (by omega) (by omega) (by omega)
     simpa using this
    | some a0=>exact run_append_grow (P:=P) w t ty e i z q1 hi hz a0 0 0 [] (by simp) (by simp) ⟨b,off,none⟩ xs.length c ys hl hnews (by omega) h63 hfit
   have hcur:((#[]:Array Value)++ys.toArray++Builtin.zeroCells z.cells (grownCap w (0+xs.length) 0 e - (0+xs.length))).toList.take (xs.length * i.size)=ys:=by
    simp only[Array.toList_append,Array.toList_empty,List.nil_append]
    rw[←hl];exact List.take_left
   refine⟨_,_,hrun,?_,fun b' hb' _=>Go.RowKit.Below.heap_alloc w.drew _ b' hb',⟨rfl,rfl,rfl,by simp,Nat.le_succ _⟩,fun b' hb'=>?_⟩
   ·refine oerel_own (by simp) (by omega) (heap_alloc_new w.drew _) (by simp at hge ⊢;omega) hcm ?_ ?_ ?_
    ·simp only[Array.size_append,List.size_toArray,size_zeroCells,hzs,hl,←Nat.add_mul]
     simp
     rw[←Nat.add_mul]
     congr 1
     simp at hge
     omega
    ·rw[List.nil_append,hcur];exact hr
    ·rw[List.nil_append,hcur];exact h1
   ·simp only[ownBlk] at hb'
    split at hb'
    ·cases hb'
    ·injection hb' with hb';omega
  ·obtain⟨v',w',hrun,g2,g3,_,g5⟩:=run_append_own_at (P:=P) w 0 t ty e i z i.size i.bytes q1 hi hz rfl rfl hzs q3 (.slice (some ⟨g',0,none⟩) l.length cap') l.length zs q13 ⟨b,off,none⟩ xs.length c ys hl hnews h1 hb1 hb2 (Nat.zero_le _)
   have hdr:w.drawn≤w'.drawn:=by
    by_cases hroom:l.length+xs.length≤cap'
    ·have hfit:l.length * i.size+ys.length≤cur.size:=by rw[hl,q10,←Nat.add_mul];exact Nat.mul_le_mul_right _ hroom
     have hr:=run_append_room (P:=P) w t ty e i q1 hi g' l.length cap' cur q7 ⟨b,off,none⟩ xs.length c ys hl hnews h1 hroom hfit
     rw[hrun] at hr;injection hr with _ hr;rw[hr];exact Nat.le_refl _
    ·have hmx:l.length+xs.length≤9223372036854775807:=by simp only[maxLen] at hb1;omega
     have holds:∀j u,zs[j]?=some u→w.cell? ((⟨g',0,none⟩:Addr).add j)=some u:=q13.cells (g:=g') rfl
     have hr:=run_append_grow (P:=P) w t ty e i z q1 hi hz ⟨g',0,none⟩ l.length cap' zs q13.1 holds ⟨b,off,none⟩ xs.length c ys hl hnews (by omega) (by omega) (growslice_fits (by omega) hb2)
     rw[hrun] at hr;injection hr with _ hr;rw[hr];exact Nat.le_succ _
   obtain⟨r1,g'',cap'',rfl,r2⟩:=oerel_row g2 (Nat.lt_of_lt_of_le (Nat.pos_of_ne_zero h0) (Nat.le_add_left _ _)) (by simp) (q4.append hr) (by intro y hy;rw[List.mem_append] at hy;rcases hy with hy|hy;exact q5 y hy;exact h1 y hy)
   refine⟨_,w',hrun,r1,fun b' hb' hne=>g3.block b' hb' (fun e=>hne ?_),Same.of_grown g3 hdr,fun b' hb'=>?_⟩
   ·rw[q6];simp[Value.ownBlock] at e;rw[e]
   ·rw[r2] at hb'
    injection hb' with hb'
    subst hb'
    rcases g5 with g5|g5
    ·left;rw[q6];simp[Value.ownBlock] at g5;rw[g5]
    ·right;simp[Value.ownBlock] at g5;omega
theorem step_append {xt e k bs:Nat} {g:Bool} {v:Value} {l xs:List AV} {sv:AV} [he:TElem P xt e k bs g] (hx:evalA s.t x=some (.val v)) (ho:OE.own v k l e∈s.h) (hy:evalA s.t y=some sv) (hs:SrcA s.h k sv xs)
  (hb:(l.length+xs.length) * bs≤140737488355328) (hb1:l.length+xs.length≤9223372036854775807) (hf:fits s d=true) (hK:∀v',∃h',Up s.h (.own v k l e) (.own v' k (l++xs) e) h'∧K (({ s with h:=h' }:St).put d (.val v'))) :
  Step P ⟨d,.call { callee:=.builtin .append,args:=#[x,y],argTypes:=#[xt,xt] },ty,pos,af,gd⟩ s K:=by
 intro m0 w0 a w ⟨m,hsim⟩ Q
 obtain⟨A,c,ys,hu,h1,h2,h3,h4,h5,h6⟩:=hs.spec hsim.holds hsim.heap (hsim.tmps.eval hy)
 obtain⟨hnone,q0⟩:=hsim.heap.2 _ ho
 obtain⟨v',w',hr,g1,g2,g3,g4⟩:=run_append_o (ty:=ty) (c:=c) (A:=A) he.h q0 h3 h4 (fun hp=>by
  obtain⟨b,off,cs,e',fr,k1,k2,k3,k4,_⟩:=h6 hp
  exact⟨b,off,cs,e',fr,k1,k2,k3,k4⟩) (by simpa[maxLen] using hb1) hb
 unfold Oper.wp
 have hrr:(execOp a.eval ⟨d,.call { callee:=.builtin .append,args:=#[x,y],argTypes:=#[xt,xt] },ty,pos,af,gd⟩).run P w=.ok (.value v') w':=by
  simp[execOp,resolve,invoke,builtin,eval_val hsim.tmps hx,hu,hr]
 rw[hrr]
 obtain⟨h',hup,hk⟩:=hK v'
 exact⟨_,hk,m,SimG.put (s:={ s with h:=h' }) (hsim.up hup g3 (fun b o hb'=>g2 b (hsim.holds.lt hb') (fun e=>by rw[hnone b e] at hb';cases hb')) g2 g1 g4) hf (rel_val (own_one g1))⟩
theorem hrel_nil {m:Ghost} {w:World} {k e:Nat} (hr:HRel m h w):HRel m (.own (.slice none 0 0) k [] e::h) w:=by
 refine⟨by simpa[List.filterMap_cons,OE.blk,ownBlk] using hr.1,fun x hx=>?_⟩
 simp at hx
 rcases hx with rfl|hx
 ·exact⟨fun b hb=>by simp[OE.blk,ownBlk] at hb,.inl ⟨none,rfl,rfl⟩⟩
 ·exact hr.2 x hx
theorem Sim.nil_ {m0:GF} {w0 w:World} {a:Act} (k e:Nat) (hs:Sim m0 w0 s a w):Sim m0 w0 { s with h:=.own (.slice none 0 0) k [] e::s.h } a w:=by
 obtain⟨m,hm⟩:=hs
 have ho:∀x∈(OE.own (.slice none 0 0) k [] e::s.h),∀b,x.blk=some b→m0.2 b∨w0.heap.size≤b:=by
  intro x hx b hb
  simp at hx
  rcases hx with rfl|hx
  ·simp[OE.blk,ownBlk] at hb
  ·exact hm.own x hx b hb
 exact⟨m,{ hm with heap:=hrel_nil hm.heap,own:=ho }⟩
theorem W.nil_ {c:Code} {Q:Exit→St→Prop} (k e:Nat) (hw:W ro P c Q { s with h:=.own (.slice none 0 0) k [] e::s.h }):W ro P c Q s:=
 fun m0 w0 a w hs=>hw m0 w0 a w (hs.nil_ k e)
theorem RL.nil_ {ops:Array Oper} {rest:List Oper} (k e:Nat) (hw:RL ro P ops rest { s with h:=.own (.slice none 0 0) k [] e::s.h } K):RL ro P ops rest s K:=
 fun i hi m0 w0 a w hs=>hw i hi m0 w0 a w (hs.nil_ k e)
theorem step_append_nil {xt e k bs:Nat} {g:Bool} {xs:List AV} {sv:AV} [he:TElem P xt e k bs g] (hx:evalA s.t x=some (.val (.slice none 0 0))) (hy:evalA s.t y=some sv) (hs:SrcA s.h k sv xs)
  (hb:xs.length * bs≤140737488355328) (hb1:xs.length≤9223372036854775807) (hf:fits s d=true) (hK:∀v',K (({ s with h:=.own v' k xs e::s.h }:St).put d (.val v'))) :
  Step P ⟨d,.call { callee:=.builtin .append,args:=#[x,y],argTypes:=#[xt,xt] },ty,pos,af,gd⟩ s K:=by
 intro m0 w0 a w hsim Q
 have hs':SrcA (.own (.slice none 0 0) k [] e::s.h) k sv xs:=by
  cases hs with
  | ro l=>exact .ro _
  | own q=>exact .own (List.mem_cons_of_mem _ q)
  | vw q hn=>exact .vw (List.mem_cons_of_mem _ q) hn
  | emp=>exact .emp
  | nil=>exact .nil
 exact step_append (s:={ s with h:=.own (.slice none 0 0) k [] e::s.h }) (l:=[]) hx (by simp) hy hs' (by simpa using hb) (by simpa using hb1) hf (fun v'=>⟨_,.here,by simpa using hK v'⟩) m0 w0 a w (hsim.nil_ k e) Q
/-! ### A row made anew -/
def zelQ (P:Program) (e:Nat):Option AV:=
 match P.info? e with
 | some i=>match i.zero with
  | some (.agg cs)=>if cs.size=i.size∧cs.all (·.oneCell')=true then some (.agg (cs.toList.map .val)) else none
  | some z=>if z.oneCell'=true∧i.size=1 then some (.val z) else none
  | none=>none
 | none=>none
class TZel (P:Program) (e:Nat) (z:outParam AV):Prop where h:zelQ P e=some z
theorem zelQ_spec {e:Nat} {z:AV} (h:zelQ P e=some z):∃i u,P.info? e=some i∧i.zero=some u∧(∀m,Rel m z u)∧u.cells.size=i.size∧(∀y∈u.cells.toList,y.oneCell'=true∨∃cs,z=.agg cs):=by
 unfold zelQ at h
 split at h
 ·rename_i i hi
  split at h
  ·rename_i cs hz
   split at h
   ·rename_i hs
    injection h with h
    subst h
    exact⟨i,_,hi,hz,fun m=>by simp only[Rel];exact⟨_,rfl,relL_vals m _ fun c hc=>by simpa using (Array.all_eq_true_iff_forall_mem.1 hs.2) c (by simpa using hc)⟩,hs.1,fun _ _=>.inr ⟨_,rfl⟩⟩
   ·cases h
  ·rename_i z' hna hz
   split at h
   ·rename_i hc
    injection h with h
    subst h
    have:z'.cells=#[z']:=by
     cases z'<;>first|rfl|(simp[Value.oneCell'] at hc)
    refine⟨i,_,hi,hz,fun m=>rel_val hc.1,by rw[this,hc.2];rfl,fun y hy=>?_⟩
    rw[this] at hy
    simp at hy
    subst hy
    exact .inl hc.1
   ·cases h
  ·cases h
 ·cases h
theorem made_list (z:Array Value) (hk:0<z.size):∀n,(madeCells z (n * z.size)).toList=(List.replicate n z.toList).flatten:=by
 intro n
 have e0:(madeCells z (n * z.size)).toList=(List.range (n * z.size)).map (fun j=>z[j % z.size]!):=by simp[madeCells]
 rw[e0]
 clear e0
 induction n with
 | zero=>simp
 | succ n ih=>
  rw[Nat.succ_mul,List.range_add,List.map_append,ih,List.replicate_succ',List.flatten_append]
  congr 1
  simp only[List.map_map,List.flatten_cons,List.flatten_nil,List.append_nil]
  apply List.ext_getElem (by simp)
  intro j h1 h2
  simp at h1 h2
  simp[Nat.mod_eq_of_lt h2,h2]
theorem relE_zero {m:Ghost} {k:Nat} {el:AV} {z:Value} (hr:Rel m el z) (hz:z.cells.size=k) (hk:0<k):∀n,RelE m k (List.replicate n el) (madeCells z.cells (n * k)).toList:=by
 intro n
 subst hz
 rw[made_list _ hk]
 induction n with
 | zero=>simp[RelE]
 | succ n ih=>
  simp only[List.replicate_succ,List.flatten_cons,RelE]
  exact⟨z,_,rfl,rfl,hr,ih⟩
theorem one_made {z:Array Value} {n:Nat} (hk:0<z.size) (h:∀y∈z.toList,y.oneCell'=true):∀y∈(madeCells z n).toList,y.oneCell'=true:=by
 intro y hy
 simp only[madeCells,Array.toList_map,List.mem_map] at hy
 obtain⟨j,_,rfl⟩:=hy
 have:j % z.size<z.size:=Nat.mod_lt _ hk
 rw[getElem!_pos z (j % z.size) this]
 exact h _ (by simp)
theorem step_make {bt e k bs n c:Nat} {g:Bool} {kl kc:IntKind} {i1 i2:Int} {z:AV} [he:TElem P bt e k bs g] [hz:TZel P e z] (hx:evalA s.t x=some (.val (.int kl i1))) (hy:evalA s.t y=some (.val (.int kc i2))) (hn:i1=(n:Int)) (hc:i2=(c:Int)) (hnc:n≤c)
  (ho:z.cells.all AV.one=true) (hb:bs * c≤281474976710656) (hb1:c≤9223372036854775807) (hf:fits s d=true) (hK:∀v,K (({ s with h:=.own v k (List.replicate n z) e::s.h }:St).put d (.val v))) :
  Step P ⟨d,.makeSlice bt x y,ty,pos,af,gd⟩ s K:=by
 intro m0 w0 a w ⟨m,hs⟩ Q
 subst hn;subst hc
 obtain⟨q1,q2,q3,i,zv,hi,hsz,hby,hzv,hzs⟩:=elemQ_spec he.h
 obtain⟨i',u,hi',hu,hrel,hus,_⟩:=zelQ_spec hz.h
 rw[hi] at hi';injection hi' with hi';subst hi'
 rw[hzv] at hu;injection hu with hu;subst hu
 have hone:∀y∈zv.cells.toList,y.oneCell'=true:=by
  have h1:=(hrel m).cells
  intro y hy
  obtain⟨j,hj,rfl⟩:=List.getElem_of_mem hy
  have hjz:j<z.cells.length:=by rw[←h1.length];exact hj
  obtain⟨cc,c1,c2⟩:=h1.at j _ (List.getElem?_eq_getElem hjz)
  rw[List.getElem?_eq_getElem hj] at c1
  injection c1 with c1
  rw[c1]
  exact c2.one (List.all_eq_true.1 ho _ (List.getElem_mem hjz))
 have hr:=run_makeSlice (P:=P) w bt e i zv q1 hi hzv kl kc n c (by omega) (by omega)
 unfold Oper.wp
 have hmk:(Instr.makeSlice bt (.int kl (n:Int)) (.int kc (c:Int))).run P w=.ok (.slice (some ⟨w.heap.size,0,none⟩) n c) (w.alloc (.cells (madeCells zv.cells (c * k)) e)):=by
  have hbi:(i.bytes:Int) * (c:Int)≤281474976710656:=by
   have h:((i.bytes * c:Nat):Int)≤281474976710656:=by rw[hby];omega
   rwa[Int.natCast_mul] at h
  have:=run_make (P:=P) w bt e i zv q1 hi hzv kl kc n c (by omega) (by omega) hbi (by omega)
  simpa[hsz] using this
 have hrr:(execOp a.eval ⟨d,.makeSlice bt x y,ty,pos,af,gd⟩).run P w=.ok (.value (.slice (some ⟨w.heap.size,0,none⟩) n c)) (w.alloc (.cells (madeCells zv.cells (c * k)) e)):=by
  simp[execOp,eval_val hs.tmps hx,eval_val hs.tmps hy,hmk]
 rw[hrr]
 have hcm:c≤maxLen:=by simp only[maxLen];omega
 have hkz:0<zv.cells.size:=by rw[hzs];exact q3
 have htake:(madeCells zv.cells (c * k)).toList.take (n * k)=(madeCells zv.cells (n * k)).toList:=by
  rw[←hzs,made_list _ hkz,made_list _ hkz]
  have:c=n+(c - n):=by omega
  rw[this,←List.replicate_append_replicate,List.flatten_append]
  apply List.take_left'
  simp[List.length_flatten]
 have hrow:OERel m (w.alloc (.cells (madeCells zv.cells (c * k)) e)) (.own (.slice (some ⟨w.heap.size,0,none⟩) n c) k (List.replicate n z) e):=by
  by_cases hc0:c=0
  ·subst hc0
   have:n=0:=by omega
   subst this
   exact .inl ⟨_,rfl,rfl⟩
  ·refine oerel_own (by simp) (by omega) (heap_new _ _) (by simpa using hnc) hcm (size_madeCells _ _) ?_ ?_
   ·rw[List.length_replicate,htake]
    exact relE_zero (hrel m) hzs q3 n
   ·rw[List.length_replicate,htake]
    exact one_made hkz hone
 exact⟨_,hK _,m,SimG.put (s:={ s with h:=_::s.h }) (hs.new_ (Same.alloc w _) (fun b hb=>heap_old w _ b hb) hrow (fun b hb=>by
  simp only[OE.blk,ownBlk] at hb
  split at hb
  ·cases hb
  ·injection hb with hb;omega)) hf (rel_val rfl)⟩
/-! ### copy -/
theorem step_copy {xt yt e k bs lo n:Nat} {g:Bool} {v:Value} {l xs:List AV} {dv sv:AV} [he:TElem P xt e k bs g] (hx:evalA s.t x=some dv) (hd:dv=.vw v k lo n∨dv=.val v∧lo=0∧n=l.length) (hy:evalA s.t y=some sv) (hs:SrcA s.h k sv xs)
  (hn:xs.length≤n) (hln:lo+n≤l.length) (hu:Up s.h (.own v k l e) (.own v k (splice l lo xs) e) h') (hf:fits s d=true) (hK:K (({ s with h:=h' }:St).put d (.val (.int .i64 (xs.length:Int))))) :
  Step P ⟨d,.call { callee:=.builtin .copy,args:=#[x,y],argTypes:=#[xt,yt] },ty,pos,af,gd⟩ s K:=by
 intro m0 w0 a w ⟨m,hsim⟩ Q
 obtain⟨q1,q2,q3,i,zv,hi,hsz,hby,hzv,hzs⟩:=elemQ_spec he.h
 obtain⟨A,c,ys,hyv,h1,h2,h3,h4,h5,h6⟩:=hs.spec hsim.holds hsim.heap (hsim.tmps.eval hy)
 obtain⟨hnone,q0⟩:=hsim.heap.2 _ hu.old

 obtain⟨D,dc,hdv,hD⟩:∃D dc,a.eval x=.slice D n dc∧(0<n→∃b N cap,v=.slice (some ⟨b,0,none⟩) N cap∧D=some ⟨b,lo * k,none⟩):=by
  have hx':=hsim.tmps.eval hx
  rcases hd with rfl|⟨rfl,rfl,rfl⟩
  ·simp only[Rel] at hx'
   obtain⟨D,dc,hx',_,_,_,hD⟩:=hx'
   exact⟨D,dc,hx',fun hp=>by obtain⟨b,N,cap,e1,e2,_⟩:=hD hp;exact⟨b,N,cap,e1,e2⟩⟩
  ·simp only[Rel] at hx'
   have hx':=hx'.1
   rcases q0.own_cases with ⟨A,rfl,rfl⟩|⟨b,cap,cur,zs,rfl,_⟩
   ·exact⟨A,0,hx',fun h=>absurd h (Nat.lt_irrefl _)⟩
   ·exact⟨_,cap,hx',fun _=>⟨b,_,cap,rfl,by simp⟩⟩
 have hlen:=h3.length
 unfold Oper.wp
 by_cases h0:xs.length=0
 ·have:xs=[]:=List.eq_nil_of_length_eq_zero h0
  subst this
  have hsp:splice l lo []=l:=by simp[splice]
  rw[hsp] at hu
  have hys:ys=[]:=List.eq_nil_of_length_eq_zero (by simpa using hlen)
  have hrr:(execOp a.eval ⟨d,.call { callee:=.builtin .copy,args:=#[x,y],argTypes:=#[xt,yt] },ty,pos,af,gd⟩).run P w=.ok (.value (.int .i64 0)) w:=by
   cases A<;>cases D<;>simp[execOp,resolve,invoke,builtin,hdv,hyv,Builtin.copy_,run_underlying q1,Builtin.lenOf,Builtin.firstCells,run_sizeOf q2,loadCells,loadCellsFrom,storeCells,goInt]
  rw[hrr]
  exact⟨_,hK,m,SimG.put (s:={ s with h:=h' }) (hsim.up hu (Same.refl w) (fun _ _ _=>rfl) (fun _ _ _=>rfl) q0 (fun b hb=>.inl hb)) hf (rel_val rfl)⟩
 ·obtain⟨b,N,cap,rfl,rfl⟩:=hD (by omega)
  rcases q0.own_cases with ⟨A',hA',rfl⟩|⟨b',cap',cur,zs,hv',hc0,q7,q8,q9,q10,q11,q12,q4,q5,q6,q13⟩
  ·simp at hln;omega
  injection hv' with hv' hN hcap
  injection hv' with hv'
  injection hv' with hv'
  subst hv';subst hN;subst hcap
  obtain⟨b2,off,cs,e',fr,rfl,k1,k2,k3,_⟩:=h6 (by omega)
  have hk1:lo * k+xs.length * k≤l.length * k:=by rw[←Nat.add_mul];exact Nat.mul_le_mul_right _ (by omega)
  have hk2:l.length * k≤cur.size:=by rw[q10];exact Nat.mul_le_mul_right _ q8
  have hcells:(loadCells ⟨b2,off,none⟩ (xs.length * k)).run P w=.ok ys.toArray w:=by
   have:=run_loadCells_list (P:=P) (w:=w) ⟨b2,off,none⟩ ys (fun j u hu=>by
    rw[add_mk',cell_of k1]
    rw[←k3,List.getElem?_take] at hu
    split at hu
    ·rw[List.getElem?_drop] at hu;simpa using hu
    ·cases hu)
   rwa[hlen] at this
  have hst:=run_storeCells_at P b (lo * k) e ys 0 cur w q7 (by omega) h4
  simp only[Nat.add_zero] at hst
  have hmin:Nat.min xs.length n=xs.length:=Nat.min_eq_left hn
  have hrr:(execOp a.eval ⟨d,.call { callee:=.builtin .copy,args:=#[x,y],argTypes:=#[xt,yt] },ty,pos,af,gd⟩).run P w=.ok (.value (.int .i64 (xs.length:Int))) (w.setRow b (cur.toList.take (lo * k)++ys++cur.toList.drop (lo * k+ys.length)).toArray):=by
   simp[execOp,resolve,invoke,builtin,hdv,hyv,Builtin.copy_,run_underlying q1,Builtin.lenOf,Builtin.firstCells,run_sizeOf q2,hmin,hcells,goInt]
   rw[←List.append_assoc,hst]
   simp
  rw[hrr]
  have hcur:(cur.toList.take (lo * k)++ys++cur.toList.drop (lo * k+ys.length)).take (l.length * k)=zs.take (lo * k)++ys++zs.drop (lo * k+ys.length):=by
   rw[take_splice rfl (by omega) (by simpa using hk2),q11]
  have hspl:(splice l lo xs).length=l.length:=by simp[splice];omega
  have hrel:RelE m k (splice l lo xs) (zs.take (lo * k)++ys++zs.drop (lo * k+ys.length)):=by
   unfold splice
   have e1:lo * k+ys.length=(lo+xs.length) * k:=by rw[hlen,Nat.add_mul]
   rw[e1]
   exact ((q4.take lo).append h3).append (q4.drop _)
  refine⟨_,hK,m,SimG.put (s:={ s with h:=h' }) (hsim.up hu (Same.setRow _ _ _) (fun b' o ho=>setRow_ne w b b' _ ?_) (fun b' hb' hne=>setRow_ne w b b' _ (fun e=>hne (by rw[e];exact q6)))
   (own_set q0 hspl rfl hc0 q7 (setRow_at w b _ q7) (by simp;omega) ?_ ?_) (fun b' hb'=>.inl hb')) hf (rel_val rfl)⟩
  ·intro e;subst e;rw[hnone b' q6] at ho;cases ho
  ·show RelE m k (splice l lo xs) ((cur.toList.take (lo * k)++ys++cur.toList.drop (lo * k+ys.length)).take (l.length * k))
   rw[hcur];exact hrel
  ·show ∀y'∈(cur.toList.take (lo * k)++ys++cur.toList.drop (lo * k+ys.length)).take (l.length * k),_
   rw[hcur];exact mem_splice q5 h4
/-! ### An owned slice cut at its end -/
theorem step_trunc {xt e k bs hi:Nat} {g:Bool} {v:Value} {l:List AV} {x1 x2:Option Operand} [he:TElem P xt e k bs g] (hx:evalA s.t x=some (.val v)) (ho:OE.own v k l e∈s.h) (h1:bndA s.t 0 x1 0) (h2:bndA s.t l.length x2 hi) (hh:hi≤l.length) (hf:fits s d=true)
  (hK:∀u,∃h',Up s.h (.own v k l e) (.own u k (l.take hi) e) h'∧K (({ s with h:=h' }:St).put d (.val u))):Step P ⟨d,.slice xt x x1 x2 none,ty,pos,af,gd⟩ s K:=by
 intro m0 w0 a w ⟨m,hs⟩ Q
 obtain⟨hnone,q0⟩:=hs.heap.2 _ ho
 have hx':=eval_val hs.tmps hx
 unfold Oper.wp
 rcases q0.own_cases with ⟨A,rfl,rfl⟩|⟨b,cap,cur,zs,rfl,hc0,q7,q8,q9,q10,q11,q12,q4,q5,q6,q13⟩
 ·have:hi=0:=by simpa using hh
  subst this
  have hr:=run_slice_any he.h hs.tmps (A:=A) (n:=0) (c:=0) h1 h2 (Nat.zero_le _) (Nat.zero_le _) (Nat.le_refl _) w
  have hrr:(execOp a.eval ⟨d,.slice xt x x1 x2 none,ty,pos,af,gd⟩).run P w=.ok (.value (.slice A 0 0)) w:=by
   simp only[execOp,hx',Option.map_none,Sem.run_bind,hr,Result.andThen_ok,Sem.run_pure]
   simp
  rw[hrr]
  obtain⟨h',hup,hk⟩:=hK (.slice A 0 0)
  exact⟨_,hk,m,SimG.put (s:={ s with h:=h' }) (hs.up hup (Same.refl w) (fun _ _ _=>rfl) (fun _ _ _=>rfl) (.inl ⟨_,rfl,rfl⟩) (fun b hb=>.inl hb)) hf (rel_val rfl)⟩
 ·have hr:=run_slice_any he.h hs.tmps (A:=some ⟨b,0,none⟩) (n:=l.length) (c:=cap) h1 h2 (Nat.zero_le _) hh q8 w
  have hrr:(execOp a.eval ⟨d,.slice xt x x1 x2 none,ty,pos,af,gd⟩).run P w=.ok (.value (.slice (some ⟨b,0,none⟩) hi cap)) w:=by
   simp only[execOp,hx',Option.map_none,Sem.run_bind,hr,Result.andThen_ok,Sem.run_pure]
   rw[if_neg (by omega)]
   simp[add_mk']
  rw[hrr]
  obtain⟨h',hup,hk⟩:=hK (.slice (some ⟨b,0,none⟩) hi cap)
  have hkk:hi * k≤l.length * k:=Nat.mul_le_mul_right _ hh
  have htk:cur.toList.take ((l.take hi).length * k)=zs.take (hi * k):=by
   rw[List.length_take,Nat.min_eq_left hh,←q11,List.take_take,Nat.min_eq_left hkk]
  refine⟨_,hk,m,SimG.put (s:={ s with h:=h' }) (hs.up hup (Same.refl w) (fun _ _ _=>rfl) (fun _ _ _=>rfl) (oerel_own (by simp;omega) hc0 q7 (by simp;omega) q9 q10 ?_ ?_) (fun b' hb=>.inl ?_)) hf (rel_val rfl)⟩
  ·rw[htk];exact q4.take hi
  ·rw[htk];exact fun y hy=>q5 y (List.mem_of_mem_take hy)
  ·simpa[OE.blk,ownBlk] using hb
end
end Go.VM
namespace Go.VM
open Go
set_option linter.unusedVariables false
set_option linter.unusedSimpArgs false
section
variable {ro:Option Nat} {P:Program} {t:Nat} {s:St} {K:St→Prop}
variable {d:Option Nat} {ty:Nat} {pos:String} {af:Array Edge} {gd:Option (Nat × Bool)} {h h':Heap} {x y:Operand} {tm:List (Nat × AV)}
/-! ### Calls -/
def callQ (P:Program) (f:Nat):Bool:=
 match P.funcs[f]? with
 | some fn=>!(fn.name == "runtime.NumGoroutine")&&fn.body.isSome
 | none=>false
class TFun (P:Program) (f:Nat):Prop where h:callQ P f=true
theorem run_callF {f:Nat} [hf:TFun P f] (args:Array Value) (w:World):(callFunc f args).run P w=.ok (.enter f args) w:=by
 have h:=hf.h
 unfold callQ at h
 split at h
 ·rename_i fn hfn
  simp only[Bool.and_eq_true,Bool.not_eq_true'] at h
  cases hb:fn.body with
  | none=>simp[hb] at h
  | some c=>
   have h1:¬ fn.name= "runtime.NumGoroutine":=by simpa using h.1
   simp[callFunc,hfn,h1,hb]
 ·cases h
theorem SimG.called {m0:GF} {m m':Ghost} {w0 w w':World} {a:Act} {h':Heap} (k:SimG m0 w0 m s a w) (g1:Gle m m') (g2:Holds m' w') (g3:Same w w') (g4:HRel m' h' w') (g5:Kept m s.h w m' h' w'):SimG m0 w0 m' { s with h:=h' } a w':=by
 have hsz:=k.same.size
 have hF:∀b,(∃y∈s.h,y.blk=some b)→m0.2 b∨w0.heap.size≤b:=fun b ⟨y,hy,hb⟩=>k.own y hy b hb
 exact
  {le:=k.le.trans g1
   grow:=fun b o e=>by
    rcases g5.grow b o e with h|h|h
    ·exact k.grow b o h
    ·rcases hF b h with h|h<;>simp[h]
    ·right;right;omega
   frame:=fun b h1 h2=>(g5.frame b (by omega) (fun hy=>by rcases hF b hy with h|h;exact h2 h;omega)).trans (k.frame b h1 h2)
   own:=fun y hy b hb=>by
    rcases g5.own y hy b hb with h|h
    ·exact hF b h
    ·right;omega
   holds:=g2
   same:=k.same.trans g3
   defers:=k.defers.mono g1
   size:=k.size
   tmps:=k.tmps.mono g1
   heap:=g4 }
theorem step_of_calls {o:Oper} {f:Nat} {vs:List AV} (hr:∀(m0:GF) (w0:World) (m:Ghost) (a:Act) (w:World),SimG m0 w0 m s a w→∃us,RelL m vs us∧(execOp a.eval o).run P w=.ok (.enter f us.toArray) w)
  (hf:fits s o.dst=true) (hc:ACalls P f vs s.h (fun r h'=>K (({ s with h:=h' }:St).put o.dst r))):Step P o s K:=by
 intro m0 w0 a w ⟨m,hs⟩ Q
 obtain⟨us,hus,hrun⟩:=hr m0 w0 m a w hs
 unfold Oper.wp
 rw[hrun]
 refine (hc m w us hs.holds hus hs.heap).mono ?_
 rintro e w' ⟨m',v,r,h',rfl,g1,g2,g3,g4,g5,g6,g7⟩
 exact⟨_,g7,m',SimG.put (s:={ s with h:=h' }) (hs.called g1 g2 g3 g5 g6) hf g4⟩
theorem step_call {f:Nat} {args:Array Operand} {ats:Array Nat} {vs:List AV} [TFun P f] (hx:Evals s.t args.toList vs) (hf:fits s d=true) (hc:ACalls P f vs s.h (fun r h'=>K (({ s with h:=h' }:St).put d r))) :
  Step P ⟨d,.call { callee:=.value (.func f),args:=args,argTypes:=ats },ty,pos,af,gd⟩ s K:=
 step_of_calls (fun m0 w0 m a w hs=>⟨args.toList.map a.eval,hx.rel hs.tmps,by
  have e:(args.toList.map a.eval).toArray=args.map a.eval:=by apply Array.ext';simp
  rw[e]
  simp[execOp,resolve,Deferred.ofValue,Act.eval,invoke,run_callF]⟩) hf hc
theorem step_call_clo {f:Nat} {args:Array Operand} {ats:Array Nat} {vs caps:List AV} [TFun P f] (hg:evalA s.t x=some (.clo (.func f) caps)) (hx:Evals s.t args.toList vs) (hf:fits s d=true) (hc:ACalls P f (vs++caps) s.h (fun r h'=>K (({ s with h:=h' }:St).put d r))) :
  Step P ⟨d,.call { callee:=.value x,args:=args,argTypes:=ats },ty,pos,af,gd⟩ s K:=
 step_of_calls (fun m0 w0 m a w hs=>by
  have hg':=hs.tmps.eval hg
  simp only[Rel] at hg'
  obtain⟨cs,hg',hcs⟩:=hg'
  refine⟨args.toList.map a.eval++cs.toList,(hx.rel hs.tmps).append hcs,?_⟩
  have e:(args.toList.map a.eval++cs.toList).toArray=args.map a.eval++cs:=by apply Array.ext';simp
  rw[e]
  simp[execOp,resolve,Deferred.ofValue,hg',invoke,run_callF]) hf hc
/-! ### A function's body -/
def number:Nat→List AV→List (Nat × AV)
 | _,[]=>[]
 | n,v::r=>(n,v)::number (n+1) r
theorem get_number:∀(l:List AV) (n i:Nat),get (number n l) i=if n≤i then l[i - n]? else none
 | [],n,i=>by simp[number,get]
 | v::r,n,i=>by
  simp only[number]
  rw[get_eq,get_number r (n+1) i]
  by_cases h:n=i
  ·subst h;simp
  ·rw[if_neg h]
   by_cases h2:n≤i
   ·rw[if_pos (by omega),if_pos h2]
    have:i - n=(i - (n+1))+1:=by omega
    rw[this,List.getElem?_cons_succ]
   ·rw[if_neg (by omega),if_neg h2]
inductive ResA (P:Program) (s:St):List ResultVar→List AV→Prop
 | nil:ResA P s [] []
 | tmp {t:Nat} {v:AV} {rs:List ResultVar} {vs:List AV} (h:get s.t t=some v) (hr:ResA P s rs vs):ResA P s (.tmp t::rs) (v::vs)
 | cell {t ty n b bt:Nat} {g:Bool} {l:List AV} {v:AV} {rs:List ResultVar} {vs:List AV} (hv:TVal P ty g n) (h:get s.t t=some (.val (.pointer (some ⟨b,0,none⟩)))) (hb:OE.box b l bt∈s.h) (hl:loadA g n l 0=some v) (hr:ResA P s rs vs):ResA P s (.cell t ty::rs) (v::vs)
def tupA:List AV→AV
 | [x]=>x
 | l=>.tup l
def resOne (tmps:Array Value):ResultVar→Sem Value
 | .tmp t=>pure (tmps.getD t undef)
 | .cell c t=>do loadVar t (←asAddr (tmps.getD c undef))
theorem ResA.run {rs:List ResultVar} {vs:List AV} (k:ResA P s rs vs):∀{m0:GF} {w0:World} {m:Ghost} {a:Act} {w:World},SimG m0 w0 m s a w→∃us,(rs.mapM (resOne a.tmps):Sem (List Value)).run P w=.ok us w∧RelL m vs us:=by
 induction k with
 | nil=>intro m0 w0 m a w _;exact⟨[],rfl,by simp[RelL]⟩
 | @tmp t v rs vs h _ ih=>
  intro m0 w0 m a w hs
  obtain⟨us,h1,h2⟩:=ih hs
  obtain⟨u,g1,g2⟩:=hs.tmps _ _ h
  refine⟨u::us,?_,by simp only[RelL];exact⟨_,_,rfl,g2,h2⟩⟩
  have e:(resOne a.tmps (.tmp t)).run P w=.ok u w:=by simp[resOne,g1]
  simp only[List.mapM_cons,Sem.run_bind,e,Result.andThen_ok,h1,Sem.run_pure]
 | @cell t ty n b bt g l v rs vs hv h hb hl _ ih=>
  intro m0 w0 m a w hs
  obtain⟨us,h1,h2⟩:=ih hs
  obtain⟨u,g1,g2⟩:=hs.tmps _ _ h
  simp only[Rel] at g2
  obtain⟨rfl,_⟩:=g2
  obtain⟨_,cs,q3,q4⟩:=hs.heap.2 _ hb
  obtain⟨h6,h7⟩:=mk_rel q4 hl (valQ_spec hv.h).2.2
  refine⟨_::us,?_,by simp only[RelL];exact⟨_,_,rfl,h6,h2⟩⟩
  have e:(resOne a.tmps (.cell t ty)).run P w=.ok (mk g ((cs.toList.drop 0).take n)) w:=by
   have:=run_loadVar' (P:=P) (off:=0) hv.h q3 (by simpa using h7)
   simp[resOne,g1,asAddr,this]
  simp only[List.mapM_cons,Sem.run_bind,e,Result.andThen_ok,h1,Sem.run_pure]
def Fini (P:Program) (rs:List ResultVar) (Q:AV→Heap→Prop):Exit→St→Prop
 | .normal,s|.ret,s=>∃vs h',ResA P s rs vs∧LeH s.h h'∧Q (tupA vs) h'
 | _,_=>False
/-! ### The marks are taken at the end -/
def Obj.seen:Obj→Bool
 | .cells ..=>true
 | .map ..=>true
 | _=>false
def Gls (m m':Ghost):Prop:=∀b o,m b=some o→Obj.seen o=true→m' b=some o
theorem Win.less {m m':Ghost} (h:Gls m m') {A:Option Addr} {N:Nat} {R R':List Value→Prop} (hr:∀ys,R ys→R' ys) (k:Win m A N R):Win m' A N R':=by
 obtain⟨b,off,cs,e,fr,h1,h2,h3,h4,h5⟩:=k
 exact⟨b,off,cs,e,fr,h1,h _ _ h2 rfl,h3,hr _ h4,h5⟩
mutual
theorem Rel.less {m m':Ghost} (h:Gls m m'):∀{x:AV} {v:Value},Rel m x v→Rel m' x v
 | .val _,v,k=>by simpa only[Rel] using k
 | .agg l,v,k=>by
  simp only[Rel] at *
  obtain⟨cs,rfl,k⟩:=k
  exact⟨cs,rfl,RelL.less h k⟩
 | .tup l,v,k=>by
  simp only[Rel] at *
  obtain⟨cs,rfl,k⟩:=k
  exact⟨cs,rfl,RelL.less h k⟩
 | .ro k l,v,q=>by
  simp only[Rel] at *
  obtain⟨A,c,rfl,h1,h2,h3,h4⟩:=q
  exact⟨A,c,rfl,h1,h2,h3,fun hl=>(h4 hl).less h (fun ys=>RelE.less h)⟩
 | .rp k l i off,v,q=>by
  simp only[Rel] at *
  obtain⟨b,o,rfl,h1,h2⟩:=q
  exact⟨b,o,rfl,h1,h2.less h (fun ys=>RelE.less h)⟩
 | .clo f l,v,k=>by
  simp only[Rel] at *
  obtain⟨cs,rfl,k⟩:=k
  exact⟨cs,rfl,RelL.less h k⟩
 | .bnd f l,v,k=>by
  simp only[Rel] at *
  obtain⟨cs,rfl,k⟩:=k
  exact⟨cs,rfl,RelL.less h k⟩
 | .mro ks l,v,k=>by
  simp only[Rel] at *
  obtain⟨r,rfl,k⟩:=k
  refine⟨r,rfl,?_⟩
  rcases k with k|⟨g,es,clk,es',k1,k2,k3,k4,k5⟩
  ·exact .inl k
  ·exact .inr ⟨g,es,clk,es',k1,h _ _ k2 rfl,k3,k4,RelL.less h k5⟩
 | .vw _ _ _ _,v,k=>by simpa only[Rel] using k
 | .ep _ _ _ _,v,k=>by simpa only[Rel] using k
 | .emp,v,k=>by simpa only[Rel] using k
theorem RelL.less {m m':Ghost} (h:Gls m m'):∀{xs:List AV} {cs:List Value},RelL m xs cs→RelL m' xs cs
 | [],cs,k=>by simpa only[RelL] using k
 | x::xs,cs,k=>by
  simp only[RelL] at *
  obtain⟨c,r,rfl,k1,k2⟩:=k
  exact⟨c,r,rfl,Rel.less h k1,RelL.less h k2⟩
theorem RelE.less {m m':Ghost} (h:Gls m m') {k:Nat}:∀{xs:List AV} {cs:List Value},RelE m k xs cs→RelE m' k xs cs
 | [],cs,q=>by simpa only[RelE] using q
 | x::xs,cs,q=>by
  simp only[RelE] at *
  obtain⟨v,r,rfl,h1,k1,k2⟩:=q
  exact⟨v,r,rfl,h1,Rel.less h k1,RelE.less h k2⟩
end
theorem OERel.less {m m':Ghost} (h:Gls m m') {x:OE} {w:World} (k:OERel m w x):OERel m' w x:=by
 cases x<;>simp only[OERel] at *
 case box=>obtain⟨cs,h1,k⟩:=k;exact⟨cs,h1,k.less h⟩
 case own=>
  rcases k with k|⟨b,kb,xs,k1,k2,k3⟩
  ·exact .inl k
  ·exact .inr ⟨b,kb,xs,k1,k2.less h,k3⟩
 case raw=>exact k
 case lp=>exact⟨k.1,fun i v e=>by obtain⟨u,h1,h2⟩:=k.2 i v e;exact⟨u,h1,h2.less h⟩⟩
 case mp=>obtain⟨es,clk,es',k0,k1,k2,k3⟩:=k;exact⟨es,clk,es',k0,k1,k2,k3.less h⟩
 case mit=>
  obtain⟨o,k0,k⟩:=k
  refine⟨o,k0,?_⟩
  rcases k with k|⟨g,es,clk,es',seen,k1,k2,k3,k4,k5,k6⟩
  ·exact .inl k
  ·exact .inr ⟨g,es,clk,es',seen,k1,h _ _ k2 rfl,k3,k4,k5.less h,k6⟩
structure ShutW (S:Nat→Prop) (w w':World):Prop where
 same:Same w w'
 size:w'.heap.size=w.heap.size
 rest:∀b,¬ S b→w'.heap[b]?=w.heap[b]?
theorem shut_put (w:World) (D:Nat) (o:Obj):ShutW (·=D) w (w.putObj D o):=
 ⟨⟨rfl,rfl,rfl,by simp,Nat.le_refl _⟩,by simp,fun b hb=>World.putObj_heap_other hb⟩
theorem leaves_marks {F:Fence} {n:Nat} {P:Program} {fn:Func} {tmps:Array Value} {R:Ending→World→Prop} {B:Nat} {m:Ghost} {ds:List Deferred} (k:Marks m B ds) :
  ∀{w:World},(∀d∈ds,∀D,d.target=.collected D→w.heap[D]?=some (.deferred (some []))) →
   (∀w',ShutW (fun b=>∃d∈ds,d.target=.collected b) w w'→LeavesIn F n P fn tmps R [] .returning w')→LeavesInM F n P fn tmps R ds .returning w:=by
 induction k with
 | nil=>intro w _ h;exact h w ⟨Same.refl w,rfl,fun _ _=>rfl⟩
 | @cons D ds h1 h2 h3 _ ih=>
  intro w hw h
  unfold LeavesInM
  have hD:=hw _ (List.mem_cons_self ..) D rfl
  have hput:=shut_put w D (.deferred none)
  refine⟨by simp,.inl ⟨D,_,rfl,run_takeDeferred hD,ih (fun d hd D' e=>?_) fun w' q=>h w' ⟨hput.same.trans q.same,q.size.trans hput.size,fun b hb=>?_⟩⟩⟩
  ·exact (hput.rest D' (fun e'=>h3 d hd (by rw[e,e']))).trans (hw d (.tail _ hd) D' e)
  ·rw[q.rest b (fun ⟨d,hd,e⟩=>hb ⟨d,.tail _ hd,e⟩),hput.rest b (fun e=>hb ⟨_,List.mem_cons_self ..,by rw[e]⟩)]
theorem SimG.shut {m:Ghost} {c:Nat→Prop} {w w1 w':World} {m':Ghost} {a:Act} {tm:Array Value} (k:SimG ⟨m,c,[]⟩ w m' s a w1) (hm:Holds m w) (q:ShutW (fun b=>∃d∈a.defers,d.target=.collected b) w1 w') :
  ∃m'',SimG ⟨m,c,[]⟩ w m'' s { tmps:=a.tmps,defers:=[] } w':=by
 obtain⟨new,hnew,hmk⟩:=k.defers
 rw[List.append_nil] at hnew
 rw[hnew] at q
 have hD:∀b,(∃d∈new,d.target=.collected b)→w.heap.size≤b∧m' b=some (.deferred (some [])):=fun b ⟨d,hd,e⟩=>by
  obtain⟨D,e',h1,h2⟩:=hmk.at d hd
  rw[e] at e';injection e' with e';subst e';exact⟨h1,h2⟩
 classical
 let m'':Ghost:=fun b=>if (∃d∈new,d.target=.collected b) then none else m' b
 have h1:∀b,¬ (∃d∈new,d.target=.collected b)→m'' b=m' b:=fun b hb=>if_neg hb
 have h2:∀b o,m'' b=some o→¬ (∃d∈new,d.target=.collected b)∧m' b=some o:=fun b o e=>by
  have e:(if (∃d∈new,d.target=.collected b) then none else m' b)=some o:=e
  split at e
  ·cases e
  ·rename_i hb;exact⟨hb,e⟩
 have hls:Gls m' m'':=fun b o e ho=>by
  rw[h1 b fun hb=>?_];exact e
  have:=(hD b hb).2
  rw[e] at this;injection this with this;subst this;cases ho
 refine⟨m'',⟨fun b o e=>?_,fun b o e=>k.grow b o (h2 b o e).2,fun b hb hc=>?_,k.own,fun b o e=>?_,k.same.trans q.same,Defs.refl _ _ _,k.size,fun i v e=>?_,?_⟩⟩
 ·rw[h1 b fun hb=>?_];exact k.le b o e
  have:=(hD b hb).1
  have:=hm.lt e
  omega
 ·rw[q.rest b fun hb'=>?_];exact k.frame b hb hc
  have:=(hD b hb').1;omega
 ·obtain⟨g1,g2⟩:=h2 b o e
  rw[q.rest b g1];exact k.holds b o g2
 ·obtain⟨u,g1,g2⟩:=k.tmps i v e;exact⟨u,g1,g2.less hls⟩
 ·refine⟨k.heap.1,fun x hx=>⟨fun b hb=>?_,?_⟩⟩
  ·cases e:m'' b with
   | none=>rfl
   | some o=>have q:=(h2 b o e).2;rw[(k.heap.2 x hx).1 b hb] at q;cases q
  ·refine ((k.heap.2 x hx).2.less hls).local fun b hb=>q.rest b fun hb'=>?_
   have:=(hD b hb').2
   rw[(k.heap.2 x hx).1 b hb] at this;cases this
theorem ACalls.intro {f:Nat} {fn:Func} {c:Code} {args:List AV} {Q:AV→Heap→Prop} (hf:P.funcs[f]?=some fn) (hb:fn.body=some c) {n:Nat} {rs:Array ResultVar} (hnt:fn.ntmps=n) (hrs:fn.results=rs) (hn:args.length≤n) (hw:W none P c (Fini P rs.toList Q) ⟨n,number 0 args,h⟩):ACalls P f args h Q:=by
 subst hnt;subst hrs
 intro m w us hm hr hh
 refine (callsIn_wide (n:=1)).1 (callsIn_of_wp_marks hf hb trivial ?_)
 have hus:=hr.length
 have hsim:Sim ⟨m,fun b=>∃y∈h,y.blk=some b,[]⟩ w ⟨fn.ntmps,number 0 args,h⟩ { tmps:=us.toArray++Array.replicate (fn.ntmps - us.toArray.size) undef,defers:=[] } w:=by
  refine⟨m,⟨Gle.refl m,fun b o e=>.inl e,fun _ _ _=>rfl,fun x hx b hb=>.inl ⟨x,hx,hb⟩,hm,Same.refl w,Defs.refl _ _ _,?_,?_,hh⟩⟩
  ·simp;omega
  ·intro i v hi
   rw[get_number] at hi
   simp only[Nat.zero_le,if_true,Nat.sub_zero] at hi
   obtain⟨u,h1,h2⟩:=hr.at i v hi
   refine⟨u,?_,h2⟩
   have hlt:=(List.getElem?_eq_some_iff.1 h1).1
   rw[Array.getElem?_append_left (by simpa using hlt)]
   simpa using h1
 refine wpIn_mono (hw _ _ _ _ hsim) ?_
 rintro e a0 w1 ⟨s',hq,m1,hs1⟩
 have fin:∀(vs:List AV) (h':Heap),ResA P s' fn.results.toList vs→LeH s'.h h'→Q (tupA vs) h'→LeavesInM Fence.wide 1 P fn a0.tmps (fun e w'=>∃m' v r h',e=.returned v∧Gle m m'∧Holds m' w'∧Same w w'∧Rel m' r v∧HRel m' h' w'∧Kept m h w m' h' w'∧Q r h') a0.defers .returning w1:=by
  intro vs h' h1 h2 h3
  have hmk:Marks m1 w.heap.size a0.defers:=by obtain⟨new,e,q⟩:=hs1.defers;rw[List.append_nil] at e;rw[e];exact q
  refine leaves_marks hmk (fun d hd D e=>?_) fun w' q=>?_
  ·obtain⟨D',e',_,e2⟩:=hmk.at d hd
   rw[e] at e';injection e' with e';subst e'
   exact hs1.holds _ _ e2
  obtain⟨m',hs'⟩:=hs1.shut (tm:=#[]) hm q
  generalize ha:({ tmps:=a0.tmps,defers:=[] }:Act)=a' at hs'
  have ha':a0.tmps=a'.tmps:=by rw[←ha]
  rw[ha']
  show ∃v,(results fn a'.tmps).run P w'=.ok v w'∧∃m' v_1 r h',Ending.returned v=.returned v_1∧Gle m m'∧Holds m' w'∧Same w w'∧Rel m' r v_1∧HRel m' h' w'∧Kept m h w m' h' w'∧Q r h'
  obtain⟨us',k1,k2⟩:=h1.run hs'
  have hvl:=k2.length
  have hres:∀v,(if hh:us'.toArray.size=1 then us'.toArray[0] else Value.tuple us'.toArray)=v→(results fn a'.tmps).run P w'=.ok v w':=by
   intro v hv
   have e:results fn a'.tmps=(do let vs ←fn.results.mapM (resOne a'.tmps);pure (if hh:vs.size=1 then vs[0] else Value.tuple vs)):=rfl
   rw[e,Array.mapM_eq_mapM_toList]
   simp only[Sem.run_bind,Sem.run_map,k1,Result.andThen_ok,Sem.run_pure,hv]
  have hkept:Kept m h w m' h' w':=⟨hs'.grow,hs'.frame,fun x hx b hb=>by obtain⟨y,g1,g2⟩:=h2.mem hx;exact hs'.own y g1 b (g2.trans hb)⟩
  by_cases h1':us'.length=1
  ·obtain⟨u,rfl⟩:=List.length_eq_one_iff.1 h1'
   obtain⟨v,rfl⟩:=List.length_eq_one_iff.1 (hvl.symm.trans h1')
   simp only[RelL] at k2
   obtain⟨c',r',e1,e2,e3⟩:=k2
   injection e1 with e1 _
   subst e1
   exact⟨u,hres u rfl,m',u,v,h',rfl,hs'.le,hs'.holds,hs'.same,e2,h2.hrel hs'.heap,hkept,h3⟩
  ·refine⟨.tuple us'.toArray,hres _ (by rw[dif_neg (by simpa using h1')]),m',_,tupA vs,h',rfl,hs'.le,hs'.holds,hs'.same,?_,h2.hrel hs'.heap,hkept,h3⟩
   have:tupA vs=.tup vs:=by
    cases vs with
    | nil=>rfl
    | cons v r=>cases r with
     | nil=>simp at hvl;omega
     | cons _ _=>rfl
   rw[this]
   simp only[Rel]
   exact⟨_,rfl,by simpa using k2⟩
 cases e with
 | normal=>
  obtain⟨vs,h',h1,h2,h3⟩:=hq
  exact fin vs h' h1 h2 h3
 | ret=>
  obtain⟨vs,h',h1,h2,h3⟩:=hq
  exact fin vs h' h1 h2 h3
 | exit id=>exact hq
 | goto l=>exact hq
 | panic ch=>exact hq.elim
 | outgrown=>exact hq.elim
end
end Go.VM
namespace Go.VM
open Go
set_option linter.unusedVariables false
set_option linter.unusedSimpArgs false
section
variable {ro:Option Nat} {P:Program} {ops:Array Oper} {s:St} {K:St→Prop} {hro:Heap} {t1:List (Nat × AV)} {listed:Array Bool} {fuel:Nat}
/-! ### Regions that draw their order -/
def D (P:Program) (ops:Array Oper) (K:St→Prop) (hro:Heap) (t1:List (Nat × AV)) (listed:Array Bool) (fuel:Nat) (s:St):Prop:=
 ∀(m0:GF) (w0:World) (m1:Ghost) (wr:World) (m:Ghost) (a:Act) (w:World),SimG m0 w0 m { s with h:=hro++s.h } a w→Gle m1 m→Holds m1 wr→HRel m1 hro wr→TRel m1 t1 a.tmps→(Holds m1 w∧Agr hro wr w) →
  wpAnyH P .any ops (fun e a' w'=>e=.normal∧∃s',K s'∧Sim m0 w0 s' a' w') (fun w'=>Holds m1 w'∧Agr hro wr w') fuel listed a w
def Wanted (ops:Array Oper) (t:List (Nat × AV)) (o:Oper) (yes:Bool):Prop:=
 match o.guard with
 | none=>yes=true
 | some (j,want)=>∃d,(ops[j]?).bind (·.dst)=some d∧((∃b,get t d=some (.val (.bool b))∧yes=(b == want))∨(get t d=some (.tup [])∧yes=false))
theorem Wanted.spec {m:Ghost} {t:List (Nat × AV)} {o:Oper} {yes:Bool} {a:Act} (h:Wanted ops t o yes) (ht:TRel m t a.tmps):Region.wanted o (yielded ops a.tmps)=yes:=by
 unfold Wanted at h
 unfold Region.wanted
 split at h
 ·rename_i hg;rw[hg];exact h.symm
 ·rename_i j want hg
  obtain⟨d,h1,⟨b,h2,h3⟩|⟨h2,h3⟩⟩:=h
  ·rw[hg]
   obtain⟨u,g1,g2⟩:=ht d _ h2
   simp only[Rel] at g2
   obtain⟨rfl,_⟩:=g2
   have:yielded ops a.tmps j=some b:=by simp[yielded,h1,g1]
   simp only[this,h3]
   cases b<;>cases want<;>rfl
  ·rw[hg]
   obtain⟨u,g1,g2⟩:=ht d _ h2
   simp only[Rel,RelL] at g2
   obtain⟨cs,rfl,_⟩:=g2
   have:yielded ops a.tmps j=none:=by simp[yielded,h1,g1]
   simp only[this,h3]
   rfl
theorem D.put {m0:GF} {w0:World} {m:Ghost} {a:Act} {w:World} {dst:Option Nat} {v:AV} {u:Value} (hs:SimG m0 w0 m { s with h:=hro++s.h } a w) (hf:fits s dst=true) (hv:Rel m v u) :
  SimG m0 w0 m { (s.put dst v) with h:=hro++(s.put dst v).h } (a.put dst u) w:=by
 have:=SimG.put hs (dst:=dst) hf hv
 cases dst<;>exact this
def tadd (dst:Option Nat) (v:AV) (t:List (Nat × AV)):List (Nat × AV):=match dst with|some d=>(d,v)::t|none=>t
theorem tputs {m:Ghost} {t:List (Nat × AV)} {a:Act} {dst:Option Nat} {v:AV} {u:Value} {n:Nat} (ht:TRel m t a.tmps) (hs:a.tmps.size=n) (hf:fits ⟨n,[],[]⟩ dst=true) (hv:Rel m v u):TRel m (tadd dst v t) (a.put dst u).tmps:=by
 cases dst with
 | none=>exact ht
 | some d=>exact ht.put (by rw[hs];simpa[fits] using hf) hv
theorem tkeep {m:Ghost} {t:List (Nat × AV)} {a:Act} {dst:Option Nat} {u:Value} (ht:TRel m t a.tmps) (hd:∀d,dst=some d→get t d=none):TRel m t (a.put dst u).tmps:=by
 cases dst with
 | none=>exact ht
 | some d=>
  intro i v hv
  obtain⟨y,h1,h2⟩:=ht i v hv
  refine⟨y,?_,h2⟩
  have:d≠i:=fun e=>by rw[←e,hd d rfl] at hv;cases hv
  simp only[Act.put]
  rw[Array.getElem?_setIfInBounds_ne this];exact h1
theorem D.takeV (i:Nat) {oi:Oper} {v:AV} (hi:ops[i]?=some oi) (hsel:Region.noSelect ops=true) (hfr:Region.free .any ops listed i=true) (hr:(Region.ready .any ops listed).contains i=true)
  (hw:Wanted ops s.t oi true) (hp:PurV P oi s.t (hro++s.h) v) (hf:fits s oi.dst=true) (hd:∀d,oi.dst=some d→get t1 d=none) (k:D P ops K hro t1 (listed.setIfInBounds i true) fuel (s.put oi.dst v)):D P ops K hro t1 listed (fuel+1) s:=by
 intro m0 w0 m1 wr m a w hs g1 g2 g3 g4 g5
 obtain⟨u,hu,hrun⟩:=hp m a w hs.tmps hs.holds hs.heap
 refine wpAnyH_take hi hsel hfr hr (fun c a w h=>by simp at h) (v:=u) (.inl ⟨hw.spec hs.tmps,fun w' _=>hrun w'⟩) g5 ?_
 exact k m0 w0 m1 wr m _ w (D.put hs hf hu) g1 g2 g3 (tkeep g4 hd) g5
theorem D.done (hr:Region.ready .any ops listed=[]) (k:K { s with h:=hro++s.h }):D P ops K hro t1 listed fuel s:=by
 intro m0 w0 m1 wr m a w hs _ _ _ _ _
 exact wpAnyH_done hr ⟨rfl,_,k,m,hs⟩ fuel
theorem Sim.drew {m0:GF} {w0:World} {a:Act} {w:World} (h:Sim m0 w0 s a w):Sim m0 w0 s a { w with drawn:=w.drawn+1 }:=by
 obtain⟨m,hm⟩:=h
 exact⟨m,{ hm with holds:=hm.holds,same:=⟨hm.same.os,hm.same.tape,hm.same.output,hm.same.size,Nat.le_succ_of_le hm.same.drawn⟩,heap:=⟨hm.heap.1,fun x hx=>⟨(hm.heap.2 x hx).1,(hm.heap.2 x hx).2.local (w':={ w with drawn:=w.drawn+1 }) fun _ _=>rfl⟩⟩,frame:=hm.frame }⟩
class TMix (P:Program):Prop where h:P.follows .mixedOrders=true
end
end Go.VM
