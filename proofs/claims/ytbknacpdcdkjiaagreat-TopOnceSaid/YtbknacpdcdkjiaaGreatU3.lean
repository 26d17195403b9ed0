import Derived.Test.YtbknacpdcdkjiaaGreatU2
import Derived.MapKept
import Derived.Maps.RangeRun
namespace Go.VM
open Go
set_option linter.unusedVariables false
set_option linter.unusedSimpArgs false
/-! ### Freezing what is owned, at any time -/
inductive FrzT (v:Value) (k:Nat) (l:List AV):List (Nat × AV)→List (Nat × AV)→Prop
 | rest (t:List (Nat × AV)):FrzT v k l t t
 | cons {i:Nat} {x y:AV} {t t':List (Nat × AV)} (h:Frz v k l x y) (r:FrzT v k l t t'):FrzT v k l ((i,x)::t) ((i,y)::t')
inductive FrzH (v:Value) (k:Nat) (l:List AV):Heap→Heap→Prop
 | rest (h:Heap):FrzH v k l h h
 | keep (x:OE) {h h':Heap} (r:FrzH v k l h h'):FrzH v k l (x::h) (x::h')
 | box {b ty:Nat} {c c':List AV} {h h':Heap} (q:Frz v k l (.agg c) (.agg c')) (r:FrzH v k l h h'):FrzH v k l (.box b c ty::h) (.box b c' ty::h')
theorem FrzT.get {v:Value} {k:Nat} {l:List AV} {t t':List (Nat × AV)} (h:FrzT v k l t t'):∀i y,VM.get t' i=some y→∃x,VM.get t i=some x∧Frz v k l x y:=by
 induction h with
 | rest t=>exact fun i y h=>⟨y,h,.keep _⟩
 | @cons j x y t t' h r ih=>
  intro i z hz
  rw[get_eq] at hz ⊢
  by_cases hj:j=i
  ·rw[if_pos hj] at hz ⊢
   injection hz with hz;subst hz
   exact⟨x,rfl,h⟩
  ·rw[if_neg hj] at hz ⊢
   exact ih i z hz
theorem FrzH.mem {v:Value} {k:Nat} {l:List AV} {h h':Heap} (q:FrzH v k l h h'):∀x∈h',∃y∈h,y.blk=x.blk∧(y=x∨∃b c c' ty,y=.box b c ty∧x=.box b c' ty∧Frz v k l (.agg c) (.agg c')):=by
 induction q with
 | rest h=>exact fun x hx=>⟨x,hx,rfl,.inl rfl⟩
 | keep x r ih=>
  intro z hz
  rcases List.mem_cons.1 hz with rfl|hz
  ·exact⟨z,.head _,rfl,.inl rfl⟩
  ·obtain⟨y,h1,h2⟩:=ih z hz;exact⟨y,.tail _ h1,h2⟩
 | box q r ih=>
  intro z hz
  rcases List.mem_cons.1 hz with rfl|hz
  ·exact⟨_,.head _,rfl,.inr ⟨_,_,_,_,rfl,rfl,q⟩⟩
  ·obtain⟨y,h1,h2⟩:=ih z hz;exact⟨y,.tail _ h1,h2⟩
theorem FrzH.blks {v:Value} {k:Nat} {l:List AV} {h h':Heap} (q:FrzH v k l h h'):h'.filterMap OE.blk=h.filterMap OE.blk:=by
 induction q with
 | rest h=>rfl
 | keep x r ih=>simp only[List.filterMap_cons,ih]
 | box q r ih=>simp only[List.filterMap_cons,ih,OE.blk]
theorem Sim.frz {m0:GF} {w0:World} {n:Nat} {t t':List (Nat × AV)} {h h1 h2:Heap} {a:Act} {w:World} {v:Value} {k e:Nat} {l:List AV} (hs:Sim m0 w0 ⟨n,t,h⟩ a w)
  (tk:Tk h (.own v k l e) h1) (ht:FrzT v k l t t') (hh:FrzH v k l h1 h2):Sim m0 w0 ⟨n,t',h2⟩ a w:=by
 obtain⟨m,q⟩:=hs
 have hown:=q.heap.2 _ tk.old
 let m'':Ghost:=fun b=>if ownBlk v=some b then w.heap[b]? else m b
 have hle:Gle m m'':=fun b o hb=>by
  show (if ownBlk v=some b then w.heap[b]? else m b)=some o
  rw[if_neg (fun hv=>by rw[hown.1 b hv] at hb;cases hb)];exact hb
 have hat:∀b,ownBlk v=some b→m'' b=w.heap[b]?:=fun b hb=>if_pos hb
 have hro:=own_ro hown.2 hle hat
 refine⟨m'',⟨q.le.trans hle,fun b o hb=>?_,q.frame,fun x hx b hb=>?_,fun b o hb=>?_,q.same,q.defers.mono hle,q.size,fun i y hy=>?_,?_,fun x hx=>?_⟩⟩
 ·have hb:(if ownBlk v=some b then w.heap[b]? else m b)=some o:=hb
  split at hb
  ·rename_i hv;exact .inr (q.own _ tk.old b hv)
  ·exact q.grow b o hb
 ·obtain⟨y,g1,g2,_⟩:=hh.mem x hx
  exact q.own y (tk.sub.subset g1) b (g2.trans hb)
 ·have hb:(if ownBlk v=some b then w.heap[b]? else m b)=some o:=hb
  split at hb
  ·exact hb
  ·exact q.holds b o hb
 ·obtain⟨x,g1,g2⟩:=ht.get i y hy
  obtain⟨u,g3,g4⟩:=q.tmps i x g1
  exact⟨u,g3,g2.rel hle hro u g4⟩
 ·show (h2.filterMap OE.blk).Nodup
  rw[hh.blks];exact (tk.sub.filterMap _).nodup q.heap.1
 ·obtain⟨y,g1,g2,g3⟩:=hh.mem x hx
  have hy:=q.heap.2 y (tk.sub.subset g1)
  refine⟨fun b hb=>?_,?_⟩
  ·show (if ownBlk v=some b then w.heap[b]? else m b)=none
   rw[if_neg (show ¬ ownBlk v=some b from fun hv=>tk.nodup q.heap.1 b hv y g1 (g2.trans hb))]
   exact hy.1 b (g2.trans hb)
  ·rcases g3 with rfl|⟨b,c,c',ty,rfl,rfl,g3⟩
   ·exact hy.2.mono hle
   ·have:=hy.2
    simp only[OERel] at this ⊢
    obtain⟨cs,q1,q2⟩:=this
    have r:=g3.rel hle hro (.agg cs) (by simp only[Rel];exact⟨_,rfl,q2⟩)
    simp only[Rel] at r
    obtain⟨cs',e,r⟩:=r
    injection e with e
    exact⟨cs,q1,by rw[←e] at r;exact r⟩
section
variable {ro:Option Nat} {P:Program} {n:Nat} {t t':List (Nat × AV)} {h h1 h2:Heap} {v:Value} {k e:Nat} {l:List AV}
theorem W.frz {c:Code} {Q:Exit→St→Prop} (tk:Tk h (.own v k l e) h1) (ht:FrzT v k l t t') (hh:FrzH v k l h1 h2) (q:W ro P c Q ⟨n,t',h2⟩):W ro P c Q ⟨n,t,h⟩:=fun m0 w0 a w hs=>q m0 w0 a w (hs.frz tk ht hh)
theorem Step.frz {o:Oper} {K:St→Prop} (tk:Tk h (.own v k l e) h1) (ht:FrzT v k l t t') (hh:FrzH v k l h1 h2) (q:Step P o ⟨n,t',h2⟩ K):Step P o ⟨n,t,h⟩ K:=fun m0 w0 a w hs=>q m0 w0 a w (hs.frz tk ht hh)
end
end Go.VM
/- More operations: equality of truth values. No condition. -/
namespace Go.VM
open Go
set_option linter.unusedVariables false
set_option linter.unusedSimpArgs false
class TBool (P:Program) (t:Nat):Prop where
 h:P.underlying t=some .bool
theorem equal_bool {P:Program} {t:Nat} (h:P.underlying t=some .bool) (a b:Bool) (w:World):(Op.equal t (.bool a) (.bool b)).run P w=.ok (a == b) w:=by
 unfold Op.equal Op.maxDepth
 rw[Op.equalIn]
 simp[run_underlying h]
section
variable {ro:Option Nat} {P:Program} {h:Heap} {tm:List (Nat × AV)} {d:Option Nat} {x y:Operand} {xt yt ty:Nat} {pos:String} {af:Array Edge} {gd:Option (Nat × Bool)}
theorem pur_eqlb {a b:Bool} [h1:TBool P xt] (hx:evalA tm x=some (.val (.bool a))) (hy:evalA tm y=some (.val (.bool b))):PurV P ⟨d,.binOp .eql xt x y yt,ty,pos,af,gd⟩ tm h (.val (.bool (decide (a=b)))):=
 pur_val fun m ac ht w=>by
  have:=equal_bool h1.h a b w
  simp[execOp,eval_val ht hx,eval_val ht hy,eqGuard,binOp,this]
  cases a<;>cases b<;>rfl
theorem pur_neqb {a b:Bool} [h1:TBool P xt] (hx:evalA tm x=some (.val (.bool a))) (hy:evalA tm y=some (.val (.bool b))):PurV P ⟨d,.binOp .neq xt x y yt,ty,pos,af,gd⟩ tm h (.val (.bool (decide (a≠b)))):=
 pur_val fun m ac ht w=>by
  have:=equal_bool h1.h a b w
  simp[execOp,eval_val ht hx,eval_val ht hy,eqGuard,binOp,this]
  cases a<;>cases b<;>rfl
theorem pur_nilCheck {a:Addr} (hx:evalA tm x=some (.val (.pointer (some a)))):PurV P ⟨d,.nilCheck x,ty,pos,af,gd⟩ tm h (.val (.pointer (some a))):=
 pur_val fun m ac ht w=>by simp[execOp,eval_val ht hx]
theorem jN {v:AV} (k:PurV P ⟨d,.nilCheck x,ty,pos,af,gd⟩ tm h v):PurV P ⟨d,.nilCheck x,ty,pos,af,gd⟩ tm h v:=k
end
section
variable {ro:Option Nat} {P:Program} {ops:Array Oper} {n:Nat} {t:List (Nat × AV)} {h:Heap} {K:St→Prop} {o:Oper} {d:Nat}
theorem S.V2 {v:AV} (k:K ⟨n,(d,v)::t,h⟩) (hp:PurV P o t h v:=by first|(apply jN;exact pur_nilCheck rfl)|(apply jB;first|(apply jB_eql;exact pur_eqlb rfl rfl)|(apply jB_neq;exact pur_neqb rfl rfl)|fail)|fail) (hd:o.dst=some d:=by rfl) (hn:Nat.blt d n=true:=by rfl):Step P o ⟨n,t,h⟩ K:=by
 refine step_v (s:=⟨n,t,h⟩) hp (by rw[hd];exact hn) ?_
 rw[hd];exact k
end
section
variable {ro:Option Nat} {P:Program} {ops:Array Oper} {K:St→Prop} {hro h:Heap} {n:Nat} {t t1:List (Nat × AV)} {listed:Array Bool} {fuel:Nat} {oi:Oper}
theorem D.W (i:Nat) {d d' ty:Nat} {u:Value} {v:AV} (k:D P ops K hro ((d,v)::t1) (listed.setIfInBounds i true) fuel ⟨n,(d,v)::t,h⟩) (hi:ops[i]?=some oi:=by rfl) (ha:oi.op=.load ty (.tmp d'):=by rfl) (hu:get t d'=some (.val u):=by rfl) (hr:(Region.ready .any ops listed).contains i=true:=by decide +kernel) (hfr:Region.free .any ops listed i=true:=by decide +kernel)
  (hsel:Region.noSelect ops=true:=by decide +kernel) (hw:Wanted ops t oi true:=by first|exact wanted_n rfl|exact wanted_p rfl rfl rfl (by first|rfl|(simp;done)|(simp;omega)|(simp[*];done)|fail)|fail)
  (hp:Pur P oi [(d',.val u)] hro v:=by first|exact pur_load_boxA rfl (by (fail_if_success (apply memG));repeat (first|exact List.Mem.head _|assumption|refine List.Mem.tail _ ?_)) rfl|exact pur_load_box rfl (by (fail_if_success (apply memG));repeat (first|exact List.Mem.head _|assumption|refine List.Mem.tail _ ?_)) rfl|exact pur_load_rpA rfl (by first|exact at_ints (by assumption)|exact at_intsN (by omega)|exact at_map (by assumption)|exact at_mapN (by omega)|rfl|assumption) rfl rfl|exact pur_load_rp rfl (by first|exact at_ints (by assumption)|exact at_intsN (by omega)|exact at_map (by assumption)|exact at_mapN (by omega)|rfl|assumption) rfl|exact pur_load_epA rfl (by (fail_if_success (apply memG));repeat (first|exact List.Mem.head _|assumption|refine List.Mem.tail _ ?_)) (by first|exact at_ints (by assumption)|exact at_intsN (by omega)|exact at_map (by assumption)|exact at_mapN (by omega)|rfl|assumption) rfl rfl|exact pur_load_ep rfl (by (fail_if_success (apply memG));repeat (first|exact List.Mem.head _|assumption|refine List.Mem.tail _ ?_)) (by first|exact at_ints (by assumption)|exact at_intsN (by omega)|exact at_map (by assumption)|exact at_mapN (by omega)|rfl|assumption) rfl) (hd:oi.dst=some d:=by rfl) (hn:Nat.blt d n=true:=by rfl):D P ops K hro t1 listed (fuel+1) ⟨n,t,h⟩:=by
 intro m0 w0 m1 wr m a w hs g1 g2 g3 g4 g5
 have hf:fits ⟨n,t,h⟩ oi.dst=true:=by rw[hd];exact hn
 have htv:TRel m1 [(d',.val u)] a.tmps:=by
  intro j y hy
  simp only[get_eq] at hy
  split at hy
  ·rename_i e
   subst e
   injection hy with hy
   subst hy
   obtain⟨z,h1,h2⟩:=hs.tmps _ _ hu
   exact⟨z,h1,by simpa only[Rel] using h2⟩
  ·simp[get] at hy
 obtain⟨z,hz,hrun⟩:=hp m1 a wr htv g2 g3
 refine wpAnyH_take hi hsel hfr hr (fun c a w h=>by simp at h) (v:=z) (.inl ⟨hw.spec hs.tmps,fun w' hw'=>hrun w' hw'.1 hw'.2⟩) g5 ?_
 have hk:=k m0 w0 m1 wr m (a.put oi.dst z) w
 have e:({ ({ n:=n,t:=t,h:=h }:St).put oi.dst v with h:=hro++(({ n:=n,t:=t,h:=h }:St).put oi.dst v).h }:St)={ n:=n,t:=(d,v)::t,h:=hro++h }:=by rw[hd];rfl
 exact hk (e ▸ D.put (s:=⟨n,t,h⟩) hs hf (hz.mono g1)) g1 g2 g3 (by have:=tputs (v:=v) g4 hs.size hf hz;rw[hd] at this ⊢;exact this) g5
end
end Go.VM
/- Joins behind a piece of code. No condition. -/
namespace Go.VM
open Go
section
variable {ro:Option Nat} {P:Program} {K:St→Prop} {h:Heap} {n:Nat} {t:List (Nat × AV)} {x y:Operand} {d xt ty:Nat} {pos:String} {af:Array Edge} {gd:Option (Nat × Bool)}
end
end Go.VM
/- Equality of truth values that is decided where it stands. No condition. -/
namespace Go.VM
open Go
set_option linter.unusedVariables false
set_option linter.unusedSimpArgs false
section
variable {ro:Option Nat} {P:Program} {h:Heap} {tm:List (Nat × AV)} {d:Option Nat} {x y:Operand} {xt yt ty:Nat} {pos:String} {af:Array Edge} {gd:Option (Nat × Bool)}
end
section
variable {ro:Option Nat} {P:Program} {ops:Array Oper} {n:Nat} {t:List (Nat × AV)} {h:Heap} {K:St→Prop} {o:Oper} {d:Nat}
end
end Go.VM
/- Regions that draw their order: what only looks, and calls that leave all as it was, are taken in one order for all. No condition. -/
namespace Go.VM
open Go
set_option linter.unusedVariables false
set_option linter.unusedSimpArgs false
def slotOf:Operand→Option Nat
 | .tmp t=>some t
 | _=>none
def inL:List Nat→Nat→Bool
 | [],_=>false
 | y::r,x=>bif Nat.beq y x then true else inL r x
theorem inL_iff:∀{l:List Nat} {x:Nat},inL l x=true↔x∈l
 | [],x=>by simp[inL]
 | y::r,x=>by
  simp only[inL]
  by_cases h:y=x
  ·subst h;simp
  ·have:Nat.beq y x=false:=by
    cases hb:Nat.beq y x
    ·rfl
    ·exact absurd (Nat.eq_of_beq_eq_true hb) h
   rw[this,cond_false,inL_iff]
   simp[Ne.symm h]
def dstAt (ops:Array Oper) (j:Nat):Option Nat:=(ops[j]?).bind (·.dst)
def readsOf (ops:Array Oper) (o:Oper):List Nat:=
 (o.op.operands.toList.filterMap slotOf)++(match o.guard with|none=>[]|some (j,_)=>match dstAt ops j with|some d=>[d]|none=>[])
def readsAt (ops:Array Oper) (j:Nat):List Nat:=match ops[j]? with|some o=>readsOf ops o|none=>[]
def restr (rs:List Nat):List (Nat × AV)→List (Nat × AV)
 | []=>[]
 | p::r=>bif inL rs p.1 then p::restr rs r else restr rs r
theorem get_restr (rs:List Nat) (x:Nat):∀t,get (restr rs t) x=if x∈rs then get t x else none
 | []=>by simp[restr,get]
 | (y,v)::r=>by
  simp only[restr]
  have ih:=get_restr rs x r
  cases hy:inL rs y
  ·rw[cond_false,ih,get_eq]
   have:y∉rs:=fun h=>by rw[inL_iff.2 h] at hy;cases hy
   by_cases hx:x∈rs
   ·rw[if_pos hx,if_pos hx,if_neg (fun e:y=x=>this (by rw[e];exact hx))]
   ·rw[if_neg hx,if_neg hx]
  ·rw[cond_true,get_eq,get_eq,ih]
   have:=inL_iff.1 hy
   by_cases hx:y=x
   ·subst hx;simp[this]
   ·simp[hx]
theorem get_restr_some {rs:List Nat} {x:Nat} {t:List (Nat × AV)} {v:AV} (h:get (restr rs t) x=some v):x∈rs∧get t x=some v:=by
 rw[get_restr] at h
 by_cases hx:x∈rs
 ·rw[if_pos hx] at h;exact⟨hx,h⟩
 ·rw[if_neg hx] at h;cases h
/-! Who waits for whom -/
def maskOf (acc:List Nat) (es:List Edge):Nat:=es.foldl (fun s e=>if Region.binds .any e then s ||| 2 ^ e.on ||| acc.getD e.on 0 else s) 0
def masks:List Oper→List Nat→List Nat
 | [],acc=>acc
 | o::os,acc=>masks os (acc++[maskOf acc o.after.toList])
theorem mask_bit {acc:List Nat} {i:Nat}:∀(es:List Edge) (s:Nat),(es.foldl (fun s e=>if Region.binds .any e then s ||| 2 ^ e.on ||| acc.getD e.on 0 else s) s).testBit i=true →
  s.testBit i=true∨∃e∈es,Region.binds .any e=true∧(e.on=i∨(acc.getD e.on 0).testBit i=true)
 | [],s,h=>.inl h
 | e::es,s,h=>by
  rw[List.foldl_cons] at h
  rcases mask_bit es _ h with h|⟨e',h1,h2⟩
  ·by_cases hb:Region.binds .any e=true
   ·rw[if_pos hb,Nat.testBit_or,Nat.testBit_or] at h
    simp only[Bool.or_eq_true] at h
    rcases h with (h|h)|h
    ·exact .inl h
    ·refine .inr ⟨e,List.mem_cons_self ..,hb,.inl ?_⟩
     rw[Nat.testBit_two_pow] at h
     simpa using h
    ·exact .inr ⟨e,List.mem_cons_self ..,hb,.inr h⟩
   ·rw[if_neg hb] at h;exact .inl h
  ·exact .inr ⟨e',List.mem_cons_of_mem _ h1,h2⟩
theorem masks_good {L:Nat→Prop} {all:List Oper} (hd:∀j o,all[j]?=some o→L j→∀e∈o.after.toList,Region.binds .any e=true→L e.on) :
  ∀(os:List Oper) (acc:List Nat),all.drop acc.length=os→(∀j,L j→∀i,(acc.getD j 0).testBit i=true→L i)→∀j,L j→∀i,((masks os acc).getD j 0).testBit i=true→L i
 | [],acc,_,hg,j,hj,i,h=>hg j hj i h
 | o::os,acc,hdr,hg,j,hj,i,h=>by
  simp only[masks] at h
  obtain⟨h1,h2⟩:=drop_cons hdr
  refine masks_good hd os _ (by simpa using h2) ?_ j hj i h
  intro j hj i h
  by_cases hl:j<acc.length
  ·rw[List.getD_eq_getElem?_getD,List.getElem?_append_left hl,←List.getD_eq_getElem?_getD] at h
   exact hg j hj i h
  ·by_cases he:j=acc.length
   ·subst he
    rw[List.getD_eq_getElem?_getD,List.getElem?_append_right (Nat.le_refl _)] at h
    simp only[Nat.sub_self,List.getElem?_cons_zero,Option.getD_some] at h
    unfold maskOf at h
    rcases mask_bit _ _ h with h|⟨e,he,hb,h|h⟩
    ·simp at h
    ·subst h;exact hd _ o h1 hj e he hb
    ·exact hg _ (hd _ o h1 hj e he hb) i h
   ·rw[List.getD_eq_getElem?_getD,List.getElem?_eq_none (by simp;omega)] at h
    simp at h
def okR (ops:Array Oper):Bool:=
 let ms:=masks ops.toList []
 (List.range ops.size).all fun j=>(match ops[j]? with|none=>true|some oj=>noDefer oj.op)&&match ops[j]? with
  | none=>true
  | some oj=>(oj.after.all fun e=>!Region.binds .any e||Nat.blt e.on j) &&
   (List.range ops.size).all fun i=>Nat.beq i j||match dstAt ops i with
    | none=>true
    | some x=>(match oj.dst with|none=>true|some y=>!Nat.beq x y)&&(!inL (readsOf ops oj) x||(ms.getD j 0).testBit i||(ms.getD i 0).testBit j)
theorem okR_nd {ops:Array Oper} (h:okR ops=true) {j:Nat} {oj:Oper} (hj:ops[j]?=some oj):noDefer oj.op=true:=by
 have hlt:=(Array.getElem?_eq_some_iff.1 hj).1
 unfold okR at h
 have h1:=List.all_eq_true.1 h j (List.mem_range.2 hlt)
 rw[Bool.and_eq_true] at h1
 have h1:=h1.1
 rw[hj] at h1
 exact h1
def wpO (P:Program) (ops:Array Oper) (Q:Exit→Act→World→Prop) (i:Nat) (K:Act→World→Prop) (a:Act) (w:World):Prop:=
 match ops[i]? with
 | none=>K a w
 | some o=>if Region.wanted o (yielded ops a.tmps) then o.wp P a w K Q else K (a.put o.dst undef) w
theorem wpO_mono {P:Program} {ops:Array Oper} {Q:Exit→Act→World→Prop} {i:Nat} {a:Act} {w:World} {K K':Act→World→Prop} (h:∀a w,K a w→K' a w) (hh:wpO P ops Q i K a w):wpO P ops Q i K' a w:=by
 unfold wpO at *
 split
 ·exact h _ _ (by simpa[*] using hh)
 ·rename_i o ho
  simp only[ho] at hh
  split
  ·rename_i hw;simp only[hw,if_true] at hh;exact Oper.wp_mono h hh
  ·rename_i hw;simp only[hw] at hh;exact h _ _ hh
theorem wpO_in {ro:Option Nat} {P:Program} {ops:Array Oper} {Q:Exit→Act→World→Prop} {i:Nat} {a:Act} {w:World} {K:Act→World→Prop} (hok:okR ops=true) (hh:wpO P ops Q i K a w):wpOpIn (FR ro) 1 P ops Q i K a w:=by
 unfold wpO at hh
 unfold wpOpIn
 cases ho:ops[i]? with
 | none=>simpa[ho] using hh
 | some o=>
  simp only[ho] at hh ⊢
  split
  ·rename_i hw;simp only[hw,if_true] at hh;exact wpIn_of_wp (okR_nd hok ho) hh
  ·rename_i hw;simp only[hw] at hh;exact⟨fun _ _=>trivial,hh⟩
def anc (ops:Array Oper) (j i:Nat):Prop:=((masks ops.toList []).getD j 0).testBit i=true
def Down (ops:Array Oper) (L:Nat→Prop):Prop:=∀j o,ops[j]?=some o→L j→∀e∈o.after,Region.binds .any e=true→L e.on
section
variable {ops:Array Oper}
theorem Down.anc {L:Nat→Prop} (h:Down ops L) {j i:Nat} (hj:L j) (ha:anc ops j i):L i:=
 masks_good (L:=L) (all:=ops.toList) (fun j o ho hj e he hb=>h j o (by simpa using ho) hj e (by simpa using he) hb) ops.toList [] rfl (by simp) j hj i ha
theorem okR_spec (h:okR ops=true) {j:Nat} {oj:Oper} (hj:ops[j]?=some oj):(∀e∈oj.after,Region.binds .any e=true→e.on<j) ∧
  ∀i x,i≠j→dstAt ops i=some x→oj.dst≠some x∧(x∈readsOf ops oj→anc ops j i∨anc ops i j):=by
 have hlt:=(Array.getElem?_eq_some_iff.1 hj).1
 unfold okR at h
 have h1:=List.all_eq_true.1 h j (List.mem_range.2 hlt)
 rw[Bool.and_eq_true] at h1
 have h1:=h1.2
 simp only[hj,Bool.and_eq_true] at h1
 refine⟨fun e he hb=>?_,fun i x hi hx=>?_⟩
 ·have:=Array.all_eq_true_iff_forall_mem.1 h1.1 e he
  simp only[hb,Bool.not_true,Bool.false_or] at this
  exact Nat.le_of_ble_eq_true this
 ·have hil:i<ops.size:=by
   rcases Nat.lt_or_ge i ops.size with q|q
   ·exact q
   ·unfold dstAt at hx;rw[Array.getElem?_eq_none q] at hx;cases hx
  have h2:=List.all_eq_true.1 h1.2 i (List.mem_range.2 hil)
  have hne:Nat.beq i j=false:=by
   cases hb:Nat.beq i j
   ·rfl
   ·exact absurd (Nat.eq_of_beq_eq_true hb) hi
  simp only[hne,Bool.false_or,hx,Bool.and_eq_true,Bool.or_eq_true] at h2
  refine⟨fun e=>?_,fun hr=>?_⟩
  ·rw[e] at h2
   have:=h2.1
   simp at this
  ·rcases h2.2 with (h2|h2)|h2
   ·rw[inL_iff.2 hr] at h2;cases h2
   ·exact .inl h2
   ·exact .inr h2
end
def left (n:Nat) (act:Array Bool):Nat:=(List.range n).countP fun i=>!act.getD i true
theorem countP_lt {p q:Nat→Bool}:∀{l:List Nat},(∀x∈l,p x=true→q x=true)→(∃x∈l,q x=true∧p x=false)→l.countP p<l.countP q
 | [],_,⟨x,hx,_⟩=>by cases hx
 | y::l,h,⟨x,hx,h1,h2⟩=>by
  have hle:l.countP p≤l.countP q:=List.countP_mono_left fun x hx=>h x (List.mem_cons_of_mem _ hx)
  rcases List.mem_cons.1 hx with rfl|hx
  ·rw[List.countP_cons,List.countP_cons,h1,h2];simp;omega
  ·have:=countP_lt (fun x hx=>h x (List.mem_cons_of_mem _ hx)) ⟨x,hx,h1,h2⟩
   rw[List.countP_cons,List.countP_cons]
   by_cases hp:p y=true
   ·rw[hp,h y (List.mem_cons_self ..) hp];simp;omega
   ·simp only[hp];simp;omega
theorem left_lt {n i:Nat} {act:Array Bool} (hs:act.size=n) (hi:act.getD i true=false):left n (act.setIfInBounds i true)<left n act:=by
 have hil:i<act.size:=by
  rcases Nat.lt_or_ge i act.size with q|q
  ·exact q
  ·rw[Array.getD_eq_getD_getElem?,Array.getElem?_eq_none q] at hi;cases hi
 refine countP_lt (fun x _ hx=>?_) ⟨i,List.mem_range.2 (hs ▸ hil),by simp[hi],?_⟩
 ·by_cases h:i=x
  ·subst h;rw[hi];rfl
  ·rwa[getD_set_ne true h] at hx
 ·simp[hil]
theorem min_of:∀(l:List Nat),l≠[]→∃x∈l,∀y∈l,x≤y
 | [],h=>absurd rfl h
 | [x],_=>⟨x,by simp,by simp⟩
 | x::y::r,_=>by
  obtain⟨z,h1,h2⟩:=min_of (y::r) (by simp)
  rcases Nat.lt_or_ge x z with h|h
  ·exact⟨x,by simp,fun u hu=>by rcases List.mem_cons.1 hu with rfl|hu;exact Nat.le_refl _;have:=h2 u hu;omega⟩
  ·exact⟨z,List.mem_cons_of_mem _ h1,fun u hu=>by rcases List.mem_cons.1 hu with rfl|hu;exact h;exact h2 u hu⟩
/-! What an operation does -/
theorem wp_act {P:Program} {o:Oper} {a:Act} {w:World} {K:Act→World→Prop} {Q:Exit→Act→World→Prop} (h:o.wp P a w K Q):o.wp P a w (fun a' w'=>(∃u,a'.tmps=(a.put o.dst u).tmps)∧K a' w') Q:=by
 unfold Oper.wp at *
 generalize (execOp a.eval o).run P w=r at *
 cases r with
 | ok n w'=>
  cases n<;>simp only[Oper.upon] at h ⊢
  case value v=>exact⟨⟨v,rfl⟩,h⟩
  case skip=>exact⟨⟨_,rfl⟩,h⟩
  case defer d=>exact⟨⟨undef,by cases o.dst<;>rfl⟩,h⟩
  case enter f args=>
   refine Calls.mono h fun e w'' he=>?_
   cases e with
   | returned u=>exact⟨⟨u,rfl⟩,he⟩
   | panicked c=>exact he
   | outgrown=>exact he
  case row row args=>exact Rows.mono h fun u w'' he=>⟨⟨u,rfl⟩,he⟩
 | halt x w'=>cases x<;>simp only[Oper.upon] at h ⊢<;>exact h
def Out (n:Nat) (m0:GF) (w0:World) (m:Ghost) (a:Act) (dst:Option Nat) (h':Heap) (v:AV) (a':Act) (w':World):Prop:=
 ∃m' u,Gle m m'∧a'.tmps=(a.put dst u).tmps∧Rel m' v u∧SimG m0 w0 m' ⟨n,[],h'⟩ a' w'
theorem SimG.bare {m0:GF} {w0:World} {m:Ghost} {n:Nat} {t:List (Nat × AV)} {h:Heap} {a:Act} {w:World} (k:SimG m0 w0 m ⟨n,t,h⟩ a w):SimG m0 w0 m ⟨n,[],h⟩ a w:=
 {k with tmps:=fun i v e=>by simp[get] at e }
theorem SimG.with {m0:GF} {w0:World} {m:Ghost} {n:Nat} {t t':List (Nat × AV)} {h:Heap} {a:Act} {w:World} (k:SimG m0 w0 m ⟨n,t,h⟩ a w) (q:TRel m t' a.tmps):SimG m0 w0 m ⟨n,t',h⟩ a w:=
 {k with tmps:=q }
theorem SimG.permh {m0:GF} {w0:World} {m:Ghost} {n:Nat} {t:List (Nat × AV)} {h h':Heap} {a:Act} {w:World} (k:SimG m0 w0 m ⟨n,t,h⟩ a w) (q:h'.Perm h):SimG m0 w0 m ⟨n,t,h'⟩ a w:=
 {k with heap:=k.heap.perm q,own:=fun x hx=>k.own x (q.subset hx) }
theorem step_frame {P:Program} {o:Oper} {n:Nat} {tr:List (Nat × AV)} {h:Heap} {K:St→Prop} (hst:Step P o ⟨n,tr,h⟩ K) {m0:GF} {w0:World} {m:Ghost} {a:Act} {w:World} {hro:Heap}
  (hs:SimG m0 w0 m ⟨n,tr,hro++h⟩ a w) (Q:Exit→Act→World→Prop) :
  o.wp P a w (fun a' w'=>∃s' m' u,K s'∧Gle m m'∧a'.tmps=(a.put o.dst u).tmps∧TRel m' s'.t a'.tmps∧SimG m0 w0 m' ⟨n,[],hro++s'.h⟩ a' w') Q:=by
 have hnd:=hs.heap.1
 have hro_in:∀x∈hro,x∈hro++h:=fun x hx=>List.mem_append_left _ hx
 have hsh_in:∀x∈h,x∈hro++h:=fun x hx=>List.mem_append_right _ hx
 have hdisj:∀x∈hro,∀b,x.blk=some b→¬ ∃y∈h,y.blk=some b:=by
  intro x hx b hb hy
  rw[List.filterMap_append,List.nodup_append] at hnd
  obtain⟨y,hy,hyb⟩:=hy
  exact hnd.2.2 b (mem_blks.2 ⟨x,hx,hb⟩) b (mem_blks.2 ⟨y,hy,hyb⟩) rfl
 have hs1:SimG ⟨m,fun b=>∃y∈h,y.blk=some b,a.defers⟩ w m ⟨n,tr,h⟩ a w:=
  ⟨Gle.refl m,fun b o e=>.inl e,fun _ _ _=>rfl,fun x hx b hb=>.inl ⟨x,hx,hb⟩,hs.holds,Same.refl w,Defs.refl _ _ _,hs.size,hs.tmps,hs.heap.sub (List.sublist_append_right _ _)⟩
 refine Oper.wp_mono ?_ (wp_act (hst _ w a w ⟨m,hs1⟩ Q))
 rintro a' w' ⟨⟨u,hu⟩,s',hk,m',hs'⟩
 have hszw:=hs'.same.size
 have hblk:∀x∈hro,∀b,x.blk=some b→b<w.heap.size:=fun x hx b hb=>(hs.heap.2 x (hro_in x hx)).2.lt hb
 have hfix:∀x∈hro,∀b,x.blk=some b→w'.heap[b]?=w.heap[b]?:=fun x hx b hb=>hs'.frame b (hblk x hx b hb) (hdisj x hx b hb)
 have hro':∀x∈hro,(∀b,x.blk=some b→m' b=none)∧OERel m' w' x:=by
  intro x hx
  refine⟨fun b hb=>?_,((hs.heap.2 x (hro_in x hx)).2.mono hs'.le).local (hfix x hx)⟩
  cases hmb:m' b with
  | none=>rfl
  | some o=>
   rcases hs'.grow b o hmb with h|h|h
   ·have h:m b=some o:=h
    rw[(hs.heap.2 x (hro_in x hx)).1 b hb] at h;cases h
   ·exact absurd h (hdisj x hx b hb)
   ·have:=hblk x hx b hb;omega
 have hheap:HRel m' (hro++s'.h) w':=by
  refine⟨?_,fun x hx=>?_⟩
  ·rw[List.filterMap_append,List.nodup_append]
   rw[List.filterMap_append,List.nodup_append] at hnd
   refine⟨hnd.1,hs'.heap.1,fun b hb c hc e=>?_⟩
   subst e
   obtain⟨x,hx,hxb⟩:=mem_blks.1 hb
   obtain⟨y,hy,hyb⟩:=mem_blks.1 hc
   rcases hs'.own y hy b hyb with h|h
   ·exact hdisj x hx b hxb h
   ·have:=hblk x hx b hxb;omega
  ·rw[List.mem_append] at hx
   rcases hx with hx|hx
   ·exact hro' x hx
   ·exact hs'.heap.2 x hx
 have hF:∀b,(∃y∈h,y.blk=some b)→m0.2 b∨w0.heap.size≤b:=fun b ⟨y,hy,hb⟩=>hs.own y (hsh_in y hy) b hb
 have hsz:=hs.same.size
 have hsn:s'.n=n:=by
  have h1:=hs'.size
  have h2:=hs.size
  rw[hu] at h1
  cases hd:o.dst<;>rw[hd] at h1<;>simp[Act.put] at h1<;>simp at h2<;>omega
 refine⟨s',m',u,hk,hs'.le,hu,hs'.tmps,?_⟩
 exact
  {le:=hs.le.trans hs'.le
   grow:=fun b o e=>by
    rcases hs'.grow b o e with h|h|h
    ·exact hs.grow b o h
    ·rcases hF b h with h|h<;>simp[h]
    ·right;right;omega
   frame:=fun b q1 q2=>(hs'.frame b (by omega) (fun hy=>by rcases hF b hy with h|h;exact q2 h;omega)).trans (hs.frame b q1 q2)
   own:=fun y hy b hb=>by
    simp only[List.mem_append] at hy
    rcases hy with hy|hy
    ·exact hs.own y (hro_in y hy) b hb
    ·rcases hs'.own y hy b hb with h|h
     ·exact hF b h
     ·right;omega
   holds:=hs'.holds
   same:=hs.same.trans hs'.same
   defers:=hs.defers.trans hs'.le hs'.defers (by omega) (fun D o e=>hs.holds.lt e)
   size:=by simpa[hsn] using hs'.size
   tmps:=fun i v e=>by simp[get] at e
   heap:=hheap }
/-! ### The predicate -/
section
variable {ro:Option Nat} {P:Program} {ops:Array Oper} {n:Nat}
def EOp (P:Program) (ops:Array Oper) (n i:Nat) (tr:List (Nat × AV)) (hro h:Heap) (R:AV→Heap→Prop):Prop:=
 (∀d,dstAt ops i=some d→d<n)∧∀m0 w0 m a w,SimG m0 w0 m ⟨n,tr,hro++h⟩ a w→∀Q,wpO P ops Q i (fun a' w'=>∃v h',R v h'∧Out n m0 w0 m a (dstAt ops i) (hro++h') v a' w') a w
abbrev Pend:=Nat × List (Nat × AV) × AV
def PendOk (P:Program) (ops:Array Oper) (n:Nat) (hro:Heap) (m:Ghost) (p:Pend):Prop:=
 (∀d,dstAt ops p.1=some d→d<n)∧∀m0 w0 m' a w h,Gle m m'→SimG m0 w0 m' ⟨n,p.2.1,hro++h⟩ a w→∀Q,wpO P ops Q p.1 (fun a' w'=>Out n m0 w0 m' a (dstAt ops p.1) (hro++h) p.2.2 a' w') a w
def valOp:Op→Bool
 | .move _|.assign _|.pick _ _ _|.binOp _ _ _ _ _|.convert _ _ _|.fieldAddr _ _ _|.extract _ _=>true
 | _=>false
def valAt (ops:Array Oper) (i:Nat):Bool:=match ops[i]? with
 | some o=>valOp o.op
 | none=>false
structure Cfg (P:Program) (ops:Array Oper) (n:Nat) (hro:Heap) (m0:GF) (w0:World) (todo:List Nat) (t:List (Nat × AV)) (h:Heap) (m:Ghost) (a:Act) (w:World) (act:Array Bool) (pend:List Pend):Prop where
 base:SimG m0 w0 m ⟨n,[],hro++h⟩ a w
 sz:act.size=ops.size
 part:∀i,i<ops.size→(i∈todo↔act.getD i true=false∧∀p∈pend,p.1≠i)
 tod:∀i∈todo,i<ops.size
 un:∀p∈pend,act.getD p.1 true=false
 nd:(pend.map (·.1)).Nodup
 downV:Down ops (fun i=>i<ops.size∧i∉todo)
 downA:Down ops (fun i=>act.getD i false=true)
 ev:∀p∈pend,PendOk P ops n hro m p
 evV:∀p∈pend,valAt ops p.1=true→PendOk P ops n [] m p
 i2:∀x v,get t x=some v→(∀p∈pend,dstAt ops p.1≠some x)→∃u,a.tmps[x]?=some u∧Rel m v u
 i3:∀p∈pend,∀x v,get p.2.1 x=some v→(∀q∈pend,q.1≠p.1→anc ops p.1 q.1→dstAt ops q.1≠some x)→∃u,a.tmps[x]?=some u∧Rel m v u
 i3r:∀p∈pend,∀x v,get p.2.1 x=some v→x∈readsAt ops p.1
 i4:∀p∈pend,∀x,dstAt ops p.1=some x→get t x=some p.2.2
 i5:∀p∈pend,∀q∈pend,q.1≠p.1→anc ops p.1 q.1→∀x,dstAt ops q.1=some x→∀v,get p.2.1 x=some v→v=q.2.2
def DR (ro:Option Nat) (P:Program) (ops:Array Oper) (K:St→Prop) (n:Nat) (hro:Heap) (todo:List Nat) (t:List (Nat × AV)) (h:Heap):Prop:=
 ∀m0 w0 m a w act pend fuel,Cfg P ops n hro m0 w0 todo t h m a w act pend→left ops.size act≤fuel →
  wpAnyIn (FR ro) 1 P .any ops (fun e a' w'=>e=.normal∧∃s',K s'∧Sim m0 w0 s' a' w') fuel act a w
theorem act_lt {act:Array Bool} {i:Nat} (h:act.getD i true=false):i<act.size:=by
 rcases Nat.lt_or_ge i act.size with q|q
 ·exact q
 ·rw[Array.getD_eq_getD_getElem?,Array.getElem?_eq_none q] at h;cases h
theorem act_tf {act:Array Bool} {i:Nat} (hi:i<act.size):act.getD i true=false↔act.getD i false≠true:=by
 simp[Array.getD_eq_getD_getElem?,hi]
theorem set_false {act:Array Bool} {i j:Nat} (h:i<act.size):(act.setIfInBounds i true).getD j true=false↔act.getD j true=false∧i≠j:=by
 by_cases hij:i=j
 ·subst hij;simp[h]
 ·rw[getD_set_ne true hij];simp[hij]
theorem set_true {act:Array Bool} {i j:Nat} (h:i<act.size):(act.setIfInBounds i true).getD j false=true↔act.getD j false=true∨i=j:=by
 by_cases hij:i=j
 ·subst hij;simp[h]
 ·rw[getD_set_ne false hij];simp[hij]
section
variable {hro:Heap} {m0:GF} {w0:World} {todo:List Nat} {t:List (Nat × AV)} {h:Heap} {m:Ghost} {a:Act} {w:World} {act:Array Bool} {pend:List Pend} {K:St→Prop}
theorem Cfg.down_add (c:Cfg P ops n hro m0 w0 todo t h m a w act pend) {i:Nat} (hi:i∈Region.ready .any ops act):Down ops (fun j=>(act.setIfInBounds i true).getD j false=true):=by
 obtain⟨h0,o,ho,hall⟩:=mem_ready.1 hi
 have hlt:=act_lt h0
 intro j oj hj hl e he hb
 rcases (set_true hlt).1 hl with hl|rfl
 ·exact (set_true hlt).2 (.inl (c.downA j oj hj hl e he hb))
 ·rw[ho] at hj;injection hj with hj;subst hj
  exact (set_true hlt).2 (.inl (hall e he hb))
theorem Cfg.anc_act (c:Cfg P ops n hro m0 w0 todo t h m a w act pend) {i j:Nat} (hi:i∈Region.ready .any ops act) (ha:anc ops i j) (hne:j≠i):act.getD j false=true:=by
 have hlt:=act_lt (mem_ready.1 hi).1
 have h1:=(c.down_add hi).anc (j:=i) (i:=j) ((set_true hlt).2 (.inr rfl)) ha
 exact ((set_true hlt).1 h1).resolve_right (Ne.symm hne)
theorem Cfg.not_act (c:Cfg P ops n hro m0 w0 todo t h m a w act pend) {p:Pend} (hp:p∈pend):¬ act.getD p.1 false=true:=(act_tf (act_lt (c.un p hp))).1 (c.un p hp)
theorem Cfg.listed (c:Cfg P ops n hro m0 w0 todo t h m a w act pend) {p:Pend} (hp:p∈pend):p.1<ops.size∧p.1∉todo:=by
 have hlt:=act_lt (c.un p hp)
 rw[c.sz] at hlt
 exact⟨hlt,fun ht=>((c.part _ hlt).1 ht).2 p hp rfl⟩
theorem Cfg.tmp_put (c:Cfg P ops n hro m0 w0 todo t h m a w act pend) {d:Nat} (hd:d<n) {u:Value}:((a.put (some d) u).tmps)[d]?=some u:=by
 have:=c.base.size
 simp only[Act.put]
 rw[Array.getElem?_setIfInBounds_self_of_lt]
 simp at this;omega
theorem tmp_other {d:Option Nat} {x:Nat} {u:Value} (hx:d≠some x):((a.put d u).tmps)[x]?=a.tmps[x]?:=by
 cases d with
 | none=>rfl
 | some d=>simp only[Act.put];rw[Array.getElem?_setIfInBounds_ne (fun e=>hx (by rw[e]))]
theorem Cfg.perform (hok:okR ops=true) (c:Cfg P ops n hro m0 w0 todo t h m a w act pend) {p:Pend} {l r:List Pend} (hp:pend=l++p::r) (hr:p.1∈Region.ready .any ops act) (Q:Exit→Act→World→Prop) :
  wpO P ops Q p.1 (fun a' w'=>∃m',Cfg P ops n hro m0 w0 todo t h m' a' w' (act.setIfInBounds p.1 true) (l++r)) a w:=by
 have hmem:p∈pend:=by rw[hp];simp
 have hsub:∀q∈l++r,q∈pend:=fun q hq=>by rw[hp];simp at hq ⊢;rcases hq with hq|hq<;>simp[hq]
 have hnd:=c.nd
 rw[hp,List.map_append,List.map_cons] at hnd
 have hne:∀q∈l++r,q.1≠p.1:=by
  intro q hq e
  have hn2:=List.nodup_append.1 hnd
  rcases List.mem_append.1 hq with hq|hq
  ·exact hn2.2.2 _ (List.mem_map_of_mem hq) _ (List.mem_cons_self ..) e
  ·exact (List.nodup_cons.1 hn2.2.1).1 (e ▸ List.mem_map_of_mem hq)
 have hcase:∀q∈pend,q=p∨q∈l++r:=fun q hq=>by rw[hp] at hq;simp at hq ⊢;rcases hq with hq|hq|hq<;>simp[hq]
 have hlt:=act_lt (c.un p hmem)
 obtain⟨h0,oi,hoi,hall⟩:=mem_ready.1 hr
 obtain⟨hpd,hpe⟩:=c.ev p hmem
 have htr:TRel m p.2.1 a.tmps:=fun x v hv=>c.i3 p hmem x v hv fun q hq hqp hqa=>by
  exact absurd (c.anc_act hr hqa hqp) (c.not_act hq)
 refine wpO_mono ?_ (hpe m0 w0 m a w h (Gle.refl m) (c.base.with htr) Q)
 rintro a' w' ⟨m',u,g1,g2,g3,g4⟩
 refine⟨m',?_⟩
 have key:∀x v,∀q:Prop,(dstAt ops p.1=some x→v=p.2.2)→(dstAt ops p.1≠some x→∃u,a.tmps[x]?=some u∧Rel m v u)→∃u,a'.tmps[x]?=some u∧Rel m' v u:=by
  intro x v _ k1 k2
  rw[g2]
  by_cases hx:dstAt ops p.1=some x
  ·rw[k1 hx,hx]
   exact⟨u,c.tmp_put (hpd x hx),g3⟩
  ·obtain⟨u',q1,q2⟩:=k2 hx
   exact⟨u',by rw[tmp_other hx];exact q1,q2.mono g1⟩
 exact
  {base:=g4
   sz:=by rw[Array.size_setIfInBounds];exact c.sz
   part:=fun i hi=>by
    rw[c.part i hi,set_false hlt]
    constructor
    ·rintro⟨q1,q2⟩;exact⟨⟨q1,q2 p hmem⟩,fun q hq=>q2 q (hsub q hq)⟩
    ·rintro⟨⟨q1,q2⟩,q3⟩;exact⟨q1,fun q hq=>by rcases hcase q hq with rfl|hq;exact q2;exact q3 q hq⟩
   tod:=c.tod
   un:=fun q hq=>(set_false hlt).2 ⟨c.un q (hsub q hq),Ne.symm (hne q hq)⟩
   nd:=by
    rw[List.map_append]
    exact List.Nodup.sublist ((List.Sublist.refl _).append (List.sublist_cons_self _ _)) hnd
   downV:=c.downV
   downA:=c.down_add hr
   ev:=fun q hq=>⟨(c.ev q (hsub q hq)).1,fun m0 w0 m2 a w h g=>(c.ev q (hsub q hq)).2 m0 w0 m2 a w h (g1.trans g)⟩
   evV:=fun q hq hv=>⟨(c.evV q (hsub q hq) hv).1,fun m0 w0 m2 a w h g=>(c.evV q (hsub q hq) hv).2 m0 w0 m2 a w h (g1.trans g)⟩
   i2:=fun x v hv hq=>key x v True (fun hx=>by have:=c.i4 p hmem x hx;rw[hv] at this;injection this)
    (fun hx=>c.i2 x v hv fun q hq'=>by rcases hcase q hq' with rfl|hq';exact hx;exact hq q hq')
   i3:=fun q hq x v hv hw=>key x v True
    (fun hx=>by
     have hrd:=c.i3r q (hsub q hq) x v hv
     unfold readsAt at hrd
     cases ho:ops[q.1]? with
     | none=>rw[ho] at hrd;cases hrd
     | some oq=>
      rw[ho] at hrd
      rcases ((okR_spec hok ho).2 p.1 x (Ne.symm (hne q hq)) hx).2 hrd with ha|ha
      ·exact c.i5 q (hsub q hq) p hmem (Ne.symm (hne q hq)) ha x hx v hv
      ·exact absurd (c.anc_act hr ha (hne q hq)) (c.not_act (hsub q hq)))
    (fun hx=>c.i3 q (hsub q hq) x v hv fun q' hq' k1 k2=>by rcases hcase q' hq' with rfl|hq';exact hx;exact hw q' hq' k1 k2)
   i3r:=fun q hq=>c.i3r q (hsub q hq)
   i4:=fun q hq=>c.i4 q (hsub q hq)
   i5:=fun q hq q' hq'=>c.i5 q (hsub q hq) q' (hsub q' hq') }
theorem Cfg.some_ready (hok:okR ops=true) (c:Cfg P ops n hro m0 w0 todo t h m a w act pend) (hne:pend≠[]):∃p∈pend,p.1∈Region.ready .any ops act:=by
 obtain⟨x,hx,hmin⟩:=min_of (pend.map (·.1)) (by simpa using hne)
 obtain⟨p,hp,rfl⟩:=List.mem_map.1 hx
 refine⟨p,hp,mem_ready.2 ⟨c.un p hp,?_⟩⟩
 obtain⟨hl,hv⟩:=c.listed hp
 obtain⟨o,ho⟩:∃o,ops[p.1]?=some o:=⟨_,Array.getElem?_eq_getElem hl⟩
 refine⟨o,ho,fun e he hb=>?_⟩
 obtain⟨q1,q2⟩:=c.downV p.1 o ho ⟨hl,hv⟩ e he hb
 cases ha:act.getD e.on false with
 | true=>rfl
 | false=>
  exfalso
  have hf:act.getD e.on true=false:=(act_tf (by rw[c.sz];exact q1)).2 (by rw[ha];simp)
  refine q2 ((c.part _ q1).2 ⟨hf,fun q hq e'=>?_⟩)
  have:=hmin _ (List.mem_map_of_mem hq)
  have:=(okR_spec hok ho).1 e he hb
  omega
def rdy (ops:Array Oper) (todo:List Nat) (i:Nat):Bool:=match ops[i]? with
 | some o=>o.after.all fun e=>!Region.binds .any e||!inL todo e.on
 | none=>false
theorem Cfg.ready_v (c:Cfg P ops n hro m0 w0 todo t h m a w act pend) {i:Nat} (hi:i∈Region.ready .any ops act) (hp:∀p∈pend,p.1≠i):i∈todo∧rdy ops todo i=true:=by
 obtain⟨h0,o,ho,hall⟩:=mem_ready.1 hi
 have hlt:=act_lt h0
 rw[c.sz] at hlt
 refine⟨(c.part i hlt).2 ⟨h0,hp⟩,?_⟩
 unfold rdy
 rw[ho]
 simp only
 rw[Array.all_eq_true_iff_forall_mem]
 intro e he
 cases hb:Region.binds .any e
 ·rfl
 ·simp only[Bool.not_true,Bool.false_or]
  cases hq:inL todo e.on
  ·rfl
  ·exfalso
   have h1:=hall e he hb
   have h2:=inL_iff.1 hq
   have h3:=c.tod _ h2
   have h4:=((c.part _ h3).1 h2).1
   exact (act_tf (by rw[c.sz];exact h3)).1 h4 h1
theorem split_of:∀{l:List Pend} {p:Pend},p∈l→∃a b,l=a++p::b:=fun h=>List.append_of_mem h
theorem DR.core (hok:okR ops=true) (h1:todo=[]→K ⟨n,t,hro++h⟩)
  (h2:∀i∈todo,rdy ops todo i=true→∃R,EOp P ops n i (restr (readsAt ops i) t) hro h R∧∀v h',R v h'→DR ro P ops K n hro (todo.filter (fun j=>!Nat.beq j i)) (tadd (dstAt ops i) v t) h'):DR ro P ops K n hro todo t h:=by
 intro m0 w0 m a w act pend fuel c hf
 induction fuel generalizing m a w act pend with
 | zero=>
  have hno:∀i,act.getD i true≠false:=fun i hi=>by
   have:=left_lt (n:=ops.size) c.sz hi;omega
  have hp:pend=[]:=by
   cases pend with
   | nil=>rfl
   | cons p r=>exact absurd (c.un p (by simp)) (hno _)
  subst hp
  have ht:todo=[]:=by
   cases todo with
   | nil=>rfl
   | cons i r=>exact absurd ((c.part i (c.tod i (by simp))).1 (by simp)).1 (hno _)
  refine⟨?_,rfl,_,h1 ht,m,c.base.with fun x v hv=>c.i2 x v hv (by simp)⟩
  cases hr:Region.ready .any ops act with
  | nil=>rfl
  | cons i r=>exact absurd (mem_ready.1 (hr ▸ List.mem_cons_self ..)).1 (hno i)
 | succ fuel ih=>
  refine⟨fun hr=>?_,fun i hi=>?_⟩
  ·have hp:pend=[]:=by
    cases hp:pend with
    | nil=>rfl
    | cons p r=>
     obtain⟨q,_,hq⟩:=c.some_ready hok (by simp[hp])
     rw[hr] at hq;cases hq
   subst hp
   have ht:todo=[]:=by
    cases ht:todo with
    | nil=>rfl
    | cons i0 r0=>
     exfalso
     obtain⟨x,hx,hmin⟩:=min_of todo (by simp[ht])
     have hl:=c.tod x hx
     obtain⟨o,ho⟩:∃o,ops[x]?=some o:=⟨_,Array.getElem?_eq_getElem hl⟩
     have:x∈Region.ready .any ops act:=by
      refine mem_ready.2 ⟨((c.part x hl).1 hx).1,o,ho,fun e he hb=>?_⟩
      have hlt:=(okR_spec hok ho).1 e he hb
      cases ha:act.getD e.on false with
      | true=>rfl
      | false=>
       exfalso
       have:=hmin e.on ((c.part e.on (by omega)).2 ⟨(act_tf (by rw[c.sz];omega)).2 (by rw[ha];simp),by simp⟩)
       omega
     rw[hr] at this;cases this
   exact⟨rfl,_,h1 ht,m,c.base.with fun x v hv=>c.i2 x v hv (by simp)⟩
  ·have h0:=(mem_ready.1 hi).1
   have hlt:=act_lt h0
   have hleft:=left_lt (n:=ops.size) c.sz h0
   by_cases hp:∃p∈pend,p.1=i
   ·obtain⟨p,hp,rfl⟩:=hp
    obtain⟨l,r,hlr⟩:=split_of hp
    refine wpO_in hok (wpO_mono ?_ (c.perform hok hlr hi _))
    rintro a' w' ⟨m',c'⟩
    exact ih _ _ _ _ _ c' (by omega)
   ·have hp:∀p∈pend,p.1≠i:=fun p hpp e=>hp ⟨p,hpp,e⟩
    obtain⟨ht,hrd⟩:=c.ready_v hi hp
    obtain⟨R,⟨hd,he⟩,hk⟩:=h2 i ht hrd
    have hil:i<ops.size:=by rw[←c.sz];exact hlt
    obtain⟨oi,hoi⟩:∃o,ops[i]?=some o:=⟨_,Array.getElem?_eq_getElem hil⟩
    have hra:readsAt ops i=readsOf ops oi:=by unfold readsAt;rw[hoi]
    have hdst:∀{x},dstAt ops i=some x→oi.dst=some x:=fun h=>by unfold dstAt at h;rw[hoi] at h;exact h
    have htr:TRel m (restr (readsAt ops i) t) a.tmps:=fun x v hv=>by
     obtain⟨q1,q2⟩:=get_restr_some hv
     refine c.i2 x v q2 fun p hpp hx=>?_
     rw[hra] at q1
     rcases ((okR_spec hok hoi).2 p.1 x (hp p hpp) hx).2 q1 with ha|ha
     ·exact c.not_act hpp (c.anc_act hi ha (hp p hpp))
     ·exact ((c.downV.anc (c.listed hpp) ha).2) ht
    refine wpO_in hok (wpO_mono ?_ (he m0 w0 m a w (c.base.with htr) _))
    rintro a' w' ⟨v,h',hR,m',u,g1,g2,g3,g4⟩
    refine hk v h' hR m0 w0 m' a' w' (act.setIfInBounds i true) pend fuel ?_ (by omega)
    have hpx:∀p∈pend,∀x,x∈readsAt ops p.1→dstAt ops i≠some x:=by
     intro p hpp x hx hdx
     unfold readsAt at hx
     cases ho:ops[p.1]? with
     | none=>rw[ho] at hx;cases hx
     | some oq=>
      rw[ho] at hx
      rcases ((okR_spec hok ho).2 i x (Ne.symm (hp p hpp)) hdx).2 hx with ha|ha
      ·exact (c.downV.anc (c.listed hpp) ha).2 ht
      ·exact c.not_act hpp (c.anc_act hi ha (hp p hpp))
    have hdd:∀p∈pend,∀x,dstAt ops p.1=some x→dstAt ops i≠some x:=fun p hpp x hx hdx=>
     ((okR_spec hok hoi).2 p.1 x (hp p hpp) hx).1 (hdst hdx)
    have hget:∀x,dstAt ops i≠some x→get (tadd (dstAt ops i) v t) x=get t x:=fun x hx=>by
     cases hd:dstAt ops i with
     | none=>rfl
     | some d=>simp only[tadd];rw[get_eq,if_neg (fun e=>hx (by rw[hd,e]))]
    have hmemf:∀j,j∈todo.filter (fun j=>!Nat.beq j i)↔j∈todo∧j≠i:=fun j=>by
     rw[List.mem_filter]
     cases hb:Nat.beq j i
     ·simp;intro _ e;subst e;simp at hb
     ·simp;intro _;exact Nat.eq_of_beq_eq_true hb
    exact
     {base:=g4
      sz:=by rw[Array.size_setIfInBounds];exact c.sz
      part:=fun j hj=>by
       rw[hmemf,c.part j hj,set_false hlt]
       constructor
       ·rintro⟨⟨q1,q2⟩,q3⟩;exact⟨⟨q1,Ne.symm q3⟩,q2⟩
       ·rintro⟨⟨q1,q3⟩,q2⟩;exact⟨⟨q1,q2⟩,Ne.symm q3⟩
      tod:=fun j hj=>c.tod j ((hmemf j).1 hj).1
      un:=fun q hq=>(set_false hlt).2 ⟨c.un q hq,Ne.symm (hp q hq)⟩
      nd:=c.nd
      downV:=fun j oj hj hl e hee hb=>by
       refine⟨?_,fun hin=>?_⟩
       ·have:=(okR_spec hok hj).1 e hee hb;omega
       ·obtain⟨k1,k2⟩:=(hmemf _).1 hin
        by_cases hji:j=i
        ·subst hji
         rw[hoi] at hj;injection hj with hj;subst hj
         obtain⟨_,o',ho',hall⟩:=mem_ready.1 hi
         rw[hoi] at ho';injection ho' with ho';subst ho'
         have h5:=hall e hee hb
         have h6:=c.tod _ k1
         exact (act_tf (by rw[c.sz];exact h6)).1 ((c.part _ h6).1 k1).1 h5
        ·exact (c.downV j oj hj ⟨hl.1,fun hjt=>hl.2 ((hmemf j).2 ⟨hjt,hji⟩)⟩ e hee hb).2 k1
      downA:=c.down_add hi
      ev:=fun q hq=>⟨(c.ev q hq).1,fun m0 w0 m2 a w h g=>(c.ev q hq).2 m0 w0 m2 a w h (g1.trans g)⟩
      evV:=fun q hq hv=>⟨(c.evV q hq hv).1,fun m0 w0 m2 a w h g=>(c.evV q hq hv).2 m0 w0 m2 a w h (g1.trans g)⟩
      i2:=fun x v' hv hq=>by
       rw[g2]
       by_cases hx:dstAt ops i=some x
       ·rw[hx] at hv ⊢
        simp only[tadd] at hv
        rw[get_eq,if_pos rfl] at hv
        injection hv with hv;subst hv
        exact⟨u,c.tmp_put (hd x hx),g3⟩
       ·rw[hget x hx] at hv
        obtain⟨u',q1,q2⟩:=c.i2 x v' hv hq
        exact⟨u',by rw[tmp_other hx];exact q1,q2.mono g1⟩
      i3:=fun q hq x v' hv hw=>by
       obtain⟨u',q1,q2⟩:=c.i3 q hq x v' hv hw
       have hx:=hpx q hq x (c.i3r q hq x v' hv)
       exact⟨u',by rw[g2,tmp_other hx];exact q1,q2.mono g1⟩
      i3r:=c.i3r
      i4:=fun q hq x hx=>by rw[hget x (hdd q hq x hx)];exact c.i4 q hq x hx
      i5:=c.i5 }
theorem DR.take (hok:okR ops=true) {i:Nat} {v:AV} {d:Nat} (hi:i∈todo) (hr:rdy ops todo i=true) (hd:dstAt ops i=some d) (hp:∀m,PendOk P ops n hro m (i,restr (readsAt ops i) t,v)) (hpv:valAt ops i=true→∀m,PendOk P ops n [] m (i,restr (readsAt ops i) t,v))
  (k:DR ro P ops K n hro (todo.filter (fun j=>!Nat.beq j i)) ((d,v)::t) h):DR ro P ops K n hro todo t h:=by
 intro m0 w0 m a w act pend fuel c hf
 have hil:=c.tod i hi
 obtain⟨hia,hip⟩:=(c.part i hil).1 hi
 obtain⟨oi,hoi⟩:∃o,ops[i]?=some o:=⟨_,Array.getElem?_eq_getElem hil⟩
 have hra:readsAt ops i=readsOf ops oi:=by unfold readsAt;rw[hoi]
 have hdo:oi.dst=some d:=by unfold dstAt at hd;rw[hoi] at hd;exact hd
 have hmemf:∀j,j∈todo.filter (fun j=>!Nat.beq j i)↔j∈todo∧j≠i:=fun j=>by
  rw[List.mem_filter]
  cases hb:Nat.beq j i
  ·simp;intro _ e;subst e;simp at hb
  ·simp;intro _;exact Nat.eq_of_beq_eq_true hb
 have hall:∀e∈oi.after,Region.binds .any e=true→e.on∉todo:=fun e he hb hin=>by
  unfold rdy at hr
  rw[hoi] at hr
  have:=Array.all_eq_true_iff_forall_mem.1 hr e he
  rw[hb,inL_iff.2 hin] at this
  simp at this
 have hself:∀q∈pend,¬ anc ops q.1 i:=fun q hq ha=>(c.downV.anc (c.listed hq) ha).2 hi
 have hdne:∀q∈pend,dstAt ops q.1≠some d:=fun q hq hx=>((okR_spec hok hoi).2 q.1 d (hip q hq) hx).1 hdo
 refine k m0 w0 m a w act (pend++[(i,restr (readsAt ops i) t,v)]) fuel ?_ hf
 have hcase:∀q∈pend++[(i,restr (readsAt ops i) t,v)],q∈pend∨q=(i,restr (readsAt ops i) t,v):=fun q hq=>by simpa using hq
 exact
  {base:=c.base
   sz:=c.sz
   part:=fun j hj=>by
    rw[hmemf,c.part j hj]
    constructor
    ·rintro⟨⟨q1,q2⟩,q3⟩
     exact⟨q1,fun p hp=>by rcases hcase p hp with hp|rfl;exact q2 p hp;exact Ne.symm q3⟩
    ·rintro⟨q1,q2⟩
     exact⟨⟨q1,fun p hp=>q2 p (List.mem_append_left _ hp)⟩,Ne.symm (q2 (i,restr (readsAt ops i) t,v) (by simp))⟩
   tod:=fun j hj=>c.tod j ((hmemf j).1 hj).1
   un:=fun q hq=>by rcases hcase q hq with hq|rfl;exact c.un q hq;exact hia
   nd:=by
    rw[List.map_append,List.nodup_append]
    refine⟨c.nd,by simp,fun x hx y hy e=>?_⟩
    obtain⟨q,hq,rfl⟩:=List.mem_map.1 hx
    simp at hy
    exact hip q hq (by rw[e,hy])
   downV:=fun j oj hj hl e hee hb=>by
    refine⟨?_,fun hin=>?_⟩
    ·have:=(okR_spec hok hj).1 e hee hb;omega
    ·obtain⟨k1,k2⟩:=(hmemf _).1 hin
     by_cases hji:j=i
     ·subst hji
      rw[hoi] at hj;injection hj with hj;subst hj
      exact hall e hee hb k1
     ·exact (c.downV j oj hj ⟨hl.1,fun hjt=>hl.2 ((hmemf j).2 ⟨hjt,hji⟩)⟩ e hee hb).2 k1
   downA:=c.downA
   ev:=fun q hq=>by rcases hcase q hq with hq|rfl;exact c.ev q hq;exact hp m
   evV:=fun q hq hv=>by rcases hcase q hq with hq|rfl;exact c.evV q hq hv;exact hpv hv m
   i2:=fun x v' hv hq=>by
    have hxd:d≠x:=fun e=>hq (i,restr (readsAt ops i) t,v) (by simp) (by rw[hd,e])
    rw[get_eq,if_neg hxd] at hv
    exact c.i2 x v' hv fun p hp=>hq p (List.mem_append_left _ hp)
   i3:=fun q hq x v' hv hw=>by
    rcases hcase q hq with hq|rfl
    ·exact c.i3 q hq x v' hv fun p hp=>hw p (List.mem_append_left _ hp)
    ·obtain⟨q1,q2⟩:=get_restr_some hv
     refine c.i2 x v' q2 fun p hp hx=>?_
     rw[hra] at q1
     rcases ((okR_spec hok hoi).2 p.1 x (hip p hp) hx).2 q1 with ha|ha
     ·exact hw p (List.mem_append_left _ hp) (hip p hp) ha hx
     ·exact hself p hp ha
   i3r:=fun q hq x v' hv=>by
    rcases hcase q hq with hq|rfl
    ·exact c.i3r q hq x v' hv
    ·exact (get_restr_some hv).1
   i4:=fun q hq x hx=>by
    rcases hcase q hq with hq|rfl
    ·have:d≠x:=fun e=>hdne q hq (by rw[hx,e])
     rw[get_eq,if_neg this]
     exact c.i4 q hq x hx
    ·simp only at hx
     rw[hd] at hx;injection hx with hx;subst hx
     rw[get_eq,if_pos rfl]
   i5:=fun q hq q' hq' hne ha x hx v' hv=>by
    rcases hcase q hq with hq|rfl
    ·rcases hcase q' hq' with hq'|rfl
     ·exact c.i5 q hq q' hq' hne ha x hx v' hv
     ·exact absurd ha (hself q hq)
    ·rcases hcase q' hq' with hq'|rfl
     ·obtain⟨q1,q2⟩:=get_restr_some hv
      have:=c.i4 q' hq' x hx
      rw[q2] at this;injection this
     ·exact absurd rfl hne }
end
theorem W.dr0 {n:Nat} {t:List (Nat × AV)} {hp hro rest:Heap} {id:Nat} {Q:Exit→St→Prop} [hm:TMix P] (sel:Sel hp hro rest) (k:DR ro P ops (Q .normal) n hro (List.range ops.size) t rest):W ro P (.region id ops true) Q ⟨n,t,hp⟩:=by
 intro m0 w0 a w hs
 obtain⟨m,hs⟩:=(hs.le (s':=⟨n,t,hro++rest⟩) ⟨rfl,.refl,LeH.of_perm sel.perm⟩).drew
 refine wpIn_mono (Q:=fun e a' w'=>e=.normal∧∃s',Q .normal s'∧Sim m0 w0 s' a' w') (Q':=fun e a' w'=>∃s',Q e s'∧Sim m0 w0 s' a' w') (wpIn_region_any hm.h ?_) ?_
 ·refine k m0 w0 m a _ (Array.replicate ops.size false) [] ops.size ?_ ?_
  ·have hrep:∀i,i<ops.size→(Array.replicate ops.size false).getD i true=false:=fun i hi=>by simp[Array.getD_eq_getD_getElem?,hi]
   have hrepf:∀i,¬ (Array.replicate ops.size false).getD i false=true:=fun i hi=>by
    rw[Array.getD_eq_getD_getElem?] at hi
    by_cases hl:i<ops.size
    ·simp[hl] at hi
    ·simp[hl] at hi
   exact
    {base:=hs.bare
     sz:=by simp
     part:=fun i hi=>by simp[hi,hrep i hi]
     tod:=fun i hi=>List.mem_range.1 hi
     un:=by simp
     nd:=by simp
     downV:=fun j o hj hl=>absurd (List.mem_range.2 hl.1) hl.2
     downA:=fun j o hj hl=>absurd hl (hrepf j)
     ev:=by simp
     evV:=by simp
     i2:=fun x v hv _=>hs.tmps x v hv
     i3:=by simp
     i3r:=by simp
     i4:=by simp
     i5:=by simp }
  ·exact Nat.le_trans List.countP_le_length (by simp)
 ·rintro e a' w' ⟨rfl,s',h1,h2⟩
  exact⟨s',h1,h2⟩
end
end Go.VM
/- The rules of VM16, ready for a walk. No condition. -/
namespace Go.VM
open Go
set_option linter.unusedVariables false
set_option linter.unusedSimpArgs false
theorem LeH.frame {h h':Heap} (k:LeH h h'):∀f:Heap,LeH (f++h) (f++h')
 | []=>k
 | x::f=>.cons .here (LeH.frame k f)
theorem SimG.leh {m0:GF} {w0:World} {m:Ghost} {n:Nat} {t:List (Nat × AV)} {h h':Heap} {a:Act} {w:World} (k:SimG m0 w0 m ⟨n,t,h⟩ a w) (q:LeH h h'):SimG m0 w0 m ⟨n,t,h'⟩ a w:=
 {k with heap:=q.hrel k.heap,own:=fun x hx b hb=>by obtain⟨y,h1,h2⟩:=q.mem hx;exact k.own y h1 b (h2.trans hb) }
section
variable {ro:Option Nat} {P:Program} {ops:Array Oper} {K:St→Prop} {n:Nat} {hro:Heap} {todo todo':List Nat} {t:List (Nat × AV)} {h:Heap} {oi:Oper} {i d:Nat} {v:AV}
structure R2 (ro:Option Nat) (P:Program) (ops:Array Oper) (K:St→Prop) (n:Nat) (hro:Heap) (todo:List Nat) (t:List (Nat × AV)) (h:Heap):Prop where go:okR ops=true→DR ro P ops K n hro todo t h
theorem DR.congr (hm:∀x,x∈todo↔x∈todo') (k:DR ro P ops K n hro todo' t h):DR ro P ops K n hro todo t h:=fun m0 w0 m a w act pend fuel c hf=>
 k m0 w0 m a w act pend fuel { c with
  part:=fun i hi=>(hm i).symm.trans (c.part i hi)
  tod:=fun i hi=>c.tod i ((hm i).2 hi)
  downV:=fun j o hj hl e he hb=>by
   have:=c.downV j o hj ⟨hl.1,fun q=>hl.2 ((hm j).1 q)⟩ e he hb
   exact⟨this.1,fun q=>this.2 ((hm _).2 q)⟩ } hf
theorem R2.congr (hm:∀x,x∈todo↔x∈todo') (k:R2 ro P ops K n hro todo' t h):R2 ro P ops K n hro todo t h:=.mk <| fun hok=>(k.go hok).congr hm
inductive Sn:List Nat→Nat→List Nat→Prop
 | nil (i:Nat):Sn [] i [i]
 | cons {j i:Nat} {l l':List Nat} (k:Sn l i l'):Sn (j::l) i (j::l')
theorem Sn.mem {l l':List Nat} (k:Sn l i l'):∀x,x∈i::l↔x∈l':=by
 induction k with
 | nil i=>intro x;rfl
 | @cons j i l l' k ih=>intro x;rw[List.mem_cons,List.mem_cons,List.mem_cons,←ih x,List.mem_cons];constructor<;>(rintro (h|h|h)<;>simp[h])
theorem R2.rot (k:R2 ro P ops K n hro todo' t h) (hs:Sn todo i todo':=by (repeat (first|apply Sn.nil|apply Sn.cons))):R2 ro P ops K n hro (i::todo) t h:=k.congr hs.mem
theorem R2.back {l l':List Nat} (k:R2 ro P ops K n hro (i::l) t h) (hs:Sn l i l':=by (repeat (first|apply Sn.nil|apply Sn.cons))):R2 ro P ops K n hro l' t h:=k.congr fun x=>(hs.mem x).symm
theorem mem_filter_ne (hn:inL todo i=false):∀x,x∈(i::todo).filter (fun j=>!Nat.beq j i)↔x∈todo:=fun x=>by
 have hi:i∉todo:=fun q=>by rw[inL_iff.2 q] at hn;cases hn
 rw[List.mem_filter]
 cases hb:Nat.beq x i
 ·have:x≠i:=fun e=>by subst e;simp at hb
  simp[this]
 ·have:x=i:=Nat.eq_of_beq_eq_true hb
  subst this
  simp[hi]
theorem readsAt_eq (hi:ops[i]?=some oi):readsAt ops i=readsOf ops oi:=by unfold readsAt;rw[hi]
theorem dstAt_eq (hi:ops[i]?=some oi):dstAt ops i=oi.dst:=by unfold dstAt;rw[hi];rfl
theorem valAt_eq (hi:ops[i]?=some oi):valAt ops i=valOp oi.op:=by unfold valAt;rw[hi]
structure PurH (P:Program) (o:Oper) (t:List (Nat × AV)) (h:Heap) (v:AV):Prop where
 pur:Pur P o t h v
 val:valOp o.op=true→Pur P o t [] v
theorem hrel_none {m:Ghost} {w:World}:HRel m [] w:=⟨by simp,by simp⟩
theorem PurH.vo {o:Oper} {t:List (Nat × AV)} {h:Heap} {v:AV} (hv:valOp o.op=true) (k:PurV P o t [] v):PurH P o t h v:=
 ⟨PurV.pur fun m a w0 h1 h2 _=>k m a w0 h1 h2 hrel_none,fun _=>k.pur⟩
theorem PurH.l {o:Oper} {t:List (Nat × AV)} {h:Heap} {v:AV} (hv:valOp o.op=false) (k:Pur P o t h v):PurH P o t h v:=
 ⟨k,fun e=>by rw[hv] at e;cases e⟩
theorem pend_pur (hi:ops[i]?=some oi) {tr:List (Nat × AV)} (hw:Wanted ops tr oi true) (hp:Pur P oi tr hro v) (hd:oi.dst=some d) (hn:Nat.blt d n=true) (m:Ghost):PendOk P ops n hro m (i,tr,v):=by
 refine⟨fun d' hd'=>?_,fun m0 w0 m' a w h g hs Q=>?_⟩
 ·rw[dstAt_eq hi,hd] at hd';injection hd' with e;subst e;exact Nat.le_of_ble_eq_true hn
 ·obtain⟨u,hu,hrun⟩:=hp m' a w hs.tmps hs.holds (hs.heap.sub (List.sublist_append_left _ _))
  unfold wpO
  simp only[hi]
  rw[if_pos (hw.spec hs.tmps)]
  unfold Oper.wp
  rw[hrun w hs.holds (fun _ _ _ _=>rfl)]
  rw[dstAt_eq hi]
  exact⟨m',u,Gle.refl _,rfl,hu,(SimG.put hs (dst:=oi.dst) (by rw[hd];exact hn) hu |> fun q=>by rw[hd] at q ⊢;exact q.bare)⟩
theorem pend_skip (hi:ops[i]?=some oi) {tr:List (Nat × AV)} (hw:Wanted ops tr oi false) (hd:oi.dst=some d) (hn:Nat.blt d n=true) (m:Ghost):PendOk P ops n hro m (i,tr,.tup []):=by
 refine⟨fun d' hd'=>?_,fun m0 w0 m' a w h g hs Q=>?_⟩
 ·rw[dstAt_eq hi,hd] at hd';injection hd' with e;subst e;exact Nat.le_of_ble_eq_true hn
 ·unfold wpO
  simp only[hi]
  rw[if_neg (by rw[hw.spec hs.tmps];simp),dstAt_eq hi]
  exact⟨m',undef,Gle.refl _,rfl,rel_undef,(SimG.put hs (dst:=oi.dst) (by rw[hd];exact hn) rel_undef |> fun q=>by rw[hd] at q ⊢;exact q.bare)⟩
theorem pend_step (hi:ops[i]?=some oi) {tr:List (Nat × AV)} (hw:Wanted ops tr oi true) (hst:Step P oi ⟨n,tr,hro⟩ (fun s'=>get s'.t d=some v∧LeH s'.h hro)) (hd:oi.dst=some d) (hn:Nat.blt d n=true) (m:Ghost):PendOk P ops n hro m (i,tr,v):=by
 refine⟨fun d' hd'=>?_,fun m0 w0 m' a w h g hs Q=>?_⟩
 ·rw[dstAt_eq hi,hd] at hd';injection hd' with e;subst e;exact Nat.le_of_ble_eq_true hn
 ·unfold wpO
  simp only[hi]
  rw[if_pos (hw.spec hs.tmps)]
  refine Oper.wp_mono ?_ (step_frame hst (hs.permh List.perm_append_comm) Q)
  rintro a' w' ⟨s',m2,u,⟨k1,k2⟩,g1,g2,g3,g4⟩
  rw[dstAt_eq hi]
  obtain⟨u',q1,q2⟩:=g3 d v k1
  have hsz:d<a.tmps.size:=by rw[hs.size];exact Nat.le_of_ble_eq_true hn
  rw[g2,hd] at q1
  simp only[Act.put] at q1
  rw[Array.getElem?_setIfInBounds_self_of_lt hsz] at q1
  injection q1 with q1;subst q1
  exact⟨m2,u,g1,g2,q2,(g4.leh (k2.frame h)).permh List.perm_append_comm⟩
theorem eop_step (hi:ops[i]?=some oi) {tr:List (Nat × AV)} {R:AV→Heap→Prop} (hw:Wanted ops tr oi true) (hst:Step P oi ⟨n,tr,h⟩ (fun s'=>∃v,get s'.t d=some v∧R v s'.h)) (hd:oi.dst=some d) (hn:Nat.blt d n=true):EOp P ops n i tr hro h R:=by
 refine⟨fun d' hd'=>?_,fun m0 w0 m a w hs Q=>?_⟩
 ·rw[dstAt_eq hi,hd] at hd';injection hd' with e;subst e;exact Nat.le_of_ble_eq_true hn
 ·unfold wpO
  simp only[hi]
  rw[if_pos (hw.spec hs.tmps)]
  refine Oper.wp_mono ?_ (step_frame hst hs Q)
  rintro a' w' ⟨s',m2,u,⟨v,k1,k2⟩,g1,g2,g3,g4⟩
  rw[dstAt_eq hi]
  obtain⟨u',q1,q2⟩:=g3 d v k1
  have hsz:d<a.tmps.size:=by rw[hs.size];exact Nat.le_of_ble_eq_true hn
  rw[g2,hd] at q1
  simp only[Act.put] at q1
  rw[Array.getElem?_setIfInBounds_self_of_lt hsz] at q1
  injection q1 with q1;subst q1
  exact⟨v,_,k2,m2,u,g1,g2,q2,g4⟩
theorem eop_store (hi:ops[i]?=some oi) {tr:List (Nat × AV)} {R:AV→Heap→Prop} (hw:Wanted ops tr oi true) (hst:Step P oi ⟨n,tr,h⟩ (fun s'=>R (.tup []) s'.h)) (hd:oi.dst=none):EOp P ops n i tr hro h R:=by
 refine⟨fun d' hd'=>(by rw[dstAt_eq hi,hd] at hd';cases hd'),fun m0 w0 m a w hs Q=>?_⟩
 unfold wpO
 simp only[hi]
 rw[if_pos (hw.spec hs.tmps)]
 refine Oper.wp_mono ?_ (step_frame hst hs Q)
 rintro a' w' ⟨s',m2,u,k,g1,g2,g3,g4⟩
 rw[dstAt_eq hi,hd]
 rw[hd] at g2
 exact⟨_,_,k,m2,undef,g1,g2,rel_undef,g4⟩
/-! The first one of those to do -/
theorem R2.T (k:R2 ro P ops K n hro todo ((d,v)::t) h) (hi:ops[i]?=some oi:=by rfl) (hk:quietOp oi.op=true:=by rfl)
  (hw:Wanted ops (restr (readsOf ops oi) t) oi true:=by first|exact wanted_n rfl|exact wanted_p rfl rfl rfl (by first|rfl|exact decide_eq_true (by assumption)|exact decide_eq_false (by assumption)|(simp;done)|(simp;omega)|fail)|fail)
  (hp:PurH P oi (restr (readsOf ops oi) t) hro v:=by first|(apply PurH.vo rfl;first|(exact vV)|(first|(apply jN;exact pur_nilCheck rfl)|(apply jB;first|(apply jB_eql;exact pur_eqlb rfl rfl)|(apply jB_neq;exact pur_neqb rfl rfl)|fail)|fail)|fail)|(apply PurH.l rfl;first|(apply PurV.pur;exact vV)|(first|exact pur_load_boxA rfl (by (fail_if_success (apply memG));repeat (first|exact List.Mem.head _|assumption|refine List.Mem.tail _ ?_)) rfl|exact pur_load_box rfl (by (fail_if_success (apply memG));repeat (first|exact List.Mem.head _|assumption|refine List.Mem.tail _ ?_)) rfl|exact pur_load_rpA rfl (by first|exact at_ints (by assumption)|exact at_intsN (by omega)|exact at_map (by assumption)|exact at_mapN (by omega)|rfl|assumption) rfl rfl|exact pur_load_rp rfl (by first|exact at_ints (by assumption)|exact at_intsN (by omega)|exact at_map (by assumption)|exact at_mapN (by omega)|rfl|assumption) rfl|exact pur_load_epA rfl (by (fail_if_success (apply memG));repeat (first|exact List.Mem.head _|assumption|refine List.Mem.tail _ ?_)) (by first|exact at_ints (by assumption)|exact at_intsN (by omega)|exact at_map (by assumption)|exact at_mapN (by omega)|rfl|assumption) rfl rfl|exact pur_load_ep rfl (by (fail_if_success (apply memG));repeat (first|exact List.Mem.head _|assumption|refine List.Mem.tail _ ?_)) (by first|exact at_ints (by assumption)|exact at_intsN (by omega)|exact at_map (by assumption)|exact at_mapN (by omega)|rfl|assumption) rfl)|(apply PurV.pur;first|(apply jN;exact pur_nilCheck rfl)|(apply jB;first|(apply jB_eql;exact pur_eqlb rfl rfl)|(apply jB_neq;exact pur_neqb rfl rfl)|fail)|fail)|fail)|fail) (hd:oi.dst=some d:=by rfl) (hn:Nat.blt d n=true:=by rfl) (hr:rdy ops (i::todo) i=true:=by decide +kernel) (hni:inL todo i=false:=by rfl):R2 ro P ops K n hro (i::todo) t h:=.mk <| fun hok=>
 DR.take hok (List.mem_cons_self ..) hr (by rw[dstAt_eq hi,hd]) (fun m=>by rw[readsAt_eq hi];exact pend_pur hi hw hp.pur hd hn m) (fun hv m=>by rw[valAt_eq hi] at hv;rw[readsAt_eq hi];exact pend_pur hi hw (hp.val hv) hd hn m) ((k.go hok).congr (mem_filter_ne hni))
theorem R2.S (k:R2 ro P ops K n hro todo ((d,.tup [])::t) h) (hi:ops[i]?=some oi:=by rfl)
  (hw:Wanted ops (restr (readsOf ops oi) t) oi false:=by first|exact wanted_u rfl rfl rfl|exact wanted_m rfl rfl rfl (by first|rfl|exact decide_eq_true (by assumption)|exact decide_eq_false (by assumption)|(simp;done)|(simp;omega)|fail)|fail)
  (hd:oi.dst=some d:=by rfl) (hn:Nat.blt d n=true:=by rfl) (hr:rdy ops (i::todo) i=true:=by decide +kernel) (hni:inL todo i=false:=by rfl):R2 ro P ops K n hro (i::todo) t h:=.mk <| fun hok=>
 DR.take hok (List.mem_cons_self ..) hr (by rw[dstAt_eq hi,hd]) (fun m=>by rw[readsAt_eq hi];exact pend_skip hi hw hd hn m) (fun _ m=>by rw[readsAt_eq hi];exact pend_skip hi hw hd hn m) ((k.go hok).congr (mem_filter_ne hni))
theorem R2.F (hst:Step P oi ⟨n,restr (readsOf ops oi) t,hro⟩ (fun s'=>get s'.t d=some v∧LeH s'.h hro)) (k:R2 ro P ops K n hro todo ((d,v)::t) h) (hi:ops[i]?=some oi:=by rfl)
  (hw:Wanted ops (restr (readsOf ops oi) t) oi true:=by first|exact wanted_n rfl|exact wanted_p rfl rfl rfl (by first|rfl|exact decide_eq_true (by assumption)|exact decide_eq_false (by assumption)|(simp;done)|(simp;omega)|fail)|fail)
  (hd:oi.dst=some d:=by rfl) (hn:Nat.blt d n=true:=by rfl) (hr:rdy ops (i::todo) i=true:=by decide +kernel) (hni:inL todo i=false:=by rfl) (hvo:valOp oi.op=false:=by rfl):R2 ro P ops K n hro (i::todo) t h:=.mk <| fun hok=>
 DR.take hok (List.mem_cons_self ..) hr (by rw[dstAt_eq hi,hd]) (fun m=>by rw[readsAt_eq hi];exact pend_step hi hw hst hd hn m) (fun hv=>by rw[valAt_eq hi,hvo] at hv;cases hv) ((k.go hok).congr (mem_filter_ne hni))
theorem R2.C {f ty:Nat} {pos:String} {af:Array Edge} {gd:Option (Nat × Bool)} {args:Array Operand} {ats:Array Nat} {vs:List AV} [TFun P f] (hc:ACalls P f vs hro (fun r h'=>r=v∧h'=hro)) (k:R2 ro P ops K n hro todo ((d,v)::t) h)
  (hi:ops[i]?=some ⟨some d,.call { callee:=.value (.func f),args:=args,argTypes:=ats },ty,pos,af,gd⟩:=by rfl)
  (hx:Evals (restr (readsOf ops ⟨some d,.call { callee:=.value (.func f),args:=args,argTypes:=ats },ty,pos,af,gd⟩) t) args.toList vs:=by (repeat (first|exact Evals.nil|(apply Evals.cons;rfl))))
  (hw:Wanted ops (restr (readsOf ops ⟨some d,.call { callee:=.value (.func f),args:=args,argTypes:=ats },ty,pos,af,gd⟩) t) ⟨some d,.call { callee:=.value (.func f),args:=args,argTypes:=ats },ty,pos,af,gd⟩ true:=by first|exact wanted_n rfl|exact wanted_p rfl rfl rfl (by first|rfl|exact decide_eq_true (by assumption)|exact decide_eq_false (by assumption)|(simp;done)|(simp;omega)|fail)|fail)
  (hn:Nat.blt d n=true:=by rfl) (hr:rdy ops (i::todo) i=true:=by decide +kernel) (hni:inL todo i=false:=by rfl):R2 ro P ops K n hro (i::todo) t h:=
 R2.F (S.call (hc.mono (by rintro r h' ⟨rfl,rfl⟩;exact⟨by rw[get_eq,if_pos rfl],.refl _⟩)) hx hn) k hi hw rfl hn hr hni
theorem only_spec {todo:List Nat} {i:Nat} (h:todo.filter (rdy ops todo)=[i]):∀j∈todo,rdy ops todo j=true→j=i:=fun j hj hr=>by
 have:j∈todo.filter (rdy ops todo):=List.mem_filter.2 ⟨hj,hr⟩
 rw[h] at this;simpa using this
theorem R2.B (k:Step P oi ⟨n,restr (readsOf ops oi) t,h⟩ (fun s'=>∃v,get s'.t d=some v∧R2 ro P ops K n hro todo ((d,v)::t) s'.h)) (hi:ops[i]?=some oi:=by rfl) (hd:oi.dst=some d:=by rfl) (hr:(i::todo).filter (rdy ops (i::todo))=[i]:=by decide +kernel)
  (hw:Wanted ops (restr (readsOf ops oi) t) oi true:=by first|exact wanted_n rfl|exact wanted_p rfl rfl rfl (by first|rfl|exact decide_eq_true (by assumption)|exact decide_eq_false (by assumption)|(simp;done)|(simp;omega)|fail)|fail) (hn:Nat.blt d n=true:=by rfl) (hni:inL todo i=false:=by rfl):R2 ro P ops K n hro (i::todo) t h:=.mk <| fun hok=>
 DR.core hok (fun e=>by cases e) fun j hj hrj=>by
  have:=only_spec hr j hj hrj;subst this
  rw[readsAt_eq hi]
  refine⟨_,eop_step hi hw k hd hn,fun v h' hv=>?_⟩
  rw[dstAt_eq hi,hd]
  exact (hv.go hok).congr (mem_filter_ne hni)
theorem R2.Bs (k:Step P oi ⟨n,restr (readsOf ops oi) t,h⟩ (fun s'=>R2 ro P ops K n hro todo t s'.h)) (hi:ops[i]?=some oi:=by rfl) (hd:oi.dst=none:=by rfl) (hr:(i::todo).filter (rdy ops (i::todo))=[i]:=by decide +kernel)
  (hw:Wanted ops (restr (readsOf ops oi) t) oi true:=by first|exact wanted_n rfl|exact wanted_p rfl rfl rfl (by first|rfl|exact decide_eq_true (by assumption)|exact decide_eq_false (by assumption)|(simp;done)|(simp;omega)|fail)|fail) (hni:inL todo i=false:=by rfl):R2 ro P ops K n hro (i::todo) t h:=.mk <| fun hok=>
 DR.core hok (fun e=>by cases e) fun j hj hrj=>by
  have:=only_spec hr j hj hrj;subst this
  rw[readsAt_eq hi]
  refine⟨fun _ h'=>R2 ro P ops K n hro todo t h',eop_store hi hw k hd,fun v h' hv=>?_⟩
  rw[dstAt_eq hi,hd]
  exact (hv.go hok).congr (mem_filter_ne hni)
theorem R2.B2 {j dj:Nat} {oj:Oper} {l2:List Nat} (ki:Step P oi ⟨n,restr (readsOf ops oi) t,h⟩ (fun s'=>∃v,get s'.t d=some v∧R2 ro P ops K n hro todo ((d,v)::t) s'.h))
  (kj:Step P oj ⟨n,restr (readsOf ops oj) t,h⟩ (fun s'=>∃v,get s'.t dj=some v∧R2 ro P ops K n hro l2 ((dj,v)::t) s'.h)) (hl:Sn l2 j (i::todo))
  (hi:ops[i]?=some oi:=by rfl) (hd:oi.dst=some d:=by rfl) (hj:ops[j]?=some oj:=by rfl) (hdj:oj.dst=some dj:=by rfl) (hr:(i::todo).filter (rdy ops (i::todo))=[i,j]:=by decide +kernel)
  (hwi:Wanted ops (restr (readsOf ops oi) t) oi true:=by first|exact wanted_n rfl|exact wanted_p rfl rfl rfl (by first|rfl|exact decide_eq_true (by assumption)|exact decide_eq_false (by assumption)|(simp;done)|(simp;omega)|fail)|fail)
  (hwj:Wanted ops (restr (readsOf ops oj) t) oj true:=by first|exact wanted_n rfl|exact wanted_p rfl rfl rfl (by first|rfl|exact decide_eq_true (by assumption)|exact decide_eq_false (by assumption)|(simp;done)|(simp;omega)|fail)|fail) (hn:Nat.blt d n=true:=by rfl) (hnj:Nat.blt dj n=true:=by rfl) (hni:inL todo i=false:=by rfl) (hnl:inL l2 j=false:=by rfl):R2 ro P ops K n hro (i::todo) t h:=.mk <| fun hok=>
 DR.core hok (fun e=>by cases e) fun q hq hrq=>by
  have:q∈(i::todo).filter (rdy ops (i::todo)):=List.mem_filter.2 ⟨hq,hrq⟩
  rw[hr] at this
  simp at this
  rcases this with rfl|rfl
  ·rw[readsAt_eq hi]
   refine⟨_,eop_step hi hwi ki hd hn,fun v h' hv=>?_⟩
   rw[dstAt_eq hi,hd]
   exact (hv.go hok).congr (mem_filter_ne hni)
  ·rw[readsAt_eq hj]
   refine⟨_,eop_step hj hwj kj hdj hnj,fun v h' hv=>?_⟩
   rw[dstAt_eq hj,hdj]
   refine (hv.go hok).congr fun x=>?_
   rw[List.mem_filter,←hl.mem x,←List.mem_filter (p:=fun y=>!Nat.beq y q)]
   exact mem_filter_ne hnl x
theorem kd {tr:List (Nat × AV)} {h':Heap} (k:R2 ro P ops K n hro todo ((d,v)::t) h'):∃v',get (⟨n,(d,v)::tr,h'⟩:St).t d=some v'∧R2 ro P ops K n hro todo ((d,v')::t) (⟨n,(d,v)::tr,h'⟩:St).h:=⟨v,by rw[get_eq,if_pos rfl],k⟩
theorem kf {tr:List (Nat × AV)} {h':Heap} (k:LeH h' hro):get (⟨n,(d,v)::tr,h'⟩:St).t d=some v∧LeH (⟨n,(d,v)::tr,h'⟩:St).h hro:=⟨by rw[get_eq,if_pos rfl],k⟩
def effOp:Op→Bool
 | .alloc _|.box _ _|.buildSlice _ _ _|.makeSlice _ _ _|.makeMap _ _=>true
 | _=>false
theorem r2e (k:R2 ro P ops K n hro (i::todo) t h) (hi:ops[i]?=some oi:=by rfl) (hk:effOp oi.op=true:=by rfl):R2 ro P ops K n hro (i::todo) t h:=k
def laterQ (ops:Array Oper) (todo:List Nat):Bool:=todo.any fun j=>rdy ops todo j&&match ops[j]? with|some o=>quietOp o.op|none=>false
def laterN (ops:Array Oper) (todo:List Nat):Bool:=todo.any fun j=>rdy ops todo j&&match ops[j]? with|some o=>quietOp o.op&&(match o.op with|.load _ _=>false|_=>true)|none=>false
theorem R2.laterN (k:R2 ro P ops K n hro todo' t h) (hl:VM.laterN ops (i::todo)=true:=by decide +kernel) (hs:Sn todo i todo':=by (repeat (first|apply Sn.nil|apply Sn.cons))):R2 ro P ops K n hro (i::todo) t h:=k.rot hs
theorem R2.later (k:R2 ro P ops K n hro todo' t h) (hl:VM.laterQ ops (i::todo)=true:=by decide +kernel) (hs:Sn todo i todo':=by (repeat (first|apply Sn.nil|apply Sn.cons))):R2 ro P ops K n hro (i::todo) t h:=k.rot hs
theorem DR.congt {t':List (Nat × AV)} (hm:∀x,get t' x=get t x) (k:DR ro P ops K n hro todo t' h):DR ro P ops K n hro todo t h:=fun m0 w0 m a w act pend fuel c hf=>
 k m0 w0 m a w act pend fuel { c with
  i2:=fun x v hv=>c.i2 x v ((hm x).symm.trans hv)
  i4:=fun p hp x hx=>(hm x).trans (c.i4 p hp x hx) } hf
theorem get_same {d':Nat} {v:AV} (hv:get t d'=some v):∀x,get ((d',v)::t) x=get t x:=fun x=>by
 rw[get_eq]
 by_cases e:d'=x
 ·subst e;rw[if_pos rfl,hv]
 ·rw[if_neg e]
theorem R2.G {j d':Nat} {w:Bool} {p:Prop} {dp:Decidable p} (h1:p→R2 ro P ops K n hro (i::todo) ((d',.val (.bool true))::t) h) (h2:¬ p→R2 ro P ops K n hro (i::todo) ((d',.val (.bool false))::t) h) (hi:ops[i]?=some oi:=by rfl) (hg:oi.guard=some (j,w):=by rfl) (hj:dstAt ops j=some d':=by rfl) (hv:get t d'=some (.val (.bool (@decide p dp))):=by rfl):R2 ro P ops K n hro (i::todo) t h:=by
 by_cases hp:p
 ·have:=h1 hp
  exact .mk fun hok=>(this.go hok).congt (get_same (by rw[hv];simp[hp]))
 ·have:=h2 hp
  exact .mk fun hok=>(this.go hok).congt (get_same (by rw[hv];simp[hp]))
theorem r2l {lt ty:Nat} {x:Operand} {pos:String} {af:Array Edge} {gd:Option (Nat × Bool)} {d:Option Nat} (k:R2 ro P ops K n hro (i::todo) t h) (hi:ops[i]?=some ⟨d,.load lt x,ty,pos,af,gd⟩:=by rfl):R2 ro P ops K n hro (i::todo) t h:=k
def meltOk (ops:Array Oper) (todo:List Nat):Bool:=
 let ms:=masks ops.toList []
 todo.all fun i=>!rdy ops todo i||(List.range ops.size).all fun j=>inL todo j||(ms.getD i 0).testBit j||valAt ops j
theorem DR.melt (hok:okR ops=true) (hm:meltOk ops todo=true) (k:DR ro P ops K n [] todo t (hro++h)):DR ro P ops K n hro todo t h:=by
 intro m0 w0 m a w act pend fuel c hf
 induction fuel generalizing m a w act pend with
 | zero=>
  have hp:pend=[]:=by
   cases pend with
   | nil=>rfl
   | cons p r=>
    have:=left_lt (n:=ops.size) c.sz (c.un p (by simp));omega
  subst hp
  exact k m0 w0 m a w act [] 0 { c with ev:=by simp,evV:=by simp,i3:=by simp,i3r:=by simp,i4:=by simp,i5:=by simp } hf
 | succ fuel ih=>
  cases hp:pend with
  | nil=>
   subst hp
   exact k m0 w0 m a w act [] (fuel+1) { c with ev:=by simp,evV:=by simp,i3:=by simp,i3r:=by simp,i4:=by simp,i5:=by simp } hf
  | cons p0 r0=>
   have hne:pend≠[]:=by simp[hp]
   refine⟨fun hr=>?_,fun i hi=>?_⟩
   ·obtain⟨q,_,hq⟩:=c.some_ready hok hne
    rw[hr] at hq;cases hq
   ·have h0:=(mem_ready.1 hi).1
    have hleft:=left_lt (n:=ops.size) c.sz h0
    by_cases hpi:∃p∈pend,p.1=i
    ·obtain⟨p,hpm,rfl⟩:=hpi
     obtain⟨l,r,hlr⟩:=split_of hpm
     refine wpO_in hok (wpO_mono ?_ (c.perform hok hlr hi _))
     rintro a' w' ⟨m',c'⟩
     exact ih _ _ _ _ _ c' (by omega)
    ·have hpn:∀p∈pend,p.1≠i:=fun p hpp e=>hpi ⟨p,hpp,e⟩
     obtain⟨ht,hrd⟩:=c.ready_v hi hpn
     have hval:∀p∈pend,valAt ops p.1=true:=fun p hpm=>by
      obtain⟨q1,q2⟩:=c.listed hpm
      have h1:=List.all_eq_true.1 hm i ht
      simp only[hrd,Bool.not_true,Bool.false_or] at h1
      have h2:=List.all_eq_true.1 h1 p.1 (List.mem_range.2 q1)
      simp only[Bool.or_eq_true] at h2
      rcases h2 with (h2|h2)|h2
      ·exact absurd (inL_iff.1 h2) q2
      ·exact absurd (c.anc_act hi h2 (hpn p hpm)) (c.not_act hpm)
      ·exact h2
     exact (k m0 w0 m a w act pend (fuel+1) { c with ev:=fun p hpm=>c.evV p hpm (hval p hpm) } hf).2 i hi
theorem R2.melt {h':Heap} (k:R2 ro P ops K n [] todo t h') (hm:meltOk ops todo=true:=by decide +kernel) (ha:App hro h h':=by repeat (first|apply App.nil|apply App.cons)):R2 ro P ops K n hro todo t h:=.mk <| fun hok=>
 DR.melt hok hm (by rw[ha.eq];exact k.go hok)
def wrOp:Op→Bool
 | .store _ _ _|.mapUpdate _ _ _ _=>true
 | .call ⟨.builtin .append,_,_⟩|.call ⟨.builtin .copy,_,_⟩|.call ⟨.builtin .delete,_,_⟩=>true
 | _=>false
theorem r2w (k:R2 ro P ops K n hro (i::todo) t h) (hi:ops[i]?=some oi:=by rfl) (hk:wrOp oi.op=true:=by rfl):R2 ro P ops K n hro (i::todo) t h:=k
def regOk (ops:Array Oper):Bool:=
 let ms:=masks ops.toList []
 let late:=fun i=>(List.range i).all fun j=>(ms.getD i 0).testBit j||valAt ops j
 ops.toList.zipIdx.all fun (o,i)=>match o.op with
  | .store _ (.tmp d) _=>(ops.any fun q=>(match q.dst with|some d'=>Nat.beq d d'|none=>false)&&match q.op with|.alloc _|.box _ _=>true|_=>false)||late i
  | .mapEntry _ _ _|.entryStore _ _ _ _=>false
  | o=>!wrOp o||late i
theorem drg {s:St} {id:Nat} {Q:Exit→St→Prop} (k:W ro P (.region id ops true) Q s) (hk:regOk ops=true:=by decide +kernel):W ro P (.region id ops true) Q s:=k
theorem R2.E {h':Heap} (k:K ⟨n,t,h'⟩) (ha:App hro h h':=by repeat (first|apply App.nil|apply App.cons)):R2 ro P ops K n hro [] t h:=.mk <| fun hok=>
 DR.core hok (fun _=>by rw[ha.eq];exact k) (fun i hi=>by cases hi)
theorem R2.fix {x:OE} (k:R2 ro P ops K n (x::hro) todo t h):R2 ro P ops K n hro todo t (x::h):=.mk <| fun hok m0 w0 m a w act pend fuel c hf=>
 k.go hok m0 w0 m a w act pend fuel { c with
  base:=c.base.permh List.perm_middle.symm
  ev:=fun p hp=>⟨(c.ev p hp).1,fun m0 w0 m' a w h1 g hs Q=>by
   have:=(c.ev p hp).2 m0 w0 m' a w (x::h1) g (hs.permh List.perm_middle) Q
   refine wpO_mono ?_ this
   rintro a' w' ⟨m2,u,g1,g2,g3,g4⟩
   exact⟨m2,u,g1,g2,g3,g4.permh List.perm_middle.symm⟩⟩ } hf
theorem W.dr {hp rest:Heap} {id:Nat} {Q:Exit→St→Prop} [hm:TMix P] (sel:Sel hp hro rest) (k:R2 ro P ops (Q .normal) n hro todo t rest) (ht:List.range ops.size=todo:=by simp only[List.size_toArray,List.length_cons,List.length_nil,Nat.reduceAdd,List.range,List.range.loop];rfl) (hok:okR ops=true:=by decide +kernel):W ro P (.region id ops true) Q ⟨n,t,hp⟩:=by
 subst ht
 exact W.dr0 sel (k.go hok)
theorem RL.gu {rest:List Oper} {j g d:Nat} {o:Oper} {want:Bool} {K:St→Prop} (hg:o.guard=some (j,want)) (hj:(ops[j]?).bind (·.dst)=some g) (hgv:get t g=some (.tup [])) (hd:o.dst=some d) (hn:Nat.blt d n=true)
  (h2:RL ro P ops rest ⟨n,(d,.tup [])::t,h⟩ K):RL ro P ops (o::rest) ⟨n,t,h⟩ K:=by
 intro i hi m0 w0 a w hs Q hQ
 obtain⟨e1,e2⟩:=drop_cons hi
 have h1':ops[i]?=some o:=by simpa using e1
 rw[List.length_cons,List.range'_succ,wpOpsIn_cons]
 obtain⟨m,hm⟩:=hs
 have hy:yielded ops a.tmps j=none:=by
  obtain⟨u,g1,g2⟩:=hm.tmps g _ hgv
  simp only[Rel,RelL] at g2
  obtain⟨cs,rfl,_⟩:=g2
  simp[yielded,hj,g1]
 unfold wpOpIn
 simp only[h1']
 rw[if_neg (by simp[Region.wanted,hg,hy])]
 have:=hm.put (dst:=o.dst) (by rw[hd];exact hn) rel_undef
 rw[hd] at this ⊢
 exact⟨fun _ _=>trivial,h2 _ e2 _ _ _ _ ⟨m,this⟩ Q hQ⟩
theorem iR2 (k:R2 ro P ops K n hro todo t h):R2 ro P ops K n hro todo t h:=k
end
end Go.VM
/- Maps by their entries, whose order nobody sees. No condition. -/
namespace Go.VM
open Go
set_option linter.unusedVariables false
set_option linter.unusedSimpArgs false
class TMap (P:Program) (t:Nat) (kt et:outParam Nat) (kd:outParam IntKind):Prop where
 h:P.underlying t=some (.map kt et)
 hk:P.underlying kt=some (.int kd)
def lkF {α:Type} (t:List (Int × α)) (i:Int):Option α:=(t.find? fun p=>decide (p.1=i)).map (·.2)
def putF {α:Type} (t:List (Int × α)) (i:Int) (a:α):List (Int × α):=if (lkF t i).isSome then t.map (fun p=>if p.1=i then (i,a) else p) else t++[(i,a)]
def mapV {α:Type} (kd:IntKind) (f:α→AV) (t:List (Int × α)):AV:=.mro (t.map fun p=>.int kd p.1) (t.map fun p=>f p.2)
def mpV {α:Type} (b:Nat) (kd:IntKind) (f:α→AV) (t:List (Int × α)):OE:=.mp b (t.map fun p=>.int kd p.1) (t.map fun p=>f p.2)
def lkV {α:Type} (f:α→AV) (z:AV):Option α→AV
 | some a=>f a
 | none=>z
def vI (k:IntKind) (n:Int):AV:=.val (.int k n)
theorem lkV_int (k:IntKind) (o:Option Int):lkV (vI k) (.val (.int k 0)) o=.val (.int k (o.getD 0)):=by cases o<;>rfl
section
variable {α:Type} {kd:IntKind} {f:α→AV} {t:List (Int × α)} {m:Ghost} {es:Array MapEntry} {clk:Nat} {es':List MapEntry}
theorem lkF_none {i:Int}:lkF t i=none↔∀p∈t,p.1≠i:=by
 unfold lkF
 rw[Option.map_eq_none_iff,List.find?_eq_none]
 simp
theorem lkF_some {i:Int} {a:α} (h:lkF t i=some a):(i,a)∈t:=by
 unfold lkF at h
 rw[Option.map_eq_some_iff] at h
 obtain⟨p,h1,rfl⟩:=h
 have h2:=List.find?_some h1
 have h3:=List.mem_of_find?_eq_some h1
 simp at h2
 rw[←h2];exact h3
theorem lkF_nodup {i:Int} {a:α} (hn:(t.map (·.1)).Nodup) (h:(i,a)∈t):lkF t i=some a:=by
 induction t with
 | nil=>cases h
 | cons p r ih=>
  rw[List.map_cons,List.nodup_cons] at hn
  unfold lkF
  rw[List.find?_cons]
  rcases List.mem_cons.1 h with e|h'
  ·subst e;simp
  ·have:p.1≠i:=fun e=>hn.1 (by rw[e];exact List.mem_map.2 ⟨_,h',rfl⟩)
   rw[decide_eq_false this]
   exact ih hn.2 h'
structure Ent (m:Ghost) (kd:IntKind) (f:α→AV) (t:List (Int × α)) (es:Array MapEntry) (clk:Nat) (es':List MapEntry):Prop where
 ok:MapOk es.toList clk es'
 ks:es'.map (·.key)=t.map fun p=>.int kd p.1
 vs:RelL m (t.map fun p=>f p.2) (es'.map (·.val))
theorem Ent.mono {m':Ghost} (k:Ent m kd f t es clk es') (h:Gle m m'):Ent m' kd f t es clk es':=⟨k.ok,k.ks,k.vs.mono h⟩
theorem Ent.len (k:Ent m kd f t es clk es'):es'.length=t.length:=by have:=congrArg List.length k.ks;simpa using this
theorem Ent.size (k:Ent m kd f t es clk es'):es.size=t.length:=by rw[←k.len,k.ok.1.length_eq,Array.length_toList]
theorem Ent.at (k:Ent m kd f t es clk es') {j:Nat} {e:MapEntry} (h:es'[j]?=some e):∃p,t[j]?=some p∧e.key=.int kd p.1∧Rel m (f p.2) e.val:=by
 have hj:j<t.length:=by rw[←k.len];exact (List.getElem?_eq_some_iff.1 h).1
 refine⟨t[j],List.getElem?_eq_getElem hj,?_,?_⟩
 ·have:=congrArg (fun l=>l[j]?) k.ks
  simp only[List.getElem?_map,h,List.getElem?_eq_getElem hj,Option.map_some] at this
  injection this
 ·obtain⟨c,h1,h2⟩:=k.vs.at j (f t[j].2) (by rw[List.getElem?_map,List.getElem?_eq_getElem hj];rfl)
  rw[List.getElem?_map,h] at h1
  injection h1 with h1
  have h1:e.val=c:=h1
  rw[h1];exact h2
theorem Ent.nodupk (k:Ent m kd f t es clk es'):(es'.map (·.key)).Nodup:=((k.ok.1.map _).nodup_iff).2 k.ok.2.2.2
theorem Ent.nodup (k:Ent m kd f t es clk es'):(t.map (·.1)).Nodup:=by
 have:=k.nodupk
 rw[k.ks] at this
 rw[List.Nodup,List.pairwise_map] at this ⊢
 exact this.imp fun h e=>h (by rw[e])
theorem Ent.keys (k:Ent m kd f t es clk es'):∀x∈es.toList,MapKept.IsKey (.int kd) x.key:=fun x hx=>by
 have h1:x∈es':=k.ok.1.mem_iff.2 hx
 obtain⟨j,hj⟩:=List.mem_iff_getElem?.1 h1
 obtain⟨p,_,h2,_⟩:=k.at hj
 rw[h2];simp[MapKept.IsKey]
theorem Ent.find (k:Ent m kd f t es clk es') (i:Int):(Instr.findNow (.int kd) (.int kd i) es.toList 0=some none∧lkF t i=none∧∀x∈es.toList,x.key≠.int kd i) ∨
  ∃j e a,Instr.findNow (.int kd) (.int kd i) es.toList 0=some (some (j,e.val))∧es.toList[j]?=some e∧e.key=.int kd i∧lkF t i=some a∧Rel m (f a) e.val:=by
 rcases MapKept.findNow_spec (d:=.int kd) (k:=.int kd i) (by simp[MapKept.IsKey]) es.toList 0 k.keys with ⟨h1,h2⟩|⟨j,e,h1,h2,h3⟩
 ·refine .inl ⟨h1,lkF_none.2 fun p hp e=>?_,h2⟩
  have:Value.int kd i∈es'.map (·.key):=by rw[k.ks];exact List.mem_map.2 ⟨p,hp,by rw[e]⟩
  obtain⟨x,hx,hxk⟩:=List.mem_map.1 this
  exact h2 x (k.ok.1.mem_iff.1 hx) hxk
 ·rw[Nat.zero_add] at h1
  have he:e∈es':=k.ok.1.mem_iff.2 (List.mem_of_getElem? h2)
  obtain⟨j',hj'⟩:=List.mem_iff_getElem?.1 he
  obtain⟨p,g1,g2,g3⟩:=k.at hj'
  rw[h3] at g2
  injection g2 with _ g2
  exact .inr ⟨j,e,p.2,h1,h2,h3,lkF_nodup k.nodup (by rw[g2];exact List.mem_of_getElem? g1),g3⟩
end
theorem mro_cases {α:Type} {kd:IntKind} {f:α→AV} {t:List (Int × α)} {m:Ghost} {v:Value} (h:Rel m (mapV kd f t) v):(v=.map none∧t=[])∨∃g es clk es',v=.map (some g)∧m g=some (.map es clk)∧Ent m kd f t es clk es':=by
 unfold mapV at h
 simp only[Rel] at h
 obtain⟨r,rfl,h⟩:=h
 rcases h with ⟨rfl,h2,_⟩|⟨g,es,clk,es',rfl,k2,k3,k4,k5⟩
 ·exact .inl ⟨rfl,by simpa using h2⟩
 ·exact .inr ⟨g,es,clk,es',rfl,k2,k3,k4,k5⟩
theorem mp_cases {α:Type} {kd:IntKind} {f:α→AV} {t:List (Int × α)} {m:Ghost} {b:Nat} {w:World} (h:OERel m w (mpV b kd f t)):∃es clk es',w.heap[b]?=some (.map es clk)∧Ent m kd f t es clk es':=by
 unfold mpV at h
 simp only[OERel] at h
 obtain⟨es,clk,es',h0,h1,h2,h3⟩:=h
 exact⟨es,clk,es',h0,h1,h2,h3⟩
theorem mp_mk {α:Type} {kd:IntKind} {f:α→AV} {t:List (Int × α)} {m:Ghost} {b:Nat} {w:World} {es:Array MapEntry} {clk:Nat} {es':List MapEntry} (h0:w.heap[b]?=some (.map es clk)) (k:Ent m kd f t es clk es'):OERel m w (mpV b kd f t):=by
 unfold mpV
 simp only[OERel]
 exact⟨es,clk,es',h0,k.ok,k.ks,k.vs⟩
section
variable {ro:Option Nat} {P:Program} {w:World} {mt kt et:Nat} {kd:IntKind} {z:Value}
theorem run_look_nil (hm:P.underlying mt=some (.map kt et)) (hk:P.underlying kt=some (.int kd)) (hz:(zeroValue et).run P w=.ok z w) (i:Int) (c:Bool) :
  (Instr.lookup mt (.map none) (.int kd i) c).run P w=.ok (if c then .tuple #[z,.bool false] else z) w:=by
 have h1:Instr.findNow (.int kd) (.int kd i) [] 0=some none:=rfl
 simp[Instr.lookup,run_underlying hm,MapKept.run_checkKey hk (k:=.int kd i) (by simp[MapKept.IsKey]),MapKept.run_findKey hk h1,Result.andThen,hz]
theorem run_look_none (hm:P.underlying mt=some (.map kt et)) (hk:P.underlying kt=some (.int kd)) (hz:(zeroValue et).run P w=.ok z w) {b:Nat} {es:Array MapEntry} {clk:Nat} (hb:w.heap[b]?=some (.map es clk)) {i:Int}
  (h1:Instr.findNow (.int kd) (.int kd i) es.toList 0=some none) (c:Bool):(Instr.lookup mt (.map (some b)) (.int kd i) c).run P w=.ok (if c then .tuple #[z,.bool false] else z) w:=by
 simp[Instr.lookup,run_underlying hm,MapKept.run_getObj_map hb,MapKept.run_checkKey hk (k:=.int kd i) (by simp[MapKept.IsKey]),MapKept.run_findKey hk h1,Result.andThen,hz]
theorem run_look_some (hm:P.underlying mt=some (.map kt et)) (hk:P.underlying kt=some (.int kd)) {b:Nat} {es:Array MapEntry} {clk:Nat} (hb:w.heap[b]?=some (.map es clk)) {i:Int} {j:Nat} {v:Value}
  (h1:Instr.findNow (.int kd) (.int kd i) es.toList 0=some (some (j,v))) (c:Bool):(Instr.lookup mt (.map (some b)) (.int kd i) c).run P w=.ok (if c then .tuple #[v,.bool true] else v) w:=by
 simp[Instr.lookup,run_underlying hm,MapKept.run_getObj_map hb,MapKept.run_checkKey hk (k:=.int kd i) (by simp[MapKept.IsKey]),MapKept.run_findKey hk h1,Result.andThen]
end
theorem zel_run {P:Program} {e:Nat} {z:AV} [hz:TZel P e z]:∃u,(∀w,(zeroValue e).run P w=.ok u w)∧∀m,Rel m z u:=by
 obtain⟨i,u,h1,h2,h3,_⟩:=zelQ_spec hz.h
 exact⟨u,fun w=>by simp[zeroValue,typeInfo,h1,h2],h3⟩
section
variable {ro:Option Nat} {P:Program} {d:Option Nat} {ty:Nat} {pos:String} {af:Array Edge} {gd:Option (Nat × Bool)} {tm:List (Nat × AV)} {h:Heap} {x y:Operand} {mt kt et:Nat} {kd:IntKind} {z:AV} {α:Type} {f:α→AV} {t:List (Int × α)} {i:Int} {v:AV}
theorem pur_look_ro [hm:TMap P mt kt et kd] [hz:TZel P et z] (hx:evalA tm x=some (mapV kd f t)) (hy:evalA tm y=some (.val (.int kd i))) (hw:Wk (lkV f z (lkF t i)) v):Pur P ⟨d,.lookup mt x y false,ty,pos,af,gd⟩ tm h v:=fun m a w0 ht hh hr=>by
 obtain⟨u,hu1,hu2⟩:=zel_run (hz:=hz)
 have e2:=eval_val ht hy
 rcases mro_cases (ht.eval hx) with ⟨e1,rfl⟩|⟨g,es,clk,es',e1,hg,k⟩
 ·refine⟨u,hw.rel (by simpa[lkF,lkV] using hu2 m),fun w _ _=>?_⟩
  simp[execOp,e1,e2,run_look_nil hm.h hm.hk (hu1 w)]
 ·rcases k.find i with ⟨h1,h2,_⟩|⟨j,e,b,h1,_,_,h2,h3⟩
  ·refine⟨u,hw.rel (by rw[h2];exact hu2 m),fun w hw' _=>?_⟩
   simp[execOp,e1,e2,run_look_none hm.h hm.hk (hu1 w) (hw' g _ hg) h1]
  ·refine⟨e.val,hw.rel (by rw[h2];exact h3),fun w hw' _=>?_⟩
   simp[execOp,e1,e2,run_look_some hm.h hm.hk (hw' g _ hg) h1]
theorem pur_look_ok_ro [hm:TMap P mt kt et kd] [hz:TZel P et z] (hx:evalA tm x=some (mapV kd f t)) (hy:evalA tm y=some (.val (.int kd i))) (hw:Wk (lkV f z (lkF t i)) v):Pur P ⟨d,.lookup mt x y true,ty,pos,af,gd⟩ tm h (.tup [v,.val (.bool (lkF t i).isSome)]):=fun m a w0 ht hh hr=>by
 obtain⟨u,hu1,hu2⟩:=zel_run (hz:=hz)
 have e2:=eval_val ht hy
 have mk:∀(u:Value) (b:Bool),Rel m v u→Rel m (.tup [v,.val (.bool b)]) (.tuple #[u,.bool b]):=fun u b h=>by
  simp only[Rel];exact⟨_,rfl,by simp only[RelL];exact⟨_,_,rfl,h,_,_,rfl,rel_val rfl,rfl⟩⟩
 rcases mro_cases (ht.eval hx) with ⟨e1,rfl⟩|⟨g,es,clk,es',e1,hg,k⟩
 ·refine⟨_,mk u false (hw.rel (by simpa[lkF,lkV] using hu2 m)),fun w _ _=>?_⟩
  simp[execOp,e1,e2,run_look_nil hm.h hm.hk (hu1 w)]
 ·rcases k.find i with ⟨h1,h2,_⟩|⟨j,e,b,h1,_,_,h2,h3⟩
  ·rw[h2] at hw ⊢
   refine⟨_,mk u false (hw.rel (hu2 m)),fun w hw' _=>?_⟩
   simp[execOp,e1,e2,run_look_none hm.h hm.hk (hu1 w) (hw' g _ hg) h1]
  ·rw[h2] at hw ⊢
   refine⟨_,mk e.val true (hw.rel h3),fun w hw' _=>?_⟩
   simp[execOp,e1,e2,run_look_some hm.h hm.hk (hw' g _ hg) h1]
theorem pur_look_own {b:Nat} [hm:TMap P mt kt et kd] [hz:TZel P et z] (hx:evalA tm x=some (.val (.map (some b)))) (hb:mpV b kd f t∈h) (hy:evalA tm y=some (.val (.int kd i))) (hw:Wk (lkV f z (lkF t i)) v):Pur P ⟨d,.lookup mt x y false,ty,pos,af,gd⟩ tm h v:=fun m a w0 ht hh hr=>by
 obtain⟨u,hu1,hu2⟩:=zel_run (hz:=hz)
 have e2:=eval_val ht hy
 have e1:=eval_val ht hx
 obtain⟨es,clk,es',h0,k⟩:=mp_cases (hr.2 _ hb).2
 have hbk:(mpV b kd f t).blk=some b:=rfl
 rcases k.find i with ⟨h1,h2,_⟩|⟨j,e,b',h1,_,_,h2,h3⟩
 ·refine⟨u,hw.rel (by rw[h2];exact hu2 m),fun w _ ha=>?_⟩
  simp[execOp,e1,e2,run_look_none hm.h hm.hk (hu1 w) ((ha _ hb b hbk).trans h0) h1]
 ·refine⟨e.val,hw.rel (by rw[h2];exact h3),fun w _ ha=>?_⟩
  simp[execOp,e1,e2,run_look_some hm.h hm.hk ((ha _ hb b hbk).trans h0) h1]
theorem run_lenm (hm:P.underlying mt=some (.map kt et)) {b:Nat} {es:Array MapEntry} {clk ty:Nat} {w:World} (hb:w.heap[b]?=some (.map es clk)):(Builtin.len_ #[mt] ty #[.map (some b)]).run P w=.ok (.int .i64 es.size) w:=by
 simp[Builtin.len_,run_underlying hm,MapKept.run_getObj_map hb,goInt]
theorem run_lenm0 (hm:P.underlying mt=some (.map kt et)) {ty:Nat} {w:World}:(Builtin.len_ #[mt] ty #[.map none]).run P w=.ok (.int .i64 0) w:=by
 simp[Builtin.len_,run_underlying hm,goInt]
theorem pur_lenm_ro [hm:TMap P mt kt et kd] (hx:evalA tm x=some (mapV kd f t)):Pur P ⟨d,.call { callee:=.builtin .len,args:=#[x],argTypes:=#[mt] },ty,pos,af,gd⟩ tm h (.val (.int .i64 (t.length:Int))):=fun m a w0 ht hh hr=>by
 refine⟨_,rel_val rfl,fun w hw _=>?_⟩
 rcases mro_cases (ht.eval hx) with ⟨e1,rfl⟩|⟨g,es,clk,es',e1,hg,k⟩
 ·simp[execOp,resolve,invoke,builtin,e1,run_lenm0 hm.h]
 ·simp[execOp,resolve,invoke,builtin,e1,run_lenm hm.h (hw g _ hg),k.size]
end
/-! ### Steps -/
section
variable {α:Type} {kd:IntKind} {f:α→AV} {t:List (Int × α)} {m:Ghost} {es:Array MapEntry} {clk:Nat} {es':List MapEntry}
theorem Ent.nil (m:Ghost) (kd:IntKind) (f:α→AV):Ent m kd f [] #[] 0 []:=⟨⟨by simp,by simp,by simp,by simp⟩,rfl,by simp[RelL]⟩
theorem Ent.push (k:Ent m kd f t es clk es') {i:Int} {a:α} {v:Value} (hn:∀x∈es.toList,x.key≠.int kd i) (hv:Rel m (f a) v):Ent m kd f (t++[(i,a)]) (es.push { key:=.int kd i,val:=v,born:=clk }) (clk+1) (es'++[{ key:=.int kd i,val:=v,born:=clk }]):=by
 obtain⟨q1,q2,q3,q4⟩:=k.ok
 refine⟨⟨by rw[Array.toList_push];exact q1.append_right _,fun e he=>?_,?_,?_⟩,by rw[List.map_append,List.map_append,k.ks];rfl,?_⟩
 ·rw[Array.toList_push,List.mem_append] at he
  rcases he with he|he
  ·have:=q2 e he;omega
  ·simp at he;subst he;simp
 ·rw[Array.toList_push,List.map_append,List.nodup_append]
  refine⟨q3,by simp,fun x hx y hy e=>?_⟩
  obtain⟨z,hz,rfl⟩:=List.mem_map.1 hx
  simp at hy
  have:=q2 z hz;omega
 ·rw[Array.toList_push,List.map_append,List.nodup_append]
  refine⟨q4,by simp,fun x hx y hy e=>?_⟩
  obtain⟨z,hz,rfl⟩:=List.mem_map.1 hx
  simp at hy
  exact hn z hz (by rw[e,hy])
 ·rw[List.map_append,List.map_append]
  exact k.vs.append (by simp only[List.map_cons,List.map_nil,RelL];exact⟨_,_,rfl,hv,rfl⟩)
theorem modify_toList {es:Array MapEntry} {j:Nat} {e:MapEntry} (h:es.toList[j]?=some e) (g:MapEntry→MapEntry):(es.modify j g).toList=es.toList.set j (g e):=by
 apply List.ext_getElem?
 intro q
 rw[Array.getElem?_toList,Array.getElem?_modify]
 by_cases hq:j=q
 ·subst hq
  have hl:j<es.toList.length:=(List.getElem?_eq_some_iff.1 h).1
  rw[if_pos rfl,List.getElem?_set_self hl]
  rw[Array.getElem?_toList] at h
  rw[h];rfl
 ·rw[if_neg hq,List.getElem?_set_ne hq,Array.getElem?_toList]
theorem set_map_eq {β γ:Type} {l:List β} {g:β→γ} {j:Nat} {x:β} (h:∀y,l[j]?=some y→g x=g y):(l.set j x).map g=l.map g:=by
 apply List.ext_getElem?
 intro q
 rw[List.getElem?_map,List.getElem?_map]
 by_cases hq:j=q
 ·subst hq
  rcases Nat.lt_or_ge j l.length with hl|hl
  ·rw[List.getElem?_set_self hl,List.getElem?_eq_getElem hl]
   exact congrArg some (h _ (List.getElem?_eq_getElem hl))
  ·rw[List.getElem?_eq_none (by simpa using hl),List.getElem?_eq_none hl]
 ·rw[List.getElem?_set_ne hq]
theorem perm_set {l l':List MapEntry} (h:l'.Perm l) {j j':Nat} {e x:MapEntry} (h1:l[j]?=some e) (h2:l'[j']?=some e):(l'.set j' x).Perm (l.set j x):=by
 have aux:∀{l:List MapEntry} {j:Nat},l[j]?=some e→∃a b,l=a++e::b∧l.set j x=a++x::b:=by
  intro l j h
  have hj:=(List.getElem?_eq_some_iff.1 h).1
  refine⟨l.take j,l.drop (j+1),?_,?_⟩
  ·have:=List.getElem?_eq_some_iff.1 h
   rw[←this.2,←List.drop_eq_getElem_cons hj,List.take_append_drop]
  ·rw[List.set_eq_take_append_cons_drop,if_pos hj]
 obtain⟨a,b,e1,e2⟩:=aux h1
 obtain⟨a',b',e3,e4⟩:=aux h2
 rw[e2,e4]
 have:(e::(a'++b')).Perm (e::(a++b)):=by
  refine List.perm_middle.symm.trans (.trans ?_ List.perm_middle)
  rw[←e1,←e3];exact h
 exact List.perm_middle.trans ((((List.perm_cons e).1 this).cons x).trans List.perm_middle.symm)
theorem Ent.set (k:Ent m kd f t es clk es') {i:Int} {a:α} {v:Value} {j:Nat} {e:MapEntry} (hj:es.toList[j]?=some e) (he:e.key=.int kd i) (hv:Rel m (f a) v) :
  ∃es2,Ent m kd f (t.map fun p=>if p.1=i then (i,a) else p) (es.modify j fun e=>{ e with key:=.int kd i,val:=v }) clk es2:=by
 obtain⟨q1,q2,q3,q4⟩:=k.ok
 have hm:e∈es':=q1.mem_iff.2 (List.mem_of_getElem? hj)
 obtain⟨j',hj'⟩:=List.mem_iff_getElem?.1 hm
 have hjl:j<es.toList.length:=(List.getElem?_eq_some_iff.1 hj).1
 obtain⟨p,g1,g2,g3⟩:=k.at hj'
 have hpi:p.1=i:=by rw[he] at g2;injection g2 with _ g2;exact g2.symm
 have hkey:∀y,es.toList[j]?=some y→({ e with key:=.int kd i,val:=v }:MapEntry).key=y.key:=fun y hy=>by rw[hj] at hy;injection hy with hy;subst hy;exact he.symm
 have hborn:∀y,es.toList[j]?=some y→({ e with key:=.int kd i,val:=v }:MapEntry).born=y.born:=fun y hy=>by rw[hj] at hy;injection hy with hy;subst hy;rfl
 have hjt:j'<t.length:=(List.getElem?_eq_some_iff.1 g1).1
 have htm:(t.map fun p=>if p.1=i then (i,a) else p)=t.set j' (i,a):=by
  apply List.ext_getElem?
  intro q
  rw[List.getElem?_map]
  by_cases hq:j'=q
  ·subst hq
   rw[g1,List.getElem?_set_self hjt]
   simp[hpi]
  ·rw[List.getElem?_set_ne hq]
   cases hx:t[q]? with
   | none=>rfl
   | some p'=>
    have hne:p'.1≠i:=fun e'=>by
     have hnd:=k.nodup
     have hql:=(List.getElem?_eq_some_iff.1 hx).1
     have:=List.getElem?_inj (l:=t.map (·.1)) (i:=j') (j:=q) (by simpa using hjt) hnd |>.1 (by rw[List.getElem?_map,List.getElem?_map,g1,hx];simp[hpi,e'])
     exact hq this
    simp[hne]
 refine⟨es'.set j' { e with key:=.int kd i,val:=v },⟨?_,?_,?_,?_⟩,?_,?_⟩
 ·rw[modify_toList hj];exact perm_set q1 hj hj'
 ·intro x hx
  rw[modify_toList hj] at hx
  rcases List.mem_or_eq_of_mem_set hx with hx|rfl
  ·exact q2 x hx
  ·exact q2 e (List.mem_of_getElem? hj)
 ·rw[modify_toList hj,set_map_eq hborn];exact q3
 ·rw[modify_toList hj,set_map_eq hkey];exact q4
 ·rw[htm,set_map_eq (fun y hy=>by rw[hj'] at hy;injection hy with hy;subst hy;exact he.symm),k.ks,set_map_eq (fun y hy=>by rw[g1] at hy;injection hy with hy;subst hy;rw[hpi])]
 ·rw[htm,List.map_set,List.map_set]
  exact k.vs.set hv
end
section
variable {ro:Option Nat} {P:Program} {d:Option Nat} {ty:Nat} {pos:String} {af:Array Edge} {gd:Option (Nat × Bool)} {x y z:Operand} {mt kt et:Nat} {kd:IntKind} {α:Type} {f:α→AV} {t:List (Int × α)} {i:Int} {v:AV} {s:St} {K:St→Prop}
theorem step_makeMap {o:Option Operand} [hm:TMap P mt kt et kd] (ho:∀q,o=some q→∃k n,evalA s.t q=some (.val (.int k n))) (hf:fits s d=true) (f:α→AV)
  (hK:∀b,K (({ s with h:=mpV b kd f []::s.h }:St).put d (.val (.map (some b))))):Step P ⟨d,.makeMap mt o,ty,pos,af,gd⟩ s K:=by
 intro m0 w0 a w ⟨m,hs⟩ Q
 unfold Oper.wp
 have hr:(execOp a.eval ⟨d,.makeMap mt o,ty,pos,af,gd⟩).run P w=.ok (.value (.map (some w.heap.size))) (w.alloc (.map #[] 0)):=by
  cases o with
  | none=>rfl
  | some q=>
   obtain⟨k,n,hq⟩:=ho q rfl
   simp[execOp,Instr.makeMap,newObj,eval_val hs.tmps hq,run_underlying hm.h,asInt]
   rfl
 rw[hr]
 have hx:OERel m (w.alloc (.map #[] 0)) (mpV w.heap.size kd f []):=mp_mk (heap_new _ _) (Ent.nil m kd f)
 exact⟨_,hK w.heap.size,m,SimG.put (s:={ s with h:=_::s.h }) (hs.new_ (Same.alloc w _) (fun b hb=>heap_old w _ b hb) hx (fun b hb=>by injection hb with hb;omega)) hf (rel_val rfl)⟩
theorem heap_set_at {w:World} {b:Nat} {o o':Obj} (hb:w.heap[b]?=some o):({ w with heap:=w.heap.setIfInBounds b o' }:World).heap[b]?=some o':=by
 have:=(Array.getElem?_eq_some_iff.1 hb).1
 simp[this]
theorem heap_set_ne {w:World} {b b':Nat} {o':Obj} (h:b'≠b):({ w with heap:=w.heap.setIfInBounds b o' }:World).heap[b']?=w.heap[b']?:=by
 simp[Array.getElem?_setIfInBounds_ne (Ne.symm h)]
theorem same_set (w:World) (b:Nat) (o':Obj):Same w { w with heap:=w.heap.setIfInBounds b o' }:=⟨rfl,rfl,rfl,by simp,Nat.le_refl _⟩
theorem SimG.turn {m0:GF} {w0 w:World} {m:Ghost} {a:Act} {x x':OE} {h':Heap} (k:SimG m0 w0 m s a w) (u:Up s.h x x' h') {b:Nat} {o o':Obj} (hb:w.heap[b]?=some o) (hx:x.blk=some b) (hx':x'.blk=some b)
  (hr:OERel m { w with heap:=w.heap.setIfInBounds b o' } x'):SimG m0 w0 m { s with h:=h' } a { w with heap:=w.heap.setIfInBounds b o' }:=
 k.up u (same_set w b o') (fun b' o1 e=>by
   by_cases he:b'=b
   ·subst he
    rw[(k.heap.2 x u.old).1 b' hx] at e;cases e
   ·exact heap_set_ne he)
  (fun b' _ hne=>heap_set_ne (fun e=>hne (by rw[hx,e])))
  hr (fun b' hb'=>.inl (by rw[hx];rw[hx'] at hb';exact hb'))
theorem step_mapUpdate {b:Nat} {a:α} {v':AV} [hm:TMap P mt kt et kd] (hx:evalA s.t x=some (.val (.map (some b)))) (hy:evalA s.t y=some (.val (.int kd i))) (hz:evalA s.t z=some v') (hv:Wk v' (f a)) {h':Heap} (hu:Up s.h (mpV b kd f t) (mpV b kd f (putF t i a)) h')
  (hK:K { s with h:=h' }):Step P ⟨none,.mapUpdate mt x y z,ty,pos,af,gd⟩ s K:=by
 intro m0 w0 ac w ⟨m,hs⟩ Q
 obtain⟨es,clk,es',h0,k⟩:=mp_cases (hs.heap.2 _ hu.old).2
 have e1:=eval_val hs.tmps hx
 have e2:=eval_val hs.tmps hy
 have hr:=hv.rel (hs.tmps.eval hz)
 unfold Oper.wp
 rcases k.find i with ⟨h1,h2,h3⟩|⟨j,e,a',h1,h2,h3,h4,h5⟩
 ·have hrun:(execOp ac.eval ⟨none,.mapUpdate mt x y z,ty,pos,af,gd⟩).run P w=.ok .skip { w with heap:=w.heap.setIfInBounds b (.map (es.push { key:=.int kd i,val:=ac.eval z,born:=clk }) (clk+1)) }:=by
   simp[execOp,Instr.mapUpdate,e1,e2,run_underlying hm.h,MapKept.run_getObj_map h0,MapKept.run_checkKey hm.hk (k:=.int kd i) (by simp[MapKept.IsKey]),MapKept.run_findKey hm.hk h1,MapKept.run_setObj_map _ h0,Result.andThen]
  rw[hrun]
  refine⟨_,hK,m,SimG.turn hs hu h0 rfl rfl ?_⟩
  unfold putF
  rw[h2]
  exact mp_mk (heap_set_at h0) (k.push h3 hr)
 ·have hjs:es[j]?=some e:=by rw[←Array.getElem?_toList];exact h2
  have hrun:(execOp ac.eval ⟨none,.mapUpdate mt x y z,ty,pos,af,gd⟩).run P w=.ok .skip { w with heap:=w.heap.setIfInBounds b (.map (es.modify j fun e=>{ e with key:=.int kd i,val:=ac.eval z }) clk) }:=by
   simp[execOp,Instr.mapUpdate,e1,e2,run_underlying hm.h,MapKept.run_getObj_map h0,MapKept.run_checkKey hm.hk (k:=.int kd i) (by simp[MapKept.IsKey]),MapKept.run_findKey hm.hk h1,MapKept.run_setObj_map _ h0,Result.andThen,hjs,h3,MapKept.run_keyThatStays (d:=.int kd) (k:=.int kd i) (by simp[MapKept.IsKey])]
  rw[hrun]
  refine⟨_,hK,m,SimG.turn hs hu h0 rfl rfl ?_⟩
  unfold putF
  rw[h4]
  obtain⟨es2,k2⟩:=k.set h2 h3 hr
  exact mp_mk (heap_set_at h0) k2
end
end Go.VM
/- Ranging over a map; a map that is no longer written. No condition. -/
namespace Go.VM
open Go
set_option linter.unusedVariables false
set_option linter.unusedSimpArgs false
def mitV {α:Type} (b:Nat) (kd:IntKind) (f:α→AV) (t:List (Int × α)) (left:List Nat) (last:Option Nat):OE:=.mit b (t.map fun p=>.int kd p.1) (t.map fun p=>f p.2) left last
theorem mit_cases {α:Type} {kd:IntKind} {f:α→AV} {t:List (Int × α)} {m:Ghost} {b:Nat} {w:World} {left:List Nat} {last:Option Nat} (h:OERel m w (mitV b kd f t left last)) :
  (t=[]∧left=[]∧∃a c d,w.heap[b]?=some (.mapIter none a c d))∨∃g es clk es' seen,w.heap[b]?=some (.mapIter (some g) clk seen clk)∧m g=some (.map es clk)∧Ent m kd f t es clk es'∧(∀i,i∈left↔∃e,es'[i]?=some e∧e.born∉seen)∧left.Nodup ∧
   (∀i,last=some i→∃(e:MapEntry) (seen0:Array Nat),es'[i]?=some e∧seen=seen0.push e.born):=by
 unfold mitV at h
 simp only[OERel] at h
 obtain⟨o,h0,h|h⟩:=h
 ·obtain⟨h1,h2,a,c,d,rfl⟩:=h
  exact .inl ⟨by simpa using h1,h2,a,c,d,h0⟩
 ·obtain⟨g,es,clk,es',seen,rfl,h1,h2,h3,h4,h5,h6,h7⟩:=h
  exact .inr ⟨g,es,clk,es',seen,h0,h1,⟨h2,h3,h4⟩,h5,h6,h7⟩
section
variable {ro:Option Nat} {P:Program} {d:Option Nat} {ty:Nat} {pos:String} {af:Array Edge} {gd:Option (Nat × Bool)} {x y z:Operand} {mt kt et:Nat} {kd:IntKind} {α:Type} {f:α→AV} {t:List (Int × α)} {i:Int} {v:AV} {s:St} {K:St→Prop}
theorem step_range [hm:TMap P mt kt et kd] (hx:evalA s.t x=some (mapV kd f t)) (hf:fits s d=true)
  (hK:∀b,K (({ s with h:=mitV b kd f t (List.range t.length) none::s.h }:St).put d (.val (.pointer (some ⟨b,0,none⟩))))):Step P ⟨d,.range mt x,ty,pos,af,gd⟩ s K:=by
 intro m0 w0 a w ⟨m,hs⟩ Q
 unfold Oper.wp
 rcases mro_cases (hs.tmps.eval hx) with ⟨e1,rfl⟩|⟨g,es,clk,es',e1,hg,k⟩
 ·have hr:(execOp a.eval ⟨d,.range mt x,ty,pos,af,gd⟩).run P w=.ok (.value (.pointer (some ⟨w.heap.size,0,none⟩))) (w.alloc (.mapIter none 0 #[] 0)):=by
   simp[execOp,Instr.range,e1,run_underlying hm.h,newObj]
   rfl
  rw[hr]
  have hx:OERel m (w.alloc (.mapIter none 0 #[] 0)) (mitV w.heap.size kd f ([]:List (Int × α)) (List.range 0) none):=by
   unfold mitV;simp only[OERel]
   exact⟨_,heap_new _ _,.inl ⟨rfl,rfl,_,_,_,rfl⟩⟩
  exact⟨_,hK w.heap.size,m,SimG.put (s:={ s with h:=_::s.h }) (hs.new_ (Same.alloc w _) (fun b hb=>heap_old w _ b hb) hx (fun b hb=>by injection hb with hb;omega)) hf (rel_val rfl)⟩
 ·have hb:=hs.holds g _ hg
  have hr:(execOp a.eval ⟨d,.range mt x,ty,pos,af,gd⟩).run P w=.ok (.value (.pointer (some ⟨w.heap.size,0,none⟩))) (w.alloc (.mapIter (some g) clk #[] clk)):=by
   simp[execOp,Instr.range,e1,run_underlying hm.h,newObj,MapKept.run_getObj_map hb]
   rfl
  rw[hr]
  have hx:OERel m (w.alloc (.mapIter (some g) clk #[] clk)) (mitV w.heap.size kd f t (List.range t.length) none):=by
   unfold mitV;simp only[OERel]
   refine⟨_,heap_new _ _,.inr ⟨g,es,clk,es',#[],rfl,hg,k.ok,k.ks,k.vs,fun i=>?_,List.nodup_range,fun i h=>by cases h⟩⟩
   rw[List.mem_range,←k.len]
   constructor
   ·intro h;exact⟨es'[i],List.getElem?_eq_getElem h,by simp⟩
   ·rintro⟨e,h,_⟩;exact (List.getElem?_eq_some_iff.1 h).1
  exact⟨_,hK w.heap.size,m,SimG.put (s:={ s with h:=_::s.h }) (hs.new_ (Same.alloc w _) (fun b hb=>heap_old w _ b hb) hx (fun b hb=>by injection hb with hb;omega)) hf (rel_val rfl)⟩
theorem SimG.drew {m0:GF} {w0 w:World} {m:Ghost} {a:Act} (k:SimG m0 w0 m s a w):SimG m0 w0 m s a w.drew:=
 {k with same:=k.same.drew,heap:=⟨k.heap.1,fun x hx=>⟨(k.heap.2 x hx).1,(k.heap.2 x hx).2.local (w':=w.drew) fun _ _=>rfl⟩⟩ }
theorem step_next {b:Nat} {left:List Nat} {last:Option Nat} {h':Nat→Heap} (hx:evalA s.t x=some (.val (.pointer (some ⟨b,0,none⟩)))) (hu:∀i,Up s.h (mitV b kd f t left last) (mitV b kd f t (left.erase i) (some i)) (h' i)) (hf:fits s d=true)
  (h0:left=[]→K (s.put d (.tup [.val (.bool false)]))) (h1:∀i p,i∈left→t[i]?=some p→K (({ s with h:=h' i }:St).put d (.tup [.val (.bool true),.val (.int kd p.1),f p.2]))):Step P ⟨d,.next x false,ty,pos,af,gd⟩ s K:=by
 intro m0 w0 a w ⟨m,hs⟩ Q
 have e1:=eval_val hs.tmps hx
 have hov:Rel m (.tup [.val (.bool false)]) (.tuple #[.bool false]):=by simp only[Rel];exact⟨_,rfl,by simp only[RelL];exact⟨_,_,rfl,rel_val rfl,rfl⟩⟩
 unfold Oper.wp
 rcases mit_cases (hs.heap.2 _ (hu 0).old).2 with ⟨rfl,rfl,q1,q2,q3,hb⟩|⟨g,es,clk,es',seen,hb,hg,k,hl,hn,hla⟩
 ·have hr:(execOp a.eval ⟨d,.next x false,ty,pos,af,gd⟩).run P w=.ok (.value (.tuple #[.bool false])) w:=by
   simp[execOp,Instr.next,e1,getObj,Sem.run,hb,Result.andThen]
  rw[hr]
  exact⟨_,h0 rfl,m,SimG.put hs hf hov⟩
 ·have hgw:=hs.holds g _ hg
  rcases run_next_at (P:=P) w ty b g clk clk seen es clk hb hgw k.ok.2.1 (Nat.le_refl _) with ⟨hz,hrun⟩|⟨e,he,w1,hw1,hrun⟩
  ·have hr:(execOp a.eval ⟨d,.next x false,ty,pos,af,gd⟩).run P w=.ok (.value (.tuple #[.bool false])) w:=by
    simp[execOp,e1,hrun]
   rw[hr]
   refine⟨_,h0 ?_,m,SimG.put hs hf hov⟩
   cases hll:left with
   | nil=>rfl
   | cons i r=>
    exfalso
    obtain⟨e,g1,g2⟩:=(hl i).1 (by rw[hll];simp)
    have:e∈(leftOf es seen).toList:=by
     unfold leftOf
     have he:e∈es.toList:=k.ok.1.mem_iff.1 (List.mem_of_getElem? g1)
     simpa using ⟨by simpa using he,by simpa using g2⟩
    have h2:(leftOf es seen).toList.length=0:=by simpa using hz
    rw[List.eq_nil_of_length_eq_zero h2] at this
    cases this
  ·have hee:e∈es.toList∧e.born∉seen:=by
    unfold leftOf at he
    simp at he
    exact⟨by simpa using he.1,by simpa using he.2⟩
   obtain⟨i,hi⟩:=List.mem_iff_getElem?.1 (k.ok.1.mem_iff.2 hee.1)
   have hil:i∈left:=(hl i).2 ⟨e,hi,hee.2⟩
   obtain⟨p,g1,g2,g3⟩:=k.at hi
   have hr:(execOp a.eval ⟨d,.next x false,ty,pos,af,gd⟩).run P w=.ok (.value (.tuple #[.bool true,e.key,e.val])) (Go.ChangeMaps.setBlock w1 b (.mapIter (some g) clk (seen.push e.born) clk)):=by
    simp[execOp,e1,hrun]
   rw[hr]
   have hs1:SimG m0 w0 m s a w1:=by rcases hw1 with rfl|rfl;exact hs;exact hs.drew
   have hb1:w1.heap[b]?=some (.mapIter (some g) clk seen clk):=by rcases hw1 with rfl|rfl<;>exact hb
   have hx2:OERel m { w1 with heap:=w1.heap.setIfInBounds b (.mapIter (some g) clk (seen.push e.born) clk) } (mitV b kd f t (left.erase i) (some i)):=by
    unfold mitV;simp only[OERel]
    refine⟨_,heap_set_at hb1,.inr ⟨g,es,clk,es',_,rfl,hg,k.ok,k.ks,k.vs,fun q=>?_,hn.erase i,fun q hq=>?_⟩⟩
    ·rw[hn.mem_erase_iff,hl q]
     constructor
     ·rintro⟨hne,e2,q1,q2⟩
      refine⟨e2,q1,fun hmem=>?_⟩
      rw[Array.mem_push] at hmem
      rcases hmem with hmem|hmem
      ·exact q2 hmem
      ·have hbn:(es'.map (·.born)).Nodup:=((k.ok.1.map _).nodup_iff).2 k.ok.2.2.1
       have hql:=(List.getElem?_eq_some_iff.1 q1).1
       exact hne (List.getElem?_inj (l:=es'.map (·.born)) (i:=q) (j:=i) (by simpa using hql) hbn |>.1 (by rw[List.getElem?_map,List.getElem?_map,q1,hi];simp[hmem]))
     ·rintro⟨e2,q1,q2⟩
      rw[Array.mem_push] at q2
      refine⟨fun e3=>?_,e2,q1,fun hmem=>q2 (.inl hmem)⟩
      subst e3
      rw[q1] at hi;injection hi with hi;subst hi
      exact q2 (.inr rfl)
    ·injection hq with hq;subst hq
     exact⟨e,seen,hi,rfl⟩
   refine⟨_,h1 i p hil g1,m,SimG.put (s:={ s with h:=h' i }) (SimG.turn hs1 (hu i) hb1 rfl rfl hx2) hf ?_⟩
   simp only[Rel]
   exact⟨_,rfl,by simp only[RelL];exact⟨_,_,rfl,rel_val rfl,_,_,rfl,by rw[g2];exact rel_val rfl,_,_,rfl,g3,rfl⟩⟩
theorem pur_entry {tm:List (Nat × AV)} {h:Heap} {b i:Nat} {left:List Nat} {p:Int × α} (hx:evalA tm x=some (.val (.pointer (some ⟨b,0,none⟩)))) (hb:mitV b kd f t left (some i)∈h) (hp:t[i]?=some p):Pur P ⟨d,.entry x,ty,pos,af,gd⟩ tm h (.tup [.val (.int kd p.1),f p.2]):=fun m a w0 ht hh hr=>by
 have e1:=eval_val ht hx
 rcases mit_cases (hr.2 _ hb).2 with ⟨rfl,_⟩|⟨g,es,clk,es',seen,hbb,hg,k,hl,hn,hla⟩
 ·simp at hp
 ·obtain⟨e,seen0,q1,rfl⟩:=hla i rfl
  obtain⟨p',g1,g2,g3⟩:=k.at q1
  rw[hp] at g1;injection g1 with g1;subst g1
  refine⟨.tuple #[e.key,e.val],?_,fun w hw ha=>?_⟩
  ·simp only[Rel]
   exact⟨_,rfl,by simp only[RelL];exact⟨_,_,rfl,by rw[g2];exact rel_val rfl,_,_,rfl,g3,rfl⟩⟩
  ·have h1:=run_entry_at (P:=P) w b g clk seen0 es clk e ((ha _ hb b rfl).trans hbb) (hw g _ hg) (k.ok.1.mem_iff.1 (List.mem_of_getElem? q1)) k.ok.2.2.1
   simp[execOp,e1,h1]
end
def remL {β:Type} (t:List β) (left:List Nat):List β:=left.filterMap (t[·]?)
theorem remL_take {β:Type} (t:List β):∀k,remL t (List.range k)=t.take k
 | 0=>by simp[remL]
 | k+1=>by
  have ih:=remL_take t k
  unfold remL at ih ⊢
  rw[List.range_succ,List.filterMap_append,ih,List.take_add_one]
  cases h:t[k]?<;>simp[h]
theorem remL_all {β:Type} (t:List β):remL t (List.range t.length)=t:=by rw[remL_take,List.take_length]
theorem remL_cons {β:Type} {t:List β} {left:List Nat} {i:Nat} {p:β} (hi:i∈left) (hp:t[i]?=some p):(remL t left).Perm (p::remL t (left.erase i)):=by
 unfold remL
 refine ((List.perm_cons_erase hi).filterMap _).trans ?_
 rw[List.filterMap_cons_some hp]
/-! ### What is no longer written -/
inductive Fz (v:Value) (y:AV):AV→AV→Prop
 | keep (x:AV):Fz v y x x
 | hit:Fz v y (.val v) y
 | aggn:Fz v y (.agg []) (.agg [])
 | aggc {x z:AV} {r q:List AV} (h:Fz v y x z) (hr:Fz v y (.agg r) (.agg q)):Fz v y (.agg (x::r)) (.agg (z::q))
 | tupn:Fz v y (.tup []) (.tup [])
 | tupc {x z:AV} {r q:List AV} (h:Fz v y x z) (hr:Fz v y (.tup r) (.tup q)):Fz v y (.tup (x::r)) (.tup (z::q))
theorem Fz.rel {v:Value} {y x z:AV} (h:Fz v y x z) {m m':Ghost} (hm:Gle m m') (hv:Rel m' y v):∀u,Rel m x u→Rel m' z u:=by
 induction h with
 | keep x=>exact fun u h=>h.mono hm
 | hit=>intro u h;simp only[Rel] at h;obtain⟨rfl,_⟩:=h;exact hv
 | aggn=>exact fun u h=>h.mono hm
 | aggc _ _ ih1 ih2=>
  intro u k
  simp only[Rel,RelL] at k ⊢
  obtain⟨cs,rfl,c,r,e,k1,k2⟩:=k
  have:=ih2 (.agg r.toArray) (by simp only[Rel];exact⟨_,rfl,k2⟩)
  simp only[Rel] at this
  obtain⟨cs',e',k3⟩:=this
  injection e' with e'
  exact⟨cs,rfl,c,r,e,ih1 c k1,by rw[←e'] at k3;exact k3⟩
 | tupn=>exact fun u h=>h.mono hm
 | tupc _ _ ih1 ih2=>
  intro u k
  simp only[Rel,RelL] at k ⊢
  obtain⟨cs,rfl,c,r,e,k1,k2⟩:=k
  have:=ih2 (.tuple r.toArray) (by simp only[Rel];exact⟨_,rfl,k2⟩)
  simp only[Rel] at this
  obtain⟨cs',e',k3⟩:=this
  injection e' with e'
  exact⟨cs,rfl,c,r,e,ih1 c k1,by rw[←e'] at k3;exact k3⟩
inductive FzT (v:Value) (y:AV):List (Nat × AV)→List (Nat × AV)→Prop
 | rest (t:List (Nat × AV)):FzT v y t t
 | cons {i:Nat} {x z:AV} {t t':List (Nat × AV)} (h:Fz v y x z) (r:FzT v y t t'):FzT v y ((i,x)::t) ((i,z)::t')
inductive FzH (v:Value) (y:AV):Heap→Heap→Prop
 | rest (h:Heap):FzH v y h h
 | keep (x:OE) {h h':Heap} (r:FzH v y h h'):FzH v y (x::h) (x::h')
 | box {b ty:Nat} {c c':List AV} {h h':Heap} (q:Fz v y (.agg c) (.agg c')) (r:FzH v y h h'):FzH v y (.box b c ty::h) (.box b c' ty::h')
theorem FzT.get {v:Value} {y:AV} {t t':List (Nat × AV)} (h:FzT v y t t'):∀i z,VM.get t' i=some z→∃x,VM.get t i=some x∧Fz v y x z:=by
 induction h with
 | rest t=>exact fun i y h=>⟨y,h,.keep _⟩
 | @cons j x z t t' h r ih=>
  intro i u hu
  rw[get_eq] at hu ⊢
  by_cases hj:j=i
  ·rw[if_pos hj] at hu ⊢
   injection hu with hu;subst hu
   exact⟨x,rfl,h⟩
  ·rw[if_neg hj] at hu ⊢
   exact ih i u hu
theorem FzH.mem {v:Value} {y:AV} {h h':Heap} (q:FzH v y h h'):∀x∈h',∃z∈h,z.blk=x.blk∧(z=x∨∃b c c' ty,z=.box b c ty∧x=.box b c' ty∧Fz v y (.agg c) (.agg c')):=by
 induction q with
 | rest h=>exact fun x hx=>⟨x,hx,rfl,.inl rfl⟩
 | keep x r ih=>
  intro u hu
  rcases List.mem_cons.1 hu with rfl|hu
  ·exact⟨_,List.mem_cons_self ..,rfl,.inl rfl⟩
  ·obtain⟨z,h1,h2⟩:=ih u hu;exact⟨z,List.mem_cons_of_mem _ h1,h2⟩
 | box q r ih=>
  intro u hu
  rcases List.mem_cons.1 hu with rfl|hu
  ·exact⟨_,List.mem_cons_self ..,rfl,.inr ⟨_,_,_,_,rfl,rfl,q⟩⟩
  ·obtain⟨z,h1,h2⟩:=ih u hu;exact⟨z,List.mem_cons_of_mem _ h1,h2⟩
theorem FzH.blks {v:Value} {y:AV} {h h':Heap} (q:FzH v y h h'):h'.filterMap OE.blk=h.filterMap OE.blk:=by
 induction q with
 | rest h=>rfl
 | keep x r ih=>simp only[List.filterMap_cons,ih]
 | box q r ih=>simp only[List.filterMap_cons,ih,OE.blk]
theorem Sim.fz {m0:GF} {w0:World} {n:Nat} {t t':List (Nat × AV)} {h h1 h2:Heap} {a:Act} {w:World} {x:OE} {v:Value} {y:AV} (hs:Sim m0 w0 ⟨n,t,h⟩ a w) (tk:Tk h x h1)
  (hy:∀m m'':Ghost,OERel m w x→Gle m m''→(∀b,x.blk=some b→m'' b=w.heap[b]?)→Rel m'' y v) (ht:FzT v y t t') (hh:FzH v y h1 h2):Sim m0 w0 ⟨n,t',h2⟩ a w:=by
 obtain⟨m,q⟩:=hs
 have hown:=q.heap.2 _ tk.old
 let m'':Ghost:=fun b=>if x.blk=some b then w.heap[b]? else m b
 have hle:Gle m m'':=fun b o hb=>by
  show (if x.blk=some b then w.heap[b]? else m b)=some o
  rw[if_neg (fun hv=>by rw[hown.1 b hv] at hb;cases hb)];exact hb
 have hat:∀b,x.blk=some b→m'' b=w.heap[b]?:=fun b hb=>if_pos hb
 have hro:=hy m m'' hown.2 hle hat
 refine⟨m'',⟨q.le.trans hle,fun b o hb=>?_,q.frame,fun x hx b hb=>?_,fun b o hb=>?_,q.same,q.defers.mono hle,q.size,fun i z hz=>?_,?_,fun x2 hx=>?_⟩⟩
 ·have hb:(if x.blk=some b then w.heap[b]? else m b)=some o:=hb
  split at hb
  ·rename_i hv;exact .inr (q.own _ tk.old b hv)
  ·exact q.grow b o hb
 ·obtain⟨y,g1,g2,_⟩:=hh.mem x hx
  exact q.own y (tk.sub.subset g1) b (g2.trans hb)
 ·have hb:(if x.blk=some b then w.heap[b]? else m b)=some o:=hb
  split at hb
  ·exact hb
  ·exact q.holds b o hb
 ·obtain⟨x,g1,g2⟩:=ht.get i z hz
  obtain⟨u,g3,g4⟩:=q.tmps i x g1
  exact⟨u,g3,g2.rel hle hro u g4⟩
 ·show (h2.filterMap OE.blk).Nodup
  rw[hh.blks];exact (tk.sub.filterMap _).nodup q.heap.1
 ·obtain⟨y2,g1,g2,g3⟩:=hh.mem x2 hx
  have hy2:=q.heap.2 y2 (tk.sub.subset g1)
  refine⟨fun b hb=>?_,?_⟩
  ·show (if x.blk=some b then w.heap[b]? else m b)=none
   rw[if_neg (show ¬ x.blk=some b from fun hv=>tk.nodup q.heap.1 b hv y2 g1 (g2.trans hb))]
   exact hy2.1 b (g2.trans hb)
  ·rcases g3 with rfl|⟨b,c,c',ty,rfl,rfl,g3⟩
   ·exact hy2.2.mono hle
   ·have:=hy2.2
    simp only[OERel] at this ⊢
    obtain⟨cs,q1,q2⟩:=this
    have r:=g3.rel hle hro (.agg cs) (by simp only[Rel];exact⟨_,rfl,q2⟩)
    simp only[Rel] at r
    obtain⟨cs',e,r⟩:=r
    injection e with e
    exact⟨cs,q1,by rw[←e] at r;exact r⟩
theorem mp_ro {α:Type} {kd:IntKind} {f:α→AV} {t:List (Int × α)} {b:Nat} {w:World} (m m'':Ghost) (h:OERel m w (mpV b kd f t)) (hm:Gle m m'') (hb:∀b',(mpV b kd f t).blk=some b'→m'' b'=w.heap[b']?):Rel m'' (mapV kd f t) (.map (some b)):=by
 obtain⟨es,clk,es',h0,k⟩:=mp_cases h
 have k:=k.mono hm
 unfold mapV
 simp only[Rel]
 exact⟨some b,rfl,.inr ⟨b,es,clk,es',rfl,(hb b rfl).trans h0,k.ok,k.ks,k.vs⟩⟩
section
variable {ro:Option Nat} {P:Program} {n:Nat} {T T':List (Nat × AV)} {h h1 h2:Heap} {α:Type} {kd:IntKind} {f:α→AV} {t:List (Int × α)} {b:Nat}
theorem W.frzm {c:Code} {Q:Exit→St→Prop} (tk:Tk h (mpV b kd f t) h1) (ht:FzT (.map (some b)) (mapV kd f t) T T') (hh:FzH (.map (some b)) (mapV kd f t) h1 h2) (q:W ro P c Q ⟨n,T',h2⟩):W ro P c Q ⟨n,T,h⟩:=fun m0 w0 a w hs=>q m0 w0 a w (hs.fz tk mp_ro ht hh)
theorem RL.frzm {ops:Array Oper} {rest:List Oper} {K:St→Prop} (tk:Tk h (mpV b kd f t) h1) (ht:FzT (.map (some b)) (mapV kd f t) T T') (hh:FzH (.map (some b)) (mapV kd f t) h1 h2) (q:RL ro P ops rest ⟨n,T',h2⟩ K):RL ro P ops rest ⟨n,T,h⟩ K:=fun i hi m0 w0 a w hs=>q i hi m0 w0 a w (hs.fz tk mp_ro ht hh)
end
end Go.VM
/- Maps: the rules, ready for a walk. No condition. -/
namespace Go.VM
open Go
set_option linter.unusedVariables false
set_option linter.unusedSimpArgs false
theorem lkw_int (k:IntKind) (o:Option Int):Wk (lkV (vI k) (.val (.int k 0)) o) (.val (.int k (o.getD 0))):=by rw[lkV_int];exact .refl _
def vL (k:IntKind) (l:List Int):AV:=.ro 1 (ints k l)
theorem lkw_ints (k:IntKind) (o:Option (List Int)):Wk (lkV (vL k) (.val (.slice none 0 0)) o) (.ro 1 (ints k (o.getD []))):=by cases o;exact .nilr 1;exact .refl _
section
variable {ro:Option Nat} {P:Program} {ty:Nat} {pos:String} {af:Array Edge} {gd:Option (Nat × Bool)} {x y z:Operand} {t:List (Nat × AV)} {h:Heap} {v:AV} {mt:Nat} {c:Bool}
theorem jLk {d:Option Nat} (k:Pur P ⟨d,.lookup mt x y false,ty,pos,af,gd⟩ t h v):Pur P ⟨d,.lookup mt x y false,ty,pos,af,gd⟩ t h v:=k
theorem jLk2 {d:Option Nat} (k:Pur P ⟨d,.lookup mt x y true,ty,pos,af,gd⟩ t h v):Pur P ⟨d,.lookup mt x y true,ty,pos,af,gd⟩ t h v:=k
variable {n d:Nat} {K:St→Prop} {o:Oper} {α:Type} {kd:IntKind} {f:α→AV} {m:List (Int × α)} {i:Int} {kt et:Nat}
theorem iMl (k:Step P ⟨some d,.lookup mt x y c,ty,pos,af,gd⟩ ⟨n,t,h⟩ K):Step P ⟨some d,.lookup mt x y c,ty,pos,af,gd⟩ ⟨n,t,h⟩ K:=k
theorem iMe (k:Step P ⟨some d,.entry x,ty,pos,af,gd⟩ ⟨n,t,h⟩ K):Step P ⟨some d,.entry x,ty,pos,af,gd⟩ ⟨n,t,h⟩ K:=k
theorem S.Ml (k:K ⟨n,(d,v)::t,h⟩) (hp:Pur P ⟨some d,.lookup mt x y c,ty,pos,af,gd⟩ t h v:=by first|(apply jLk;first|exact pur_look_ro rfl rfl (by first|exact lkw_int _ _|exact lkw_bool _|exact lkw_ints _ _|exact Wk.refl _)|exact pur_look_own rfl (by (fail_if_success (apply memG));repeat (first|exact List.Mem.head _|assumption|refine List.Mem.tail _ ?_)) rfl (by first|exact lkw_int _ _|exact lkw_bool _|exact lkw_ints _ _|exact Wk.refl _)|exact pur_look_nil rfl rfl|fail)|(apply jLk2;exact pur_look_ok_ro rfl rfl (by first|exact lkw_int _ _|exact lkw_bool _|exact lkw_ints _ _|exact Wk.refl _))|fail) (hn:Nat.blt d n=true:=by rfl):Step P ⟨some d,.lookup mt x y c,ty,pos,af,gd⟩ ⟨n,t,h⟩ K:=step_pur hp hn k
theorem S.Me (k:K ⟨n,(d,v)::t,h⟩) (hp:Pur P ⟨some d,.entry x,ty,pos,af,gd⟩ t h v:=by exact pur_entry rfl (by (fail_if_success (apply memG));repeat (first|exact List.Mem.head _|assumption|refine List.Mem.tail _ ?_)) (by assumption)) (hn:Nat.blt d n=true:=by rfl):Step P ⟨some d,.entry x,ty,pos,af,gd⟩ ⟨n,t,h⟩ K:=step_pur hp hn k
theorem S.Mc (k:K ⟨n,(d,v)::t,h⟩) (hp:Pur P ⟨some d,.call { callee:=.builtin .len,args:=#[x],argTypes:=#[mt] },ty,pos,af,gd⟩ t h v:=by first|exact pur_lenm_own rfl (by (fail_if_success (apply memG));repeat (first|exact List.Mem.head _|assumption|refine List.Mem.tail _ ?_))|exact pur_lenm_ro rfl|fail) (hn:Nat.blt d n=true:=by rfl):Step P ⟨some d,.call { callee:=.builtin .len,args:=#[x],argTypes:=#[mt] },ty,pos,af,gd⟩ ⟨n,t,h⟩ K:=step_pur hp hn k
theorem S.mkm {q:Operand} {kk:IntKind} {nn:Int} [hm:TMap P mt kt et kd] (f:α→AV) (hK:∀b,K ⟨n,(d,.val (.map (some b)))::t,mpV b kd f []::h⟩) (hq:evalA t q=some (.val (.int kk nn)):=by rfl) (hn:Nat.blt d n=true:=by rfl):Step P ⟨some d,.makeMap mt (some q),ty,pos,af,gd⟩ ⟨n,t,h⟩ K:=
 step_makeMap (fun q' e=>by injection e with e;subst e;exact⟨_,_,hq⟩) hn f hK
theorem S.mkm0 [hm:TMap P mt kt et kd] (f:α→AV) (hK:∀b,K ⟨n,(d,.val (.map (some b)))::t,mpV b kd f []::h⟩) (hn:Nat.blt d n=true:=by rfl):Step P ⟨some d,.makeMap mt none,ty,pos,af,gd⟩ ⟨n,t,h⟩ K:=
 step_makeMap (fun q' e=>by cases e) hn f hK
theorem iMu (k:Step P ⟨none,.mapUpdate mt x y z,ty,pos,af,gd⟩ ⟨n,t,h⟩ K):Step P ⟨none,.mapUpdate mt x y z,ty,pos,af,gd⟩ ⟨n,t,h⟩ K:=k
theorem S.mapU {b:Nat} {a:α} {v':AV} {h':Heap} [hm:TMap P mt kt et kd] (hK:K ⟨n,t,h'⟩) (hx:evalA t x=some (.val (.map (some b))):=by rfl) (hu:Up h (mpV b kd f m) (mpV b kd f (putF m i a)) h':=by (repeat (first|exact Up.here|assumption|apply Up.there))) (hy:evalA t y=some (.val (.int kd i)):=by rfl) (hz:evalA t z=some v':=by rfl) (hv:Wk v' (f a):=by exact Wk.refl _) :
  Step P ⟨none,.mapUpdate mt x y z,ty,pos,af,gd⟩ ⟨n,t,h⟩ K:=step_mapUpdate hx hy hz hv hu hK
theorem iMr (k:Step P ⟨some d,.range mt x,ty,pos,af,gd⟩ ⟨n,t,h⟩ K):Step P ⟨some d,.range mt x,ty,pos,af,gd⟩ ⟨n,t,h⟩ K:=k
theorem S.rng [hm:TMap P mt kt et kd] (hK:∀b,K ⟨n,(d,.val (.pointer (some ⟨b,0,none⟩)))::t,mitV b kd f m (List.range m.length) none::h⟩) (hx:evalA t x=some (mapV kd f m):=by rfl) (hn:Nat.blt d n=true:=by rfl):Step P ⟨some d,.range mt x,ty,pos,af,gd⟩ ⟨n,t,h⟩ K:=step_range hx hn hK
theorem S.next {b:Nat} {left:List Nat} {last:Option Nat} {h':Nat→Heap} (h0:left=[]→K ⟨n,(d,.tup [.val (.bool false)])::t,h⟩) (h1:∀i p,i∈left→m[i]?=some p→K ⟨n,(d,.tup [.val (.bool true),.val (.int kd p.1),f p.2])::t,h' i⟩) (hx:evalA t x=some (.val (.pointer (some ⟨b,0,none⟩))):=by rfl)
  (hu:∀i,Up h (mitV b kd f m left last) (mitV b kd f m (left.erase i) (some i)) (h' i):=by intro i;(repeat (first|exact Up.here|assumption|apply Up.there))) (hn:Nat.blt d n=true:=by rfl):Step P ⟨some d,.next x false,ty,pos,af,gd⟩ ⟨n,t,h⟩ K:=
 step_next hx hu hn h0 h1
/-! arrays by value -/
theorem iShr {xt yt:Nat} (k:Step P ⟨some d,.binOp .shr xt x y yt,ty,pos,af,gd⟩ ⟨n,t,h⟩ K):Step P ⟨some d,.binOp .shr xt x y yt,ty,pos,af,gd⟩ ⟨n,t,h⟩ K:=k
theorem iQuo {xt yt:Nat} (k:Step P ⟨some d,.binOp .quo xt x y yt,ty,pos,af,gd⟩ ⟨n,t,h⟩ K):Step P ⟨some d,.binOp .quo xt x y yt,ty,pos,af,gd⟩ ⟨n,t,h⟩ K:=k
theorem S.shrk {xt yt:Nat} {k k':IntKind} {a b:Int} {q:Nat} (hK:K ⟨n,(d,.val (.int k (a / (q:Nat))))::t,h⟩) (hx:evalA t x=some (.val (.int k a)):=by rfl) (hy:evalA t y=some (.val (.int k' b)):=by rfl) (hb:0≤b:=by omega) (hq:2 ^ (min b.toNat k.bits)=q:=by (simp[IntKind.bits];rfl)) (hn:Nat.blt d n=true:=by rfl) :
  Step P ⟨some d,.binOp .shr xt x y yt,ty,pos,af,gd⟩ ⟨n,t,h⟩ K:=step_v (pur_shr (c:=a / (q:Nat)) hx hy hb (by rw[←hq];rw[Int.fdiv_eq_ediv_of_nonneg _ (by exact Int.pow_nonneg (by decide))];simp)) hn hK
theorem wrap_quo32 {a b:Int} (h1:0≤a) (h2:0<b) (h:a≤4294967295):IntKind.u32.wrap (a.tdiv b)=a / b:=by
 rw[Int.tdiv_eq_ediv_of_nonneg h1]
 have:=Int.ediv_nonneg h1 (by omega:0≤b)
 have:=Int.ediv_le_self b h1
 exact wrap_u32 (by omega) (by omega)
theorem S.quo32 {xt yt:Nat} {a b:Int} (hK:K ⟨n,(d,.val (.int .u32 (a / b)))::t,h⟩) (hx:evalA t x=some (.val (.int .u32 a)):=by rfl) (hy:evalA t y=some (.val (.int .u32 b)):=by rfl) (h1:0≤a:=by omega) (h2:0<b:=by omega) (h3:a≤4294967295:=by omega) (hn:Nat.blt d n=true:=by rfl) :
  Step P ⟨some d,.binOp .quo xt x y yt,ty,pos,af,gd⟩ ⟨n,t,h⟩ K:=step_v (pur_quo hx hy (by omega) (wrap_quo32 h1 h2 h3)) hn hK
theorem S.Ar1 {xt nn e b:Nat} {g:Bool} {i:Int} [ha:TArr P xt nn e 1 g] (j:Nat) (hK:K ⟨n,(d,.val (.pointer (some ⟨b,j,none⟩)))::t,h⟩) (hx:evalA t x=some (.val (.pointer (some ⟨b,0,none⟩))):=by rfl) (hy:evalA t y=some (.val (.int kd i)):=by rfl) (hi:i=(j:Int):=by first|rfl|omega) (hj:j<nn:=by omega) (hn:Nat.blt d n=true:=by rfl) :
  Step P ⟨some d,.indexAddr xt x y,ty,pos,af,gd⟩ ⟨n,t,h⟩ K:=by
 have:=pur_index_arr (P:=P) (d:=some d) (ty:=ty) (pos:=pos) (af:=af) (gd:=gd) (h:=h) (ha:=ha) hx hy hi hj
 rw[Nat.mul_one,Nat.zero_add] at this
 exact step_v this hn hK
theorem S.Ar {xt nn e k j b o:Nat} {g:Bool} {i:Int} [ha:TArr P xt nn e k g] (hK:K ⟨n,(d,.val (.pointer (some ⟨b,o+j * k,none⟩)))::t,h⟩) (hx:evalA t x=some (.val (.pointer (some ⟨b,o,none⟩))):=by rfl) (hy:evalA t y=some (.val (.int kd i)):=by rfl) (hi:i=(j:Int):=by rfl) (hj:j<nn:=by omega) (hn:Nat.blt d n=true:=by rfl) :
  Step P ⟨some d,.indexAddr xt x y,ty,pos,af,gd⟩ ⟨n,t,h⟩ K:=step_v (pur_index_arr hx hy hi hj) hn hK
end
theorem Step.le {P:Program} {o:Oper} {K:St→Prop} {s s':St} (k:Le s s') (q:Step P o s' K):Step P o s K:=fun m0 w0 a w hs=>q m0 w0 a w (hs.le k)
/-! what has come of a map, and what is left -/
theorem rng_step {β:Type} {t done:List β} {left:List Nat} {i:Nat} {p:β} (h:(done++remL t left).Perm t) (hi:i∈left) (hp:t[i]?=some p):((done++[p])++remL t (left.erase i)).Perm t:=by
 rw[List.append_assoc]
 exact ((remL_cons hi hp).append_left done).symm.trans h
theorem rng_end {β:Type} {t done:List β} {left:List Nat} (h:(done++remL t left).Perm t) (hl:left=[]):done.Perm t:=by
 subst hl;simpa[remL] using h
theorem rng_start {β:Type} (t:List β):([]++remL t (List.range t.length)).Perm t:=by rw[remL_all];exact .refl _
theorem rng_less {left:List Nat} {i:Nat} (hi:i∈left):(left.erase i).length<left.length:=by
 rw[List.length_erase_of_mem hi];have:=List.length_pos_of_mem hi;omega
end Go.VM
/- What comes behind a region is kept out of its goals. No condition. -/
namespace Go.VM
open Go
set_option linter.unusedVariables false
section
variable {ro:Option Nat} {P:Program} {ops:Array Oper} {Q:Exit→St→Prop} {s:St} {n:Nat} {t:List (Nat × AV)} {todo:List Nat} {id:Nat}
end
end Go.VM
/- A slice of one element, built and never changed. No condition. -/
namespace Go.VM
open Go
set_option linter.unusedVariables false
section
variable {ro:Option Nat} {P:Program} {n:Nat} {t:List (Nat × AV)} {h:Heap} {K:St→Prop} {x:Operand} {d:Nat} {ty:Nat} {pos:String} {af:Array Edge} {gd:Option (Nat × Bool)}
theorem S.build1r {bt e k bs:Nat} {g:Bool} {v0:AV} [he:TElem P bt e k bs g] (hK:K ⟨n,(d,.ro k [v0])::t,h⟩) (hx:evalA t x=some v0:=by rfl) (hk:v0.cells.length=k:=by rfl) (h1:Ones h v0.cells:=by (repeat (first|exact Ones.nil|refine Ones.cons rfl ?_|refine Ones.own (by (fail_if_success (apply memG));repeat (first|exact List.Mem.head _|assumption|refine List.Mem.tail _ ?_)) ?_))) (hbig:k≤16777216:=by first|omega|(simp[AV.cells];done)) (hn:Nat.blt d n=true:=by rfl):Step P ⟨some d,.buildSlice bt 1 #[(0,x)],ty,pos,af,gd⟩ ⟨n,t,h⟩ K:=by
 have:=S.build1 (P:=P) (ty:=ty) (pos:=pos) (af:=af) (gd:=gd) (K:=fun s'=>∃v,s'=⟨n,(d,.val v)::t,.own v k [v0] e::h⟩) (bt:=bt) (fun v=>⟨v,rfl⟩) hx hk h1 hbig hn
 intro m0 w0 a w hs Q
 refine Oper.wp_mono (fun a' w' ⟨s',⟨v,e⟩,hs'⟩=>⟨_,hK,?_⟩) (this m0 w0 a w hs Q)
 subst e
 exact hs'.frz .here (.cons .hit (.rest _)) (.rest _)
variable {ops:Array Oper} {hro:Heap} {todo:List Nat} {i:Nat}
theorem r2b {bt:Nat} (k:R2 ro P ops K n hro (i::todo) t h) (hi:ops[i]?=some ⟨some d,.buildSlice bt 1 #[(0,x)],ty,pos,af,gd⟩:=by rfl):R2 ro P ops K n hro (i::todo) t h:=k
theorem R2.one {bt e kk bs:Nat} {g:Bool} {v0:AV} [he:TElem P bt e kk bs g] (k:R2 ro P ops K n hro todo ((d,.ro kk [v0])::t) h)
  (hi:ops[i]?=some ⟨some d,.buildSlice bt 1 #[(0,x)],ty,pos,af,gd⟩:=by rfl)
  (hx:evalA (restr (readsOf ops ⟨some d,.buildSlice bt 1 #[(0,x)],ty,pos,af,gd⟩) t) x=some v0:=by rfl) (hk:v0.cells.length=kk:=by rfl)
  (h1:Ones hro v0.cells:=by (repeat (first|exact Ones.nil|refine Ones.cons rfl ?_|refine Ones.own (by (fail_if_success (apply memG));repeat (first|exact List.Mem.head _|assumption|refine List.Mem.tail _ ?_)) ?_))) (hbig:kk≤16777216:=by first|omega|(simp[AV.cells];done))
  (hw:Wanted ops (restr (readsOf ops ⟨some d,.buildSlice bt 1 #[(0,x)],ty,pos,af,gd⟩) t) ⟨some d,.buildSlice bt 1 #[(0,x)],ty,pos,af,gd⟩ true:=by first|exact wanted_n rfl|exact wanted_p rfl rfl rfl (by first|rfl|exact decide_eq_true (by assumption)|exact decide_eq_false (by assumption)|(simp;done)|(simp;omega)|fail)|fail)
  (hn:Nat.blt d n=true:=by rfl) (hr:rdy ops (i::todo) i=true:=by decide +kernel) (hni:inL todo i=false:=by rfl):R2 ro P ops K n hro (i::todo) t h:=
 R2.F (S.build1r (kf (LeH.refl _)) hx hk h1 hbig hn) k hi hw rfl hn hr hni
end
end Go.VM
/- One step of a walk, in short. No condition. -/
namespace Go.VM
open Go
set_option linter.unusedVariables false
theorem sv1 {g g':Prop} (k:g') (s:g'→g:=by (first|(intro k;first|(refine iR ?_;first|exact RL.gu rfl rfl rfl rfl rfl k|exact RL.cons rfl k|exact RL.nil k|fail)|(refine iS ?_;first|(refine iMl ?_;exact S.Ml k)|(refine iMe ?_;exact S.Me k)|(refine iAi ?_;exact S.Ai k)|exact S.Mc k|(refine iShr ?_;exact S.shrk k)|(refine iShl ?_;exact S.shlk k)|(refine iQuo ?_;exact S.quo32 k)|(refine iL ?_;exact S.L k)|exact S.V k|exact S.V3 k|exact S.V2 k|fail)|(refine iW ?_;first|exact W.rs k|exact W.ss k|exact W.region k|exact W.skip k|exact W.exit k|exact W.ret k|exact W.block k|fail)|exact thn k|exact thx k|exact thr k|exact inh k|exact inm rfl k|exact inn k|exact inr k|exact kd k|(refine iR2 ?_;first|exact R2.E k|exact R2.T k|exact R2.S k|(refine r2e ?_;first|exact R2.B k|exact R2.later k|fail)|(refine r2w ?_;first|(refine R2.melt ?_;first|exact R2.Bs k|exact R2.B k|exact R2.later k|fail)|exact R2.Bs k|exact R2.B k|exact R2.later k|fail)|(refine r2l ?_;first|exact R2.B (S.L k)|exact R2.laterN k|fail)|fail)|(refine drg ?_;exact W.dr (by (repeat (apply Sel.ro));exact Sel.done _) k)|fail)|fail)):g:=s k
theorem svg {g p q a b:Prop} (k:a→p) (l:b→q) (s:(a→p)→(b→q)→g:=by (first|(intro k l;first|(refine iR ?_;first|exact RL.gt rfl rfl rfl rfl rfl k l|exact RL.gf rfl rfl rfl rfl rfl k l|fail)|(refine iR2 ?_;exact R2.G k l)|fail)|fail)):g:=s k l
theorem svc {g p q a b:Prop} (k:a→p) (l:b→q) (s:(a→p)→(b→q)→g:=by (first|(intro k l;refine iW ?_;exact W.cd rfl k l)|fail)):g:=s k l
theorem sv2 {g g':Prop} (k:g') (s:g'→g:=by (first|(intro k;first|(refine iR ?_;first|exact RL.ex rfl rfl rfl rfl rfl rfl k|exact RL.sk rfl rfl rfl rfl rfl rfl k|fail)|(refine iW ?_;first|exact W.ct rfl k|exact W.cf rfl k|fail)|fail)|fail)):g:=s k
theorem svh {g p q a b:Prop} (k:a→p) (l:b→q) (s:(a→p)→(b→q)→g:=by (first|(intro k l;refine iW ?_;exact W.cond rfl k l)|fail)):g:=s k l
theorem sv3 {g g':Prop} (k:g') (s:g'→g:=by (first|(intro k;refine iW ?_;exact W.seq k)|fail)):g:=s k
theorem sva {g g':Prop} (k:g') (s:g'→g:=by (first|(intro k;refine iW ?_;exact W.assoc k)|fail)):g:=s k
theorem svb {g:Prop} {f:Nat→Prop} (k:∀b,f b) (s:(∀b,f b)→g:=by (first|(intro k;refine iS ?_;first|(refine iMr ?_;exact S.rng k)|(refine iA ?_;exact S.alloc k)|(refine iX ?_;exact S.box k)|fail)|fail)):g:=s k
structure Hold (p:Prop):Prop where
 out:p
theorem svz {g p:Prop} {f:Bool→Prop} (k:Hold (∀b:Bool,(b=true→p)→f b)) (s:Hold (∀b:Bool,(b=true→p)→f b)→g:=by (first|(intro k;refine iS ?_;refine iZ ?_;refine S.nilq (fun b hq=>?_);exact k.out b hq)|fail)):g:=s k
theorem svs {g g':Prop} (k:Hold g') (s:Hold g'→g:=by (first|(intro k;refine iS ?_;first|(refine iT ?_;first|(refine S.store_one ?_;exact k.out)|(refine S.store_whole ?_;exact k.out)|(refine S.store_elem ?_;exact k.out)|(refine S.store_field ?_;exact k.out)|fail)|(refine iY ?_;(refine S.copy ?_;exact k.out))|(refine iMd ?_;(refine S.mapD ?_;exact k.out))|fail)|fail)):g:=s k
theorem svu {g:Prop} {f:Value→Prop} (k:Hold (∀u,f u)) (s:Hold (∀u,f u)→g:=by (first|(intro k;refine iS ?_;first|(refine iC ?_;first|(refine S.append1 (fun u=>?_);exact k.out u)|(refine S.append (fun u=>?_);exact k.out u)|(refine S.append_nil (fun u=>?_);exact k.out u)|fail)|(refine iN ?_;first|(refine S.build1 (fun u=>?_);exact k.out u)|(refine S.build2 (fun u=>?_);exact k.out u)|(refine S.build3 (fun u=>?_);exact k.out u)|(refine S.build0 (fun u=>?_);exact k.out u)|fail)|(refine iK ?_;(refine S.make (fun u=>?_);exact k.out u))|fail)|fail)):g:=s k
theorem lee {s s':St} (h:Le s s':=by first|exact⟨rfl,(by repeat (first|exact LeT.nil|refine LeT.cons rfl ?_|refine LeT.consw rfl (by (repeat (first|exact Wk.refl _|exact Wk.nilr _|exact Wk.nilm|apply Wk.aggc|apply Wk.tupc|exact Wk.aggn|exact Wk.tupn));first|done|fail) ?_)),(by repeat (first|exact LeH.refl _|exact LeH.nil _|refine LeH.cons (by (fail_if_success (apply tkG));(repeat (first|exact Tk.here|apply Tk.there));first|done|fail) ?_|refine LeH.boxw (by (fail_if_success (apply tkG));(repeat (first|exact Tk.here|apply Tk.there));first|done|fail) (by (repeat (first|exact Wk.refl _|exact Wk.nilr _|exact Wk.nilm|apply Wk.aggc|apply Wk.tupc|exact Wk.aggn|exact Wk.tupn));first|done|fail) ?_|refine LeH.skip ?_))⟩|fail):Le s s':=h
theorem svA {g g':Prop} (k:Hold g') (s:Hold g'→g:=by (first|(intro k;exact sv1 k.out)|(intro k;exact svs k)|(intro k;(refine iS ?_;refine iMu ?_;refine S.mapU ?_;exact k.out))|(intro k;exact sva k.out)|(intro k;exact sv3 k.out)|(intro k;exact sv2 k.out)|fail)):g:=s k
theorem svT {g g':Prop} (k:Hold g') (s:Hold g'→g:=by (first|(intro k;exact sv1 k.out)|(intro k;exact svs k)|(intro k;exact sv2 k.out)|fail)):g:=s k
theorem svG {g p q a b:Prop} (k:a→p) (l:b→q) (s:(a→p)→(b→q)→g:=by (first|(intro k l;exact svg k l)|(intro k l;exact svc k l)|fail)):g:=s k l
theorem svx {g:Prop} (h:False:=by (first|omega|contradiction|fail)):g:=h.elim
structure Nb {α:Type} (f:α→Prop):Prop where
 b ::
 out:∀b,f b
structure Nu (f:Value→Prop):Prop where
 u ::
 out:∀u,f u
structure Ng (a p:Prop):Prop where
 g ::
 out:a→p
structure Nd (p q:Prop):Prop where
 d ::
 l:p
 r:q
theorem svz2 {g p:Prop} {f:Bool→Prop} (k:Hold (Nb fun b:Bool=>Ng (b=true→p) (f b))) (s:Hold (∀b:Bool,(b=true→p)→f b)→g:=by (first|(intro k;refine iS ?_;refine iZ ?_;refine S.nilq (fun b hq=>?_);exact k.out b hq)|fail)):g:=s ⟨fun b hq=>(k.out.out b).out hq⟩
theorem svu2 {g:Prop} {f:Value→Prop} (k:Hold (Nu f)) (s:Hold (∀u,f u)→g:=by (first|(intro k;refine iS ?_;first|(refine iC ?_;first|(refine S.append1 (fun u=>?_);exact k.out u)|(refine S.append (fun u=>?_);exact k.out u)|(refine S.append_nil (fun u=>?_);exact k.out u)|fail)|(refine iN ?_;first|(refine S.build1 (fun u=>?_);exact k.out u)|(refine S.build2 (fun u=>?_);exact k.out u)|(refine S.build3 (fun u=>?_);exact k.out u)|(refine S.build0 (fun u=>?_);exact k.out u)|fail)|(refine iK ?_;(refine S.make (fun u=>?_);exact k.out u))|fail)|fail)):g:=s ⟨k.out.out⟩
theorem svb2 {g:Prop} {f:Nat→Prop} (k:Hold (Nb f)) (s:(∀b,f b)→g:=by (first|(intro k;refine iS ?_;first|(refine iMr ?_;exact S.rng k)|(refine iA ?_;exact S.alloc k)|(refine iX ?_;exact S.box k)|fail)|fail)):g:=s k.out.out
theorem svh2 {g p q a b:Prop} (k:Hold (Nd (Ng a p) (Ng b q))) (s:(a→p)→(b→q)→g:=by (first|(intro k l;refine iW ?_;exact W.cond rfl k l)|fail)):g:=s k.out.l.out k.out.r.out
theorem svg2 {g p q a b:Prop} (k:Hold (Nd (Ng a p) (Ng b q))) (s:(a→p)→(b→q)→g:=by (first|(intro k l;exact svg k l)|(intro k l;exact svc k l)|fail)):g:=s k.out.l.out k.out.r.out
theorem svE {g g':Prop} (k:Hold g') (s:Hold g'→g:=by (first|(intro k;exact svz2 k)|(intro k;exact svA k)|(intro k;exact svu2 k)|(intro k;exact svg2 k)|(intro k;exact svh2 k)|(intro k;exact svb2 k)|fail)):g:=s k
theorem svF {g g':Prop} (k:Hold g') (s:Hold g'→g:=by (first|(intro k;exact svz2 k)|(intro k;exact svT k)|(intro k;exact svu2 k)|(intro k;exact svg2 k)|(intro k;exact svh2 k)|(intro k;exact svb2 k)|fail)):g:=s k
end Go.VM
