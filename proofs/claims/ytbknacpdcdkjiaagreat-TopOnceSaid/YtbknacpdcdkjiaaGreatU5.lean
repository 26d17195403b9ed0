import Derived.Test.YtbknacpdcdkjiaaGreatTy
import Derived.Test.YtbknacpdcdkjiaaGreatU4
import Derived.Shelf.SlSortCmp.WholeK
import Derived.Shelf.SlSortCmp.NoneTotal
/- What came in, in the walk's words: whole arguments. No condition. -/
namespace Go.Proofs.YtbknacpdcdkjiaaGreat
open Go Go.VM Go.RowKit Go.ChangeShapes Go.WideShapes
set_option linter.unusedVariables false
set_option linter.unusedSimpArgs false
section
variable {H:Type} {enc:TypeId × Value→H} {P:Program} {W:World} {N:Nat}
theorem mem_fst {l:List (DataW H × List MemPlace)} {x:DataW H × List MemPlace} (h:x∈l):x.1∈l.map (·.1):=List.mem_map.2 ⟨x,h,rfl⟩
theorem trod_fits:∀(fuel:Nat) (t:TypeId) (cs:List Value) (d:DataW H) (ps:List MemPlace),TRd enc P W fuel t cs=some (d,ps)→∀g sh,shOf P g t=some sh→Sm N d→∃l,RelL (heapG W) l cs∧Fits N sh l
 | 0,t,cs,d,ps,h,g,sh,hg,hs=>by simp[TRd,DataW.trod] at h
 | fuel+1,t,cs,d,ps,h,0,sh,hg,hs=>by simp[shOf] at hg
 | fuel+1,t,cs,d,ps,h,g+1,sh,hg,hs=>by
  have ih:=trod_fits fuel
  rw[shOf] at hg
  split at hg
  ·rename_i hu
   injection hg with hg;subst hg
   rcases cs with _|⟨v,_|⟨w,r⟩⟩<;>(try cases v)<;>simp[TRd,DataW.trod,hu] at h
   exact⟨[.val (.bool _)],by simp only[RelL];exact⟨_,_,rfl,rel_val rfl,rfl⟩,_,rfl⟩
  ·rename_i k hu
   injection hg with hg;subst hg
   rcases cs with _|⟨v,_|⟨w,r⟩⟩<;>(try cases v)<;>simp[TRd,DataW.trod,hu] at h
   obtain⟨⟨rfl,hw⟩,_⟩:=h
   exact⟨[.val (.int _ _)],by simp only[RelL];exact⟨_,_,rfl,rel_val rfl,rfl⟩,_,rfl,hw⟩
  ·rename_i hu
   injection hg with hg;subst hg
   rcases cs with _|⟨v,_|⟨w,r⟩⟩<;>(try cases v)<;>simp[TRd,DataW.trod,hu] at h
   obtain⟨hz,rfl,_⟩:=h
   refine⟨[.val (.string _)],by simp only[RelL];exact⟨_,_,rfl,rel_val rfl,rfl⟩,_,rfl,?_⟩
   rcases hs with hs|hs
   ·omega
   ·simp only[Rows.uptoBulk] at hs
    have:∀s:ByteArray,s.data.toList.length=s.size:=fun s=>by rw[Array.length_toList];rfl
    rw[this] at hs
    omega
  ·rename_i e hu
   split at hg
   ·cases hg
   rename_i hk
   split at hg
   ·rename_i s he
    injection hg with hg;subst hg
    rcases cs with _|⟨v,_|⟨w,r⟩⟩
    ·simp[TRd,DataW.trod,hu] at h
    ·cases v
     case slice A len cap=>
      cases A with
      | none=>
       have h':len=0∧cap=0:=by
        rcases len with _|len<;>rcases cap with _|cap<;>simp[TRd,DataW.trod,hu] at h<;>simp
       obtain⟨rfl,rfl⟩:=h'
       refine⟨[.ro _ []],?_,[],rfl,Nat.zero_le _,by simp⟩
       simp only[RelL,Rel]
       exact⟨_,_,rfl,⟨none,0,rfl,Nat.le_refl _,Nat.zero_le _,fun _=>rfl,fun h=>absurd rfl h⟩,rfl⟩
      | some a=>
       simp only[TRd,DataW.trod,hu] at h
       split at h
       ·rename_i hc
        simp only[Option.bind_eq_some_iff,Option.map_eq_some_iff,Prod.mk.injEq] at h
        obtain⟨xs,hx,rest,hr,rfl,_⟩:=h
        have hlx:=(mapM_at hx).1
        rw[List.length_range] at hlx
        have hsm:∀x∈xs,Sm N x.1:=fun x hx=>hs.sub (by simp only[Rows.uptoBulk];omega) (mem_fst hx)
        obtain⟨es,g1,g2,g3⟩:=elem_fits (P:=P) (fuel:=fuel) (e:=e) (s:=s) (fun cs d ps h hs=>ih e cs d ps h g s he hs) (List.range len) xs hx hsm
        rw[List.length_range] at g1
        refine⟨[.ro _ es],?_,es,rfl,?_,g2⟩
        ·simp only[RelL]
         exact⟨_,_,rfl,slice_rel (Nat.pos_of_ne_zero hk) hc.2.1 hc.2.2 g1 g3,rfl⟩
        ·rw[g1]
         rcases hs with hs|hs
         ·omega
         ·simp only[Rows.uptoBulk] at hs
          have:=bulk_len (xs.map (·.1))
          rw[List.length_map,hlx] at this
          omega
       ·cases h
     all_goals simp[TRd,DataW.trod,hu] at h
    ·simp[TRd,DataW.trod,hu] at h
   ·cases hg
  ·rename_i fs hu
   split at hg
   ·rename_i hc
    have h':cs.length=P.cellsOf t∧∃xs,(fs.toList.mapM fun f=>TRd enc P W fuel f.type ((cs.drop f.offset).take (P.cellsOf f.type)))=some xs∧d=.agg (xs.map (·.1)):=by
     rcases cs with _|⟨v,_|⟨w,r⟩⟩
     all_goals
      simp only[TRd,DataW.trod,hu] at h
      split at h
      ·rename_i hl
       simp only[Option.map_eq_some_iff,Prod.mk.injEq] at h
       obtain⟨xs,hx,rfl,_⟩:=h
       exact⟨hl,xs,hx,rfl⟩
      ·cases h
    obtain⟨hl,xs,hx,rfl⟩:=h'
    obtain⟨l,g1,g2⟩:=fld_fits (g:=shOf P g) (fun t cs d ps h sh hg hs=>ih t cs d ps h g sh hg hs) fs.toList 0 _ cs xs sh hl hc hg hx (fun x hx=>hs.sub (by simp only[Rows.uptoBulk];omega) (mem_fst hx))
    exact⟨l,by simpa using g1,g2⟩
   ·cases hg
  ·rename_i n e hu
   split at hg
   ·rename_i hc
    split at hg
    ·rename_i s he
     injection hg with hg;subst hg
     have h':cs.length=P.cellsOf t∧∃xs,((List.range n).mapM fun i=>TRd enc P W fuel e ((cs.drop (i * P.cellsOf e)).take (P.cellsOf e)))=some xs∧d=.agg (xs.map (·.1)):=by
      rcases cs with _|⟨v,_|⟨w,r⟩⟩
      all_goals
       simp only[TRd,DataW.trod,hu] at h
       split at h
       ·rename_i hl
        simp only[Option.map_eq_some_iff,Prod.mk.injEq] at h
        obtain⟨xs,hx,rfl,_⟩:=h
        exact⟨hl,xs,hx,rfl⟩
       ·cases h
     obtain⟨hl,xs,hx,rfl⟩:=h'
     rw[List.range_eq_range'] at hx
     obtain⟨l,g1,g2⟩:=arr_fits (s:=s) (fun cs d ps h hs=>ih e cs d ps h g s he hs) (hl.trans hc.symm) n 0 xs (by omega) hx (fun x hx=>hs.sub (by simp only[Rows.uptoBulk];omega) (mem_fst hx))
     exact⟨l,by simpa using g1,g2⟩
    ·cases hg
   ·cases hg
  ·cases hg
theorem isSt_flds {g:TypeId→Option Sh}:∀{fs:List Field} {sh:Sh},flds P g fs=some sh→sh.isSt=true
 | [],sh,h=>by simp only[flds,Option.some.injEq] at h;subst h;rfl
 | f::r,sh,h=>by
  simp only[flds] at h
  split at h
  ·injection h with h;subst h;rfl
  ·cases h
theorem isSt_chain (k:Nat) (s:Sh) (n:Nat):(chain k s n).isSt=true:=by cases n<;>rfl
theorem arg_fits {t:TypeId} {v:Value} {d:DataW H} {ps:List MemPlace} (h:DataW.Trod enc P W 0 (fun _=>true) true t v d ps) {base:Nat} (hv:Value.okWide P W .any base t v) {g:Nat} {sh:Sh} (hg:shOf P g t=some sh) (hs:Sm N d) :
  ∃x,Rel (heapG W) x v∧FitE N sh x:=by
 obtain⟨fuel,h⟩:=h
 obtain⟨l,g1,g2⟩:=trod_fits fuel t _ d ps h g sh hg hs
 have hon:=rel_ones g1 g2.ones
 cases g with
 | zero=>simp[shOf] at hg
 | succ g=>
  cases hst:sh.isSt
  ·obtain⟨x,rfl⟩:=g2.single hst
   simp only[RelL] at g1
   obtain⟨c,r,e,h1,rfl⟩:=g1
   have hvc:v=c:=by
    have hc:=hon c (by rw[e];exact .head _)
    rw[Value.okWide] at hv
    split at hv
    ·rename_i fs hu
     rw[shOf] at hg
     simp only[hu] at hg
     split at hg
     ·rw[isSt_flds hg] at hst;cases hst
     ·cases hg
    ·rename_i n el hu
     rw[shOf] at hg
     simp only[hu] at hg
     split at hg
     ·split at hg
      ·injection hg with hg;subst hg;rw[isSt_chain] at hst;cases hst
      ·cases hg
     ·cases hg
    ·cases v
     case agg cs=>
      exfalso
      rename_i h1' h2'
      unfold Cell.okWide at hv
      split at hv<;>simp_all
      unfold Cell.ok at hv
      split at hv<;>simp_all
     all_goals (simp[Value.cells] at e;exact e)
   subst hvc
   exact⟨x,h1,by unfold FitE FitB;rw[hst];exact g2⟩
  ·have hva:∃cs,v=.agg cs:=by
    rw[Value.okWide] at hv
    split at hv
    ·obtain⟨cs,h,_⟩:=hv;exact⟨cs,h⟩
    ·obtain⟨cs,h,_⟩:=hv;exact⟨cs,h⟩
    ·rename_i h1 h2
     exfalso
     rw[shOf] at hg
     split at hg
     ·injection hg with hg;subst hg;cases hst
     ·injection hg with hg;subst hg;cases hst
     ·injection hg with hg;subst hg;cases hst
     ·split at hg
      ·cases hg
      ·split at hg
       ·injection hg with hg;subst hg;cases hst
       ·cases hg
     ·rename_i fs hu;exact h1 _ hu
     ·rename_i n e hu;exact h2 _ _ hu
     ·cases hg
   obtain⟨cs,rfl⟩:=hva
   refine⟨.agg l,by simp only[Rel];exact⟨cs,rfl,by simpa[Value.cells] using g1⟩,?_⟩
   unfold FitE FitB
   rw[hst]
   exact⟨l,rfl,g2⟩
theorem relL_cons {m:Ghost} {x:AV} {xs:List AV} {c:Value} {cs:List Value} (h:Rel m x c) (k:RelL m xs cs):RelL m (x::xs) (c::cs):=by
 simp only[RelL];exact⟨c,cs,rfl,h,k⟩
def FitAll (N:Nat):List Sh→List AV→Prop
 | [],l=>l=[]
 | s::r,l=>∃x q,l=x::q∧FitE N s x∧FitAll N r q
theorem args_fit:∀(ts:List TypeId) (vs:List Value) (ds:List (DataW H)) (ps:List MemPlace) (shs:List Sh),DataW.TrodAll enc P W 0 (fun _=>true) true ts vs ds ps→ts.map (shOf P 20)=shs.map some →
  ∀{base:Nat},(∀(j:Nat) t v,ts[j]?=some t→vs[j]?=some v→Value.okWide P W .any base t v)→(∀d∈ds,Sm N d)→∃l,RelL (heapG W) l vs∧FitAll N shs l
 | [],[],[],ps,shs,h,hs,_,hv,hb=>by
  have:shs=[]:=by cases shs with|nil=>rfl|cons _ _=>simp at hs
  subst this
  exact⟨[],by simp[RelL],rfl⟩
 | t::ts,v::vs,d::ds,ps,shs,h,hs,_,hv,hb=>by
  obtain⟨p,q,h1,h2,_⟩:=h
  cases shs with
  | nil=>simp at hs
  | cons s shs=>
   simp only[List.map_cons,List.cons.injEq] at hs
   obtain⟨x,g1,g2⟩:=arg_fits h1 (hv 0 t v rfl rfl) hs.1 (hb d (.head _))
   obtain⟨l,k1,k2⟩:=args_fit ts vs ds q shs h2 hs.2 (fun j t v h1 h2=>hv (j+1) t v (by simpa using h1) (by simpa using h2)) (fun d hd=>hb d (.tail _ hd))
   exact⟨x::l,relL_cons g1 k1,x,l,rfl,g2,k2⟩
 | [],_::_,_,ps,shs,h,_,_,_,_=>by simp[DataW.TrodAll] at h
 | [],[],_::_,ps,shs,h,_,_,_,_=>by simp[DataW.TrodAll] at h
 | _::_,[],_,ps,shs,h,_,_,_,_=>by simp[DataW.TrodAll] at h
 | _::_,_::_,[],ps,shs,h,_,_,_,_=>by simp[DataW.TrodAll] at h
theorem trods_stay (hl:laidOutB P=true) {W':World} (hb:Below W.heap.size W W'):∀(ts:List TypeId) (vs:List Value) (ds:List (DataW H)) (ps:List MemPlace),(ts.all fun t=>P.readableRec t&&decide (t<P.types.size))=true →
  DataW.TrodAll enc P W 0 (fun _=>true) true ts vs ds ps→DataW.TrodAll enc P W' 0 (fun b=>decide (b<W.heap.size)) true ts vs ds ps
 | [],[],[],ps,_,h=>h
 | t::ts,v::vs,d::ds,ps,hr,h=>by
  obtain⟨p,q,h1,h2,rfl⟩:=h
  rw[List.all_cons,Bool.and_eq_true,Bool.and_eq_true] at hr
  have lt:∀x∈p,x.block<W.heap.size:=by obtain⟨m,hm⟩:=h1;exact DataW.trod_lt m _ _ _ hm
  exact⟨p,q,Below.trod hl hr.1.1 (of_decide_eq_true hr.1.2) h1 hb lt,trods_stay hl hb ts vs ds q hr.2 h2,rfl⟩
 | [],_::_,_,ps,_,h=>by simp[DataW.TrodAll] at h
 | [],[],_::_,ps,_,h=>by simp[DataW.TrodAll] at h
 | _::_,[],_,ps,_,h=>by simp[DataW.TrodAll] at h
 | _::_,_::_,[],ps,_,h=>by simp[DataW.TrodAll] at h
theorem trodAll_len {ts:List TypeId} {vs:List Value} {ds:List (DataW H)} {ps:List MemPlace} {base:Nat} {sp:Nat→Bool} {hd:Bool} (h:DataW.TrodAll enc P W base sp hd ts vs ds ps):ds.length=ts.length:=by
 induction ts generalizing vs ds ps with
 | nil=>cases vs<;>cases ds<;>simp[DataW.TrodAll] at h ⊢
 | cons t ts ih=>
  cases vs<;>cases ds<;>simp only[DataW.TrodAll] at h
  obtain⟨_,_,_,h2,_⟩:=h
  simp[ih h2]
theorem ds2 {α:Type} {ds:List α} (h:ds.length=2):∃a b,ds=[a,b]:=by
 match ds,h with|[a,b],_=>exact⟨a,b,rfl⟩
theorem holds_heapG (W:World):Holds (heapG W) W:=fun b o h=>h
theorem row_walk {f:FuncId} {ts:List TypeId} {shs:List Sh} (hsh:ts.map (shOf P 20)=shs.map some) (hk:∀l,FitAll N shs l→ACalls P f l [] (fun r h'=>r=.val (.bool true)))
  {args:Array Value} {ds:List (DataW H)} {ps:List MemPlace} (hA:DataW.TrodAll enc P W 0 (fun _=>true) true ts args.toList ds ps) {base:Nat} (hv:∀(j:Nat) t v,ts[j]?=some t→args.toList[j]?=some v→Value.okWide P W .any base t v)
  (hb:∀d∈ds,Sm N d) (hl:laidOutB P=true) (hr:(ts.all fun t=>P.readableRec t&&decide (t<P.types.size))=true) :
  Calls P f args W fun e W'=>e=.returned (.bool true)∧Below W.heap.size W W'∧DataW.TrodAll enc P W' 0 (fun b=>decide (b<W.heap.size)) true ts args.toList ds ps:=by
 obtain⟨l,g1,g2⟩:=args_fit ts args.toList ds ps shs hA hsh hv hb
 refine (hk l g2 (heapG W) W args.toList (holds_heapG W) g1 ⟨by simp,by simp⟩).mono fun e W' ⟨m',v,r,h',q1,q2,q3,q4,q5,q6,q7,q8⟩=>?_
 subst q8
 simp only[Rel] at q5
 obtain⟨rfl,_⟩:=q5
 have hbel:Below W.heap.size W W':=⟨q4.os,q4.tape,q4.output,q4.size,fun k hk=>q7.frame k hk (by simp)⟩
 exact⟨q1,hbel,trods_stay hl hbel ts _ ds ps hr hA⟩
end
end Go.Proofs.YtbknacpdcdkjiaaGreat

/- slices.SortFunc at structs, out of the kit's contract. No condition. -/
namespace Go.VM
open Go Go.Sort Go.Shelf
set_option linter.unusedVariables false
set_option linter.unusedSimpArgs false
set_option linter.unusedSectionVars false
theorem world_grow {w w':World} (h1:w'.os=w.os) (h2:w'.tape=w.tape) (h3:w'.output=w.output) (h4:w.drawn≤w'.drawn) (h5:∀b,b<w.heap.size→w'.heap[b]?=w.heap[b]?) (h6:w.heap.size≤w'.heap.size):∃q os',w'=grow (w.drewN q) os':=by
 refine⟨w'.drawn - w.drawn,w'.heap.extract w.heap.size w'.heap.size,?_⟩
 obtain⟨hp,tp,dr,os,out⟩:=w
 obtain⟨hp',tp',dr',os',out'⟩:=w'
 simp only at h1 h2 h3 h4 h5 h6
 subst h1;subst h2;subst h3
 have e1:hp'=hp++hp'.extract hp.size hp'.size:=by
  apply Array.ext_getElem?
  intro i
  by_cases hi:i<hp.size
  ·rw[Array.getElem?_append_left hi];exact h5 i hi
  ·rw[Array.getElem?_append_right (by omega),Array.getElem?_extract]
   by_cases hi2:i<hp'.size
   ·rw[if_pos (by omega)];congr 1;omega
   ·rw[Array.getElem?_eq_none (by omega),if_neg (by omega)]
 unfold grow World.drewN
 simp only
 rw[←e1,Nat.add_sub_cancel' h4]
theorem acalls_grow {P:Program} {g:Nat} {vs:List AV} {us:List Value} {u:Value} (hc:ACalls P g vs [] (fun r h'=>r=.val u∧h'=[])) (hr:RelL (fun _=>none) vs us) (w:World) :
  Calls P g us.toArray w (fun e w'=>e=.returned u∧∃q os',w'=grow (w.drewN q) os'):=by
 refine (hc (fun _=>none) w us (fun b o h=>by cases h) hr ⟨by simp,fun x hx=>by cases hx⟩).mono ?_
 rintro e w' ⟨m',v,r,h',rfl,g1,g2,g3,g4,g5,g6,rfl,rfl⟩
 simp only[Rel] at g4
 obtain⟨rfl,_⟩:=g4
 exact⟨rfl,world_grow g3.os g3.tape g3.output g3.drawn (fun b hb=>g6.frame b hb (by simp)) g3.size⟩
theorem relL_vals_eq {m:Ghost}:∀(a b:List Value),RelL m (a.map .val) b→b=a
 | [],b,hb=>by simpa[RelL] using hb
 | y::a,b,hb=>by
  simp only[List.map_cons,RelL,Rel] at hb
  obtain⟨c,r,rfl,⟨rfl,_⟩,hb⟩:=hb
  rw[relL_vals_eq a r hb]
section
variable {α:Type} [Inhabited α] {enc:α→List Value} {k:Nat}
theorem flat_get (hk:∀x,(enc x).length=k) (h0:0<k):∀(l:List α) (t:Nat),(l.flatMap enc)[t]?=(l[t / k]?).bind fun x=>(enc x)[t % k]?
 | [],t=>by simp
 | x::l,t=>by
  rw[List.flatMap_cons]
  by_cases h:t<k
  ·rw[List.getElem?_append_left (by rw[hk];exact h),Nat.div_eq_of_lt h,Nat.mod_eq_of_lt h];simp
  ·rw[List.getElem?_append_right (by rw[hk];omega),hk,flat_get hk h0 l (t - k)]
   obtain⟨s,rfl⟩:∃s,t=s+k:=⟨t - k,by omega⟩
   rw[Nat.add_sub_cancel,Nat.add_div_right _ h0,Nat.add_mod_right]
   simp
theorem relE_flat {m:Ghost} (hk:∀x,(enc x).length=k):∀(l:List α) (xs:List Value),RelE m k (l.map fun x=>.agg ((enc x).map .val)) xs→xs=l.flatMap enc
 | [],xs,h=>by simpa[RelE] using h
 | x::l,xs,h=>by
  simp only[List.map_cons,RelE] at h
  obtain⟨v,r,rfl,h1,h2,h3⟩:=h
  rw[relE_flat hk l r h3,List.flatMap_cons]
  congr 1
  simp only[Rel] at h2
  obtain⟨cs,rfl,h2⟩:=h2
  show cs.toList=enc x
  exact relL_vals_eq _ _ h2
theorem flat_relE {m:Ghost} (hk:∀x,(enc x).length=k) (h1:∀x,∀v∈enc x,v.oneCell'=true):∀(l:List α),RelE m k (l.map fun x=>.agg ((enc x).map .val)) (l.flatMap enc)
 | []=>by simp[RelE]
 | x::l=>by
  simp only[List.map_cons,RelE,List.flatMap_cons]
  exact⟨.agg (enc x).toArray,_,rfl,by simpa[Value.cells] using hk x,by simp only[Rel];exact⟨_,rfl,relL_vals m _ (h1 x)⟩,flat_relE hk h1 l⟩
theorem flatK_get (hk:∀x,(enc x).length=k) (h0:0<k) (d:Array α) {j:Nat} (hj:j<d.size * k):(d.toList.flatMap enc)[j]?=some ((flatK enc k d)[j]!):=by
 have h2:j / k<d.size:=(Nat.div_lt_iff_lt_mul h0).2 hj
 have h3:j % k<k:=Nat.mod_lt _ h0
 rw[flat_get hk h0,get_flatK _ _ _ _ hj,Array.getElem?_toList,Array.getElem?_eq_getElem h2]
 simp only[Option.bind_some]
 rw[List.getElem?_eq_getElem (by rw[hk];exact h3),getElem!_pos d _ h2,getElem!_pos _ _ (by rw[hk];exact h3)]
theorem sort_gen {P:Program} {f:Nat} {ex:List Value} {Q:List α→Prop} (h0:0<k) {E:α→AV} (hk:∀x,(enc x).length=k) (h1:∀x,∀v∈enc x,v.oneCell'=true) (hE1:∀m (l:List α) xs,RelE m k (l.map E) xs→xs=l.flatMap enc) (hE2:∀m (l:List α),RelE m k (l.map E) (l.flatMap enc))
  {v:Value} {l:List α} {e:Nat} {h:Heap}
  (hn:l=[]→∀A w,Calls P f (Value.slice A 0 0::ex).toArray w (fun e' w'=>e'=.returned (.tuple #[])∧w'=w))
  (hq:l=[]→Q [])
  (hs:∀b cap w,b<w.heap.size→HoldsK enc k w b 0 l.toArray→Calls P f (Value.slice (some ⟨b,0,none⟩) l.length cap::ex).toArray w (fun e' w'=>e'=.returned (.tuple #[])∧∃d' n os,d'.size=l.length∧Q d'.toList∧w'=Go.Proofs.sortWorldK enc k w b 0 n d' os)) :
  ACalls P f (.val v::ex.map .val) (.own v k (l.map E) e::h)
   (fun r h'=>r=.tup []∧∃l':List α,Q l'∧h'=.own v k (l'.map E) e::h):=by
 intro m w us hm hr hh
 simp only[RelL,Rel] at hr
 obtain⟨c1,r1,rfl,⟨rfl,_⟩,hr⟩:=hr
 have:=relL_vals_eq _ _ hr
 subst this
 have hown:=hh.2 _ (List.mem_cons_self ..)
 rcases hown.2.own_cases with ⟨A,rfl,hl0⟩|⟨b,cap,cur,xs,rfl,hc0,q7,q8,q9,q10,q11,q12,q4,q5,q6,_⟩
 ·have:l=[]:=by simpa using hl0
  subst this
  refine (hn rfl A w).mono ?_
  rintro e' w' ⟨rfl,rfl⟩
  exact⟨m,_,_,_,rfl,Gle.refl m,hm,Same.refl _,by simp only[Rel];exact⟨#[],rfl,by simp[RelL]⟩,hh,⟨fun b o h=>.inl h,fun _ _ _=>rfl,fun x hx b hb=>.inl ⟨x,hx,hb⟩⟩,rfl,[],hq rfl,rfl⟩
 ·have hxs:=hE1 _ l xs q4
  rw[List.length_map] at q8 q11 q12
  have hlt:b<w.heap.size:=(Array.getElem?_eq_some_iff.1 q7).1
  have hcur:∀j,j<l.length * k→cur[j]?=some ((flatK enc k l.toArray)[j]!):=fun j hj=>by
   rw[←flatK_get hk h0 l.toArray (by simpa using hj)]
   show cur[j]?=(l.flatMap enc)[j]?
   rw[←hxs,←q11,List.getElem?_take,if_pos hj,Array.getElem?_toList]
  have hH:HoldsK enc k w b 0 l.toArray:=fun j hj=>by
   rw[size_flatK] at hj
   refine⟨?_,?_⟩
   ·rw[Nat.zero_add,cell_of q7,hcur j (by simpa using hj)];rfl
   ·simp[World.frozen?,q7]
  have key:=hs b cap w hlt hH
  rw[List.length_map]
  refine key.mono ?_
  rintro e' w' ⟨rfl,d',n,os,hds',hQ,rfl⟩
  have hsz:(Go.Proofs.sortWorldK enc k w b 0 n d' os).heap=(w.heap.modify b (onCells (putCells id 0 (flatK enc k d'))))++os:=rfl
  have hother:∀b',b'<w.heap.size→b'≠b→(Go.Proofs.sortWorldK enc k w b 0 n d' os).heap[b']?=w.heap[b']?:=fun b' hb' hne=>by
   rw[hsz,Array.getElem?_append_left (by simpa using hb'),Array.getElem?_modify,if_neg (fun e=>hne e.symm)]
  have hat:(Go.Proofs.sortWorldK enc k w b 0 n d' os).heap[b]?=some (.cells (putCells id 0 (flatK enc k d') cur) e (0,0)):=by
   rw[hsz,Array.getElem?_append_left (by simpa using hlt),Array.getElem?_modify,if_pos rfl,q7];rfl
  have hsame:Same w (Go.Proofs.sortWorldK enc k w b 0 n d' os):=⟨rfl,rfl,rfl,by rw[hsz];simp,by show w.drawn≤w.drawn+n;omega⟩
  have hcs:(putCells id 0 (flatK enc k d') cur).size=cur.size:=by simp[putCells]
  have hlk:l.length * k≤cur.size:=by rw[q10];exact Nat.mul_le_mul_right _ q8
  have htake:(putCells id 0 (flatK enc k d') cur).toList.take (l.length * k)=d'.toList.flatMap enc:=by
   apply List.ext_getElem?
   intro j
   rw[List.getElem?_take]
   by_cases hj:j<l.length * k
   ·rw[if_pos hj,Array.getElem?_toList]
    have hj':j<d'.size * k:=by rw[hds'];exact hj
    rw[flatK_get hk h0 d' hj']
    have hjc:j<cur.size:=by omega
    simp only[putCells,Array.getElem?_mapIdx,Array.getElem?_eq_getElem hjc,Option.map_some,size_flatK,Nat.zero_le,Nat.zero_add,hj',Nat.sub_zero,true_and,if_true,id]
   ·rw[if_neg hj,List.getElem?_eq_none]
    rw[List.length_flatMap]
    have:(List.map (fun a=>(enc a).length) d'.toList).sum=d'.size * k:=by
     have e1:(List.map (fun a=>(enc a).length) d'.toList)=List.replicate d'.toList.length k:=by
      rw[List.eq_replicate_iff];exact⟨by simp,fun x hx=>by obtain⟨y,_,rfl⟩:=List.mem_map.1 hx;exact hk y⟩
     rw[e1,List.sum_replicate_nat];simp
    rw[this,hds'];omega
  have hnew:OERel m (Go.Proofs.sortWorldK enc k w b 0 n d' os) (.own (.slice (some ⟨b,0,none⟩) l.length cap) k (d'.toList.map E) e):=by
   have hlen:(d'.toList.map E).length=l.length:=by simp[hds']
   refine oerel_own hlen.symm hc0 hat (by rw[hlen];exact q8) q9 (by rw[hcs];exact q10) ?_ ?_
   ·rw[hlen,htake];exact hE2 _ _
   ·rw[hlen,htake]
    intro y hy
    obtain⟨x,_,hx⟩:=List.mem_flatMap.1 hy
    exact h1 x y hx
  have hblk:(OE.own (.slice (some ⟨b,0,none⟩) l.length cap) k (l.map E) e).blk=some b:=by
   simp[OE.blk,ownBlk];omega
  rw[List.length_map] at hh
  refine⟨m,_,_,_,rfl,Gle.refl m,fun b' o hb'=>?_,hsame,by simp only[Rel];exact⟨#[],rfl,by simp[RelL]⟩,hh.up hm .here (fun b' hb' hne=>hother b' hb' fun e=>hne (by rw[e];exact hblk)) hnew (fun b' hb'=>.inl hb'),⟨fun b o h=>.inl h,fun b' hb' hn=>hother b' hb' fun e=>hn ⟨_,List.mem_cons_self ..,by rw[e];exact hblk⟩,fun x hx b' hb'=>?_⟩,rfl,d'.toList,hQ,rfl⟩
  ·refine (hother b' (hm.lt hb') fun e=>?_).trans (hm b' o hb')
   have:=hown.1 b hblk
   rw[e,this] at hb';cases hb'
  ·rcases List.mem_cons.1 hx with rfl|hx
   ·exact .inl ⟨_,List.mem_cons_self ..,hb'⟩
   ·exact .inl ⟨x,.tail _ hx,hb'⟩
theorem sortFunc_c {P:Program} {ρ:Ren} (L:Go.Proofs.SlLaysF0.n6 P ρ) (h0:0<k) (aE:∀w,(isAgg (ρ.t 24)).run P w=.ok true w) (zE:∀w,(Go.sizeOf (ρ.t 24)).run P w=.ok k w) (hk:∀x,(enc x).length=k) (h1:∀x,∀v∈enc x,v.oneCell'=true)
  (cf:α→α→Int) (hO:SWO (Go.Proofs.ltOf cf)) {g:Nat} [hg:TFun P g] (hcmp:∀x y:α,ACalls P g [.agg ((enc x).map .val),.agg ((enc y).map .val)] [] (fun r h'=>r=.val (.int .i64 (cf x y))∧h'=[]))
  {v:Value} {l:List α} {e:Nat} {h:Heap} (hl:l.length<4611686018427387904) :
  ACalls P (ρ.f 6) [.val v,.val (.func (.func g) #[] #[])] (.own v k (l.map fun x=>.agg ((enc x).map .val)) e::h)
   (fun r h'=>r=.tup []∧∃l':List α,l'.Perm l∧l'.Pairwise (fun x y=>Go.Proofs.ltOf cf y x=false)∧h'=.own v k (l'.map fun x=>.agg ((enc x).map .val)) e::h):=by
 refine (sort_gen (E:=fun x=>.agg ((enc x).map .val)) (ex:=[.func (.func g) #[] #[]]) (Q:=fun l'=>l'.Perm l∧l'.Pairwise (fun x y=>Go.Proofs.ltOf cf y x=false)) h0 hk h1 (fun _=>relE_flat hk) (fun _=>flat_relE hk h1) (fun _ A w=>Go.Proofs.AnyF.slices_SortFunc_none L A 0 _ w) (by rintro rfl;exact⟨.refl _,.nil⟩) fun b cap w hlt hH=>?_).mono (by rintro r h' ⟨rfl,l',⟨q1,q2⟩,rfl⟩;exact⟨rfl,l',q1,q2,rfl⟩)
 have eg:∀args w,(callFunc g args).run P w=.ok (.enter g args) w:=fun args w=>run_callF args w
 have hcl:Go.Proofs.CmpLays P g #[] enc k cf b 0 l.toArray.size w:=fun m os dk _ x y=>by
  have:=acalls_grow (hcmp x y) (us:=[.agg (enc x).toArray,.agg (enc y).toArray]) (by
   simp only[RelL,Rel]
   exact⟨_,_,rfl,⟨_,rfl,relL_vals _ _ (h1 x)⟩,_,_,rfl,⟨_,rfl,relL_vals _ _ (h1 y)⟩,rfl⟩) (Go.Proofs.sortWorldK enc k w b 0 m dk os)
  simpa using this
 refine (Go.Proofs.AnyQ.slices_SortFunc L k aE zE enc hk h1 cf hO g #[] b 0 cap l.toArray w eg hcl hH hlt (by simpa using hl)).mono ?_
 rintro e' w' ⟨rfl,d',n,os,hp,hs,rfl⟩
 obtain⟨hds,hd2,hpm⟩:=hp
 have hex:∀a:Array α,a.extract 0 a.size=a:=fun a=>by simp
 have hds':d'.size=l.length:=by simpa using hds
 have hpm':d'.toList.Perm l:=by
  have e1:l.toArray.size=d'.size:=hds.symm
  rw[hex l.toArray,e1,hex d'] at hpm
  simpa using hpm
 refine⟨rfl,d',n,os,hds',⟨hpm',?_⟩,rfl⟩
 rw[List.pairwise_iff_getElem]
 intro i j hi hj hij
 simp only[Array.length_toList] at hi hj
 have:=hs i j (Nat.zero_le _) hij (by rw[←hds];exact hj)
 rw[getElem!_pos d' j hj,getElem!_pos d' i hi] at this
 simpa using this
end
end Go.VM
