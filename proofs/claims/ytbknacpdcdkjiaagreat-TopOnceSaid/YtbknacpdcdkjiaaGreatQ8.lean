import Derived.Test.YtbknacpdcdkjiaaGreatQ5
/- Trees: twin. No condition. -/
namespace Go.Proofs.YtbknacpdcdkjiaaGreat
open Go Go.VM
set_option maxRecDepth 100000
attribute [local irreducible] PurV Pur Step RL W D ACalls Then InBlock Fini
set_option linter.unusedVariables false
set_option linter.unusedSimpArgs false
set_option maxHeartbeats 20000000
def idA (x:AV):AV:=x
def entV (k0:Int) (v:Value) (p:Int × List Int):Int × AV:=(p.1,if p.1=k0 then .val v else vIds p.2)
theorem lkF_perm {α:Type} {t t':List (Int × α)} {i:Int} (hn:(t.map (·.1)).Nodup) (hp:t'.Perm t):lkF t' i=lkF t i:=by
 cases e:lkF t i with
 | none=>exact lkF_none.2 fun p h=>lkF_none.1 e p (hp.mem_iff.1 h)
 | some a=>exact lkF_nodup (((hp.map (·.1)).nodup_iff).2 hn) (hp.mem_iff.2 (lkF_some e))
theorem ent_keys {k0:Int} {v:Value} (t:SVT):(t.map (entV k0 v)).map (·.1)=t.map (·.1):=by rw[List.map_map];rfl
theorem ent_miss {k0 c:Int} {t:SVT} {l:List Int} (hc:¬ c=k0) (v:Value):(t++[(c,l)]).map (entV k0 v)=t.map (entV k0 v)++[(c,.ro 1 (ints .u32 l))]:=by
 rw[List.map_append,List.map_singleton]
 unfold entV vIds
 rw[if_neg hc]
theorem ent_hit {k0 c:Int} {t:SVT} {l:List Int} {w:Value} (hc:c=k0) (hn:c∉t.map (·.1)) (v:Value):(t++[(c,l)]).map (entV k0 w)=t.map (entV k0 v)++[(c,.val w)]:=by
 rw[List.map_append,List.map_singleton]
 congr 1
 ·refine List.map_congr_left fun p hp=>?_
  have:p.1≠k0:=fun e=>hn (by rw[hc,←e];exact List.mem_map.2 ⟨p,hp,rfl⟩)
  unfold entV
  rw[if_neg this,if_neg this]
 ·unfold entV;rw[if_pos hc]
theorem ofs_miss {k0 c:Int} {t:SVT} {l:List Int} (hc:¬ c=k0):ofS (t++[(c,l)]) k0=ofS t k0:=by
 unfold ofS lkF
 rw[List.find?_append]
 cases e:t.find? (fun p=>decide (p.1=k0)) with
 | some a=>rfl
 | none=>simp[hc]
theorem ofs_hit {k0 c:Int} {t:SVT} {l:List Int} (hc:c=k0) (hn:c∉t.map (·.1)):ofS (t++[(c,l)]) k0=l:=by
 unfold ofS lkF
 have e:t.find? (fun p=>decide (p.1=k0))=none:=by
  rw[List.find?_eq_none]
  intro p hp q
  exact hn (by rw[hc,←of_decide_eq_true q];exact List.mem_map.2 ⟨p,hp,rfl⟩)
 rw[List.find?_append,e]
 simp[hc]
theorem twin_c (k:SVT) (up:UP) (k0:Int) (h:Heap) (hn:(k.map (·.1)).Nodup) (hu:(up.map (·.1)).Nodup) (hl:∀p∈k,p.2.length≤1000000) (hkl:k.length≤1000000) :
  ACalls Tryz.prog 60 [encT k up] h (fun r h'=>∃bk bu v,r=.agg [.val (.map (some bk)),.val (.map (some bu))]∧h'=mpV bk .u32 idA (k.map (entV k0 v))::mpV bu .u32 (vI .u32) up::.own v 1 (ints .u32 (ofS k k0)) 38::h):=by
 unfold encT
 refine ACalls.intro Tryz.func60 rfl Tryz.ntmps60 Tryz.results60 (Nat.le_of_ble_eq_true rfl) ?_
 (repeat' first|refine svE ⟨?_⟩|refine .b fun b=>?_|refine .u fun u=>?_|refine .d ?_ ?_|(refine .g fun hg=>?_;try exact svx)|fail)
 revert b;intro b2
 revert b;intro b1
 refine S.mkm0 idA (fun bk=>?_)
 (repeat' first|refine svE ⟨?_⟩|refine .b fun b=>?_|refine .u fun u=>?_|refine .d ?_ ?_|(refine .g fun hg=>?_;try exact svx)|fail)
 refine S.mkm0 (vI .u32) (fun bu=>?_)
 (repeat' first|refine svE ⟨?_⟩|refine .b fun b=>?_|refine .u fun u=>?_|refine .d ?_ ?_|(refine .g fun hg=>?_;try exact svx)|fail)
 revert b;intro b3
 have cp:=cpy_c bu up (.box b3 [.val (.map (some bk)),.val (.map (some bu))] 28::mpV bk .u32 idA ([]:List (Int × AV))::.box b2 [.val (.map none),.val (.map none)] 28::.box b1 [mapV .u32 vIds k,mapV .u32 (vI .u32) up] 28::h) hu
 refine Step.le (s':=⟨28,[(12,mapV .u32 (vI .u32) up),(10,.val (.map (some bu))),(3,.val (.pointer (some ⟨b3,0,none⟩))),(2,.val (.pointer (some ⟨b2,0,none⟩))),(1,.val (.pointer (some ⟨b1,0,none⟩)))],mpV bu .u32 (vI .u32) ([]:UP)::.box b3 [.val (.map (some bk)),.val (.map (some bu))] 28::mpV bk .u32 idA ([]:List (Int × AV))::.box b2 [.val (.map none),.val (.map none)] 28::.box b1 [mapV .u32 vIds k,mapV .u32 (vI .u32) up] 28::h⟩) lee ?_
 refine S.call ?_;refine (cp).mono ?_;rintro r h' ⟨rfl,hh⟩;subst hh
 (repeat' first|refine svE ⟨?_⟩|refine .b fun b=>?_|refine .u fun u=>?_|refine .d ?_ ?_|(refine .g fun hg=>?_;try exact svx)|fail)
 revert b;intro b16
 refine W.nil_ 1 38 ?_
 refine W.loop (J:=fun x:List Nat × Option Nat × SVT × Value=>⟨28,[(16,.val (.pointer (some ⟨b16,0,none⟩))),(3,.val (.pointer (some ⟨b3,0,none⟩))),(2,.val (.pointer (some ⟨b2,0,none⟩)))],mitV b16 .u32 vIds k x.1 x.2.1::mpV bk .u32 idA ((x.2.2.1.map (entV k0 x.2.2.2)))::mpV bu .u32 (vI .u32) up::.own x.2.2.2 1 (ints .u32 ((ofS x.2.2.1 k0))) 38::.box b3 [.val (.map (some bk)),.val (.map (some bu))] 28::.box b2 [.val (.map none),.val (.map none)] 28::h⟩)
  (Φ:=fun x=>(x.2.2.1++remL k x.1).Perm k) (μ:=fun x=>x.1.length) (List.range k.length,none,[],.slice none 0 0) lee (rng_start k) ?_
 rintro⟨left,last,done,v⟩ hp
 dsimp only at hp ⊢
 (repeat' first|refine svE ⟨?_⟩|refine .b fun b=>?_|refine .u fun u=>?_|refine .d ?_ ?_|(refine .g fun hg=>?_;try exact svx)|fail)
 refine S.next (fun hle=>?_) (fun i p hi hpi=>?_)
 ·have hd:=rng_end hp hle
  rw[show ofS done k0=ofS k k0 by unfold ofS;rw[lkF_perm hn hd]]
  (repeat' first|refine svE ⟨?_⟩|refine .b fun b=>?_|refine .u fun u=>?_|refine .d ?_ ?_|(refine .g fun hg=>?_;try exact svx)|fail)
  exact fin_r (h':=mpV bk .u32 idA (k.map (entV k0 v))::mpV bu .u32 (vI .u32) up::.own v 1 (ints .u32 (ofS k k0)) 38::h) ⟨bk,bu,v,rfl,rfl⟩ (h2:=.skip (leh_mp (hd.map _) (by repeat (first|exact LeH.refl _|exact LeH.nil _|refine LeH.cons (by (fail_if_success (apply tkG));(repeat (first|exact Tk.here|apply Tk.there));first|done|fail) ?_|refine LeH.boxw (by (fail_if_success (apply tkG));(repeat (first|exact Tk.here|apply Tk.there));first|done|fail) (by (repeat (first|exact Wk.refl _|exact Wk.nilr _|exact Wk.nilm|apply Wk.aggc|apply Wk.tupc|exact Wk.aggn|exact Wk.tupn));first|done|fail) ?_|refine LeH.skip ?_))))
 ·have hst:=rng_step hp hi hpi
  have hnd:=(hst.map (·.1)).nodup_iff.2 hn
  rw[List.map_append,List.map_append,List.append_assoc,List.nodup_append] at hnd
  have hnew:p.1∉done.map (·.1):=fun hm=>hnd.2.2 p.1 hm p.1 (by simp) rfl
  obtain⟨c,l⟩:=p
  have hll:=hl (c,l) (List.mem_of_getElem? hpi)
  dsimp only at hnew hll
  have cl:=fun h=>clnI_c l h (by omega)
  have cl0:=fun h=>clnI_c0 l h (by omega)
  unfold vIds at *
  by_cases hc:c=k0
  ·refine RL.nil_ 1 38 ?_
   (repeat' (first|refine svF ⟨?_⟩|refine .b fun b=>?_|refine .u fun u=>?_|refine .d ?_ ?_|(refine .g fun hg=>?_;try exact svx)|refine sva ?_|refine sv3 ?_|fail))
   refine R2.B ?_
   refine S.call ?_
   refine (cl0 _).mono ?_
   rintro r h' (⟨rfl,hnil,hh⟩|⟨w,rfl,hh⟩)
   ·subst hh
    refine kd ?_
    (repeat' (first|refine svF ⟨?_⟩|refine .b fun b=>?_|refine .u fun u=>?_|refine .d ?_ ?_|(refine .g fun hg=>?_;try exact svx)|refine sva ?_|refine sv3 ?_|fail))
    refine S.mapU (f:=idA) (m:=done.map (entV k0 v)) (a:=.val (.slice none 0 0)) ?_
    rw[putF_new _ (show (c,l).1∉(done.map (entV k0 v)).map (·.1) by rw[ent_keys];exact hnew)]
    (repeat' first|refine svE ⟨?_⟩|refine .b fun b=>?_|refine .u fun u=>?_|refine .d ?_ ?_|(refine .g fun hg=>?_;try exact svx)|fail)
    refine⟨(left.erase i,some i,done++[(c,l)],.slice none 0 0),hst,?_,rng_less hi⟩
    dsimp only
    rw[ent_hit hc hnew v,ofs_hit hc hnew,hnil]
    exact lee
   ·subst hh
    refine kd ?_
    (repeat' (first|refine svF ⟨?_⟩|refine .b fun b=>?_|refine .u fun u=>?_|refine .d ?_ ?_|(refine .g fun hg=>?_;try exact svx)|refine sva ?_|refine sv3 ?_|fail))
    refine S.mapU (f:=idA) (m:=done.map (entV k0 v)) (a:=.val w) ?_
    rw[putF_new _ (show (c,l).1∉(done.map (entV k0 v)).map (·.1) by rw[ent_keys];exact hnew)]
    (repeat' first|refine svE ⟨?_⟩|refine .b fun b=>?_|refine .u fun u=>?_|refine .d ?_ ?_|(refine .g fun hg=>?_;try exact svx)|fail)
    refine⟨(left.erase i,some i,done++[(c,l)],w),hst,?_,rng_less hi⟩
    dsimp only
    rw[ent_hit hc hnew v,ofs_hit hc hnew]
    exact lee
  ·(repeat' (first|refine svF ⟨?_⟩|refine .b fun b=>?_|refine .u fun u=>?_|refine .d ?_ ?_|(refine .g fun hg=>?_;try exact svx)|refine sva ?_|refine sv3 ?_|fail))
   refine R2.C (cl _) ?_
   (repeat' (first|refine svF ⟨?_⟩|refine .b fun b=>?_|refine .u fun u=>?_|refine .d ?_ ?_|(refine .g fun hg=>?_;try exact svx)|refine sva ?_|refine sv3 ?_|fail))
   refine S.mapU (f:=idA) (m:=done.map (entV k0 v)) (a:=.ro 1 (ints .u32 l)) ?_
   rw[putF_new _ (show (c,l).1∉(done.map (entV k0 v)).map (·.1) by rw[ent_keys];exact hnew)]
   (repeat' first|refine svE ⟨?_⟩|refine .b fun b=>?_|refine .u fun u=>?_|refine .d ?_ ?_|(refine .g fun hg=>?_;try exact svx)|fail)
   refine⟨(left.erase i,some i,done++[(c,l)],v),hst,?_,rng_less hi⟩
   dsimp only
   rw[ent_miss hc v,ofs_miss hc]
   exact lee
end Go.Proofs.YtbknacpdcdkjiaaGreat

/- Trees: put. No condition. -/
namespace Go.Proofs.YtbknacpdcdkjiaaGreat
open Go Go.VM
set_option maxRecDepth 100000
attribute [local irreducible] PurV Pur Step RL W D ACalls Then InBlock Fini
set_option linter.unusedVariables false
set_option linter.unusedSimpArgs false
set_option maxHeartbeats 20000000
theorem lk_ent:∀(k:SVT) (p:Int) (v:Value),lkF (k.map (entV p v)) p=(lkF k p).map fun _=>AV.val v
 | [],p,v=>rfl
 | q::k,p,v=>by
  have ih:=lk_ent k p v
  unfold lkF at *
  rw[List.map_cons,List.find?_cons,List.find?_cons]
  by_cases h:q.1=p
  ·have e:(entV p v q).1=p:=h
   simp[h,e,entV]
  ·have e:¬ (entV p v q).1=p:=h
   simp only[decide_eq_false h,decide_eq_false e]
   exact ih
theorem put_c (k:SVT) (up:UP) (id p:Int) (bk bu:Nat) (v:Value) (h:Heap) (hn:(k.map (·.1)).Nodup) (hl:(ofS k p).length≤1000000) :
  ACalls Tryz.prog 61 [.agg [.val (.map (some bk)),.val (.map (some bu))],.val (.int .u32 (id)),.val (.int .u32 (p))] (mpV bk .u32 idA (k.map (entV p v))::mpV bu .u32 (vI .u32) up::.own v 1 (ints .u32 (ofS k p)) 38::h)
   (fun r h'=>∃w,r=.tup []∧h'=mpV bk .u32 idA (putF (k.map (entV p v)) p (.val w))::mpV bu .u32 (vI .u32) (putF up id p)::.own w 1 (ints .u32 (ofS k p++[id])) 38::h):=by
 refine ACalls.intro Tryz.func61 rfl Tryz.ntmps61 Tryz.results61 (Nat.le_of_ble_eq_true rfl) ?_
 (repeat' (first|refine svF ⟨?_⟩|refine .b fun b=>?_|refine .u fun u=>?_|refine .d ?_ ?_|(refine .g fun hg=>?_;try exact svx)|refine sva ?_|refine sv3 ?_|fail))
 have hlk:lkF (k.map (entV p v)) p=(lkF k p).map fun _=>AV.val v:=lk_ent k p v
 refine W.dr (.ro (.ro (.ro (.rw (.done _))))) ?_
 cases hk:lkF k p with
 | none=>
  rw[hk] at hlk
  (repeat' (first|refine svF ⟨?_⟩|refine .b fun b=>?_|refine .u fun u=>?_|refine .d ?_ ?_|(refine .g fun hg=>?_;try exact svx)|refine sva ?_|refine sv3 ?_|fail))
  refine R2.F (v:=.val (.slice none 0 0)) (step_pur (pur_look_own (f:=idA) rfl (by (fail_if_success (apply memG));repeat (first|exact List.Mem.head _|assumption|refine List.Mem.tail _ ?_)) rfl (by rw[hlk];exact Wk.refl _)) rfl (kf (LeH.refl _))) ?_
  (repeat' (first|(refine iR2 ?_;refine r2b ?_;refine R2.one (kk:=1) ?_)|(refine iS ?_;refine iN ?_;refine S.build1r ?_)|refine svF ⟨?_⟩|refine .b fun b=>?_|refine .u fun u=>?_|refine .d ?_ ?_|(refine .g fun hg=>?_;try exact svx)|refine sva ?_|refine sv3 ?_|fail))
  refine S.mapU (f:=idA) (m:=k.map (entV p v)) (a:=.val u) ?_
  (repeat' first|refine svE ⟨?_⟩|refine .b fun b=>?_|refine .u fun u=>?_|refine .d ?_ ?_|(refine .g fun hg=>?_;try exact svx)|fail)
  rw[show ofS k p=[] by unfold ofS;rw[hk];rfl]
  refine fin_n (h':=mpV bk .u32 idA (putF (k.map (entV p v)) p (.val u))::mpV bu .u32 (vI .u32) (putF up id p)::.own u 1 (ints .u32 ([]++[id])) 38::h) ⟨u,rfl,rfl⟩
 | some l0=>
  rw[hk] at hlk
  generalize ofS k p=L at *
  (repeat' (first|refine svF ⟨?_⟩|refine .b fun b=>?_|refine .u fun u=>?_|refine .d ?_ ?_|(refine .g fun hg=>?_;try exact svx)|refine sva ?_|refine sv3 ?_|fail))
  refine R2.F (v:=.val v) (step_pur (pur_look_own (f:=idA) rfl (by (fail_if_success (apply memG));repeat (first|exact List.Mem.head _|assumption|refine List.Mem.tail _ ?_)) rfl (by rw[hlk];exact Wk.refl _)) rfl (kf (LeH.refl _))) ?_
  refine R2.T ?_
  refine R2.one (kk:=1) ?_
  refine R2.B ?_
  refine S.append (fun w=>?_)
  refine kd ?_
  refine R2.melt ?_
  refine R2.Bs ?_
  refine S.mapU (f:=idA) (m:=k.map (entV p v)) (a:=.val w) ?_
  (repeat' first|refine svE ⟨?_⟩|refine .b fun b=>?_|refine .u fun u=>?_|refine .d ?_ ?_|(refine .g fun hg=>?_;try exact svx)|fail)
  rw[show ints .u32 (L++[id])=ints .u32 L++[.val (.int .u32 (id))] by simp[ints]]
  exact fin_n (h':=mpV bk .u32 idA (putF (k.map (entV p v)) p (.val w))::mpV bu .u32 (vI .u32) (putF up id p)::.own w 1 (ints .u32 L++[.val (.int .u32 (id))]) 38::h) ⟨w,rfl,rfl⟩
end Go.Proofs.YtbknacpdcdkjiaaGreat

/- Trees: Add. No condition. -/
namespace Go.Proofs.YtbknacpdcdkjiaaGreat
open Go Go.VM
set_option maxRecDepth 100000
attribute [local irreducible] PurV Pur Step RL W D ACalls Then InBlock Fini
set_option linter.unusedVariables false
set_option linter.unusedSimpArgs false
set_option maxHeartbeats 20000000
theorem putF_keys {α β:Type}:∀(t:List (Int × α)) (t':List (Int × β)) (i:Int) (a:α) (c:β),t.map (·.1)=t'.map (·.1)→(putF t i a).map (·.1)=(putF t' i c).map (·.1):=by
 intro t t' i a c h
 have hs:∀{γ:Type} (s:List (Int × γ)),(lkF s i).isSome=decide (i∈s.map (·.1)):=fun s=>by
  cases e:lkF s i with
  | none=>
   have e2:=lkF_none.1 e
   simp only[Option.isSome_none]
   symm
   rw[decide_eq_false_iff_not,List.mem_map]
   rintro⟨p,h1,h2⟩
   exact e2 p h1 h2
  | some x=>
   have e2:=lkF_some e
   simp only[Option.isSome_some]
   symm
   rw[decide_eq_true_iff,List.mem_map]
   exact⟨_,e2,rfl⟩
 unfold putF
 rw[hs t,hs t',h]
 have hm:∀{γ:Type} (s:List (Int × γ)) (x:γ),(s.map fun p=>if p.1=i then (i,x) else p).map (·.1)=s.map (·.1):=fun s x=>by
  rw[List.map_map]
  refine List.map_congr_left fun p _=>?_
  show (if p.1=i then (i,x) else p).1=p.1
  split
  ·rename_i e;exact e.symm
  ·rfl
 split
 ·rw[hm,hm,h]
 ·rw[List.map_append,List.map_append,h];rfl
theorem lkF_ent (k:SVT) (p:Int) (v:Value):(lkF (k.map (entV p v)) p).isSome=(lkF k p).isSome:=by rw[lk_ent];cases lkF k p<;>rfl
theorem frz_kids {k:SVT} {p:Int} {v w:Value} {L:List Int} {bk:Nat} {h:Heap}:FrzG w 1 (ints .u32 L) (mpV bk .u32 idA (putF (k.map (entV p v)) p (.val w))::h) (mpV bk .u32 vIds (putF k p L)::h):=by
 unfold mpV
 have e:((putF (k.map (entV p v)) p (.val w)).map fun x=>(.int .u32 x.1:Value))=(putF k p L).map fun x=>.int .u32 x.1:=by
  have:=putF_keys (k.map (entV p v)) k p (.val w) L (ent_keys k)
  have:=congrArg (List.map fun i=>(Value.int .u32 i)) this
  rwa[List.map_map,List.map_map] at this
 rw[e]
 refine .mp ?_ (.rest _)
 unfold putF
 rw[lkF_ent]
 have one:∀q:Int × List Int,¬ q.1=p→(entV p v q).2=vIds q.2:=fun q hq=>by unfold entV;exact if_neg hq
 split
 ·rw[List.map_map,List.map_map,List.map_map]
  refine frz_agg (by simp) fun i x y hx hy=>?_
  rw[List.getElem?_map,Option.map_eq_some_iff] at hx hy
  obtain⟨q,h1,rfl⟩:=hx
  obtain⟨q',h2,rfl⟩:=hy
  obtain rfl:=Option.some.inj (h1.symm.trans h2)
  by_cases hq:q.1=p
  ·have e1:(entV p v q).1=p:=hq
   simp only[Function.comp_apply]
   rw[if_pos e1,if_pos hq]
   exact .hit
  ·have e1:¬ (entV p v q).1=p:=hq
   simp only[Function.comp_apply]
   rw[if_neg e1,if_neg hq,one q hq]
   exact .keep _
 ·rename_i hs
  have hn:∀q∈k,q.1≠p:=lkF_none.1 (by cases e:lkF k p with|none=>rfl|some x=>rw[e] at hs;exact absurd rfl hs)
  rw[List.map_append,List.map_append,List.map_map]
  have e2:(k.map ((fun x=>idA x.2) ∘ entV p v))=k.map fun x=>vIds x.2:=List.map_congr_left fun q hq=>one q (hn q hq)
  rw[e2]
  refine frz_agg (by simp) fun i x y hx hy=>?_
  by_cases hi:i<k.length
  ·rw[List.getElem?_append_left (by simpa using hi)] at hx hy
   obtain rfl:=Option.some.inj (hx.symm.trans hy)
   exact .keep _
  ·rw[List.getElem?_append_right (by simp;omega)] at hx hy
   cases hj:i - (k.map fun x=>vIds x.2).length with
   | zero=>
    rw[hj] at hx hy
    obtain rfl:=Option.some.inj hx
    obtain rfl:=Option.some.inj hy
    exact .hit
   | succ j=>rw[hj] at hx;cases hx
theorem add_c (k:SVT) (up:UP) (id p:Int) (h:Heap) (h0:0≤id) (h1:id≤4294967295) (hic:icF id=0) (hno:hasT up id=false) (hp:hasT up p=true) (hup:up.length<63) (hn:(k.map (·.1)).Nodup) (hu:(up.map (·.1)).Nodup) (hl:∀p∈k,p.2.length≤1000000) (hl0:(ofS k p).length≤1000000) (hkl:k.length≤1000000) :
  ACalls Tryz.prog 28 [encT k up,.val (.int .u32 (id)),.val (.int .u32 (p))] h (fun r h'=>r=.tup [encT (putF k p (ofS k p++[id])) (putF up id p),.val (.int .i64 (0))]∧h'=h):=by
 have ic:=fun h=>icheck_c id h h0 h1
 rw[hic] at ic
 have t1:=fun h=>thas_c k up id h
 rw[hno] at t1
 have t2:=fun h=>thas_c k up p h
 rw[hp] at t2
 have tw:=fun h=>twin_c k up p h hn hu hl hkl
 unfold encT at t1 t2 tw
 unfold encT
 refine ACalls.intro Tryz.func28 rfl Tryz.ntmps28 Tryz.results28 (Nat.le_of_ble_eq_true rfl) ?_
 (repeat' first|refine svE ⟨?_⟩|refine .b fun b=>?_|refine .u fun u=>?_|refine .d ?_ ?_|(refine .g fun hg=>?_;try exact svx)|fail)
 refine S.call ?_;refine (ic _).mono ?_;rintro r h' ⟨rfl,hh⟩;subst hh
 (repeat' first|refine svE ⟨?_⟩|refine .b fun b=>?_|refine .u fun u=>?_|refine .d ?_ ?_|(refine .g fun hg=>?_;try exact svx)|fail)
 refine S.call ?_;refine (t1 _).mono ?_;rintro r h' ⟨rfl,hh⟩;subst hh
 (repeat' first|refine svE ⟨?_⟩|refine .b fun b=>?_|refine .u fun u=>?_|refine .d ?_ ?_|(refine .g fun hg=>?_;try exact svx)|fail)
 refine S.call ?_;refine (t2 _).mono ?_;rintro r h' ⟨rfl,hh⟩;subst hh
 (repeat' first|refine svE ⟨?_⟩|refine .b fun b=>?_|refine .u fun u=>?_|refine .d ?_ ?_|(refine .g fun hg=>?_;try exact svx)|fail)
 refine S.call ?_
 refine (tw _).mono ?_
 rintro r h' ⟨bk,bu,v,rfl,hh⟩
 subst hh
 have pu:=fun h=>put_c k up id p bk bu v h hn hl0
 (repeat' first|refine svE ⟨?_⟩|refine .b fun b=>?_|refine .u fun u=>?_|refine .d ?_ ?_|(refine .g fun hg=>?_;try exact svx)|fail)
 rename_i b3 b6
 revert b;intro b9
 refine Step.le (s':=⟨41,[(38,.val (.int .u32 (p))),(37,.val (.int .u32 (id))),(36,.agg [.val (.map (some bk)),.val (.map (some bu))]),(9,.val (.pointer (some ⟨b9,0,none⟩))),(6,.val (.pointer (some ⟨b6,0,none⟩))),(7,.val (.int .i64 (0)))],mpV bk .u32 idA (k.map (entV p v))::mpV bu .u32 (vI .u32) up::.own v 1 (ints .u32 (ofS k p)) 38::.box b9 [.val (.map (some bk)),.val (.map (some bu))] 28::.box b6 [.val (.map none),.val (.map none)] 28::h⟩) lee ?_
 refine S.call ?_
 refine (pu _).mono ?_
 rintro r h' ⟨w,rfl,hh⟩
 subst hh
 generalize hL:ofS k p++[id]=L at *
 refine RL.frzg (v:=w) (by (fail_if_success (apply tkG));(repeat (first|exact Tk.here|apply Tk.there));first|done|fail) (by repeat' (first|apply FrzT.cons|exact FrzT.rest _|exact Frz.hit|apply Frz.aggc|apply Frz.tupc|exact Frz.aggn|exact Frz.tupn|exact Frz.keep _)) (by first|exact frz_kids|(repeat' (first|exact frz_kids|apply FrzG.keep|apply FrzG.box|exact Frz.hit|apply Frz.aggc|exact Frz.aggn|exact Frz.keep _))) ?_
 generalize putF k p L=k2 at *
 generalize putF up id p=u2 at *
 refine RL.frzm (b:=bk) (by (fail_if_success (apply tkG));(repeat (first|exact Tk.here|apply Tk.there));first|done|fail) (by repeat' (first|apply FzT.cons|exact FzT.rest _|exact Fz.hit|apply Fz.aggc|apply Fz.tupc|exact Fz.aggn|exact Fz.tupn|exact Fz.keep _)) (by repeat' (first|apply FzH.box|apply FzH.keep|exact FzH.rest _|exact Fz.hit|apply Fz.aggc|apply Fz.tupc|exact Fz.aggn|exact Fz.tupn|exact Fz.keep _)) ?_
 refine RL.frzm (b:=bu) (by (fail_if_success (apply tkG));(repeat (first|exact Tk.here|apply Tk.there));first|done|fail) (by repeat' (first|apply FzT.cons|exact FzT.rest _|exact Fz.hit|apply Fz.aggc|apply Fz.tupc|exact Fz.aggn|exact Fz.tupn|exact Fz.keep _)) (by repeat' (first|apply FzH.box|apply FzH.keep|exact FzH.rest _|exact Fz.hit|apply Fz.aggc|apply Fz.tupc|exact Fz.aggn|exact Fz.tupn|exact Fz.keep _)) ?_
 (repeat' first|refine svE ⟨?_⟩|refine .b fun b=>?_|refine .u fun u=>?_|refine .d ?_ ?_|(refine .g fun hg=>?_;try exact svx)|fail)
 exact fin_r (h':=h) ⟨rfl,rfl⟩
end Go.Proofs.YtbknacpdcdkjiaaGreat
