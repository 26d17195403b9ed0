/- What clients have selected: Find, Set, Stop. No condition. -/
import Derived.Test.YtbknacpdcdkjiaaGreatF2
import Derived.Test.YtbknacpdcdkjiaaGreatU4
import Derived.Test.YtbknacpdcdkjiaaGreatC3
namespace Go.Proofs.YtbknacpdcdkjiaaGreat
open Go Go.VM
set_option maxRecDepth 100000
attribute [local irreducible] PurV Pur Step RL W D ACalls Then InBlock Fini
set_option linter.unusedVariables false
set_option linter.unusedSimpArgs false
set_option maxHeartbeats 20000000
def findF (M:CM) (N:CS) (mask:Int):List Int→Int × List Int
 | []=>(0,[])
 | id::r=>if whoF M id (msk mask)≠[] then (id,whoF M id (msk mask)) else if bitsI .and .i64 ((lkF N id).getD 0) (msk mask)≠0 then (0,[]) else findF M N mask r
theorem whoF_len (M:CM) (id mask:Int):(whoF M id mask).length≤8:=Nat.le_trans (List.length_filter_le _ _) (by simp)
theorem cfind_c0 (M:CM) (N:CS) (L:List Int) (mask:Int) (h:Heap) (hl:L.length≤1000000):ACalls Tryz.prog 152 [encC M N,.ro 1 (ints .u32 L),.val (.int .i64 (mask))] h (fun r h'=>(r=.tup [.val (.int .u32 ((findF M N mask L).1)),.ro 1 (ints .i64 (findF M N mask L).2)]∨(r=.tup [.val (.int .u32 (0)),.val (.slice none 0 0)]∧findF M N mask L=(0,[])))∧h'=h):=by
 have wc:=fun id h=>who_c M N id (msk mask) h
 have wl:=fun id=>whoF_len M id (msk mask)
 have hf:∀i id,L[i]?=some id→findF M N mask (L.drop i)=if whoF M id (msk mask)≠[] then (id,whoF M id (msk mask)) else if bitsI .and .i64 ((lkF N id).getD 0) (msk mask)≠0 then (0,[]) else findF M N mask (L.drop (i+1)):=fun i id e=>by
  obtain⟨hi,rfl⟩:=List.getElem?_eq_some_iff.1 e
  rw[←List.getElem_cons_drop hi];rfl
 have h0:findF M N mask (L.drop L.length)=(0,[]):=by rw[List.drop_length];rfl
 generalize hm:msk mask=mk at *
 unfold msk at hm
 unfold encC at *
 have e0:findF M N mask L=findF M N mask (L.drop 0):=by rw[List.drop_zero]
 rw[e0]
 generalize hG:findF M N mask (L.drop 0)=G at *
 generalize hF:(fun i=>findF M N mask (L.drop i))=F at *
 have hF':∀i,findF M N mask (L.drop i)=F i:=fun i=>congrFun hF i
 simp only[hF'] at *
 clear hF' hF e0
 refine ACalls.intro Tryz.func152 rfl Tryz.ntmps152 Tryz.results152 (Nat.le_of_ble_eq_true rfl) ?_
 (repeat' first|refine svE ⟨?_⟩|refine .b fun b=>?_|refine .u fun u=>?_|refine .d ?_ ?_|(refine .g fun hg=>?_;try exact svx)|fail)
 refine W.scope ?_
 (repeat' first|refine svE ⟨?_⟩|refine .b fun b=>?_|refine .u fun u=>?_|refine .d ?_ ?_|(refine .g fun hg=>?_;try exact svx)|fail)
 rw[hm]
 (repeat' first|refine svE ⟨?_⟩|refine .b fun b=>?_|refine .u fun u=>?_|refine .d ?_ ?_|(refine .g fun hg=>?_;try exact svx)|fail)
 refine W.label ?_
 (repeat' first|refine svE ⟨?_⟩|refine .b fun b=>?_|refine .u fun u=>?_|refine .d ?_ ?_|(refine .g fun hg=>?_;try exact svx)|fail)
 revert b;intro b3
 refine W.loop (J:=fun i:Nat=>⟨38,[(15,.val (.int .i64 ((i:Int)))),(14,.val (.int .i64 ((L.length:Int)))),(13,.ro 1 (ints .u32 L)),(2,.val (.int .i64 (mk))),(3,.val (.pointer (some ⟨b3,0,none⟩)))],.box b3 [mapK (vI .i64) M,mapV .u32 (vI .i64) N] 36::h⟩)
  (Φ:=fun i=>i≤L.length∧F i=G) (μ:=fun i=>L.length - i) 0 lee ⟨Nat.zero_le _,hG⟩ ?_
 rintro i ⟨hi,hF⟩
 dsimp only
 rcases Nat.lt_or_ge i L.length with hlt|hge
 ·obtain⟨id,hid⟩:∃id,L[i]?=some id:=⟨_,List.getElem?_eq_getElem hlt⟩
  have hf:=hf i id hid
  rw[hF] at hf
  have wc:=wc id
  have wl:=wl id
  generalize whoF M id mk=w at *
  (repeat' first|refine svE ⟨?_⟩|refine .b fun b=>?_|refine .u fun u=>?_|refine .d ?_ ?_|(refine .g fun hg=>?_;try exact svx)|fail)
  refine S.call ?_;refine (wc _).mono ?_;rintro r h' ⟨rfl,hh⟩;subst hh
  by_cases hw:w=[]
  ·rw[if_neg (fun e=>e hw)] at hf
   have hw:w.length=0:=by rw[hw];rfl
   by_cases hs:bitsI .and .i64 ((lkF N id).getD 0) mk≠0
   ·rw[if_pos hs] at hf
    subst hf
    (repeat' first|refine svE ⟨?_⟩|refine .b fun b=>?_|refine .u fun u=>?_|refine .d ?_ ?_|(refine .g fun hg=>?_;try exact svx)|fail)
    show Fini _ _ _ _ _
    exact fin_r (h':=h) ⟨.inr ⟨rfl,rfl⟩,rfl⟩
   ·rw[if_neg hs] at hf
    (repeat' first|refine svE ⟨?_⟩|refine .b fun b=>?_|refine .u fun u=>?_|refine .d ?_ ?_|(refine .g fun hg=>?_;try exact svx)|fail)
    refine⟨i+1,⟨hlt,hf.symm⟩,?_,by omega⟩
    rw[show ((i+1:Nat):Int)=(i:Int)+1 by push_cast;rfl]
    exact lee
  ·rw[if_pos hw] at hf
   subst hf
   have hp:0<w.length:=List.length_pos_iff.2 hw
   (repeat' first|refine svE ⟨?_⟩|refine .b fun b=>?_|refine .u fun u=>?_|refine .d ?_ ?_|(refine .g fun hg=>?_;try exact svx)|fail)
   show Fini _ _ _ _ _
   exact fin_r (h':=h) ⟨.inl rfl,rfl⟩
 ·have e:i=L.length:=by omega
  subst e
  rw[h0] at hF
  subst hF
  (repeat' first|refine svE ⟨?_⟩|refine .b fun b=>?_|refine .u fun u=>?_|refine .d ?_ ?_|(refine .g fun hg=>?_;try exact svx)|fail)
  show Fini _ _ _ _ _
  exact fin_r (h':=h) ⟨.inr ⟨rfl,rfl⟩,rfl⟩
theorem cfind_c (M:CM) (N:CS) (L:List Int) (mask:Int) (h:Heap) (hl:L.length≤1000000):ACalls Tryz.prog 152 [encC M N,.ro 1 (ints .u32 L),.val (.int .i64 (mask))] h (fun r h'=>r=.tup [.val (.int .u32 ((findF M N mask L).1)),.ro 1 (ints .i64 (findF M N mask L).2)]∧h'=h):=by
 refine ACalls.wk (cfind_c0 M N L mask h hl) ?_
 rintro r h' ⟨rfl|⟨rfl,e⟩,rfl⟩
 ·exact⟨_,.refl _,rfl,rfl⟩
 ·rw[e];exact⟨_,(by (repeat (first|exact Wk.refl _|exact Wk.nilr _|exact Wk.nilm|apply Wk.aggc|apply Wk.tupc|exact Wk.aggn|exact Wk.tupn));first|done|fail),rfl,rfl⟩
theorem cset_c (M:CM) (N:CS) (c id mask:Int) (h:Heap) (hM:(M.map (·.1)).Nodup) (hN:(N.map (·.1)).Nodup) (hl:M.length≤1000000) (hl2:N.length≤1000000) (hcl:1≤c∧c≤8) (hid:id≠0) (hm:1≤mask∧mask≤8191)
  (hx:∀o,o≠c→bitsI .and .i64 (bitsI .and .i64 (mkF M o id) mask) 2052=0):ACalls Tryz.prog 30 [encC M N,.val (.int .i64 (c)),.val (.int .u32 (id)),.val (.int .i64 (mask))] h (fun r h'=>r=.tup [encC (putK M (c,id) mask) N,.val (.int .i64 (0))]∧h'=h):=by
 have im:=ismask_c mask
 rw[decide_eq_true (by omega)] at im
 have cp:=fun h=>copied_c M N h hM hN hl hl2
 unfold encC at *
 refine ACalls.intro Tryz.func30 rfl Tryz.ntmps30 Tryz.results30 (Nat.le_of_ble_eq_true rfl) ?_
 (repeat' first|refine svE ⟨?_⟩|refine .b fun b=>?_|refine .u fun u=>?_|refine .d ?_ ?_|(refine .g fun hg=>?_;try exact svx)|fail)
 refine S.call ?_;refine (im _).mono ?_;rintro r h' ⟨rfl,hh⟩;subst hh
 (repeat' first|refine svE ⟨?_⟩|refine .b fun b=>?_|refine .u fun u=>?_|refine .d ?_ ?_|(refine .g fun hg=>?_;try exact svx)|fail)
 revert b;rename Nat=>b4;revert b4;intro b4 b8
 refine W.loop (J:=fun i:Nat=>⟨65,[(10,.val (.int .i64 ((i:Int)+1))),(9,.val (.int .i64 (0))),(8,.val (.pointer (some ⟨b8,0,none⟩))),(4,.val (.pointer (some ⟨b4,0,none⟩))),(1,.val (.int .i64 (c))),(2,.val (.int .u32 (id))),(3,.val (.int .i64 (mask)))],.box b8 [.val (.map none),.val (.map none)] 36::.box b4 [mapK (vI .i64) M,mapV .u32 (vI .i64) N] 36::h⟩)
  (Φ:=fun i=>i≤8) (μ:=fun i=>8 - i) 0 lee (Nat.zero_le _) ?_
 rintro i hi
 dsimp only
 rcases Nat.lt_or_ge i 8 with hlt|hge
 ·by_cases hic:(i:Int)+1=c
  ·(repeat' first|refine svE ⟨?_⟩|refine .b fun b=>?_|refine .u fun u=>?_|refine .d ?_ ?_|(refine .g fun hg=>?_;try exact svx)|fail)
   refine⟨i+1,hlt,?_,by omega⟩
   rw[show ((i+1:Nat):Int)=(i:Int)+1 by push_cast;rfl]
   exact lee
  ·have hx:=hx _ hic
   unfold mkF at hx
   (repeat' first|refine svE ⟨?_⟩|refine .b fun b=>?_|refine .u fun u=>?_|refine .d ?_ ?_|(refine .g fun hg=>?_;try exact svx)|fail)
   refine S.lookK ((i:Int)+1,id) ?_
   generalize (lkK M ((i:Int)+1,id)).getD 0=q at *
   (repeat' first|refine svE ⟨?_⟩|refine .b fun b=>?_|refine .u fun u=>?_|refine .d ?_ ?_|(refine .g fun hg=>?_;try exact svx)|fail)
   rw[hx]
   (repeat' first|refine svE ⟨?_⟩|refine .b fun b=>?_|refine .u fun u=>?_|refine .d ?_ ?_|(refine .g fun hg=>?_;try exact svx)|fail)
   refine⟨i+1,hlt,?_,by omega⟩
   rw[show ((i+1:Nat):Int)=(i:Int)+1 by push_cast;rfl]
   exact lee
 ·have e:i=8:=by omega
  subst e
  (repeat' first|refine svE ⟨?_⟩|refine .b fun b=>?_|refine .u fun u=>?_|refine .d ?_ ?_|(refine .g fun hg=>?_;try exact svx)|fail)
  refine S.call ?_
  refine (cp _).mono ?_
  rintro r h' ⟨b1,b2,rfl,hh⟩
  subst hh
  (repeat' first|refine svE ⟨?_⟩|refine .b fun b=>?_|refine .u fun u=>?_|refine .d ?_ ?_|(refine .g fun hg=>?_;try exact svx)|fail)
  refine S.mapUK (i:=(c,id)) (f:=vI .i64) (m:=M) (a:=mask) ?_
  refine RL.nil ?_
  refine thn ?_
  refine W.le (s':=⟨65,[(11,.val (.pointer (some ⟨b,0,none⟩))),(8,.val (.pointer (some ⟨b8,0,none⟩)))],.box b [.val (.map (some b1)),.val (.map (some b2))] 36::mpK b1 (vI .i64) (putK M (c,id) mask)::mpV b2 .u32 (vI .i64) N::.box b8 [.val (.map none),.val (.map none)] 36::h⟩) lee ?_
  refine W.frzk (by (fail_if_success (apply tkG));(repeat (first|exact Tk.here|apply Tk.there));first|done|fail) (by repeat' (first|apply FzT.cons|exact FzT.rest _|exact Fz.hit|apply Fz.aggc|apply Fz.tupc|exact Fz.aggn|exact Fz.tupn|exact Fz.keep _)) (by repeat' (first|apply FzH.box|apply FzH.keep|exact FzH.rest _|exact Fz.hit|apply Fz.aggc|apply Fz.tupc|exact Fz.aggn|exact Fz.tupn|exact Fz.keep _)) ?_;refine W.frzm (by (fail_if_success (apply tkG));(repeat (first|exact Tk.here|apply Tk.there));first|done|fail) (by repeat' (first|apply FzT.cons|exact FzT.rest _|exact Fz.hit|apply Fz.aggc|apply Fz.tupc|exact Fz.aggn|exact Fz.tupn|exact Fz.keep _)) (by repeat' (first|apply FzH.box|apply FzH.keep|exact FzH.rest _|exact Fz.hit|apply Fz.aggc|apply Fz.tupc|exact Fz.aggn|exact Fz.tupn|exact Fz.keep _)) ?_
  (repeat' first|refine svE ⟨?_⟩|refine .b fun b=>?_|refine .u fun u=>?_|refine .d ?_ ?_|(refine .g fun hg=>?_;try exact svx)|fail)
  exact fin_r (h':=h) ⟨rfl,rfl⟩
end Go.Proofs.YtbknacpdcdkjiaaGreat
