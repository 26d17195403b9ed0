/- band.Of. No condition. -/
import Derived.Test.YtbknacpdcdkjiaaGreatB13
import Derived.Test.YtbknacpdcdkjiaaGreatW0
namespace Go.Proofs.YtbknacpdcdkjiaaGreat
open Go Go.VM
attribute [local irreducible] PurV Pur Step RL W D ACalls Then InBlock Fini
set_option linter.unusedVariables false
set_option linter.unusedSimpArgs false
set_option maxHeartbeats 20000000
instance:TFun Tryz.prog 137:=⟨by kernel_rfl⟩
instance:TFun Tryz.prog 163:=⟨by kernel_rfl⟩
theorem cntL_snoc {l:List RC} {k:Nat} {r:RC} (hx:l[k]?=some r):cntL (l.take (k+1))=cntL (l.take k)++(if r.cnt then [r] else []):=by
 unfold cntL;rw[List.take_add_one,hx,List.filter_append]
 by_cases h:r.cnt<;>simp[h]
theorem edF_perm {l m:List RC} (h:l.Perm m):edF l=edF m:=by
 unfold edF
 rw[srt_congr (l:=ends l) (l':=ends m) (h.flatMap_right _)]
structure RoundI (A:List RC) (i nx ab:Nat) (R:List RC):Prop where
 hi:i≤(edF A).length - 1
 hnx:nx≤A.length
 hz:i=0→nx=0
 hle:i<(edF A).length→∀r∈A.take nx,r.y<(edF A).getD i 0
 hge:i<(edF A).length→∀r∈A.drop nx,(edF A).getD i 0≤r.y
 hR:R.Perm ((A.take nx).filter fun r=>decide ((edF A).getD (i - 1) 0<r.y+r.h))
 hs:R.Pairwise fun a b=>a.x≤b.x
 hab:i<(edF A).length→AB (bnd (edF A) (rowS A) i) ab ((edF A).getD i 0)
theorem up_first {ys:List Int} (hu:Up_ ys) {y:Int} (hy:y∈ys):ys.getD 0 0≤y:=by
 cases ys with
 | nil=>cases hy
 | cons a ys=>
  show a≤y
  rcases List.mem_cons.1 hy with rfl|hy
  ·exact Int.le_refl _
  ·have:=(List.pairwise_cons.1 hu).1 y hy;omega
theorem roundI_start (A:List RC):RoundI A 0 0 0 [] where
 hi:=Nat.zero_le _
 hnx:=Nat.zero_le _
 hz:=fun _=>rfl
 hle:=fun _ r hr=>by simp at hr
 hge:=fun _ r hr=>up_first (up_edF A) (mem_edF.2 ⟨r,by simpa using hr,.inl rfl⟩)
 hR:=by simp
 hs:=.nil
 hab:=fun _=>.inr ⟨rfl,fun c hc=>by cases hc⟩
theorem filter_twice {l:List RC} {a b:Int} (h:a≤b∨l=[]):(l.filter fun r=>decide (a<r.y+r.h)).filter (fun r=>!decide (r.y+r.h≤b))=l.filter fun r=>decide (b<r.y+r.h):=by
 rcases h with h|rfl
 ·rw[List.filter_filter]
  congr 1
  funext r
  by_cases h1:b<r.y+r.h
  ·have h2:a<r.y+r.h:=by omega
   have h3:¬ r.y+r.h≤b:=by omega
   simp[h1,h2,h3]
  ·have h3:r.y+r.h≤b:=by omega
   simp[h1,h3]
 ·rfl
theorem round_row {A R R1 Rr q:List RC} {i nx ab n1:Nat} {y:Int} (hA:A.Pairwise fun a b=>a.y≤b.y) (hc:∀r∈A,r.cnt) (hI:RoundI A i nx ab R) (hy:(edF A)[i]?=some y)
  (hR1:R.filter (fun r=>!decide (r.y+r.h≤y))=R1) (g1:nx≤n1) (g2:n1≤A.length) (g3:Rr=R1++(A.drop nx).take (n1 - nx)) (g4:∀r∈(A.drop nx).take (n1 - nx),r.y=y) (g5:∀r,A[n1]?=some r→r.y≠y)
  (hq:q.Perm Rr):q.Perm (A.filter (cross y))∧(∀r∈q,r.cnt)∧q.Perm ((A.take n1).filter fun r=>decide (y<r.y+r.h))∧(∀r∈A.take n1,r.y≤y)∧∀r∈A.drop n1,y<r.y:=by
 have hil:i<(edF A).length:=(List.getElem?_eq_some_iff.1 hy).1
 have hyd:(edF A).getD i 0=y:=by rw[List.getD_eq_getElem?_getD,hy];rfl
 have htk:A.take n1=A.take nx++(A.drop nx).take (n1 - nx):=by
  rw[←List.take_append_drop nx (A.take n1),List.take_take,Nat.min_eq_left g1,List.drop_take]
 have h1:R1.Perm ((A.take nx).filter fun r=>decide (y<r.y+r.h)):=by
  rw[←hR1,←filter_twice (a:=(edF A).getD (i - 1) 0)]
  ·exact hI.hR.filter _
  ·cases i with
   | zero=>right;rw[hI.hz rfl];rfl
   | succ i=>
    left
    have:=up_getD (up_edF A) hil
    rw[hyd] at this
    show (edF A).getD i 0≤y
    omega
 have hall:((A.drop nx).take (n1 - nx)).filter (fun r=>decide (y<r.y+r.h))=(A.drop nx).take (n1 - nx):=List.filter_eq_self.2 fun r hr=>by
  have:=g4 r hr
  have:=(hc r (List.mem_of_mem_drop (List.mem_of_mem_take hr))).2.2.1
  simp;omega
 have h2:q.Perm ((A.take n1).filter fun r=>decide (y<r.y+r.h)):=by
  rw[htk,List.filter_append,hall]
  refine hq.trans ?_
  rw[g3]
  exact h1.append_right _
 have hle:∀r∈A.take n1,r.y≤y:=fun r hr=>by
  rw[htk] at hr
  rcases List.mem_append.1 hr with hr|hr
  ·have:=hI.hle hil r hr;omega
  ·have:=g4 r hr;omega
 have hgt:∀r∈A.drop n1,y<r.y:=fun r hr=>by
  have hn:n1<A.length:=by
   rcases Nat.lt_or_ge n1 A.length with h|h
   ·exact h
   ·rw[List.drop_of_length_le h] at hr;cases hr
  have hx:A[n1]?=some A[n1]:=List.getElem?_eq_getElem hn
  have hd:=hI.hge hil
  have h3:y≤A[n1].y:=by
   have:A[n1]∈A.drop nx:=List.mem_drop_iff_getElem.2 ⟨n1 - nx,by omega,by congr 1;omega⟩
   have:=hd _ this;omega
  have h4:=g5 _ hx
  have hr':=hr
  rw[List.drop_eq_getElem_cons hn] at hr
  rcases List.mem_cons.1 hr with rfl|hr
  ·omega
  ·have hp:=(hA.sublist (List.drop_sublist n1 A))
   rw[List.drop_eq_getElem_cons hn] at hp
   have:=(List.pairwise_cons.1 hp).1 r hr
   omega
 refine⟨h2.trans ?_,fun r hr=>hc r (List.mem_of_mem_take (List.mem_filter.1 (h2.mem_iff.1 hr)).1),h2,hle,hgt⟩
 have e1:A.filter (cross y)=(A.take n1).filter (cross y)++(A.drop n1).filter (cross y):=by rw[←List.filter_append,List.take_append_drop]
 have e2:(A.drop n1).filter (cross y)=[]:=List.filter_eq_nil_iff.2 fun r hr=>by
  have:=hgt r hr
  unfold cross
  simp;omega
 have e3:(A.take n1).filter (cross y)=(A.take n1).filter fun r=>decide (y<r.y+r.h):=List.filter_congr fun r hr=>by
  have:=hle r hr
  unfold cross
  simp[this]
 rw[e1,e2,e3,List.append_nil]
theorem up_next {ys:List Int} (hu:Up_ ys) {i:Nat} {y z v:Int} (hy:ys[i]?=some y) (hz:ys[i+1]?=some z) (hv:v∈ys) (h:y<v):z≤v:=by
 obtain⟨j,hj,rfl⟩:=List.getElem_of_mem hv
 obtain⟨h1,e1⟩:=List.getElem?_eq_some_iff.1 hy
 obtain⟨h2,e2⟩:=List.getElem?_eq_some_iff.1 hz
 have hp:=List.pairwise_iff_getElem.1 hu
 rcases Nat.lt_trichotomy j (i+1) with q|q|q
 ·exfalso
  rcases Nat.lt_or_ge j i with q2|q2
  ·have:=hp j i hj h1 q2;omega
  ·have:j=i:=by omega
   subst this;omega
 ·subst q;omega
 ·have:=hp (i+1) j h2 hj q;omega
theorem roundI_next {A q:List RC} {i n1 ab':Nat} {y z:Int} (hlt:i+1<(edF A).length) (hy:(edF A)[i]?=some y) (hz:(edF A)[i+1]?=some z) (g2:n1≤A.length) (h1:q.Perm ((A.take n1).filter fun r=>decide (y<r.y+r.h)))
  (h2:∀r∈A.take n1,r.y≤y) (h3:∀r∈A.drop n1,y<r.y) (h4:q.Pairwise fun a b=>a.x≤b.x) (hab:AB (bnd (edF A) (rowS A) (i+1)) ab' z):RoundI A (i+1) n1 ab' q:=by
 have hyd:(edF A).getD i 0=y:=by rw[List.getD_eq_getElem?_getD,hy];rfl
 have hzd:(edF A).getD (i+1) 0=z:=by rw[List.getD_eq_getElem?_getD,hz];rfl
 have hyz:=up_getD (up_edF A) hlt
 exact
  {hi:=by omega
   hnx:=g2
   hz:=fun e=>by omega
   hle:=fun _ r hr=>by have:=h2 r hr;omega
   hge:=fun _ r hr=>by rw[hzd];exact up_next (up_edF A) hy hz (mem_edF.2 ⟨r,List.mem_of_mem_drop hr,.inl rfl⟩) (h3 r hr)
   hR:=by rw[Nat.add_sub_cancel,hyd];exact h1
   hs:=h4
   hab:=fun _=>by rw[hzd];exact hab }
theorem acalls_ro {P:Program} {f:Nat} {vs vs':List AV} {h:Heap} {u:Value} (hb:Bor h vs vs') (hc:ACalls P f vs' [] (fun r h'=>r=.val u∧h'=[])):ACalls P f vs h (fun r h'=>r=.val u∧h'=h):=by
 refine (acalls_b hb hc ?_).mono ?_
 ·rintro r hr ⟨rfl,rfl⟩;exact⟨sc_val _,fun x hx=>by cases hx⟩
 ·rintro r h' ⟨hr,rfl,rfl,rfl⟩;exact⟨rfl,rfl⟩
def grown (O:List RC) (ab:Nat) (d:Int) (j:Nat):List RC:=O.take ab++((O.drop ab).take (j - ab)).map (growH d)++O.drop j
theorem grown_start {O:List RC} {ab:Nat} {d:Int}:grown O ab d ab=O:=by unfold grown;simp
theorem grown_len {O:List RC} {ab:Nat} {d:Int} {j:Nat} (h1:ab≤j) (h2:j≤O.length):(grown O ab d j).length=O.length:=by
 unfold grown;simp only[List.length_append,List.length_take,List.length_map,List.length_drop];omega
theorem grown_end {O:List RC} {ab:Nat} {d:Int}:grown O ab d O.length=O.take ab++(O.drop ab).map (growH d):=by
 unfold grown;rw[List.drop_length,List.append_nil,List.take_of_length_le (l:=O.drop ab) (by rw[List.length_drop];exact Nat.le_refl _)]
theorem grown_step {O:List RC} {ab:Nat} {d:Int} {j:Nat} {r:RC} (h1:ab≤j) (hx:O[j]?=some r):(grown O ab d j)[j]?=some r∧(grown O ab d j).set j (growH d r)=grown O ab d (j+1):=by
 have hj:j<O.length:=(List.getElem?_eq_some_iff.1 hx).1
 have hl:(O.take ab++((O.drop ab).take (j - ab)).map (growH d)).length=j:=by
  simp only[List.length_append,List.length_take,List.length_map,List.length_drop];omega
 have hd:O.drop j=r::O.drop (j+1):=drop_at hx
 have ht:(O.drop ab).take (j+1 - ab)=(O.drop ab).take (j - ab)++[r]:=by
  rw[show j+1 - ab=j - ab+1 by omega,List.take_add_one,List.getElem?_drop,show ab+(j - ab)=j by omega,hx];rfl
 unfold grown
 rw[hd,ht]
 constructor
 ·rw[List.getElem?_append_right (by omega),hl,Nat.sub_self];rfl
 ·rw[List.set_append_right _ _ (by omega),hl,Nat.sub_self];simp
set_option maxRecDepth 100000 in
theorem of_c (l:List RC) (h:Heap) (hl:l.length≤300000) (ok:∀r∈l,r.ok):ACalls Tryz.prog 105 [.ro 4 (l.map RC.enc)] h (fun r h'=>r=.agg [.ro 4 ((ofF l).map RC.enc)]∧h'=h):=by
 refine ACalls.intro Tryz.func105 rfl Tryz.ntmps105 Tryz.results105 (Nat.le_of_ble_eq_true rfl) ?_
 (repeat' first|refine svE ⟨?_⟩|refine .b fun b=>?_|refine .u fun u=>?_|refine .d ?_ ?_|(refine .g fun hg=>?_;try exact svx)|fail)
 revert b;intro b2
 refine W.nil_ 4 200 ?_
 refine W.loop (J:=fun x:Nat × Value=>⟨134,[(20,.val (.int .i64 (x.1:Int))),(19,.val (.int .i64 (l.length:Int))),(18,.ro 4 (l.map RC.enc)),(3,.val x.2),(2,.val (.pointer (some ⟨b2,0,none⟩)))],.own x.2 4 ((cntL (l.take x.1)).map RC.enc) 200::.box b2 [.val (.slice none 0 0)] 114::h⟩)
  (Φ:=fun x=>x.1≤l.length) (μ:=fun x=>l.length - x.1) (0,.slice none 0 0) lee (Nat.zero_le _) ?_
 rintro⟨k,v⟩ hk
 dsimp only at hk ⊢
 rcases Nat.lt_or_ge k l.length with hlt|hge
 ·obtain⟨r,hx⟩:∃r,l[k]?=some r:=⟨_,List.getElem?_eq_getElem hlt⟩
  have hsn:=cntL_snoc hx
  have hln:(cntL (l.take k)).length≤k:=Nat.le_trans (List.length_filter_le _ _) (by rw[List.length_take];omega)
  (repeat' first|refine svE ⟨?_⟩|refine .b fun b=>?_|refine .u fun u=>?_|refine .d ?_ ?_|(refine .g fun hg=>?_;try exact svx)|fail)
  refine S.call ?_;refine (counts_c r _ (ok r (List.mem_of_getElem? hx))).mono ?_;rintro r h' ⟨rfl,hh⟩;subst hh
  by_cases hc:r.cnt
  ·rw[if_pos hc] at hsn
   rw[decide_eq_true hc]
   (repeat' first|refine svE ⟨?_⟩|refine .b fun b=>?_|refine .u fun u=>?_|refine .d ?_ ?_|(refine .g fun hg=>?_;try exact svx)|fail)
   exact⟨(k+1,u),hlt,by dsimp only;rw[hsn,List.map_append];exact lee,by dsimp only;omega⟩
  ·rw[if_neg hc,List.append_nil] at hsn
   rw[decide_eq_false hc]
   (repeat' first|refine svE ⟨?_⟩|refine .b fun b=>?_|refine .u fun u=>?_|refine .d ?_ ?_|(refine .g fun hg=>?_;try exact svx)|fail)
   exact⟨(k+1,v),hlt,by dsimp only;rw[hsn];exact lee,by dsimp only;omega⟩
 have hkl:k=l.length:=by omega
 subst hkl
 rw[List.take_length]
 have hcn:∀r∈cntL l,r.cnt:=fun r hr=>by simpa using (List.mem_filter.1 hr).2
 have hcl:(cntL l).length≤l.length:=List.length_filter_le _ _
 (repeat' first|refine svE ⟨?_⟩|refine .b fun b=>?_|refine .u fun u=>?_|refine .d ?_ ?_|(refine .g fun hg=>?_;try exact svx)|fail)
 refine S.call ?_
 refine (sortY_c (cntL l) v _ _ (by omega)).mono ?_
 rintro r h' ⟨rfl,A,hA1,hA2,hh⟩;subst hh
 have hAn:∀r∈A,r.cnt:=fun r hr=>hcn r (hA1.mem_iff.1 hr)
 have hAl:A.length≤300000:=by rw[hA1.length_eq];omega
 (repeat' first|refine svE ⟨?_⟩|refine .b fun b=>?_|refine .u fun u=>?_|refine .d ?_ ?_|(refine .g fun hg=>?_;try exact svx)|fail)
 refine S.call ?_
 refine (acalls_b (vs':=[.ro 4 (A.map RC.enc)]) (by (repeat' (first|exact Bor.nil|refine Bor.own (by (fail_if_success (apply memG));repeat (first|exact List.Mem.head _|assumption|refine List.Mem.tail _ ?_)) ?_|refine Bor.vw (by (fail_if_success (apply memG));repeat (first|exact List.Mem.head _|assumption|refine List.Mem.tail _ ?_)) (by first|omega|(simp only[ints,splice,List.length_map,List.length_append,List.length_cons,List.length_nil,List.length_take,List.length_drop,List.length_set,List.length_replicate];omega)) ?_|refine Bor.same ?_))) (bedges_c A [] hAl hAn) ?_).mono ?_
 ·rintro r hr ⟨w,rfl,rfl⟩
  exact⟨sc_val _,fun x hx=>by rw[List.mem_singleton.1 hx];exact sc_own (sc_ints _ _)⟩
 rintro r h' ⟨hr,rfl,w,rfl,rfl⟩
 (repeat' first|refine svE ⟨?_⟩|refine .b fun b=>?_|refine .u fun u=>?_|refine .d ?_ ?_|(refine .g fun hg=>?_;try exact svx)|fail)
 revert b;intro b7
 refine W.nil_ 4 200 ?_
 refine W.nil_ 4 200 ?_
 have hup:=up_edF A
 have hfin:ofF l=flatB (bnd (edF A) (rowS A) ((edF A).length - 1)).reverse:=by
  have e1:edF (cntL l)=edF A:=edF_perm hA1.symm
  have e2:rowS (cntL l)=rowS A:=funext fun y=>rowS_perm hA1.symm fun r hr=>(hcn r hr).1.2.1
  unfold ofF bandsF;rw[e1,e2]
 refine W.loop (J:=fun q:Nat × Nat × Nat × List RC × Value × Value=>⟨134,[(11,.val (.int .i64 (q.1:Int))),(10,.val (.int .i64 (q.2.1:Int))),(9,.val (.int .i64 (q.2.2.1:Int))),(8,.val q.2.2.2.2.1),(7,.val (.pointer (some ⟨b7,0,none⟩))),(6,.val w),(3,.val v),(2,.val (.pointer (some ⟨b2,0,none⟩)))],
   .own q.2.2.2.2.1 4 (q.2.2.2.1.map RC.enc) 200::.box b7 [.val q.2.2.2.2.2] 112::.own q.2.2.2.2.2 4 ((flatB (bnd (edF A) (rowS A) q.1).reverse).map RC.enc) 200::.own w 1 (ints .i64 (edF A)) 3::.own v 4 (A.map RC.enc) 200::.box b2 [.val (.slice none 0 0)] 114::h⟩)
  (Φ:=fun q=>RoundI A q.1 q.2.1 q.2.2.1 q.2.2.2.1) (μ:=fun q=>(edF A).length - q.1) (0,0,0,[],.slice none 0 0,.slice none 0 0) lee (roundI_start A) ?_
 rintro⟨i,nx,ab,R,vr,vo⟩ hI
 dsimp only at hI ⊢
 have hil:=hI.hi
 have hlen:=len_edF A
 rcases Nat.lt_or_ge (i+1) (edF A).length with hlt|hge
 ·obtain⟨y,hy⟩:∃y,(edF A)[i]?=some y:=⟨_,List.getElem?_eq_getElem (by omega)⟩
  obtain⟨z,hz⟩:∃z,(edF A)[i+1]?=some z:=⟨_,List.getElem?_eq_getElem hlt⟩
  have hz':(edF A)[((i:Int)+1).toNat]?=some z:=by rw[show ((i:Int)+1).toNat=i+1 by omega];exact hz
  have hyM:=edF_inM hAn y (List.mem_of_getElem? hy)
  have hzM:=edF_inM hAn z (List.mem_of_getElem? hz)
  (repeat' first|refine svE ⟨?_⟩|refine .b fun b=>?_|refine .u fun u=>?_|refine .d ?_ ?_|(refine .g fun hg=>?_;try exact svx)|fail)
  refine R2.alloc2 (fun b12 b13=>?_)
  (repeat' first|refine svE ⟨?_⟩|refine .b fun b=>?_|refine .u fun u=>?_|refine .d ?_ ?_|(refine .g fun hg=>?_;try exact svx)|fail)
  have hRA:∀r∈R,r∈A:=fun r hr=>List.mem_of_mem_take (List.mem_filter.1 (hI.hR.mem_iff.1 hr)).1
  have hRl:R.length≤300000:=by
   rw[hI.hR.length_eq]
   exact Nat.le_trans (List.length_filter_le _ _) (by rw[List.length_take];omega)
  refine Step.le (s':=⟨134,[(52,.clo (.func 137) [.val (.pointer (some ⟨b12,0,none⟩))]),(51,.val vr),(10,.val (.int .i64 (nx:Int))),(13,.val (.pointer (some ⟨b13,0,none⟩))),(12,.val (.pointer (some ⟨b12,0,none⟩))),(11,.val (.int .i64 (i:Int))),(9,.val (.int .i64 (ab:Int))),(7,.val (.pointer (some ⟨b7,0,none⟩))),(6,.val w),(3,.val v),(2,.val (.pointer (some ⟨b2,0,none⟩)))],.own vr 4 (R.map RC.enc) 200::.box b12 [.val (.int .i64 y)] 3::.box b13 [.val (.int .i64 z)] 3::.box b7 [.val vo] 112::.own vo 4 (List.map RC.enc (flatB (bnd (edF A) (rowS A) i).reverse)) 200::.own w 1 (ints .i64 (edF A)) 3::.own v 4 (A.map RC.enc) 200::.box b2 [.val (.slice none 0 0)] 114::h⟩) lee ?_
  refine S.call ?_
  refine (deletefunc_c (fun r=>decide (r.y+r.h≤y)) R vr (Fv.clo _ _) _ (by omega) (fun r hr=>del_c r y b12 _ (hAn r (hRA r hr)))).mono ?_
  rintro r h' ⟨v1,rfl,hh⟩;subst hh
  generalize hR1:R.filter (fun r=>!decide (r.y+r.h≤y))=R1
  have hR1l:R1.length≤300000:=by rw[←hR1];exact Nat.le_trans (List.length_filter_le _ _) hRl
  (repeat' (first|(refine iS ?_;refine iMu ?_;refine S.mapU ?_)|refine svF ⟨?_⟩|refine .b fun b=>?_|refine .u fun u=>?_|refine .d ?_ ?_|(refine .g fun hg=>?_;try exact svx)|fail))
  refine W.mid (J:=fun q:Nat × List RC × Value=>⟨134,[(14,.val (.int .i64 (nx:Int))),(10,.val (.int .i64 (q.1:Int))),(8,.val q.2.2),(13,.val (.pointer (some ⟨b13,0,none⟩))),(12,.val (.pointer (some ⟨b12,0,none⟩))),(11,.val (.int .i64 (i:Int))),(9,.val (.int .i64 (ab:Int))),(7,.val (.pointer (some ⟨b7,0,none⟩))),(6,.val w),(3,.val v),(2,.val (.pointer (some ⟨b2,0,none⟩)))],.own q.2.2 4 (q.2.1.map RC.enc) 200::.box b12 [.val (.int .i64 y)] 3::.box b13 [.val (.int .i64 z)] 3::.box b7 [.val vo] 112::.own vo 4 (List.map RC.enc (flatB (bnd (edF A) (rowS A) i).reverse)) 200::.own w 1 (ints .i64 (edF A)) 3::.own v 4 (A.map RC.enc) 200::.box b2 [.val (.slice none 0 0)] 114::h⟩)
   (Φ:=fun q=>nx≤q.1∧q.1≤A.length∧q.2.1=R1++(A.drop nx).take (q.1 - nx)∧(∀r∈(A.drop nx).take (q.1 - nx),r.y=y)∧∀r,A[q.1]?=some r→r.y≠y) ?_ ?_
  ·(repeat' first|refine svE ⟨?_⟩|refine .b fun b=>?_|refine .u fun u=>?_|refine .d ?_ ?_|(refine .g fun hg=>?_;try exact svx)|fail)
   refine W.loop (J:=fun q:Nat × List RC × Value=>⟨134,[(14,.val (.int .i64 (nx:Int))),(10,.val (.int .i64 (q.1:Int))),(8,.val q.2.2),(13,.val (.pointer (some ⟨b13,0,none⟩))),(12,.val (.pointer (some ⟨b12,0,none⟩))),(11,.val (.int .i64 (i:Int))),(9,.val (.int .i64 (ab:Int))),(7,.val (.pointer (some ⟨b7,0,none⟩))),(6,.val w),(3,.val v),(2,.val (.pointer (some ⟨b2,0,none⟩)))],.own q.2.2 4 (q.2.1.map RC.enc) 200::.box b12 [.val (.int .i64 y)] 3::.box b13 [.val (.int .i64 z)] 3::.box b7 [.val vo] 112::.own vo 4 (List.map RC.enc (flatB (bnd (edF A) (rowS A) i).reverse)) 200::.own w 1 (ints .i64 (edF A)) 3::.own v 4 (A.map RC.enc) 200::.box b2 [.val (.slice none 0 0)] 114::h⟩)
    (Φ:=fun q=>nx≤q.1∧q.1≤A.length∧q.2.1=R1++(A.drop nx).take (q.1 - nx)∧(∀r∈(A.drop nx).take (q.1 - nx),r.y=y)) (μ:=fun q=>A.length - q.1) (nx,R1,v1) lee ⟨Nat.le_refl _,hI.hnx,by simp,by simp⟩ ?_
   rintro⟨n1,Rr,v2⟩ ⟨g1,g2,g3,g4⟩
   dsimp only at g1 g2 g3 g4 ⊢
   have hRrl:Rr.length≤600000:=by rw[g3,List.length_append,List.length_take,List.length_drop];omega
   rcases Nat.lt_or_ge n1 A.length with hlt1|hge1
   ·obtain⟨r,hx⟩:∃r,A[n1]?=some r:=⟨_,List.getElem?_eq_getElem hlt1⟩
    by_cases hry:r.y=y
    ·have hmore:(A.drop nx).take (n1+1 - nx)=(A.drop nx).take (n1 - nx)++[r]:=by
      rw[show n1+1 - nx=n1 - nx+1 by omega,List.take_add_one,List.getElem?_drop,show nx+(n1 - nx)=n1 by omega,hx];rfl
     (repeat' first|refine svE ⟨?_⟩|refine .b fun b=>?_|refine .u fun u=>?_|refine .d ?_ ?_|(refine .g fun hg=>?_;try exact svx)|fail)
     refine⟨(n1+1,Rr++[r],u),⟨by dsimp only;omega,hlt1,?_,?_⟩,by dsimp only;rw[List.map_append];exact lee,by dsimp only;omega⟩
     ·dsimp only;rw[hmore,g3,List.append_assoc]
     ·dsimp only
      rw[hmore]
      intro q hq
      rcases List.mem_append.1 hq with hq|hq
      ·exact g4 q hq
      ·rw[List.mem_singleton.1 hq];exact hry
    ·(repeat' first|refine svE ⟨?_⟩|refine .b fun b=>?_|refine .u fun u=>?_|refine .d ?_ ?_|(refine .g fun hg=>?_;try exact svx)|fail)
     exact⟨(n1,Rr,v2),⟨g1,g2,g3,g4,fun q hq=>by rw[hx] at hq;injection hq with hq;subst hq;exact hry⟩,lee⟩
   ·(repeat' first|refine svE ⟨?_⟩|refine .b fun b=>?_|refine .u fun u=>?_|refine .d ?_ ?_|(refine .g fun hg=>?_;try exact svx)|fail)
    exact⟨(n1,Rr,v2),⟨g1,g2,g3,g4,fun q hq=>by have:=(List.getElem?_eq_some_iff.1 hq).1;simp only at this;omega⟩,lee⟩
  rintro⟨n1,Rr,v2⟩ ⟨g1,g2,g3,g4,g5⟩
  dsimp only at g1 g2 g3 g4 g5 ⊢
  have hRrl:Rr.length≤600000:=by rw[g3,List.length_append,List.length_take,List.length_drop];omega
  refine W.mid (J:=fun q:List RC=>⟨134,[(10,.val (.int .i64 (n1:Int))),(8,.val v2),(13,.val (.pointer (some ⟨b13,0,none⟩))),(12,.val (.pointer (some ⟨b12,0,none⟩))),(11,.val (.int .i64 (i:Int))),(9,.val (.int .i64 (ab:Int))),(7,.val (.pointer (some ⟨b7,0,none⟩))),(6,.val w),(3,.val v),(2,.val (.pointer (some ⟨b2,0,none⟩)))],.own v2 4 (q.map RC.enc) 200::.box b12 [.val (.int .i64 y)] 3::.box b13 [.val (.int .i64 z)] 3::.box b7 [.val vo] 112::.own vo 4 (List.map RC.enc (flatB (bnd (edF A) (rowS A) i).reverse)) 200::.own w 1 (ints .i64 (edF A)) 3::.own v 4 (A.map RC.enc) 200::.box b2 [.val (.slice none 0 0)] 114::h⟩)
   (Φ:=fun q=>q.Perm Rr∧q.Pairwise fun a b=>a.x≤b.x) ?_ ?_
  ·by_cases hnn:n1=nx
   ·(repeat' first|refine svE ⟨?_⟩|refine .b fun b=>?_|refine .u fun u=>?_|refine .d ?_ ?_|(refine .g fun hg=>?_;try exact svx)|fail)
    refine⟨Rr,⟨.refl _,?_⟩,lee⟩
    rw[g3,hnn,Nat.sub_self,List.take_zero,List.append_nil,←hR1]
    exact hI.hs.filter _
   ·(repeat' first|refine svE ⟨?_⟩|refine .b fun b=>?_|refine .u fun u=>?_|refine .d ?_ ?_|(refine .g fun hg=>?_;try exact svx)|fail)
    refine S.call ?_
    refine (sortX_c Rr v2 _ _ (by omega)).mono ?_
    rintro r h' ⟨rfl,q,hq1,hq2,hh⟩;subst hh
    (repeat' first|refine svE ⟨?_⟩|refine .b fun b=>?_|refine .u fun u=>?_|refine .d ?_ ?_|(refine .g fun hg=>?_;try exact svx)|fail)
    exact⟨q,⟨hq1,hq2⟩,lee⟩
  rintro q ⟨hq1,hq2⟩
  show W none _ _ _ _
  obtain⟨hqP,hqc,hqA,hqle,hqgt⟩:=round_row hA2 hAn hI hy hR1 g1 g2 g3 g4 g5 hq1
  have hrow:spF q=rowS A y:=rowS_eq hqP hq2 fun r hr=>(hAn r hr).1.2.1
  have hql:q.length≤600000:=by rw[hq1.length_eq];exact hRrl
  have hsl:=spF_len q
  have hol:((flatB (bnd (edF A) (rowS A) i).reverse)).length≤600000 * 300000:=Nat.le_trans (bnd_len (N:=300000) (fun y=>Nat.le_trans (rowS_len A y) hAl) i) (Nat.mul_le_mul_right _ (by omega))
  (repeat' first|refine svE ⟨?_⟩|refine .b fun b=>?_|refine .u fun u=>?_|refine .d ?_ ?_|(refine .g fun hg=>?_;try exact svx)|fail)
  refine S.call ?_
  refine (spans_c v2 _).mono ?_
  rintro r h' ⟨g,rfl,hh⟩;subst hh
  (repeat' first|refine svE ⟨?_⟩|refine .b fun b=>?_|refine .u fun u=>?_|refine .d ?_ ?_|(refine .g fun hg=>?_;try exact svx)|fail)
  refine W.le (s':=⟨134,[(85,.clo (.func 163) [.val (.pointer (some ⟨g,0,none⟩))]),(15,.val (.int .i64 (((flatB (bnd (edF A) (rowS A) i).reverse)).length:Int))),(10,.val (.int .i64 (n1:Int))),(8,.val v2),(13,.val (.pointer (some ⟨b13,0,none⟩))),(12,.val (.pointer (some ⟨b12,0,none⟩))),(11,.val (.int .i64 (i:Int))),(9,.val (.int .i64 (ab:Int))),(7,.val (.pointer (some ⟨b7,0,none⟩))),(6,.val w),(3,.val v),(2,.val (.pointer (some ⟨b2,0,none⟩)))],.box g [.val v2] 112::.own v2 4 (q.map RC.enc) 200::.box b12 [.val (.int .i64 y)] 3::.box b13 [.val (.int .i64 z)] 3::.box b7 [.val vo] 112::.own vo 4 (List.map RC.enc (flatB (bnd (edF A) (rowS A) i).reverse)) 200::.own w 1 (ints .i64 (edF A)) 3::.own v 4 (A.map RC.enc) 200::.box b2 [.val (.slice none 0 0)] 114::h⟩) lee ?_
  refine W.range (fun k hh=>∃vo',hh=.box b7 [.val vo'] 112::.own vo' 4 (((flatB (bnd (edF A) (rowS A) i).reverse)++(Bd.rects ⟨y,z - y,spF q⟩).take k).map RC.enc) 200::.box b12 [.val (.int .i64 y)] 3::.box b13 [.val (.int .i64 z)] 3::.own w 1 (ints .i64 (edF A)) 3::.own v 4 (A.map RC.enc) 200::.box b2 [.val (.slice none 0 0)] 114::h)
   (fun _ _=>False) (spans_iter q v2 200 g (by omega) hqc) ⟨vo,by rw[List.take_zero,List.append_nil]⟩ ?_ ?_ (fun c h hf=>hf.elim) (fun x hx=>by obtain⟨s,_,rfl⟩:=List.mem_map.1 hx;rfl) (by repeat (first|exact LeH.refl _|exact LeH.nil _|refine LeH.cons (by (fail_if_success (apply tkG));(repeat (first|exact Tk.here|apply Tk.there));first|done|fail) ?_|refine LeH.boxw (by (fail_if_success (apply tkG));(repeat (first|exact Tk.here|apply Tk.there));first|done|fail) (by (repeat (first|exact Wk.refl _|exact Wk.nilr _|exact Wk.nilm|apply Wk.aggc|apply Wk.tupc|exact Wk.aggn|exact Wk.tupn));first|done|fail) ?_|refine LeH.skip ?_))
  ·rintro lp k x hh ⟨vo',rfl⟩ hx
   rw[List.getElem?_map] at hx
   obtain⟨s,hs,rfl⟩:=Option.map_eq_some_iff.1 hx
   obtain⟨⟨r1,hr1,e1⟩,⟨r2,hr2,e2⟩⟩:=spF_ends (List.mem_of_getElem? hs)
   have hM1:=(hqc r1 hr1).1
   have hM2:=(hqc r2 hr2).1
   obtain⟨m1,m2,m3⟩:=hM1
   obtain⟨m4,m5,m6⟩:=hM2
   rw[←e1] at m1 m3
   rw[←e2] at m6
   have hs2:=(spF_spec (fun r hr=>(hqc r hr).1.2.1) hq2).1.pos s (List.mem_of_getElem? hs)
   have hkl:k<(spF q).length:=(List.getElem?_eq_some_iff.1 hs).1
   have hnew:(Bd.rects ⟨y,z - y,spF q⟩)[k]?=some ⟨s.1,y,s.2 - s.1,z - y⟩:=by unfold Bd.rects;rw[List.getElem?_map,hs];rfl
   have hstep:((flatB (bnd (edF A) (rowS A) i).reverse)++(Bd.rects ⟨y,z - y,spF q⟩).take (k+1)).map RC.enc=((flatB (bnd (edF A) (rowS A) i).reverse)++(Bd.rects ⟨y,z - y,spF q⟩).take k).map RC.enc++[RC.enc ⟨s.1,y,s.2 - s.1,z - y⟩]:=by
    rw[List.take_add_one,hnew];simp
   have hle:((flatB (bnd (edF A) (rowS A) i).reverse)++(Bd.rects ⟨y,z - y,spF q⟩).take k).length≤600000 * 300000+600000:=by rw[List.length_append,List.length_take];omega
   rw[hstep]
   generalize (flatB (bnd (edF A) (rowS A) i).reverse)++(Bd.rects ⟨y,z - y,spF q⟩).take k=O at hle ⊢
   show W _ _ _ _ ⟨134,(86,spE s)::_,_⟩
   unfold spE
   obtain⟨hyM1,hyM2⟩:=hyM
   obtain⟨hzM1,hzM2⟩:=hzM
   (repeat' first|refine svE ⟨?_⟩|refine .b fun b=>?_|refine .u fun u=>?_|refine .d ?_ ?_|(refine .g fun hg=>?_;try exact svx)|fail)
   exact⟨.box b7 [.val u] 112::.own u 4 (O.map RC.enc++[RC.enc ⟨s.1,y,s.2 - s.1,z - y⟩]) 200::.box b12 [.val (.int .i64 y)] 3::.box b13 [.val (.int .i64 z)] 3::.own w 1 (ints .i64 (edF A)) 3::.own v 4 (A.map RC.enc) 200::.box b2 [.val (.slice none 0 0)] 114::h,(by repeat (first|exact LeH.refl _|exact LeH.nil _|refine LeH.cons (by (fail_if_success (apply tkG));(repeat (first|exact Tk.here|apply Tk.there));first|done|fail) ?_|refine LeH.boxw (by (fail_if_success (apply tkG));(repeat (first|exact Tk.here|apply Tk.there));first|done|fail) (by (repeat (first|exact Wk.refl _|exact Wk.nilr _|exact Wk.nilm|apply Wk.aggc|apply Wk.tupc|exact Wk.aggn|exact Wk.tupn));first|done|fail) ?_|refine LeH.skip ?_)),u,rfl⟩
  rintro hh ⟨vo',rfl⟩
  rw[List.take_of_length_le (by rw[List.length_map];unfold Bd.rects;rw[List.length_map];exact Nat.le_refl _),hrow]
  show InBlock _ _ _ ⟨_,_,.box g [.val v2] 112::.own v2 4 (q.map RC.enc) 200::_⟩
  obtain⟨hcanB,hcanY,hcanC⟩:=bnd_all hAn i (by omega)
  have hyd:(edF A).getD i 0=y:=by rw[List.getD_eq_getElem?_getD,hy];rfl
  have hzd:(edF A).getD (i+1) 0=z:=by rw[List.getD_eq_getElem?_getD,hz];rfl
  have hyz:y<z:=by have:=up_getD hup hlt;omega
  rw[hyd] at hcanY
  obtain⟨hab1,hab2⟩:=round_ok (s:=rowS A y) hcanB hcanY (show 0<z - y by omega) (hyd ▸ hI.hab (by omega))
  have hbs:bnd (edF A) (rowS A) (i+1)=addB (bnd (edF A) (rowS A) i) y (z - y) (rowS A y):=by show addB _ _ _ _=_;rw[hyd,hzd]
  rw[←hbs,show y+(z - y)=z by omega] at hab2
  have hnl:(Bd.rects ⟨y,z - y,rowS A y⟩).length≤300000:=by unfold Bd.rects;rw[List.length_map];exact Nat.le_trans (rowS_len A y) hAl
  generalize hO:(flatB (bnd (edF A) (rowS A) i).reverse)=O at *
  generalize hNw:Bd.rects ⟨y,z - y,rowS A y⟩=NW at *
  have hRI:=fun ab' hab'=>roundI_next hlt hy hz g2 hqA hqle hqgt hq2 (ab':=ab') hab'
  (repeat' first|refine svE ⟨?_⟩|refine .b fun b=>?_|refine .u fun u=>?_|refine .d ?_ ?_|(refine .g fun hg=>?_;try exact svx)|fail)
  have e1:(((O++NW).map RC.enc).drop ab).take (O.length - ab)=(O.drop ab).map RC.enc:=by
   rw[←List.map_drop,←List.map_take,List.drop_append_of_le_length hab1,List.take_left' (by rw[List.length_drop])]
  have e2:(((O++NW).map RC.enc).drop O.length).take (((O++NW).map RC.enc).length - O.length)=NW.map RC.enc:=by
   rw[←List.map_drop,←List.map_take,List.drop_left,List.take_of_length_le (by rw[List.length_map,List.length_append];omega)]
  have hal:=balike_c (O.drop ab) NW [] (fun r hr=>hcanC r (List.mem_of_mem_drop hr))
  cases hcase:(decide (0<(O.drop ab).length)&&eqF (fun a b=>decide (goesOn a b)) (O.drop ab) NW) with
  | true=>
   rw[hcase] at hal hab2
   rw[if_pos rfl] at hab2
   refine R2.C (acalls_ro (vs':=[.ro 4 ((O.drop ab).map RC.enc),.ro 4 (NW.map RC.enc)]) (by rw[←e1,←e2];exact .vw (by (fail_if_success (apply memG));repeat (first|exact List.Mem.head _|assumption|refine List.Mem.tail _ ?_)) (by rw[List.length_map,List.length_append];omega) (.vw (by (fail_if_success (apply memG));repeat (first|exact List.Mem.head _|assumption|refine List.Mem.tail _ ?_)) (by rw[List.length_map,List.length_append];omega) .nil)) hal) ?_
   (repeat' first|refine svE ⟨?_⟩|refine .b fun b=>?_|refine .u fun u=>?_|refine .d ?_ ?_|(refine .g fun hg=>?_;try exact svx)|fail)
   refine W.loop (J:=fun q2:Nat × List RC=>⟨134,[(17,.val (.int .i64 (q2.1:Int))),(15,.val (.int .i64 (O.length:Int))),(10,.val (.int .i64 (n1:Int))),(8,.val v2),(13,.val (.pointer (some ⟨b13,0,none⟩))),(12,.val (.pointer (some ⟨b12,0,none⟩))),(11,.val (.int .i64 (i:Int))),(9,.val (.int .i64 (ab:Int))),(7,.val (.pointer (some ⟨b7,0,none⟩))),(6,.val w),(3,.val v),(2,.val (.pointer (some ⟨b2,0,none⟩)))],.own v2 4 (q.map RC.enc) 200::.box b12 [.val (.int .i64 y)] 3::.box b13 [.val (.int .i64 z)] 3::.box b7 [.val vo'] 112::.own vo' 4 (List.map RC.enc q2.2) 200::.own w 1 (ints .i64 (edF A)) 3::.own v 4 (A.map RC.enc) 200::.box b2 [.val (.slice none 0 0)] 114::h⟩)
    (Φ:=fun q2=>ab≤q2.1∧q2.1≤O.length∧q2.2=grown O ab (z - y) q2.1++NW) (μ:=fun q2=>O.length - q2.1) (ab,O++NW) lee ⟨Nat.le_refl _,hab1,by dsimp only;rw[grown_start]⟩ ?_
   rintro⟨j,M⟩ ⟨j1,j2,j3⟩
   dsimp only at j1 j2 j3 ⊢
   have hML:M.length=O.length+NW.length:=by rw[j3,List.length_append,grown_len j1 j2]
   rcases Nat.lt_or_ge j O.length with hjl|hjg
   ·obtain⟨r,hx⟩:∃r,O[j]?=some r:=⟨_,List.getElem?_eq_getElem hjl⟩
    obtain⟨k1,k2⟩:=grown_step (d:=z - y) j1 hx
    have hMx:M[j]?=some r:=by rw[j3,List.getElem?_append_left (by rw[grown_len j1 j2];exact hjl)];exact k1
    have hMs:M.set j (growH (z - y) r)=grown O ab (z - y) (j+1)++NW:=by rw[j3,List.set_append_left _ _ (by rw[grown_len j1 j2];exact hjl),k2]
    obtain⟨_,⟨c1,c2,c3⟩⟩:=hcanC r (List.mem_of_getElem? hx)
    obtain⟨hyM1,hyM2⟩:=hyM
    obtain⟨hzM1,hzM2⟩:=hzM
    (repeat' first|refine svE ⟨?_⟩|refine .b fun b=>?_|refine .u fun u=>?_|refine .d ?_ ?_|(refine .g fun hg=>?_;try exact svx)|fail)
    refine⟨(j+1,M.set j (growH (z - y) r)),⟨by dsimp only;omega,hjl,hMs⟩,by dsimp only;rw[List.map_set];exact lee,by dsimp only;omega⟩
   ·have hjj:j=O.length:=by omega
    subst hjj
    have hT:M.take O.length=flatB (bnd (edF A) (rowS A) (i+1)).reverse:=by rw[j3,List.take_left' (grown_len j1 j2),hab2.1,grown_end]
    (repeat' ((fail_if_success (refine iS ?_;refine iSl ?_));(first|refine svE ⟨?_⟩|refine .b fun b=>?_|refine .u fun u=>?_|refine .d ?_ ?_|(refine .g fun hg=>?_;try exact svx)|fail)))
    refine S.trunc (hi:=O.length) (fun v3=>?_)
    rw[←List.map_take,hT]
    (repeat' first|refine svE ⟨?_⟩|refine .b fun b=>?_|refine .u fun u=>?_|refine .d ?_ ?_|(refine .g fun hg=>?_;try exact svx)|fail)
    exact⟨(i+1,n1,ab,q,v2,v3),hRI ab hab2.2,lee,by dsimp only;omega⟩
  | false=>
   rw[hcase] at hal hab2
   rw[if_neg (by simp)] at hab2
   refine R2.C (acalls_ro (vs':=[.ro 4 ((O.drop ab).map RC.enc),.ro 4 (NW.map RC.enc)]) (by rw[←e1,←e2];exact .vw (by (fail_if_success (apply memG));repeat (first|exact List.Mem.head _|assumption|refine List.Mem.tail _ ?_)) (by rw[List.length_map,List.length_append];omega) (.vw (by (fail_if_success (apply memG));repeat (first|exact List.Mem.head _|assumption|refine List.Mem.tail _ ?_)) (by rw[List.length_map,List.length_append];omega) .nil)) hal) ?_
   (repeat' first|refine svE ⟨?_⟩|refine .b fun b=>?_|refine .u fun u=>?_|refine .d ?_ ?_|(refine .g fun hg=>?_;try exact svx)|fail)
   exact⟨(i+1,n1,O.length,q,v2,vo'),hRI O.length hab2.2,by dsimp only;rw[hab2.1];exact lee,by dsimp only;omega⟩
 ·have hie:i=(edF A).length - 1:=by omega
  rw[hfin,←hie]
  have hol:((flatB (bnd (edF A) (rowS A) i).reverse)).length≤600000 * 300000:=Nat.le_trans (bnd_len (N:=300000) (fun y=>Nat.le_trans (rowS_len A y) hAl) i) (Nat.mul_le_mul_right _ (by omega))
  generalize (flatB (bnd (edF A) (rowS A) i).reverse)=O at hol ⊢
  (repeat' first|refine svE ⟨?_⟩|refine .b fun b=>?_|refine .u fun u=>?_|refine .d ?_ ?_|(refine .g fun hg=>?_;try exact svx)|fail)
  refine Step.le (s':=⟨134,[(131,.val vo),(2,.val (.pointer (some ⟨b2,0,none⟩)))],.own vo 4 (O.map RC.enc) 200::.box b2 [.val (.slice none 0 0)] 114::h⟩) lee ?_
  refine S.call ?_
  refine (clip_c O vo _ _ (by omega)).mono ?_
  rintro r h' ⟨rfl,hh⟩;subst hh
  (repeat' first|refine svE ⟨?_⟩|refine .b fun b=>?_|refine .u fun u=>?_|refine .d ?_ ?_|(refine .g fun hg=>?_;try exact svx)|fail)
  exact fin_r (h':=h) ⟨rfl,rfl⟩
end Go.Proofs.YtbknacpdcdkjiaaGreat
