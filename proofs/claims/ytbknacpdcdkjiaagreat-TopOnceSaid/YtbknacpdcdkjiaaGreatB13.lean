import Derived.Test.YtbknacpdcdkjiaaGreatB11
import Derived.Test.YtbknacpdcdkjiaaGreatB9
import Derived.Shelf.SlSortCmp.WholeK
import Derived.Test.YtbknacpdcdkjiaaGreatProg
import Derived.Test.YtbknacpdcdkjiaaGreatU5
/- band's edges, alike, spans. No condition. -/
namespace Go.Proofs.YtbknacpdcdkjiaaGreat
open Go Go.VM
set_option maxRecDepth 100000
attribute [local irreducible] PurV Pur Step RL W D ACalls Then InBlock Fini
set_option linter.unusedVariables false
set_option linter.unusedSimpArgs false
set_option maxHeartbeats 20000000
def ends (l:List RC):List Int:=l.flatMap fun r=>[r.y,r.y+r.h]
theorem len_ends (l:List RC):(ends l).length=2 * l.length:=by
 unfold ends
 induction l with
 | nil=>rfl
 | cons r l ih=>rw[List.flatMap_cons,List.length_append,ih];simp;omega
theorem ends_snoc {l:List RC} {k:Nat} {r:RC} (hx:l[k]?=some r):ends (l.take (k+1))=ends (l.take k)++[r.y,r.y+r.h]:=by
 unfold ends;rw[List.take_add_one,hx,List.flatMap_append];simp
def edF (l:List RC):List Int:=ddF (srt (ends l))
theorem up_edF (l:List RC):Up_ (edF l):=up_ddF (srt_sorted _)
theorem mem_edF {l:List RC} {y:Int}:y∈edF l↔∃r∈l,y=r.y∨y=r.y+r.h:=by
 unfold edF
 rw[mem_ddF,(srt_perm _).mem_iff]
 unfold ends
 rw[List.mem_flatMap]
 constructor
 ·rintro⟨r,h1,h2⟩;exact⟨r,h1,by simpa using h2⟩
 ·rintro⟨r,h1,h2⟩;exact⟨r,h1,by simpa using h2⟩
theorem len_edF (l:List RC):(edF l).length≤2 * l.length:=by
 have h:∀a:List Int,(ddF a).length≤a.length:=by
  intro a
  induction a using ddF.induct with
  | case1=>simp[ddF]
  | case2 x=>simp[ddF]
  | case3 x l ih=>unfold ddF;rw[if_pos rfl];simp only[List.length_cons] at *;omega
  | case4 x y l hne ih=>unfold ddF;rw[if_neg hne];simp only[List.length_cons] at *;omega
 refine Nat.le_trans (h _) ?_
 rw[(srt_perm _).length_eq,len_ends]
 exact Nat.le_refl _
theorem bedges_c (l:List RC) (h:Heap) (hl:l.length≤300000) (hc:∀r∈l,r.cnt):ACalls Tryz.prog 135 [.ro 4 (l.map RC.enc)] h (fun r h'=>∃w,r=.val w∧h'=.own w 1 (ints .i64 (edF l)) 3::h):=by
 refine ACalls.intro Tryz.func135 rfl Tryz.ntmps135 Tryz.results135 (Nat.le_of_ble_eq_true rfl) ?_
 (repeat' first|refine svE ⟨?_⟩|refine .b fun b=>?_|refine .u fun u=>?_|refine .d ?_ ?_|(refine .g fun hg=>?_;try exact svx)|fail)
 revert u;intro v0
 refine W.loop (J:=fun x:Nat × Value=>⟨31,[(12,.val (.int .i64 (x.1:Int))),(11,.val (.int .i64 (l.length:Int))),(10,.ro 4 (l.map RC.enc)),(3,.val x.2)],.own x.2 1 (ints .i64 (ends (l.take x.1))) 3::h⟩)
  (Φ:=fun x=>x.1≤l.length) (μ:=fun x=>l.length - x.1) (0,v0) lee (Nat.zero_le _) ?_
 rintro⟨k,v⟩ hk
 dsimp only at hk ⊢
 rcases Nat.lt_or_ge k l.length with hlt|hge
 ·obtain⟨r,hx⟩:∃r,l[k]?=some r:=⟨_,List.getElem?_eq_getElem hlt⟩
  obtain⟨⟨a1,a2,a3⟩,⟨a4,a5,a6⟩⟩:=hc r (List.mem_of_getElem? hx)
  have hln:=len_ends (l.take k)
  rw[List.length_take] at hln
  (repeat' first|refine svE ⟨?_⟩|refine .b fun b=>?_|refine .u fun u=>?_|refine .d ?_ ?_|(refine .g fun hg=>?_;try exact svx)|fail)
  exact⟨(k+1,u),hlt,by dsimp only;rw[ends_snoc hx,ints_append];exact lee,by dsimp only;omega⟩
 ·have hkl:k=l.length:=by omega
  subst hkl
  rw[List.take_length]
  have hln:=len_ends l
  (repeat' first|refine svE ⟨?_⟩|refine .b fun b=>?_|refine .u fun u=>?_|refine .d ?_ ?_|(refine .g fun hg=>?_;try exact svx)|fail)
  refine S.call ?_
  refine (sort_c (ends l) v h (by omega)).mono ?_
  rintro r h' ⟨rfl,hh⟩;subst hh
  (repeat' first|refine svE ⟨?_⟩|refine .b fun b=>?_|refine .u fun u=>?_|refine .d ?_ ?_|(refine .g fun hg=>?_;try exact svx)|fail)
  refine S.call ?_
  refine (compact_c (srt (ends l)) v h (by rw[(srt_perm _).length_eq];omega)).mono ?_
  rintro r h' ⟨w,rfl,hh⟩;subst hh
  (repeat' first|refine svE ⟨?_⟩|refine .b fun b=>?_|refine .u fun u=>?_|refine .d ?_ ?_|(refine .g fun hg=>?_;try exact svx)|fail)
  exact fin_r (h':=_) ⟨w,rfl,rfl⟩
instance:TFun Tryz.prog 165:=⟨by kernel_rfl⟩
theorem balike_c (l m:List RC) (h:Heap) (hc:∀r∈l,r.cnt):ACalls Tryz.prog 140 [.ro 4 (l.map RC.enc),.ro 4 (m.map RC.enc)] h (fun r h'=>r=.val (.bool (decide (0<l.length)&&eqF (fun a b=>decide (goesOn a b)) l m))∧h'=h):=by
 refine ACalls.intro Tryz.func140 rfl Tryz.ntmps140 Tryz.results140 (Nat.le_of_ble_eq_true rfl) ?_
 refine W.len 0 rfl (fun ha=>?_);simp only[ints,splice,List.length_map,List.length_append,List.length_cons,List.length_nil,List.length_take,List.length_drop,List.length_set,List.length_replicate] at ha
 by_cases h0:0<l.length
 ·rw[decide_eq_true h0,Bool.true_and]
  (repeat' first|refine svE ⟨?_⟩|refine .b fun b=>?_|refine .u fun u=>?_|refine .d ?_ ?_|(refine .g fun hg=>?_;try exact svx)|fail)
  refine S.call ?_;refine (equalfunc_c (fun a b=>decide (goesOn a b)) l m (Fv.fn _) h (fun r hr s=>same1_c r s h (hc r hr))).mono ?_;rintro r h' ⟨rfl,hh⟩;subst hh
  (repeat' first|refine svE ⟨?_⟩|refine .b fun b=>?_|refine .u fun u=>?_|refine .d ?_ ?_|(refine .g fun hg=>?_;try exact svx)|fail)
  exact fin_r (h':=_) ⟨rfl,rfl⟩
 ·rw[decide_eq_false h0,Bool.false_and]
  (repeat' first|refine svE ⟨?_⟩|refine .b fun b=>?_|refine .u fun u=>?_|refine .d ?_ ?_|(refine .g fun hg=>?_;try exact svx)|fail)
  exact fin_r (h':=_) ⟨rfl,rfl⟩
theorem spans_c (v:Value) (h:Heap):ACalls Tryz.prog 139 [.val v] h (fun r h'=>∃g,r=.clo (.func 163) [.val (.pointer (some ⟨g,0,none⟩))]∧h'=.box g [.val v] 112::h):=by
 refine ACalls.intro Tryz.func139 rfl Tryz.ntmps139 Tryz.results139 (Nat.le_of_ble_eq_true rfl) ?_
 (repeat' first|refine svE ⟨?_⟩|refine .b fun b=>?_|refine .u fun u=>?_|refine .d ?_ ?_|(refine .g fun hg=>?_;try exact svx)|fail)
 exact fin_r (h':=_) ⟨_,rfl,rfl⟩
def spGo (f t:Int):List RC→List (Int × Int)
 | []=>[(f,t)]
 | r::l=>if r.x≤t then spGo f (max t (r.x+r.w)) l else (f,t)::spGo r.x (r.x+r.w) l
def spF:List RC→List (Int × Int)
 | []=>[]
 | r::l=>spGo r.x (r.x+r.w) l
theorem spGo_end {f t:Int} {l:List RC} (h:∀r,l[0]?=some r→¬ r.x≤t):spGo f t l=(f,t)::spF l:=by
 cases l with
 | nil=>rfl
 | cons r l=>unfold spGo;rw[if_neg (h r rfl)];rfl
def spE (s:Int × Int):AV:=.agg [.val (.int .i64 s.1),.val (.int .i64 s.2)]
theorem drop_at {α:Type} {l:List α} {i:Nat} {r:α} (h:l[i]?=some r):l.drop i=r::l.drop (i+1):=by
 have hlt:=(List.getElem?_eq_some_iff.1 h).1
 rw[List.drop_eq_getElem_cons hlt]
 congr 1
 exact Option.some.inj ((List.getElem?_eq_getElem hlt).symm.trans h)
theorem spans_iter (l:List RC) (v:Value) (e g:Nat) (hl:l.length≤1000000) (hcn:∀r∈l,r.cnt) :
  Iter Tryz.prog 163 [.val (.pointer (some ⟨g,0,none⟩))] [.box g [.val v] 112,.own v 4 (l.map RC.enc) e] ((spF l).map fun s=>[spE s]):=by
 intro lp R Z hy h h0
 refine ACalls.intro Tryz.func163 rfl Tryz.ntmps163 Tryz.results163 (Nat.le_of_ble_eq_true rfl) ?_
 show W none _ _ _ ⟨_,_,.box g [.val v] 112::.own v 4 (l.map RC.enc) e::h⟩
 (repeat' first|refine svE ⟨?_⟩|refine .b fun b=>?_|refine .u fun u=>?_|refine .d ?_ ?_|(refine .g fun hg=>?_;try exact svx)|fail)
 refine W.loop (J:=fun q:Nat × Nat × Heap=>⟨63,[(3,.val (.int .i64 (q.1:Int))),(0,.val (.func (.yield lp) #[] #[])),(1,.val (.pointer (some ⟨g,0,none⟩)))],.box g [.val v] 112::.own v 4 (l.map RC.enc) e::q.2.2⟩)
  (Φ:=fun q=>q.1≤l.length∧R q.2.1 q.2.2∧spF (l.drop q.1)=(spF l).drop q.2.1∧q.2.1≤(spF l).length) (μ:=fun q=>l.length - q.1) (0,0,h) lee ⟨Nat.zero_le _,h0,rfl,Nat.zero_le _⟩ ?_
 rintro⟨i,k,hh⟩ ⟨hi,hR,hs,hkl⟩
 dsimp only at hi hR hs hkl ⊢
 rcases Nat.lt_or_ge i l.length with hlt|hge
 ·obtain⟨r,hx⟩:∃r,l[i]?=some r:=⟨_,List.getElem?_eq_getElem hlt⟩
  obtain⟨⟨a1,a2,a3⟩,⟨a4,a5,a6⟩⟩:=hcn r (List.mem_of_getElem? hx)
  rw[drop_at hx] at hs
  (repeat' ((fail_if_success (refine iYd ?_));(first|refine svE ⟨?_⟩|refine .b fun b=>?_|refine .u fun u=>?_|refine .d ?_ ?_|(refine .g fun hg=>?_;try exact svx)|fail)))
  revert b;intro b4
  refine W.loop (J:=fun q:Nat × Int=>⟨63,[(3,.val (.int .i64 (q.1:Int))),(4,.val (.pointer (some ⟨b4,0,none⟩))),(0,.val (.func (.yield lp) #[] #[])),(1,.val (.pointer (some ⟨g,0,none⟩)))],.box b4 [.val (.int .i64 r.x),.val (.int .i64 q.2)] 251::.box g [.val v] 112::.own v 4 (l.map RC.enc) e::hh⟩)
   (Φ:=fun q=>q.1≤l.length∧i<q.1∧spGo r.x q.2 (l.drop q.1)=(spF l).drop k) (μ:=fun q=>l.length - q.1) (i+1,r.x+r.w) lee ⟨hlt,by dsimp only;omega,hs⟩ ?_
  rintro⟨j,z⟩ ⟨hj,hij,hs2⟩
  dsimp only at hj hij hs2 ⊢
  have fin:(∀s,(l.drop j)[0]?=some s→¬ s.x≤z)→((spF l).map fun s=>[spE s])[k]?=some [spE (r.x,z)]∧spF (l.drop j)=(spF l).drop (k+1)∧k+1≤(spF l).length:=fun hne=>by
   rw[spGo_end hne] at hs2
   have e0:=congrArg (·[0]?) hs2
   simp only[List.getElem?_cons_zero,List.getElem?_drop,Nat.add_zero] at e0
   have e1:=congrArg (List.drop 1) hs2
   rw[List.drop_drop,List.drop_one,List.tail_cons] at e1
   exact⟨by rw[List.getElem?_map,←e0];rfl,e1,(List.getElem?_eq_some_iff.1 e0.symm).1⟩
  rcases Nat.lt_or_ge j l.length with hjl|hjg
  ·obtain⟨s,hy2⟩:∃s,l[j]?=some s:=⟨_,List.getElem?_eq_getElem hjl⟩
   obtain⟨⟨c1,c2,c3⟩,⟨c4,c5,c6⟩⟩:=hcn s (List.mem_of_getElem? hy2)
   by_cases hsz:s.x≤z
   ·(repeat' ((fail_if_success (refine iYd ?_));(first|refine svE ⟨?_⟩|refine .b fun b=>?_|refine .u fun u=>?_|refine .d ?_ ?_|(refine .g fun hg=>?_;try exact svx)|fail)))
    refine⟨(j+1,max z (s.x+s.w)),⟨hjl,by dsimp only;omega,?_⟩,lee,by dsimp only;omega⟩
    dsimp only
    rw[drop_at hy2,spGo,if_pos hsz] at hs2
    exact hs2
   ·obtain⟨f1,f2,f3⟩:=fin (fun s' hs'=>by rw[List.getElem?_drop,Nat.add_zero,hy2] at hs';injection hs' with hs';subst hs';exact hsz)
    (repeat' ((fail_if_success (refine iYd ?_));(first|refine svE ⟨?_⟩|refine .b fun b=>?_|refine .u fun u=>?_|refine .d ?_ ?_|(refine .g fun hg=>?_;try exact svx)|fail)))
    refine RL.yield ((hy k _ hh hR f1).keep3.mono ?_)
    rintro bb h' ⟨h1,(⟨rfl,hR'⟩|⟨rfl,hZ⟩),rfl⟩
    ·(repeat' ((fail_if_success (refine iYd ?_));(first|refine svE ⟨?_⟩|refine .b fun b=>?_|refine .u fun u=>?_|refine .d ?_ ?_|(refine .g fun hg=>?_;try exact svx)|fail)))
     exact⟨(j,k+1,h1),⟨hj,hR',f2,f3⟩,lee,by dsimp only;omega⟩
    ·(repeat' ((fail_if_success (refine iYd ?_));(first|refine svE ⟨?_⟩|refine .b fun b=>?_|refine .u fun u=>?_|refine .d ?_ ?_|(refine .g fun hg=>?_;try exact svx)|fail)))
     exact fin_r (h':=.box g [.val v] 112::.own v 4 (l.map RC.enc) e::h1) ⟨h1,rfl,.inr hZ⟩
  ·obtain⟨f1,f2,f3⟩:=fin (fun s' hs'=>by rw[List.drop_of_length_le hjg] at hs';cases hs')
   (repeat' ((fail_if_success (refine iYd ?_));(first|refine svE ⟨?_⟩|refine .b fun b=>?_|refine .u fun u=>?_|refine .d ?_ ?_|(refine .g fun hg=>?_;try exact svx)|fail)))
   refine RL.yield ((hy k _ hh hR f1).keep3.mono ?_)
   rintro bb h' ⟨h1,(⟨rfl,hR'⟩|⟨rfl,hZ⟩),rfl⟩
   ·(repeat' ((fail_if_success (refine iYd ?_));(first|refine svE ⟨?_⟩|refine .b fun b=>?_|refine .u fun u=>?_|refine .d ?_ ?_|(refine .g fun hg=>?_;try exact svx)|fail)))
    exact⟨(j,k+1,h1),⟨hj,hR',f2,f3⟩,lee,by dsimp only;omega⟩
   ·(repeat' ((fail_if_success (refine iYd ?_));(first|refine svE ⟨?_⟩|refine .b fun b=>?_|refine .u fun u=>?_|refine .d ?_ ?_|(refine .g fun hg=>?_;try exact svx)|fail)))
    exact fin_r (h':=.box g [.val v] 112::.own v 4 (l.map RC.enc) e::h1) ⟨h1,rfl,.inr hZ⟩
 ·rw[List.drop_of_length_le hge] at hs
  have hlen:(spF l).length≤k:=by
   have:=congrArg List.length hs
   simp only[List.length_drop] at this
   show _≤k
   have e0:(spF []).length=0:=rfl
   omega
  have hkk:k=(spF l).length:=by omega
  subst hkk
  (repeat' ((fail_if_success (refine iYd ?_));(first|refine svE ⟨?_⟩|refine .b fun b=>?_|refine .u fun u=>?_|refine .d ?_ ?_|(refine .g fun hg=>?_;try exact svx)|fail)))
  exact fin_n (h':=.box g [.val v] 112::.own v 4 (l.map RC.enc) e::hh) ⟨hh,rfl,.inl (by rw[List.length_map];exact hR)⟩
end Go.Proofs.YtbknacpdcdkjiaaGreat

/-
  DERIVED: THE SHELF's CONTRACTS AT THIS DUMP, IN PLAIN WORDS (tools/lay-plain.mjs out of 'YtbknacpdcdkjiaaGreatShelfLay.lean', which tools/lay-shelf.mjs wrote): THE SAME DECLARATIONS UNDER THE SAME NAMES: 'import', 'namespace', 'open', 'def', 'theorem' AND NOTHING ELSE: no command of the shelf's: FOR A HAND-IN. Each laying: the table of numbers ('.._ren') and one theorem, a field a fact of the dump's own or the kernel's comparison; each contract: ONE APPLICATION.
-/
namespace Go.Proofs
open Go.Shelf
set_option maxRecDepth 100000
def Tryz.sortR_ren:Go.Shelf.Ren:=⟨fun|6=>131|15=>158|14=>157|28=>180|29=>181|20=>172|21=>173|22=>174|23=>175|24=>176|25=>177|26=>178|27=>179|46=>185|47=>186|48=>187|49=>188|50=>189|57=>200|n=>n,fun|22=>112|24=>200|25=>244|3=>3|39=>270|0=>0|53=>37|55=>292|4=>4|46=>285|45=>284|50=>203|5=>5|9=>9|66=>296|70=>231|76=>306|77=>211|n=>n,fun|n=>n⟩
theorem Tryz.sortR:Go.Proofs.SlLaysF0.n6 Tryz.prog Tryz.sortR_ren:={
 mixed:=by kernel_rfl
 f6:=⟨Tryz.f131.name,by decide,Tryz.func131.trans (congrArg some (by kernel_rfl))⟩
 f14:=⟨Tryz.f157.name,by decide,Tryz.func157.trans (congrArg some (by kernel_rfl))⟩
 f15:=Tryz.func158.trans (congrArg some (by kernel_rfl))
 f20:=⟨Tryz.f172.name,by decide,Tryz.func172.trans (congrArg some (by kernel_rfl))⟩
 f21:=⟨Tryz.f173.name,by decide,Tryz.func173.trans (congrArg some (by kernel_rfl))⟩
 f22:=⟨Tryz.f174.name,by decide,Tryz.func174.trans (congrArg some (by kernel_rfl))⟩
 f23:=⟨Tryz.f175.name,by decide,Tryz.func175.trans (congrArg some (by kernel_rfl))⟩
 f24:=⟨Tryz.f176.name,by decide,Tryz.func176.trans (congrArg some (by kernel_rfl))⟩
 f25:=⟨Tryz.f177.name,by decide,Tryz.func177.trans (congrArg some (by kernel_rfl))⟩
 f26:=⟨Tryz.f178.name,by decide,Tryz.func178.trans (congrArg some (by kernel_rfl))⟩
 f27:=⟨Tryz.f179.name,by decide,Tryz.func179.trans (congrArg some (by kernel_rfl))⟩
 f28:=Tryz.func180.trans (congrArg some (by kernel_rfl))
 f29:=Tryz.func181.trans (congrArg some (by kernel_rfl))
 f46:=⟨Tryz.f185.name,by decide,Tryz.func185.trans (congrArg some (by kernel_rfl))⟩
 f47:=Tryz.func186.trans (congrArg some (by kernel_rfl))
 f48:=Tryz.func187.trans (congrArg some (by kernel_rfl))
 f49:=⟨Tryz.f188.name,by decide,Tryz.func188.trans (congrArg some (by kernel_rfl))⟩
 f50:=⟨Tryz.f189.name,by decide,Tryz.func189.trans (congrArg some (by kernel_rfl))⟩
 f57:=⟨Tryz.f200.name,by decide,Tryz.func200.trans (congrArg some (by kernel_rfl))⟩
 t0:=Tryz.underlying0
 a0:=Tryz.isAgg0
 z0:=Tryz.sizeOf0
 v0:=Tryz.zeroValue0
 t3:=Tryz.underlying3
 a3:=Tryz.isAgg3
 z3:=Tryz.sizeOf3
 v3:=Tryz.zeroValue3
 t4:=Tryz.underlying4
 a4:=Tryz.isAgg4
 z4:=Tryz.sizeOf4
 v4:=Tryz.zeroValue4
 t5:=Tryz.underlying5
 a5:=Tryz.isAgg5
 z5:=Tryz.sizeOf5
 v5:=Tryz.zeroValue5
 t9:=Tryz.underlying9
 a9:=Tryz.isAgg9
 z9:=Tryz.sizeOf9
 v9:=Tryz.zeroValue9
 t22:=Tryz.underlying112
 a22:=Tryz.isAgg112
 z22:=Tryz.sizeOf112
 v22:=Tryz.zeroValue112
 t25:=Tryz.underlying244
 a25:=Tryz.isAgg244
 z25:=Tryz.sizeOf244
 v25:=Tryz.zeroValue244
 t39:=Tryz.underlying270
 a39:=Tryz.isAgg270
 z39:=Tryz.sizeOf270
 v39:=Tryz.zeroValue270
 t45:=Tryz.underlying284
 a45:=Tryz.isAgg284
 z45:=Tryz.sizeOf284
 v45:=Tryz.zeroValue284
 t46:=Tryz.underlying285
 a46:=Tryz.isAgg285
 z46:=Tryz.sizeOf285
 v46:=Tryz.zeroValue285
 t50:=Tryz.underlying203
 a50:=Tryz.isAgg203
 z50:=Tryz.sizeOf203
 v50:=Tryz.zeroValue203
 t53:=Tryz.underlying37
 a53:=Tryz.isAgg37
 z53:=Tryz.sizeOf37
 v53:=Tryz.zeroValue37
 t55:=Tryz.underlying292
 a55:=Tryz.isAgg292
 z55:=Tryz.sizeOf292
 v55:=Tryz.zeroValue292
 t66:=Tryz.underlying296
 a66:=Tryz.isAgg296
 z66:=Tryz.sizeOf296
 v66:=Tryz.zeroValue296
 t70:=Tryz.underlying231
 a70:=Tryz.isAgg231
 z70:=Tryz.sizeOf231
 v70:=Tryz.zeroValue231
 t76:=Tryz.underlying306
 a76:=Tryz.isAgg306
 z76:=Tryz.sizeOf306
 v76:=Tryz.zeroValue306
 t77:=Tryz.underlying211
 a77:=Tryz.isAgg211
 z77:=Tryz.sizeOf211
 v77:=Tryz.zeroValue211 }
end Go.Proofs

/- slices.SortFunc on rectangles, by band's two orders. No condition. -/
namespace Go.Proofs.YtbknacpdcdkjiaaGreat
open Go Go.VM Go.Sort
set_option maxRecDepth 100000
set_option linter.unusedVariables false
set_option linter.unusedSimpArgs false
instance:Inhabited RC:=⟨⟨0,0,0,0⟩⟩
def RC.vals (r:RC):List Value:=[.int .i64 r.x,.int .i64 r.y,.int .i64 r.w,.int .i64 r.h]
theorem cmpI_lt (a b:Int):cmpI a b<0↔a<b:=by unfold cmpI;split;omega;split<;>omega
theorem cmpI_0 (a b:Int):cmpI a b=0↔a=b:=by unfold cmpI;split;omega;split<;>omega
theorem cmpYX_lt (a b:RC):cmpYX a b<0↔a.y<b.y∨a.y=b.y∧a.x<b.x:=by
 unfold cmpYX orI
 have h1:=cmpI_lt a.y b.y
 have h2:=cmpI_0 a.y b.y
 have h3:=cmpI_lt a.x b.x
 split<;>omega
theorem swoYX:SWO (Go.Proofs.ltOf cmpYX) where
 irrefl x:=by unfold Go.Proofs.ltOf;rw[decide_eq_false];rw[cmpYX_lt];omega
 trans x y z h1 h2:=by unfold Go.Proofs.ltOf at *;rw[decide_eq_true_iff,cmpYX_lt] at *;omega
 ntrans x y z h1 h2:=by unfold Go.Proofs.ltOf at *;rw[decide_eq_false_iff_not,cmpYX_lt] at *;omega
def cmpX (a b:RC):Int:=cmpI a.x b.x
theorem swoX:SWO (Go.Proofs.ltOf cmpX) where
 irrefl x:=by unfold Go.Proofs.ltOf cmpX;rw[decide_eq_false];rw[cmpI_lt];omega
 trans x y z h1 h2:=by unfold Go.Proofs.ltOf cmpX at *;rw[decide_eq_true_iff,cmpI_lt] at *;omega
 ntrans x y z h1 h2:=by unfold Go.Proofs.ltOf cmpX at *;rw[decide_eq_false_iff_not,cmpI_lt] at *;omega
theorem rc_agg (w:World):(isAgg 200).run Tryz.prog w=.ok true w:=Go.VM.run_isAgg (TVal.h (t:=200)) w
theorem rc_size (w:World):(Go.sizeOf 200).run Tryz.prog w=.ok 4 w:=Go.VM.run_sizeOf (TVal.h (t:=200)) w
theorem vals_one (r:RC):∀v∈r.vals,v.oneCell'=true:=by
 intro v hv
 unfold RC.vals at hv
 simp only[List.mem_cons,List.not_mem_nil,or_false] at hv
 rcases hv with rfl|rfl|rfl|rfl<;>rfl
instance:TFun Tryz.prog 132:=⟨by kernel_rfl⟩
instance:TFun Tryz.prog 138:=⟨by kernel_rfl⟩
theorem sortY_c (l:List RC) (v:Value) (e:Nat) (h:Heap) (hl:l.length<4611686018427387904) :
  ACalls Tryz.prog 131 [.val v,.val (.func (.func 132) #[] #[])] (.own v 4 (l.map RC.enc) e::h) (fun r h'=>r=.tup []∧∃l':List RC,l'.Perm l∧l'.Pairwise (fun a b=>a.y≤b.y)∧h'=.own v 4 (l'.map RC.enc) e::h):=by
 refine (sortFunc_c (enc:=RC.vals) Tryz.sortR (by omega) rc_agg rc_size (fun _=>rfl) vals_one cmpYX swoYX (fun a b=>cmp1_c a b []) hl).mono ?_
 rintro r h' ⟨rfl,l',h1,h2,rfl⟩
 exact⟨rfl,l',h1,h2.imp fun {a b} h=>by unfold Go.Proofs.ltOf at h;rw[decide_eq_false_iff_not,cmpYX_lt] at h;omega,rfl⟩
theorem sortX_c (l:List RC) (v:Value) (e:Nat) (h:Heap) (hl:l.length<4611686018427387904) :
  ACalls Tryz.prog 131 [.val v,.val (.func (.func 138) #[] #[])] (.own v 4 (l.map RC.enc) e::h) (fun r h'=>r=.tup []∧∃l':List RC,l'.Perm l∧l'.Pairwise (fun a b=>a.x≤b.x)∧h'=.own v 4 (l'.map RC.enc) e::h):=by
 refine (sortFunc_c (enc:=RC.vals) Tryz.sortR (by omega) rc_agg rc_size (fun _=>rfl) vals_one cmpX swoX (fun a b=>cmp3_c a b []) hl).mono ?_
 rintro r h' ⟨rfl,l',h1,h2,rfl⟩
 exact⟨rfl,l',h1,h2.imp fun {a b} h=>by unfold Go.Proofs.ltOf cmpX at h;rw[decide_eq_false_iff_not,cmpI_lt] at h;omega,rfl⟩
end Go.Proofs.YtbknacpdcdkjiaaGreat
