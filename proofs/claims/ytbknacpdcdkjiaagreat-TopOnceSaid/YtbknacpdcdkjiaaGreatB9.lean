import Derived.Test.YtbknacpdcdkjiaaGreatTy
import Derived.Test.YtbknacpdcdkjiaaGreatU3
import Derived.Shelf.Sort.Plain
import Derived.Test.YtbknacpdcdkjiaaGreatProg
import Derived.Test.YtbknacpdcdkjiaaGreatU4
import Derived.Test.YtbknacpdcdkjiaaGreatU5
import Derived.Shelf.Slices.In.SortNone
namespace Go.Proofs
open Go Go.VM
set_option maxRecDepth 100000
instance:TBool Tryz.prog 4:=⟨by kernel_rfl⟩
end Go.Proofs

/- Rectangles: which count, and what they have: band's and the reference's. No condition. -/
namespace Go.Proofs.YtbknacpdcdkjiaaGreat
open Go Go.VM
attribute [local irreducible] PurV Pur Step RL W D ACalls Then InBlock Fini
set_option linter.unusedVariables false
set_option linter.unusedSimpArgs false
set_option maxHeartbeats 20000000
structure RC where
 x:Int
 y:Int
 w:Int
 h:Int
 deriving DecidableEq
def RC.enc (r:RC):AV:=.agg [.val (.int .i64 r.x),.val (.int .i64 r.y),.val (.int .i64 r.w),.val (.int .i64 r.h)]
def I64 (n:Int):Prop:=-9223372036854775808≤n∧n≤9223372036854775807
structure RC.ok (r:RC):Prop where
 x:I64 r.x
 y:I64 r.y
 w:I64 r.w
 h:I64 r.h
def fitP (a n:Int):Prop:=-1048576≤a∧0<n∧a+n≤1048576
instance (a n:Int):Decidable (fitP a n):=inferInstanceAs (Decidable (_∧_∧_))
def RC.cnt (r:RC):Prop:=fitP r.x r.w∧fitP r.y r.h
instance (r:RC):Decidable r.cnt:=inferInstanceAs (Decidable (_∧_))
def RC.has (r:RC) (x y:Int):Prop:=r.x≤x∧x<r.x+r.w∧r.y≤y∧y<r.y+r.h
instance (r:RC) (x y:Int):Decidable (r.has x y):=inferInstanceAs (Decidable (_∧_∧_∧_))
set_option maxRecDepth 100000 in
theorem fits_c (a n:Int) (h:Heap) (ha:I64 a) (hn:I64 n):ACalls Tryz.prog 156 [.val (.int .i64 a),.val (.int .i64 n)] h (fun r h'=>r=.val (.bool (decide (fitP a n)))∧h'=h):=by
 refine ACalls.intro Tryz.func156 rfl Tryz.ntmps156 Tryz.results156 (Nat.le_of_ble_eq_true rfl) ?_
 obtain⟨a1,a2⟩:=ha
 obtain⟨n1,n2⟩:=hn
 by_cases h1:-1048576≤a
 ·by_cases h2:0<n
  ·(repeat' first|refine svE ⟨?_⟩|refine .b fun b=>?_|refine .u fun u=>?_|refine .d ?_ ?_|(refine .g fun hg=>?_;try exact svx)|fail)
   refine fin_r (h':=h) ⟨?_,rfl⟩
   refine congrArg (fun b=>AV.val (.bool b)) (decide_eq_decide.2 ?_)
   unfold fitP;omega
  ·(repeat' first|refine svE ⟨?_⟩|refine .b fun b=>?_|refine .u fun u=>?_|refine .d ?_ ?_|(refine .g fun hg=>?_;try exact svx)|fail)
   refine fin_r (h':=h) ⟨?_,rfl⟩
   rw[decide_eq_false (show ¬ fitP a n by unfold fitP;omega)]
   simp[tupA];try omega
 ·(repeat' first|refine svE ⟨?_⟩|refine .b fun b=>?_|refine .u fun u=>?_|refine .d ?_ ?_|(refine .g fun hg=>?_;try exact svx)|fail)
  refine fin_r (h':=h) ⟨?_,rfl⟩
  rw[decide_eq_false (show ¬ fitP a n by unfold fitP;omega)]
  simp[tupA];try omega
set_option maxRecDepth 100000 in
theorem counts_c (r:RC) (h:Heap) (ok:r.ok):ACalls Tryz.prog 130 [r.enc] h (fun v h'=>v=.val (.bool (decide r.cnt))∧h'=h):=by
 refine ACalls.intro Tryz.func130 rfl Tryz.ntmps130 Tryz.results130 (Nat.le_of_ble_eq_true rfl) ?_
 (repeat' first|refine svE ⟨?_⟩|refine .b fun b=>?_|refine .u fun u=>?_|refine .d ?_ ?_|(refine .g fun hg=>?_;try exact svx)|fail)
 refine S.call ?_;refine (fits_c r.x r.w _ ok.x ok.w).mono ?_;rintro r h' ⟨rfl,hh⟩;subst hh
 by_cases h1:fitP r.x r.w
 ·rw[decide_eq_true h1]
  (repeat' first|refine svE ⟨?_⟩|refine .b fun b=>?_|refine .u fun u=>?_|refine .d ?_ ?_|(refine .g fun hg=>?_;try exact svx)|fail)
  refine S.call ?_;refine (fits_c r.y r.h _ ok.y ok.h).mono ?_;rintro r h' ⟨rfl,hh⟩;subst hh
  (repeat' first|refine svE ⟨?_⟩|refine .b fun b=>?_|refine .u fun u=>?_|refine .d ?_ ?_|(refine .g fun hg=>?_;try exact svx)|fail)
  refine fin_r (h':=h) ⟨?_,rfl⟩
  refine congrArg (fun b=>AV.val (.bool b)) (decide_eq_decide.2 ?_)
  unfold RC.cnt;simp[h1]
 ·rw[decide_eq_false h1]
  (repeat' first|refine svE ⟨?_⟩|refine .b fun b=>?_|refine .u fun u=>?_|refine .d ?_ ?_|(refine .g fun hg=>?_;try exact svx)|fail)
  refine fin_r (h':=h) ⟨?_,rfl⟩
  rw[decide_eq_false (show ¬ r.cnt from fun q=>h1 q.1)]
  rfl
end Go.Proofs.YtbknacpdcdkjiaaGreat

/-
  DERIVED: THE SHELF's CONTRACTS AT THIS DUMP, IN PLAIN WORDS (tools/lay-plain.mjs out of 'YtbknacpdcdkjiaaGreatShelfLayS.lean', which tools/lay-shelf.mjs wrote): THE SAME DECLARATIONS UNDER THE SAME NAMES: 'import', 'namespace', 'open', 'def', 'theorem' AND NOTHING ELSE: no command of the shelf's: FOR A HAND-IN. Each laying: the table of numbers ('.._ren') and one theorem, a field a fact of the dump's own or the kernel's comparison; each contract: ONE APPLICATION.
-/
namespace Go.Proofs
open Go.Shelf
def Tryz.sortI_ren:Go.Shelf.Ren:=⟨fun|189=>160|125=>158|257=>182|128=>180|129=>181|294=>190|295=>191|296=>192|297=>193|298=>194|299=>195|216=>196|300=>197|301=>198|328=>201|329=>186|330=>187|331=>202|332=>203|215=>159|343=>204|n=>n,fun|28=>67|3=>3|46=>270|0=>0|51=>37|53=>292|4=>4|183=>285|182=>284|131=>203|5=>5|9=>9|218=>296|222=>231|228=>306|229=>211|n=>n,fun|n=>n⟩
theorem Tryz.sortI:Go.Proofs.Lays.n189 Tryz.prog Tryz.sortI_ren:={
 mixed:=by kernel_rfl
 f125:=Tryz.func158.trans (congrArg some (by kernel_rfl))
 f128:=Tryz.func180.trans (congrArg some (by kernel_rfl))
 f129:=Tryz.func181.trans (congrArg some (by kernel_rfl))
 f189:=Tryz.func160.trans (congrArg some (by kernel_rfl))
 f215:=Tryz.func159.trans (congrArg some (by kernel_rfl))
 f216:=Tryz.func196.trans (congrArg some (by kernel_rfl))
 f257:=Tryz.func182.trans (congrArg some (by kernel_rfl))
 f294:=Tryz.func190.trans (congrArg some (by kernel_rfl))
 f295:=Tryz.func191.trans (congrArg some (by kernel_rfl))
 f296:=Tryz.func192.trans (congrArg some (by kernel_rfl))
 f297:=Tryz.func193.trans (congrArg some (by kernel_rfl))
 f298:=Tryz.func194.trans (congrArg some (by kernel_rfl))
 f299:=Tryz.func195.trans (congrArg some (by kernel_rfl))
 f300:=Tryz.func197.trans (congrArg some (by kernel_rfl))
 f301:=Tryz.func198.trans (congrArg some (by kernel_rfl))
 f328:=Tryz.func201.trans (congrArg some (by kernel_rfl))
 f329:=Tryz.func186.trans (congrArg some (by kernel_rfl))
 f330:=Tryz.func187.trans (congrArg some (by kernel_rfl))
 f331:=Tryz.func202.trans (congrArg some (by kernel_rfl))
 f332:=Tryz.func203.trans (congrArg some (by kernel_rfl))
 f343:=Tryz.func204.trans (congrArg some (by kernel_rfl))
 t0:=Tryz.underlying0
 a0:=Tryz.isAgg0
 z0:=Tryz.sizeOf0
 v0:=Tryz.zeroValue0
 t3:=Tryz.underlying3
 a3:=Tryz.isAgg3
 z3:=Tryz.sizeOf3
 v3:=Tryz.zeroValue3
 t4:=Tryz.underlying4
 a4:=Tryz.isAgg4
 z4:=Tryz.sizeOf4
 v4:=Tryz.zeroValue4
 t5:=Tryz.underlying5
 a5:=Tryz.isAgg5
 z5:=Tryz.sizeOf5
 v5:=Tryz.zeroValue5
 t9:=Tryz.underlying9
 a9:=Tryz.isAgg9
 z9:=Tryz.sizeOf9
 v9:=Tryz.zeroValue9
 t28:=Tryz.underlying67
 a28:=Tryz.isAgg67
 z28:=Tryz.sizeOf67
 v28:=Tryz.zeroValue67
 t46:=Tryz.underlying270
 a46:=Tryz.isAgg270
 z46:=Tryz.sizeOf270
 v46:=Tryz.zeroValue270
 t51:=Tryz.underlying37
 a51:=Tryz.isAgg37
 z51:=Tryz.sizeOf37
 v51:=Tryz.zeroValue37
 t53:=Tryz.underlying292
 a53:=Tryz.isAgg292
 z53:=Tryz.sizeOf292
 v53:=Tryz.zeroValue292
 t131:=Tryz.underlying203
 a131:=Tryz.isAgg203
 z131:=Tryz.sizeOf203
 v131:=Tryz.zeroValue203
 t182:=Tryz.underlying284
 a182:=Tryz.isAgg284
 z182:=Tryz.sizeOf284
 v182:=Tryz.zeroValue284
 t183:=Tryz.underlying285
 a183:=Tryz.isAgg285
 z183:=Tryz.sizeOf285
 v183:=Tryz.zeroValue285
 t218:=Tryz.underlying296
 a218:=Tryz.isAgg296
 z218:=Tryz.sizeOf296
 v218:=Tryz.zeroValue296
 t222:=Tryz.underlying231
 a222:=Tryz.isAgg231
 z222:=Tryz.sizeOf231
 v222:=Tryz.zeroValue231
 t228:=Tryz.underlying306
 a228:=Tryz.isAgg306
 z228:=Tryz.sizeOf306
 v228:=Tryz.zeroValue306
 t229:=Tryz.underlying211
 a229:=Tryz.isAgg211
 z229:=Tryz.sizeOf211
 v229:=Tryz.zeroValue211 }
end Go.Proofs


/- The reference's Counts, In, Has, Area. No condition. -/
namespace Go.Proofs.YtbknacpdcdkjiaaGreat
open Go Go.VM
attribute [local irreducible] PurV Pur Step RL W D ACalls Then InBlock Fini
set_option linter.unusedVariables false
set_option linter.unusedSimpArgs false
set_option maxHeartbeats 20000000
def hasF (l:List RC) (x y:Int):Bool:=l.any fun r=>decide r.cnt&&decide (r.has x y)
end Go.Proofs.YtbknacpdcdkjiaaGreat


/- The reference's Same. No condition. -/
namespace Go.Proofs.YtbknacpdcdkjiaaGreat
open Go Go.VM
attribute [local irreducible] PurV Pur Step RL W D ACalls Then InBlock Fini
set_option linter.unusedVariables false
set_option linter.unusedSimpArgs false
set_option maxHeartbeats 20000000
instance:TEq Tryz.prog 200 4:=⟨by kernel_rfl,by kernel_rfl,by kernel_rfl,by kernel_rfl,by kernel_rfl⟩
theorem RC.eq4 (r s:RC):(∀q∈[(IntKind.i64,r.x,s.x),(IntKind.i64,r.y,s.y),(IntKind.i64,r.w,s.w),(IntKind.i64,r.h,s.h)],q.2.1=q.2.2)↔r=s:=by
 obtain⟨a,b,c,d⟩:=r
 obtain⟨a',b',c',d'⟩:=s
 simp
end Go.Proofs.YtbknacpdcdkjiaaGreat

/- Areas; whether rows are alike. No condition. -/
namespace Go.Proofs.YtbknacpdcdkjiaaGreat
open Go Go.VM
attribute [local irreducible] PurV Pur Step RL W D ACalls Then InBlock Fini
set_option linter.unusedVariables false
set_option linter.unusedSimpArgs false
set_option maxHeartbeats 20000000
def areaF (l:List RC):Int:=(l.map fun r=>r.w * r.h).sum
end Go.Proofs.YtbknacpdcdkjiaaGreat

/- slices.Sort at ints, out of the kit's contract. No condition. -/
namespace Go.VM
open Go Go.Sort Go.Shelf
set_option linter.unusedVariables false
set_option linter.unusedSimpArgs false
theorem intE1 {m:Ghost}:∀(l:List Int) (xs:List Value),RelE m 1 (l.map fun x=>.val (.int .i64 x)) xs→xs=l.flatMap fun x=>[Value.int .i64 x]
 | [],xs,h=>by simpa[RelE] using h
 | x::l,xs,h=>by
  simp only[List.map_cons,RelE,Rel] at h
  obtain⟨v,r,rfl,h1,⟨rfl,_⟩,h3⟩:=h
  rw[intE1 l r h3,List.flatMap_cons];rfl
theorem intE2 {m:Ghost}:∀(l:List Int),RelE m 1 (l.map fun x=>.val (.int .i64 x)) (l.flatMap fun x=>[Value.int .i64 x])
 | []=>by simp[RelE]
 | x::l=>by
  simp only[List.map_cons,RelE,List.flatMap_cons,Rel]
  exact⟨.int .i64 x,_,rfl,rfl,⟨rfl,rfl⟩,intE2 l⟩
theorem flat1 (d:Array Int) (j:Nat) (h:j<d.size):(flatK (fun x=>[Value.int .i64 x]) 1 d)[j]! = .int .i64 d[j]!:=by
 rw[get_flatK _ _ _ _ (by omega),Nat.div_one,Nat.mod_one];rfl
theorem sortInt_c {P:Program} {ρ:Ren} (L:Go.Proofs.Lays.n189 P ρ) {v:Value} {l:List Int} {e:Nat} {h:Heap} (hl:l.length<4611686018427387904) :
  ACalls P (ρ.f 189) [.val v] (.own v 1 (ints .i64 l) e::h) (fun r h'=>r=.tup []∧h'=.own v 1 (ints .i64 (l.mergeSort fun x y=>decide (x≤y))) e::h):=by
 refine (sort_gen (enc:=fun x:Int=>[Value.int .i64 x]) (k:=1) (E:=fun x=>.val (.int .i64 x)) (ex:=[]) (Q:=fun l'=>l'=l.mergeSort fun x y=>decide (x≤y)) (by omega) (fun _=>rfl) (by intro x v hv;rw[List.mem_singleton.1 hv];rfl) (fun _=>intE1) (fun _=>intE2) (fun _ A w=>Go.Proofs.Any.slices_Sort_int_none L A 0 w) (by rintro rfl;exact List.mergeSort_nil.symm) fun b cap w hlt hH=>?_).mono (by rintro r h' ⟨rfl,l',rfl,rfl⟩;exact⟨rfl,rfl⟩)
 refine (Go.Proofs.Any.slices_Sort_int L b 0 cap l w (fun j hj=>?_) hlt hl).mono ?_
 ·have:=hH j (by rw[size_flatK];omega)
  rwa[flat1 _ _ hj] at this
 ·rintro e' w' ⟨rfl,n,os,rfl⟩
  refine⟨rfl,(l.mergeSort fun x y=>decide (x≤y)).toArray,n,os,by simp,rfl,?_⟩
  unfold Go.Proofs.sortWorldK putRowK putRow
  congr 2
  funext c
  unfold putCells
  congr 1
  funext k x
  rw[size_flatK,Nat.mul_one]
  split
  ·next hk=>rw[id,flat1 _ _ (by omega)]
  ·rfl
end Go.VM

/- slices.Sort at ints, by the kit's contract. No condition. -/
namespace Go.Proofs.YtbknacpdcdkjiaaGreat
open Go Go.VM
set_option linter.unusedVariables false
set_option linter.unusedSimpArgs false
theorem ints_set (k:IntKind) (l:List Int) (i:Nat) (x:Int):(ints k l).set i (.val (.int k x))=ints k (l.set i x):=by simp[ints,List.map_set]
def srt (l:List Int):List Int:=l.mergeSort (fun x y=>decide (x≤y))
theorem sort_c (l:List Int) (v:Value) (h:Heap) (hn:l.length<1048576):ACalls Tryz.prog 160 [.val v] (.own v 1 (ints .i64 l) 3::h) (fun r h'=>r=.tup []∧h'=.own v 1 (ints .i64 (srt l)) 3::h):=sortInt_c Tryz.sortI (by omega)
end Go.Proofs.YtbknacpdcdkjiaaGreat

/- What a sorted list is; a number put into one. No condition. -/
namespace Go.Proofs.YtbknacpdcdkjiaaGreat
open Go Go.VM
set_option linter.unusedVariables false
set_option linter.unusedSimpArgs false
theorem sorted_perm_eq:∀{a b:List Int},a.Perm b→a.Pairwise (·≤·)→b.Pairwise (·≤·)→a=b
 | [],b,h,_,_=>by rw[List.nil_perm.1 h]
 | x::a,[],h,_,_=>by simpa using h.length_eq
 | x::a,y::b,h,h1,h2=>by
  rw[List.pairwise_cons] at h1 h2
  have hxy:x=y:=by
   have q1:x∈y::b:=h.mem_iff.1 (.head _)
   have q2:y∈x::a:=h.mem_iff.2 (.head _)
   rcases List.mem_cons.1 q1 with e|e
   ·exact e
   ·rcases List.mem_cons.1 q2 with e2|e2
    ·exact e2.symm
    ·have:=h1.1 y e2;have:=h2.1 x e;omega
  subst hxy
  rw[sorted_perm_eq (List.Perm.cons_inv h) h1.2 h2.2]
theorem srt_perm (l:List Int):(srt l).Perm l:=List.mergeSort_perm _ _
theorem srt_sorted (l:List Int):(srt l).Pairwise (·≤·):=by
 have:=List.pairwise_mergeSort (le:=fun x y:Int=>decide (x≤y)) (fun a b c h1 h2=>by simp at *;omega) (fun a b=>by simp;omega) l
 exact this.imp (fun h=>by simpa using h)
theorem srt_eq {l l':List Int} (h:l'.Perm l) (hs:l'.Pairwise (·≤·)):l'=srt l:=
 sorted_perm_eq (h.trans (srt_perm l).symm) hs (srt_sorted l)
theorem srt_congr {l l':List Int} (h:l.Perm l'):srt l=srt l':=srt_eq ((srt_perm l).trans h) (srt_sorted l)
theorem fz {P:Program} {f:Nat} {args:List AV} {h:Heap} {k e:Nat} {l:List AV} {g g':AV→AV} (hg:∀v,Frz v k l (g (.val v)) (g' (.ro k l))) (hc:ACalls P f args h (fun r h'=>∃v,r=g (.val v)∧h'=.own v k l e::h)) :
  ACalls P f args h (fun r h'=>r=g' (.ro k l)∧h'=h):=by
 refine hc.frz ?_
 rintro r h' ⟨v,rfl,rfl⟩
 exact⟨v,k,l,e,_,h,.here,hg v,rfl,rfl⟩
theorem putF_new {α:Type} {t:List (Int × α)} {i:Int} (a:α) (h:i∉t.map (·.1)):putF t i a=t++[(i,a)]:=by
 unfold putF
 have:lkF t i=none:=lkF_none.2 fun p hp e=>h (e ▸ List.mem_map_of_mem hp)
 rw[this];rfl
theorem leh_mp {α:Type} {b:Nat} {kd:IntKind} {f:α→AV} {t t':List (Int × α)} {h h':Heap} (hp:t.Perm t') (k:LeH h h'):LeH (mpV b kd f t::h) (mpV b kd f t'::h'):=by
 have:=LeH.mapp (b:=b) (x:=t.map fun p=>(Value.int kd p.1,f p.2)) (y:=t'.map fun p=>(Value.int kd p.1,f p.2)) (h:=mpV b kd f t::h) (r:=h) (h':=h') (by simp only[List.map_map];exact .here) (hp.map _) k
 simp only[List.map_map] at this
 exact this
end Go.Proofs.YtbknacpdcdkjiaaGreat

/- A number put into a list that rises. No condition. -/
namespace Go.Proofs.YtbknacpdcdkjiaaGreat
open Go Go.VM
attribute [local irreducible] PurV Pur Step RL W D ACalls Then InBlock Fini
set_option linter.unusedVariables false
set_option linter.unusedSimpArgs false
set_option maxHeartbeats 20000000
abbrev Up_ (l:List Int):Prop:=l.Pairwise (·<·)
end Go.Proofs.YtbknacpdcdkjiaaGreat

/- The reference's Edges. No condition. -/
namespace Go.Proofs.YtbknacpdcdkjiaaGreat
open Go Go.VM
attribute [local irreducible] PurV Pur Step RL W D ACalls Then InBlock Fini
set_option linter.unusedVariables false
set_option linter.unusedSimpArgs false
set_option maxHeartbeats 20000000
end Go.Proofs.YtbknacpdcdkjiaaGreat

/- Whether rows have the same spans. No condition. -/
namespace Go.Proofs.YtbknacpdcdkjiaaGreat
open Go Go.VM
attribute [local irreducible] PurV Pur Step RL W D ACalls Then InBlock Fini
set_option linter.unusedVariables false
set_option linter.unusedSimpArgs false
set_option maxHeartbeats 20000000
end Go.Proofs.YtbknacpdcdkjiaaGreat

/- The closures of band.Of: by which the rectangles are sorted, thrown out, compared. No condition. -/
namespace Go.Proofs.YtbknacpdcdkjiaaGreat
open Go Go.VM
attribute [local irreducible] PurV Pur Step RL W D ACalls Then InBlock Fini
set_option linter.unusedVariables false
set_option linter.unusedSimpArgs false
set_option maxHeartbeats 20000000
def cmpI (a b:Int):Int:=if a<b then -1 else if b<a then 1 else 0
set_option maxRecDepth 100000 in
theorem isnan_c (a:Int) (h:Heap):ACalls Tryz.prog 159 [.val (.int .i64 a)] h (fun r h'=>r=.val (.bool false)∧h'=h):=by
 refine ACalls.intro Tryz.func159 rfl Tryz.ntmps159 Tryz.results159 (Nat.le_of_ble_eq_true rfl) ?_
 (repeat' first|refine svE ⟨?_⟩|refine .b fun b=>?_|refine .u fun u=>?_|refine .d ?_ ?_|(refine .g fun hg=>?_;try exact svx)|fail)
 refine fin_r (h':=_) ⟨?_,rfl⟩
 simp[tupA]
set_option maxRecDepth 100000 in
theorem compare_c (a b:Int) (h:Heap):ACalls Tryz.prog 134 [.val (.int .i64 a),.val (.int .i64 b)] h (fun r h'=>r=.val (.int .i64 (cmpI a b))∧h'=h):=by
 refine ACalls.intro Tryz.func134 rfl Tryz.ntmps134 Tryz.results134 (Nat.le_of_ble_eq_true rfl) ?_
 (repeat' first|refine svE ⟨?_⟩|refine .b fun b=>?_|refine .u fun u=>?_|refine .d ?_ ?_|(refine .g fun hg=>?_;try exact svx)|fail)
 refine S.call ?_;refine (isnan_c a _).mono ?_;rintro r h' ⟨rfl,hh⟩;subst hh
 (repeat' first|refine svE ⟨?_⟩|refine .b fun b=>?_|refine .u fun u=>?_|refine .d ?_ ?_|(refine .g fun hg=>?_;try exact svx)|fail)
 refine S.call ?_;refine (isnan_c b _).mono ?_;rintro r h' ⟨rfl,hh⟩;subst hh
 unfold cmpI
 by_cases h1:a<b
 ·rw[if_pos h1]
  (repeat' first|refine svE ⟨?_⟩|refine .b fun b=>?_|refine .u fun u=>?_|refine .d ?_ ?_|(refine .g fun hg=>?_;try exact svx)|fail)
  exact fin_r (h':=_) ⟨rfl,rfl⟩
 ·rw[if_neg h1]
  by_cases h2:b<a
  ·rw[if_pos h2]
   (repeat' first|refine svE ⟨?_⟩|refine .b fun b=>?_|refine .u fun u=>?_|refine .d ?_ ?_|(refine .g fun hg=>?_;try exact svx)|fail)
   exact fin_r (h':=_) ⟨rfl,rfl⟩
  ·rw[if_neg h2]
   (repeat' first|refine svE ⟨?_⟩|refine .b fun b=>?_|refine .u fun u=>?_|refine .d ?_ ?_|(refine .g fun hg=>?_;try exact svx)|fail)
   exact fin_r (h':=_) ⟨rfl,rfl⟩
def orI (a b:Int):Int:=if a≠0 then a else b
set_option maxRecDepth 100000 in
theorem or_c (a b:Int) (h:Heap):ACalls Tryz.prog 133 [.ro 1 [.val (.int .i64 a),.val (.int .i64 b)]] h (fun r h'=>r=.val (.int .i64 (orI a b))∧h'=h):=by
 refine ACalls.intro Tryz.func133 rfl Tryz.ntmps133 Tryz.results133 (Nat.le_of_ble_eq_true rfl) ?_
 (repeat' first|refine svE ⟨?_⟩|refine .b fun b=>?_|refine .u fun u=>?_|refine .d ?_ ?_|(refine .g fun hg=>?_;try exact svx)|fail)
 refine W.loop (J:=fun k:Nat=>⟨18,[(8,.val (.int .i64 (k:Int))),(7,.val (.int .i64 2)),(6,.ro 1 [.val (.int .i64 a),.val (.int .i64 b)]),(3,.val (.int .i64 0))],h⟩)
  (Φ:=fun k=>k≤2∧(0<k→a=0)∧(1<k→b=0)) (μ:=fun k=>2 - k) 0 lee ⟨by omega,by omega,by omega⟩ ?_
 rintro k ⟨hk,h1,h2⟩
 unfold orI
 obtain rfl|rfl|rfl:k=0∨k=1∨k=2:=by omega
 ·by_cases ha:a=0
  ·(repeat' first|refine svE ⟨?_⟩|refine .b fun b=>?_|refine .u fun u=>?_|refine .d ?_ ?_|(refine .g fun hg=>?_;try exact svx)|fail)
   exact⟨1,⟨by omega,fun _=>ha,by omega⟩,lee,by omega⟩
  ·rw[if_pos ha]
   (repeat' first|refine svE ⟨?_⟩|refine .b fun b=>?_|refine .u fun u=>?_|refine .d ?_ ?_|(refine .g fun hg=>?_;try exact svx)|fail)
   exact fin_r (h':=_) ⟨rfl,rfl⟩
 ·rw[if_neg (by simpa using h1 (by omega))]
  by_cases hb:b=0
  ·(repeat' first|refine svE ⟨?_⟩|refine .b fun b=>?_|refine .u fun u=>?_|refine .d ?_ ?_|(refine .g fun hg=>?_;try exact svx)|fail)
   exact⟨2,⟨by omega,fun _=>h1 (by omega),fun _=>hb⟩,lee,by omega⟩
  ·(repeat' first|refine svE ⟨?_⟩|refine .b fun b=>?_|refine .u fun u=>?_|refine .d ?_ ?_|(refine .g fun hg=>?_;try exact svx)|fail)
   exact fin_r (h':=_) ⟨rfl,rfl⟩
 ·rw[if_neg (by simpa using h1 (by omega)),h2 (by omega)]
  (repeat' first|refine svE ⟨?_⟩|refine .b fun b=>?_|refine .u fun u=>?_|refine .d ?_ ?_|(refine .g fun hg=>?_;try exact svx)|fail)
  exact fin_r (h':=_) ⟨rfl,rfl⟩
def cmpYX (a b:RC):Int:=orI (cmpI a.y b.y) (cmpI a.x b.x)
set_option maxRecDepth 100000 in
theorem cmp1_c (p q:RC) (h:Heap):ACalls Tryz.prog 132 [p.enc,q.enc] h (fun r h'=>r=.val (.int .i64 (cmpYX p q))∧h'=h):=by
 refine ACalls.intro Tryz.func132 rfl Tryz.ntmps132 Tryz.results132 (Nat.le_of_ble_eq_true rfl) ?_
 (repeat' first|refine svE ⟨?_⟩|refine .b fun b=>?_|refine .u fun u=>?_|refine .d ?_ ?_|(refine .g fun hg=>?_;try exact svx)|fail)
 refine R2.C (compare_c p.y q.y _) ?_
 (repeat' first|refine svE ⟨?_⟩|refine .b fun b=>?_|refine .u fun u=>?_|refine .d ?_ ?_|(refine .g fun hg=>?_;try exact svx)|fail)
 refine R2.C (compare_c p.x q.x _) ?_
 refine R2.two ?_
 refine R2.C (or_c _ _ _) ?_
 (repeat' first|refine svE ⟨?_⟩|refine .b fun b=>?_|refine .u fun u=>?_|refine .d ?_ ?_|(refine .g fun hg=>?_;try exact svx)|fail)
 exact fin_r (h':=_) ⟨rfl,rfl⟩
set_option maxRecDepth 100000 in
theorem cmp3_c (p q:RC) (h:Heap):ACalls Tryz.prog 138 [p.enc,q.enc] h (fun r h'=>r=.val (.int .i64 (cmpI p.x q.x))∧h'=h):=by
 refine ACalls.intro Tryz.func138 rfl Tryz.ntmps138 Tryz.results138 (Nat.le_of_ble_eq_true rfl) ?_
 (repeat' first|refine svE ⟨?_⟩|refine .b fun b=>?_|refine .u fun u=>?_|refine .d ?_ ?_|(refine .g fun hg=>?_;try exact svx)|fail)
 refine S.call ?_;refine (compare_c p.x q.x _).mono ?_;rintro r h' ⟨rfl,hh⟩;subst hh
 (repeat' first|refine svE ⟨?_⟩|refine .b fun b=>?_|refine .u fun u=>?_|refine .d ?_ ?_|(refine .g fun hg=>?_;try exact svx)|fail)
 exact fin_r (h':=_) ⟨rfl,rfl⟩
set_option maxRecDepth 100000 in
theorem del_c (r:RC) (y:Int) (g:Nat) (h:Heap) (hc:r.cnt):ACalls Tryz.prog 137 [r.enc,.val (.pointer (some ⟨g,0,none⟩))] (.box g [.val (.int .i64 y)] 3::h) (fun v h'=>v=.val (.bool (decide (r.y+r.h≤y)))∧h'=.box g [.val (.int .i64 y)] 3::h):=by
 refine ACalls.intro Tryz.func137 rfl Tryz.ntmps137 Tryz.results137 (Nat.le_of_ble_eq_true rfl) ?_
 obtain⟨⟨a1,a2,a3⟩,⟨a4,a5,a6⟩⟩:=hc
 (repeat' first|refine svE ⟨?_⟩|refine .b fun b=>?_|refine .u fun u=>?_|refine .d ?_ ?_|(refine .g fun hg=>?_;try exact svx)|fail)
 exact fin_r (h':=.box g [.val (.int .i64 y)] 3::h) ⟨rfl,rfl⟩
def goesOn (a b:RC):Prop:=a.x=b.x∧a.w=b.w∧a.y+a.h=b.y
instance (a b:RC):Decidable (goesOn a b):=inferInstanceAs (Decidable (_∧_∧_))
set_option maxRecDepth 100000 in
theorem same1_c (p q:RC) (h:Heap) (hc:p.cnt):ACalls Tryz.prog 165 [p.enc,q.enc] h (fun v h'=>v=.val (.bool (decide (goesOn p q)))∧h'=h):=by
 refine ACalls.intro Tryz.func165 rfl Tryz.ntmps165 Tryz.results165 (Nat.le_of_ble_eq_true rfl) ?_
 obtain⟨⟨a1,a2,a3⟩,⟨a4,a5,a6⟩⟩:=hc
 by_cases h1:p.x=q.x
 ·by_cases h2:p.w=q.w
  ·(repeat' first|refine svE ⟨?_⟩|refine .b fun b=>?_|refine .u fun u=>?_|refine .d ?_ ?_|(refine .g fun hg=>?_;try exact svx)|fail)
   refine fin_r (h':=_) ⟨?_,rfl⟩
   refine congrArg (fun b=>AV.val (.bool b)) (decide_eq_decide.2 ?_)
   unfold goesOn;simp[h1,h2]
  ·(repeat' first|refine svE ⟨?_⟩|refine .b fun b=>?_|refine .u fun u=>?_|refine .d ?_ ?_|(refine .g fun hg=>?_;try exact svx)|fail)
   refine fin_r (h':=_) ⟨?_,rfl⟩
   rw[decide_eq_false (show ¬ goesOn p q from fun z=>h2 z.2.1)];rfl
 ·(repeat' first|refine svE ⟨?_⟩|refine .b fun b=>?_|refine .u fun u=>?_|refine .d ?_ ?_|(refine .g fun hg=>?_;try exact svx)|fail)
  refine fin_r (h':=_) ⟨?_,rfl⟩
  rw[decide_eq_false (show ¬ goesOn p q from fun z=>h1 z.1)];rfl
end Go.Proofs.YtbknacpdcdkjiaaGreat

/- The library's functions on slices of rectangles. No condition. -/
namespace Go.VM
open Go
theorem ACalls.keep1 {P:Program} {g:Nat} {vs:List AV} {h:Heap} {v:AV} {x:OE} (k:ACalls P g vs h (fun r h'=>r=v∧h'=h)):ACalls P g vs (x::h) (fun r h'=>r=v∧h'=x::h):=
 (k.beside [x]).mono fun r h' ⟨h1,⟨e1,e2⟩,e3⟩=>⟨e1,by rw[e3,e2];rfl⟩
theorem ACalls.keep2 {P:Program} {g:Nat} {vs:List AV} {h:Heap} {v:AV} {x y:OE} (k:ACalls P g vs h (fun r h'=>r=v∧h'=h)):ACalls P g vs (x::y::h) (fun r h'=>r=v∧h'=x::y::h):=k.keep1.keep1
end Go.VM
namespace Go.Proofs.YtbknacpdcdkjiaaGreat
open Go Go.VM
attribute [local irreducible] PurV Pur Step RL W D ACalls Then InBlock Fini
set_option linter.unusedVariables false
set_option linter.unusedSimpArgs false
set_option maxHeartbeats 20000000
def idxF (p:RC→Bool) (l:List RC):Int:=match l.findIdx? p with
 | some i=>(i:Int)
 | none=>-1
theorem idxF_some {p:RC→Bool} {l:List RC} {k:Nat} {r:RC} (h1:∀x∈l.take k,p x=false) (hx:l[k]?=some r) (hr:p r=true):idxF p l=(k:Int):=by
 unfold idxF
 have:l.findIdx? p=some k:=by
  rw[List.findIdx?_eq_some_iff_getElem]
  obtain⟨hk,e⟩:=List.getElem?_eq_some_iff.1 hx
  refine⟨hk,by rw[e];exact hr,fun j hj=>?_⟩
  have:=h1 l[j] (List.mem_take_iff_getElem.2 ⟨j,by omega,rfl⟩)
  simp[this]
 rw[this]
theorem idxF_none {p:RC→Bool} {l:List RC} (h1:∀x∈l,p x=false):idxF p l=-1:=by
 unfold idxF
 have:l.findIdx? p=none:=List.findIdx?_eq_none_iff.2 h1
 rw[this]
set_option maxRecDepth 100000 in
theorem indexfunc_c (p:RC→Bool) (l:List RC) (v:Value) (e:Nat) {fv:AV} {f:Nat} {caps:List AV} [TFun Tryz.prog f] (hF:Fv fv f caps) (h:Heap) (hl:l.length≤1000000)
  (hp:∀r∈l,ACalls Tryz.prog f (r.enc::caps) h (fun z h'=>z=.val (.bool (p r))∧h'=h)) :
  ACalls Tryz.prog 162 [.val v,fv] (.own v 4 (l.map RC.enc) e::h) (fun r h'=>r=.val (.int .i64 (idxF p l))∧h'=.own v 4 (l.map RC.enc) e::h):=by
 refine ACalls.intro Tryz.func162 rfl Tryz.ntmps162 Tryz.results162 (Nat.le_of_ble_eq_true rfl) ?_
 (repeat' first|refine svE ⟨?_⟩|refine .b fun b=>?_|refine .u fun u=>?_|refine .d ?_ ?_|(refine .g fun hg=>?_;try exact svx)|fail)
 refine W.loop (J:=fun k:Nat=>⟨19,[(8,.val (.int .i64 (k:Int))),(7,.val (.int .i64 (l.length:Int))),(6,.val v),(0,.val v),(1,fv)],.own v 4 (l.map RC.enc) e::h⟩)
  (Φ:=fun k=>k≤l.length∧∀x∈l.take k,p x=false) (μ:=fun k=>l.length - k) 0 lee ⟨Nat.zero_le _,by simp⟩ ?_
 rintro k ⟨hk,hn⟩
 rcases Nat.lt_or_ge k l.length with hlt|hge
 ·obtain⟨r,hx⟩:∃r,l[k]?=some r:=⟨_,List.getElem?_eq_getElem hlt⟩
  have hr:r∈l:=List.mem_of_getElem? hx
  (repeat' first|refine svE ⟨?_⟩|refine .b fun b=>?_|refine .u fun u=>?_|refine .d ?_ ?_|(refine .g fun hg=>?_;try exact svx)|fail)
  refine S.callv hF ?_
  refine (hp r hr).keep1.mono ?_
  rintro z h' ⟨rfl,hh⟩;subst hh
  cases hpr:p r with
  | true=>
   rw[idxF_some hn hx hpr]
   (repeat' first|refine svE ⟨?_⟩|refine .b fun b=>?_|refine .u fun u=>?_|refine .d ?_ ?_|(refine .g fun hg=>?_;try exact svx)|fail)
   exact fin_r (h':=_) ⟨rfl,rfl⟩
  | false=>
   (repeat' first|refine svE ⟨?_⟩|refine .b fun b=>?_|refine .u fun u=>?_|refine .d ?_ ?_|(refine .g fun hg=>?_;try exact svx)|fail)
   refine⟨k+1,⟨hlt,fun y hy=>?_⟩,lee,by omega⟩
   rw[List.take_add_one,hx] at hy
   rcases List.mem_append.1 hy with hy|hy
   ·exact hn y hy
   ·simp at hy;rw[hy];exact hpr
 ·rw[List.take_of_length_le hge] at hn
  rw[idxF_none hn]
  (repeat' first|refine svE ⟨?_⟩|refine .b fun b=>?_|refine .u fun u=>?_|refine .d ?_ ?_|(refine .g fun hg=>?_;try exact svx)|fail)
  exact fin_r (h':=_) ⟨rfl,rfl⟩
end Go.Proofs.YtbknacpdcdkjiaaGreat
