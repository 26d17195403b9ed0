import Derived.Test.YtbknacpdcdkjiaaGreatC3
/- Areas, counted place by place. No condition. -/
namespace Go.Proofs.YtbknacpdcdkjiaaGreat
open Go Go.VM
set_option linter.unusedVariables false
set_option linter.unusedSimpArgs false
def sumI:Nat→(Nat→Int)→Int
 | 0,_=>0
 | n+1,f=>sumI n f+f n
theorem sumI_congr:∀{n:Nat} {f g:Nat→Int},(∀i,i<n→f i=g i)→sumI n f=sumI n g
 | 0,_,_,_=>rfl
 | n+1,f,g,h=>by
  show sumI n f+f n=sumI n g+g n
  rw[sumI_congr fun i hi=>h i (by omega),h n (by omega)]
theorem sumI_add:∀{n:Nat} {f g:Nat→Int},sumI n (fun i=>f i+g i)=sumI n f+sumI n g
 | 0,_,_=>rfl
 | n+1,f,g=>by
  show sumI n (fun i=>f i+g i)+(f n+g n)=(sumI n f+f n)+(sumI n g+g n)
  rw[sumI_add];omega
theorem sumI_zero:∀{n:Nat} {f:Nat→Int},(∀i,i<n→f i=0)→sumI n f=0
 | 0,_,_=>rfl
 | n+1,f,h=>by
  show sumI n f+f n=0
  rw[sumI_zero fun i hi=>h i (by omega),h n (by omega)];rfl
theorem sumI_seg:∀(n a w:Nat) (c:Int),a+w≤n→sumI n (fun j=>if a≤j∧j<a+w then c else 0)=(w:Int) * c
 | n,a,0,c,h=>by
  rw[sumI_zero fun i hi=>if_neg (by omega)];simp
 | 0,a,w+1,c,h=>by omega
 | n+1,a,w+1,c,h=>by
  show sumI n (fun j=>if a≤j∧j<a+(w+1) then c else 0)+(if a≤n∧n<a+(w+1) then c else 0)=_
  by_cases hl:a+(w+1)≤n
  ·rw[sumI_seg n a (w+1) c hl,if_neg (by omega)];omega
  ·rw[if_pos (by omega),sumI_congr (g:=fun j=>if a≤j∧j<a+w then c else 0),sumI_seg n a w c (by omega)]
   ·rw[Int.natCast_add,Int.add_mul];simp
   ·intro j hj
    by_cases ha:a≤j
    ·rw[if_pos (by omega),if_pos (by omega)]
    ·rw[if_neg (by omega),if_neg (by omega)]
def ind (b:Bool):Int:=if b then 1 else 0
def grid (K:Int) (n:Nat) (p:Int→Int→Bool):Int:=sumI n fun i=>sumI n fun j=>ind (p ((j:Int) - K) ((i:Int) - K))
theorem grid_or {K:Int} {n:Nat} {p q r:Int→Int→Bool} (h:∀x y,ind (p x y)=ind (q x y)+ind (r x y)):grid K n p=grid K n q+grid K n r:=by
 unfold grid
 rw[←sumI_add]
 exact sumI_congr fun i _=>by rw[←sumI_add];exact sumI_congr fun j _=>h _ _
theorem grid_box {K:Int} {n:Nat} {r:RC} (h1:-K≤r.x) (h2:0≤r.w) (h3:r.x+r.w≤n - K) (h4:-K≤r.y) (h5:0≤r.h) (h6:r.y+r.h≤n - K):grid K n (fun x y=>decide (r.has x y))=r.w * r.h:=by
 obtain⟨a,ha⟩:=Int.eq_ofNat_of_zero_le (show 0≤r.x+K by omega)
 obtain⟨w,hw⟩:=Int.eq_ofNat_of_zero_le h2
 obtain⟨c,hc⟩:=Int.eq_ofNat_of_zero_le (show 0≤r.y+K by omega)
 obtain⟨e,he⟩:=Int.eq_ofNat_of_zero_le h5
 have hrow:∀i:Nat,i<n→sumI n (fun j=>ind (decide (r.has ((j:Int) - K) ((i:Int) - K))))=if c≤i∧i<c+e then (w:Int) else 0:=by
  intro i hi
  by_cases hy:c≤i∧i<c+e
  ·rw[if_pos hy,sumI_congr (g:=fun j=>if a≤j∧j<a+w then (1:Int) else 0),sumI_seg n a w 1 (by omega)]
   ·omega
   ·intro j hj
    by_cases hx:a≤j∧j<a+w
    ·have hp:r.has ((j:Int) - K) ((i:Int) - K):=by unfold RC.has;omega
     rw[if_pos hx,decide_eq_true hp];rfl
    ·have hp:¬ r.has ((j:Int) - K) ((i:Int) - K):=by unfold RC.has;omega
     rw[if_neg hx,decide_eq_false hp];rfl
  ·rw[if_neg hy]
   refine sumI_zero fun j hj=>?_
   have hp:¬ r.has ((j:Int) - K) ((i:Int) - K):=by unfold RC.has;omega
   rw[decide_eq_false hp];rfl
 unfold grid
 rw[sumI_congr hrow,sumI_seg n c e w (by omega),hw,he,Int.mul_comm]
theorem fol_apart {a b:RC} (h:fol a b) {x y:Int} (ha:a.has x y):¬ b.has x y:=by
 unfold RC.has at *
 rcases h with ⟨h1,h2,h3⟩|h<;>omega
theorem areaF_grid {K:Int} {n:Nat}:∀{m:List RC},(∀r∈m,r.cnt)→m.Pairwise fol→(∀r∈m,(-K≤r.x∧r.x+r.w≤n - K)∧-K≤r.y∧r.y+r.h≤n - K)→areaF m=grid K n (hasR m)
 | [],_,_,_=>by
  show (0:Int)=_
  unfold grid
  exact (sumI_zero fun i _=>sumI_zero fun j _=>rfl).symm
 | r::m,hc,hf,hb=>by
  have e:areaF (r::m)=r.w * r.h+areaF m:=by simp[areaF]
  obtain⟨⟨b1,b2⟩,b3,b4⟩:=hb r (.head _)
  obtain⟨⟨_,c1,_⟩,⟨_,c2,_⟩⟩:=hc r (.head _)
  rw[List.pairwise_cons] at hf
  rw[e,areaF_grid (fun q hq=>hc q (.tail _ hq)) hf.2 (fun q hq=>hb q (.tail _ hq)),←grid_box (K:=K) (n:=n) (r:=r) b1 (by omega) b2 b3 (by omega) b4]
  refine (grid_or fun x y=>?_).symm
  have e2:hasR (r::m) x y=(decide (r.has x y)||hasR m x y):=rfl
  rw[e2]
  by_cases hr:r.has x y
  ·have:hasR m x y=false:=hasR_none fun q hq=>fol_apart (hf.1 q hq) hr
   rw[this,decide_eq_true hr];rfl
  ·rw[decide_eq_false hr];simp[ind]
end Go.Proofs.YtbknacpdcdkjiaaGreat
/- region's join in plain words: cells of the rows and columns at which rectangles begin or end; what places they have. No condition. -/
namespace Go.Proofs.YtbknacpdcdkjiaaGreat
open Go Go.VM
set_option linter.unusedVariables false
set_option linter.unusedSimpArgs false
def xends (l:List RC):List Int:=l.flatMap fun r=>[r.x,r.x+r.w]
def ysJ (A B:List RC):List Int:=ddF (srt (ends A++ends B))
def xsJ (A B:List RC) (y:Int):List Int:=ddF (srt (xends (A.filter (cross y))++xends (B.filter (cross y))))
def cellJ (k:Bool→Bool→Bool) (A B:List RC) (y z:Int) (xs:List Int) (n:Nat):List RC:=
 (List.range n).flatMap fun j=>if k (hasR A (xs.getD j 0) y) (hasR B (xs.getD j 0) y) then [⟨xs.getD j 0,y,xs.getD (j+1) 0 - xs.getD j 0,z - y⟩] else []
def rowJ (k:Bool→Bool→Bool) (A B:List RC) (y z:Int):List RC:=cellJ k A B y z (xsJ A B y) ((xsJ A B y).length - 1)
def outJ (k:Bool→Bool→Bool) (A B:List RC) (n:Nat):List RC:=
 (List.range n).flatMap fun i=>rowJ k A B ((ysJ A B).getD i 0) ((ysJ A B).getD (i+1) 0)
def joinJ (k:Bool→Bool→Bool) (A B:List RC):List RC:=ofF (outJ k A B ((ysJ A B).length - 1))
theorem up_ysJ (A B:List RC):Up_ (ysJ A B):=up_ddF (srt_sorted _)
theorem up_xsJ (A B:List RC) (y:Int):Up_ (xsJ A B y):=up_ddF (srt_sorted _)
theorem mem_ends {l:List RC} {y:Int}:y∈ends l↔∃r∈l,y=r.y∨y=r.y+r.h:=by
 unfold ends;simp[List.mem_flatMap]
theorem mem_xends {l:List RC} {x:Int}:x∈xends l↔∃r∈l,x=r.x∨x=r.x+r.w:=by
 unfold xends;simp[List.mem_flatMap]
theorem mem_ysJ {A B:List RC} {y:Int}:y∈ysJ A B↔∃r∈A++B,y=r.y∨y=r.y+r.h:=by
 unfold ysJ
 rw[mem_ddF,(srt_perm _).mem_iff,List.mem_append,mem_ends,mem_ends]
 constructor
 ·rintro (⟨r,h1,h2⟩|⟨r,h1,h2⟩)
  ·exact⟨r,List.mem_append.2 (.inl h1),h2⟩
  ·exact⟨r,List.mem_append.2 (.inr h1),h2⟩
 ·rintro⟨r,h1,h2⟩
  exact (List.mem_append.1 h1).imp (fun h=>⟨r,h,h2⟩) (fun h=>⟨r,h,h2⟩)
theorem cross_iff {y:Int} {r:RC}:cross y r=true↔r.y≤y∧y<r.y+r.h:=by unfold cross;simp
theorem mem_xsJ {A B:List RC} {y x:Int}:x∈xsJ A B y↔∃r∈A++B,(r.y≤y∧y<r.y+r.h)∧(x=r.x∨x=r.x+r.w):=by
 unfold xsJ
 rw[mem_ddF,(srt_perm _).mem_iff,List.mem_append,mem_xends,mem_xends]
 simp only[List.mem_filter,cross_iff]
 constructor
 ·rintro (⟨r,⟨h1,h3⟩,h2⟩|⟨r,⟨h1,h3⟩,h2⟩)
  ·exact⟨r,List.mem_append.2 (.inl h1),h3,h2⟩
  ·exact⟨r,List.mem_append.2 (.inr h1),h3,h2⟩
 ·rintro⟨r,h1,h3,h2⟩
  exact (List.mem_append.1 h1).imp (fun h=>⟨r,⟨h,h3⟩,h2⟩) (fun h=>⟨r,⟨h,h3⟩,h2⟩)
theorem hasR_cong {l:List RC} {x y x' y':Int} (h:∀r∈l,r.has x y↔r.has x' y'):hasR l x y=hasR l x' y':=by
 rw[Bool.eq_iff_iff,hasR_iff,hasR_iff]
 exact⟨fun ⟨r,hr,k⟩=>⟨r,hr,(h r hr).1 k⟩,fun ⟨r,hr,k⟩=>⟨r,hr,(h r hr).2 k⟩⟩
theorem cell_one {A B:List RC} {y z x w:Int} {i j:Nat} (hi:i+1<(ysJ A B).length) (hy:(ysJ A B).getD i 0≤y) (hz:y<(ysJ A B).getD (i+1) 0)
  (hj:j+1<(xsJ A B ((ysJ A B).getD i 0)).length) (hx:(xsJ A B ((ysJ A B).getD i 0)).getD j 0≤x) (hw:x<(xsJ A B ((ysJ A B).getD i 0)).getD (j+1) 0) :
  ∀r∈A++B,(r.has x y↔r.has ((xsJ A B ((ysJ A B).getD i 0)).getD j 0) ((ysJ A B).getD i 0)):=by
 intro r hr
 have y1:=up_le_of (up_ysJ A B) hi (mem_ysJ.2 ⟨r,hr,.inl rfl⟩) hy hz
 have y2:=up_le_of (up_ysJ A B) hi (mem_ysJ.2 ⟨r,hr,.inr rfl⟩) hy hz
 generalize (ysJ A B).getD i 0=y0 at *
 by_cases hc:r.y≤y0∧y0<r.y+r.h
 ·have x1:=up_le_of (up_xsJ A B y0) hj (mem_xsJ.2 ⟨r,hr,hc,.inl rfl⟩) hx hw
  have x2:=up_le_of (up_xsJ A B y0) hj (mem_xsJ.2 ⟨r,hr,hc,.inr rfl⟩) hx hw
  unfold RC.has
  omega
 ·unfold RC.has
  omega
theorem mem_outJ {k:Bool→Bool→Bool} {A B:List RC} {n:Nat} {r:RC}:r∈outJ k A B n↔∃i,i<n∧∃j,j<(xsJ A B ((ysJ A B).getD i 0)).length - 1 ∧
  k (hasR A ((xsJ A B ((ysJ A B).getD i 0)).getD j 0) ((ysJ A B).getD i 0)) (hasR B ((xsJ A B ((ysJ A B).getD i 0)).getD j 0) ((ysJ A B).getD i 0))=true ∧
  r=⟨(xsJ A B ((ysJ A B).getD i 0)).getD j 0,(ysJ A B).getD i 0,(xsJ A B ((ysJ A B).getD i 0)).getD (j+1) 0 - (xsJ A B ((ysJ A B).getD i 0)).getD j 0,(ysJ A B).getD (i+1) 0 - (ysJ A B).getD i 0⟩:=by
 unfold outJ rowJ cellJ
 simp only[List.mem_flatMap,List.mem_range]
 refine exists_congr fun i=>and_congr_right fun _=>exists_congr fun j=>and_congr_right fun _=>?_
 split
 ·rename_i h;simp only[List.mem_singleton,h,true_and]
 ·rename_i h;simp only[List.not_mem_nil,h,false_and,Bool.false_eq_true]
theorem outJ_cnt {k:Bool→Bool→Bool} {A B:List RC} (hc:∀r∈A++B,r.cnt) {n:Nat} (hn:n≤(ysJ A B).length - 1):∀r∈outJ k A B n,r.cnt:=by
 intro r hr
 obtain⟨i,hi,j,hj,_,rfl⟩:=mem_outJ.1 hr
 have h1:=up_getD (up_ysJ A B) (i:=i) (by omega)
 have h2:=up_getD (up_xsJ A B ((ysJ A B).getD i 0)) (i:=j) (by omega)
 obtain⟨p,hp,e1⟩:=mem_ysJ.1 (getD_mem (l:=ysJ A B) (i:=i) (by omega))
 obtain⟨q,hq,e2⟩:=mem_ysJ.1 (getD_mem (l:=ysJ A B) (i:=i+1) (by omega))
 obtain⟨s,hs,_,e3⟩:=mem_xsJ.1 (getD_mem (l:=xsJ A B ((ysJ A B).getD i 0)) (i:=j) (by omega))
 obtain⟨t,ht,_,e4⟩:=mem_xsJ.1 (getD_mem (l:=xsJ A B ((ysJ A B).getD i 0)) (i:=j+1) (by omega))
 have c1:=hc p hp;have c2:=hc q hq;have c3:=hc s hs;have c4:=hc t ht
 unfold RC.cnt fitP at *
 simp only
 omega
theorem hasF_outJ {k:Bool→Bool→Bool} {A B:List RC} (hc:∀r∈A++B,r.cnt) (hk:k false false=false) (x y:Int):hasF (outJ k A B ((ysJ A B).length - 1)) x y=k (hasR A x y) (hasR B x y):=by
 rw[hasF_cnt (outJ_cnt hc (Nat.le_refl _)),Bool.eq_iff_iff,hasR_iff]
 constructor
 ·rintro⟨r,hr,h⟩
  obtain⟨i,hi,j,hj,hkk,rfl⟩:=mem_outJ.1 hr
  unfold RC.has at h
  simp only at h
  have:=cell_one (A:=A) (B:=B) (y:=y) (x:=x) (z:=0) (w:=0) (i:=i) (j:=j) (by omega) (by omega) (by omega) (by omega) (by omega) (by omega)
  rw[hasR_cong fun r hr=>this r (List.mem_append.2 (.inl hr)),hasR_cong fun r hr=>this r (List.mem_append.2 (.inr hr))]
  exact hkk
 ·intro h
  have hone:∃r∈A++B,r.has x y:=by
   cases ha:hasR A x y with
   | true=>obtain⟨r,hr,q⟩:=hasR_iff.1 ha;exact⟨r,List.mem_append.2 (.inl hr),q⟩
   | false=>
    cases hb:hasR B x y with
    | true=>obtain⟨r,hr,q⟩:=hasR_iff.1 hb;exact⟨r,List.mem_append.2 (.inr hr),q⟩
    | false=>rw[ha,hb,hk] at h;cases h
  obtain⟨r,hr,h1,h2,h3,h4⟩:=hone
  obtain⟨i,hi,i1,i2⟩:=up_between (up_ysJ A B) ⟨r.y,mem_ysJ.2 ⟨r,hr,.inl rfl⟩,h3⟩ ⟨r.y+r.h,mem_ysJ.2 ⟨r,hr,.inr rfl⟩,h4⟩
  have y1:=up_le_of (up_ysJ A B) hi (mem_ysJ.2 ⟨r,hr,.inl rfl⟩) i1 i2
  have y2:=up_le_of (up_ysJ A B) hi (mem_ysJ.2 ⟨r,hr,.inr rfl⟩) i1 i2
  have hcr:r.y≤(ysJ A B).getD i 0∧(ysJ A B).getD i 0<r.y+r.h:=by omega
  obtain⟨j,hj,j1,j2⟩:=up_between (up_xsJ A B ((ysJ A B).getD i 0)) ⟨r.x,mem_xsJ.2 ⟨r,hr,hcr,.inl rfl⟩,h1⟩ ⟨r.x+r.w,mem_xsJ.2 ⟨r,hr,hcr,.inr rfl⟩,h2⟩
  have:=cell_one (A:=A) (B:=B) (y:=y) (x:=x) (z:=0) (w:=0) (i:=i) (j:=j) hi i1 i2 hj j1 j2
  rw[hasR_cong fun r hr=>this r (List.mem_append.2 (.inl hr)),hasR_cong fun r hr=>this r (List.mem_append.2 (.inr hr))] at h
  exact⟨_,mem_outJ.2 ⟨i,by omega,j,by omega,h,rfl⟩,by unfold RC.has;simp only;omega⟩
theorem has_joinJ {k:Bool→Bool→Bool} {A B:List RC} (hc:∀r∈A++B,r.cnt) (hk:k false false=false) (x y:Int):hasR (joinJ k A B) x y=k (hasR A x y) (hasR B x y):=by
 unfold joinJ;rw[has_ofF,hasF_outJ hc hk]
end Go.Proofs.YtbknacpdcdkjiaaGreat
/- Rows of a region, asked from above; columns of a row, asked from the left. No condition. -/
namespace Go.Proofs.YtbknacpdcdkjiaaGreat
open Go Go.VM
set_option linter.unusedVariables false
set_option linter.unusedSimpArgs false
def over (y:Int) (r:RC):Bool:=decide (r.y+r.h≤y)
def begun (y:Int) (r:RC):Bool:=decide (r.y≤y)
def leftW (y:Int) (W:List RC):List RC:=W.dropWhile (over y)
def rowW (y:Int) (W:List RC):List RC:=(leftW y W).takeWhile (begun y)
theorem fol_open {a b:RC} (hb:b.cnt) (h:fol a b) {y:Int} (ha:y<a.y+a.h):y<b.y+b.h:=by
 have:=hb.2.2.1
 rcases h with ⟨h1,h2,_⟩|h<;>omega
theorem fol_later {a b:RC} (ha:a.cnt) (h:fol a b):a.y≤b.y:=by
 have:=ha.2.2.1
 rcases h with ⟨h1,_⟩|h<;>omega
theorem take_row {y:Int}:∀{W:List RC},(∀r∈W,r.cnt)→W.Pairwise fol→(∀r∈W,y<r.y+r.h)→W.takeWhile (begun y)=W.filter (cross y)
 | [],_,_,_=>rfl
 | r::W,hc,hf,ho=>by
  have hr:=ho r (.head _)
  rw[List.pairwise_cons] at hf
  by_cases hb:r.y≤y
  ·rw[List.takeWhile_cons_of_pos (by simpa[begun] using hb),List.filter_cons_of_pos (cross_iff.2 ⟨hb,hr⟩),take_row (fun q hq=>hc q (.tail _ hq)) hf.2 fun q hq=>ho q (.tail _ hq)]
  ·rw[List.takeWhile_cons_of_neg (by simpa[begun] using hb),List.filter_cons_of_neg (fun h=>hb (cross_iff.1 h).1)]
   refine (List.filter_eq_nil_iff.2 fun q hq h=>?_).symm
   have:=fol_later (hc r (.head _)) (hf.1 q hq)
   have:=(cross_iff.1 h).1
   omega
theorem rowW_eq {y:Int}:∀{W:List RC},(∀r∈W,r.cnt)→W.Pairwise fol→rowW y W=W.filter (cross y)
 | [],_,_=>rfl
 | r::W,hc,hf=>by
  have hf':=hf
  rw[List.pairwise_cons] at hf
  unfold rowW leftW
  by_cases hb:r.y+r.h≤y
  ·rw[List.dropWhile_cons_of_pos (by simpa[over] using hb),List.filter_cons_of_neg (fun h=>by have:=(cross_iff.1 h).2;omega)]
   exact rowW_eq (fun q hq=>hc q (.tail _ hq)) hf.2
  ·rw[List.dropWhile_cons_of_neg (by simpa[over] using hb)]
   refine take_row hc hf' fun q hq=>?_
   rcases List.mem_cons.1 hq with rfl|hq
   ·omega
   ·exact fol_open (hc q (.tail _ hq)) (hf.1 q hq) (by omega)
theorem leftW_filter {y y':Int} (hy:y≤y'):∀W:List RC,(leftW y W).filter (cross y')=W.filter (cross y')
 | []=>rfl
 | r::W=>by
  unfold leftW
  by_cases hb:r.y+r.h≤y
  ·rw[List.dropWhile_cons_of_pos (by simpa[over] using hb),List.filter_cons_of_neg (fun h=>by have:=(cross_iff.1 h).2;omega)]
   exact leftW_filter hy W
  ·rw[List.dropWhile_cons_of_neg (by simpa[over] using hb)]
theorem leftW_sub (y:Int) (W:List RC):(leftW y W).Sublist W:=List.dropWhile_sublist _
def past (x:Int) (r:RC):Bool:=decide (r.x+r.w≤x)
def leftC (x:Int) (R:List RC):List RC:=R.dropWhile (past x)
def acrossF (x:Int) (R:List RC):Bool:=match leftC x R with
 | []=>false
 | r::_=>decide (r.x≤x)
def inC (x:Int) (R:List RC):Bool:=R.any fun r=>decide (r.x≤x∧x<r.x+r.w)
theorem acrossF_eq {x:Int}:∀{R:List RC},R.Pairwise (fun a b=>a.x≤b.x)→acrossF x R=inC x R
 | [],_=>rfl
 | r::R,h=>by
  rw[List.pairwise_cons] at h
  have e:inC x (r::R)=(decide (r.x≤x∧x<r.x+r.w)||inC x R):=rfl
  rw[e]
  by_cases hb:r.x+r.w≤x
  ·have e2:acrossF x (r::R)=acrossF x R:=by
    unfold acrossF leftC;rw[List.dropWhile_cons_of_pos (by simpa[past] using hb)]
   rw[e2,acrossF_eq h.2,decide_eq_false (p:=r.x≤x∧x<r.x+r.w) (by omega),Bool.false_or]
  ·have e2:acrossF x (r::R)=decide (r.x≤x):=by
    unfold acrossF leftC;rw[List.dropWhile_cons_of_neg (by simpa[past] using hb)]
   rw[e2]
   by_cases hx:r.x≤x
   ·rw[decide_eq_true hx,decide_eq_true (p:=r.x≤x∧x<r.x+r.w) (by omega)];rfl
   ·rw[decide_eq_false hx,decide_eq_false (p:=r.x≤x∧x<r.x+r.w) (by omega),Bool.false_or]
    refine (List.any_eq_false.2 fun q hq=>?_).symm
    have:=h.1 q hq
    simp only[decide_eq_true_eq]
    omega
theorem leftC_in {x x':Int} (hx:x≤x'):∀R:List RC,inC x' (leftC x R)=inC x' R
 | []=>rfl
 | r::R=>by
  have e:inC x' (r::R)=(decide (r.x≤x'∧x'<r.x+r.w)||inC x' R):=rfl
  unfold leftC
  by_cases hb:r.x+r.w≤x
  ·rw[List.dropWhile_cons_of_pos (by simpa[past] using hb),e,decide_eq_false (p:=r.x≤x'∧x'<r.x+r.w) (by omega),Bool.false_or]
   exact leftC_in hx R
  ·rw[List.dropWhile_cons_of_neg (by simpa[past] using hb)]
theorem inC_row (A:List RC) (x y:Int):inC x (A.filter (cross y))=hasR A x y:=by
 rw[Bool.eq_iff_iff,hasR_iff]
 unfold inC
 rw[List.any_eq_true]
 simp only[List.mem_filter,cross_iff,decide_eq_true_eq]
 constructor
 ·rintro⟨r,⟨h1,h2⟩,h3⟩;exact⟨r,h1,by unfold RC.has;omega⟩
 ·rintro⟨r,h1,h2⟩;unfold RC.has at h2;exact⟨r,⟨h1,by omega⟩,by omega⟩
theorem row_x {A:List RC} {y:Int} (hc:∀r∈A,r.cnt) (hf:A.Pairwise fol):(A.filter (cross y)).Pairwise fun a b=>a.x≤b.x:=by
 refine (hf.filter _).imp_of_mem fun {a b} ha hb h=>?_
 have h1:=cross_iff.1 (List.mem_filter.1 ha).2
 have h2:=cross_iff.1 (List.mem_filter.1 hb).2
 have:=(hc a (List.mem_filter.1 ha).1).1.2.1
 rcases h with ⟨_,_,h⟩|h<;>omega
end Go.Proofs.YtbknacpdcdkjiaaGreat
/- Regions as sets of places: what lies in a square; unions, joins; how long the lists are. No condition. -/
namespace Go.Proofs.YtbknacpdcdkjiaaGreat
open Go Go.VM
set_option linter.unusedVariables false
set_option linter.unusedSimpArgs false
def Can (l:List RC):Prop:=ofF l=l
theorem can_of (l:List RC):Can (ofF l):=ofF_ofF l
theorem can_join (k:Bool→Bool→Bool) (A B:List RC):Can (joinJ k A B):=can_of _
theorem Can.cnt {l:List RC} (h:Can l):∀r∈l,r.cnt:=by
 have:=ofF_cnt l;rw[h] at this;exact this
theorem Can.fol {l:List RC} (h:Can l):l.Pairwise fol:=by
 have:=ofF_fol l;rw[h] at this;exact this
theorem Can.y {l:List RC} (h:Can l):l.Pairwise fun a b=>a.y≤b.y:=by
 have:=ofF_y l;rw[h] at this;exact this
theorem Can.hasF {l:List RC} (h:Can l) (x y:Int):hasF l x y=hasR l x y:=hasF_cnt h.cnt x y
theorem Can.eq {a b:List RC} (ha:Can a) (hb:Can b) (h:∀x y,hasR a x y=hasR b x y):a=b:=by
 rw[←ha,←hb]
 exact ofF_eq.2 fun x y=>by rw[ha.hasF,hb.hasF];exact h x y
theorem Can.eq_iff {a b:List RC} (ha:Can a) (hb:Can b):a=b↔∀x y,hasR a x y=hasR b x y:=⟨fun h=>by subst h;intros;rfl,ha.eq hb⟩
theorem can_nil:Can []:=by
 have h:hasR (ofF [])=fun _ _=>false:=by funext x y;rw[has_ofF];rfl
 unfold Can
 cases e:ofF [] with
 | nil=>rfl
 | cons r l=>
  have hr:r.cnt:=ofF_cnt [] r (by rw[e];exact .head _)
  have:=congrFun (congrFun h r.x) r.y
  rw[e] at this
  have h2:hasR (r::l) r.x r.y=true:=hasR_iff.2 ⟨r,.head _,by unfold RC.has;obtain⟨⟨_,a,_⟩,_,b,_⟩:=hr;omega⟩
  rw[h2] at this;cases this
theorem Can.nil_iff {l:List RC} (h:Can l):l=[]↔∀x y,hasR l x y=false:=by
 rw[h.eq_iff can_nil];exact Iff.rfl
theorem has_join {k:Bool→Bool→Bool} {A B:List RC} (ha:Can A) (hb:Can B) (hk:k false false=false) (x y:Int):hasR (joinJ k A B) x y=k (hasR A x y) (hasR B x y):=
 has_joinJ (fun r hr=>(List.mem_append.1 hr).elim (ha.cnt r) (hb.cnt r)) hk x y
structure Bx (K:Int) (n:Nat) (l:List RC):Prop where
 can:Can l
 inb:∀r∈l,(-K≤r.x∧r.x+r.w≤n - K)∧-K≤r.y∧r.y+r.h≤n - K
theorem Bx.of_has {K:Int} {n:Nat} {l:List RC} (hc:Can l) (h:∀x y,hasR l x y=true→(-K≤x∧x<n - K)∧-K≤y∧y<n - K):Bx K n l:=⟨hc,fun r hr=>by
 obtain⟨⟨_,a,_⟩,_,b,_⟩:=hc.cnt r hr
 have h1:=h r.x r.y (hasR_iff.2 ⟨r,hr,by unfold RC.has;omega⟩)
 have h2:=h (r.x+r.w - 1) (r.y+r.h - 1) (hasR_iff.2 ⟨r,hr,by unfold RC.has;omega⟩)
 omega⟩
theorem Bx.has {K:Int} {n:Nat} {l:List RC} (h:Bx K n l) {x y:Int} (hx:hasR l x y=true):(-K≤x∧x<n - K)∧-K≤y∧y<n - K:=by
 obtain⟨r,hr,h1,h2,h3,h4⟩:=hasR_iff.1 hx
 have:=h.inb r hr
 omega
theorem Bx.left {K:Int} {n:Nat} {A B:List RC} {k:Bool→Bool→Bool} (hk:∀b,k false b=false) (ha:Bx K n A) (hb:Can B):Bx K n (joinJ k A B):=.of_has (can_join _ _ _) fun x y h=>by
 rw[has_join ha.can hb (hk _)] at h
 cases h1:hasR A x y with
 | true=>exact ha.has h1
 | false=>rw[h1,hk] at h;cases h
theorem Bx.nil (K:Int) (n:Nat):Bx K n []:=⟨can_nil,by simp⟩
theorem Bx.area {K:Int} {n:Nat} {l:List RC} (h:Bx K n l):areaF l=grid K n (hasR l):=areaF_grid h.can.cnt h.can.fol h.inb
theorem len_area:∀{l:List RC},(∀r∈l,r.cnt)→(l.length:Int)≤areaF l
 | [],_=>by simp[areaF]
 | r::l,h=>by
  have e:areaF (r::l)=r.w * r.h+areaF l:=by simp[areaF]
  obtain⟨⟨_,a,_⟩,_,b,_⟩:=h r (.head _)
  have:=len_area fun q hq=>h q (.tail _ hq)
  have h1:1 * 1≤r.w * r.h:=Int.mul_le_mul (by omega) (by omega) (by omega) (by omega)
  rw[e,List.length_cons]
  push_cast
  omega
theorem sumI_top:∀{n:Nat} {f:Nat→Int} {c:Int},(∀i,i<n→f i≤c)→sumI n f≤n * c
 | 0,_,_,_=>by simp[sumI]
 | n+1,f,c,h=>by
  have h1:=sumI_top (n:=n) (f:=f) fun i hi=>h i (by omega)
  have h2:=h n (by omega)
  have e:sumI (n+1) f=sumI n f+f n:=rfl
  rw[e,show ((n+1:Nat):Int) * c=n * c+c by rw[Int.natCast_add,Int.add_mul];simp]
  omega
theorem grid_top {K:Int} {n:Nat} {p:Int→Int→Bool}:grid K n p≤n * n:=by
 unfold grid
 refine sumI_top fun i _=>?_
 have:=sumI_top (n:=n) (f:=fun j=>ind (p ((j:Int) - K) ((i:Int) - K))) (c:=1) fun j _=>by unfold ind;split<;>omega
 omega
theorem Bx.len {K:Int} {n:Nat} {l:List RC} (h:Bx K n l):l.length≤n * n:=by
 have h1:=len_area h.can.cnt
 have h2:=grid_top (K:=K) (n:=n) (p:=hasR l)
 rw[h.area] at h1
 have:((n * n:Nat):Int)=(n:Int) * n:=by push_cast;rfl
 omega
theorem up_len:∀{l:List Int} {a b:Int},Up_ l→(∀y∈l,a≤y∧y≤b)→a≤b+1→(l.length:Int)≤b+1 - a
 | [],_,_,_,_,h=>by simp;omega
 | y::l,a,b,hu,hy,h=>by
  unfold Up_ at hu
  rw[List.pairwise_cons] at hu
  have h1:=hy y (.head _)
  have:=up_len (l:=l) (a:=y+1) (b:=b) hu.2 (fun z hz=>by have:=hu.1 z hz;have:=hy z (.tail _ hz);omega) (by omega)
  rw[List.length_cons];push_cast;omega
theorem nodup_le:∀{l m:List Int},l.Nodup→(∀y∈l,y∈m)→l.length≤m.length
 | [],_,_,_=>by simp
 | y::l,m,hn,hs=>by
  rw[List.nodup_cons] at hn
  have hy:=hs y (.head _)
  have:=nodup_le (l:=l) (m:=m.erase y) hn.2 fun z hz=>(List.mem_erase_of_ne (fun e=>hn.1 (by rw[←e];exact hz))).2 (hs z (.tail _ hz))
  rw[List.length_erase_of_mem hy] at this
  have:=List.length_pos_of_mem hy
  rw[List.length_cons];omega
theorem len_split (p:Int→Bool):∀l:List Int,l.length=(l.filter p).length+(l.filter fun y=>!p y).length
 | []=>rfl
 | y::l=>by
  have:=len_split p l
  cases h:p y<;>simp[h]<;>omega
theorem up_len2 {l:List Int} {a b:Int} {m:List Int} (hu:Up_ l) (hy:∀y∈l,(a≤y∧y≤b)∨y∈m) (h:a≤b+1):(l.length:Int)≤b+1 - a+m.length:=by
 have h1:((l.filter fun y=>decide (a≤y∧y≤b)).length:Int)≤b+1 - a:=up_len (hu.filter _) (fun y hy'=>by simpa using (List.mem_filter.1 hy').2) h
 have h2:(l.filter fun y=>!decide (a≤y∧y≤b)).length≤m.length:=by
  have hn:(l.filter fun y=>!decide (a≤y∧y≤b)).Nodup:=(List.Pairwise.imp (fun h=>Int.ne_of_lt h) hu).filter _
  refine nodup_le hn fun y hy'=>?_
  have:=List.mem_filter.1 hy'
  rcases hy y this.1 with h|h
  ·simp[h] at this
  ·exact h
 have h3:=len_split (fun y=>decide (a≤y∧y≤b)) l
 omega
theorem Bx.ysJ {K:Int} {n:Nat} {A B:List RC} (ha:Bx K n A) (hb:Bx K n B):(ysJ A B).length≤n+1:=by
 have:=up_len (a:=-K) (b:=n - K) (up_ysJ A B) (fun y hy=>by
  obtain⟨r,hr,e⟩:=mem_ysJ.1 hy
  rcases List.mem_append.1 hr with hr|hr
  ·have:=ha.inb r hr;obtain⟨_,_,q,_⟩:=ha.can.cnt r hr;omega
  ·have:=hb.inb r hr;obtain⟨_,_,q,_⟩:=hb.can.cnt r hr;omega) (by omega)
 omega
theorem Bx.xsJ {K:Int} {n:Nat} {A B:List RC} (ha:Bx K n A) (hb:Bx K n B) (y:Int):(xsJ A B y).length≤n+1:=by
 have:=up_len (a:=-K) (b:=n - K) (up_xsJ A B y) (fun x hx=>by
  obtain⟨r,hr,_,e⟩:=mem_xsJ.1 hx
  rcases List.mem_append.1 hr with hr|hr
  ·have:=ha.inb r hr;obtain⟨⟨_,q,_⟩,_⟩:=ha.can.cnt r hr;omega
  ·have:=hb.inb r hr;obtain⟨⟨_,q,_⟩,_⟩:=hb.can.cnt r hr;omega) (by omega)
 omega
theorem Bx.ysJ1 {K:Int} {n:Nat} {A B:List RC} (ha:Bx K n A) (hb:B.length≤1):(Proofs.YtbknacpdcdkjiaaGreat.ysJ A B).length≤n+3:=by
 have:=up_len2 (a:=-K) (b:=n - K) (m:=ends B) (up_ysJ A B) (fun y hy=>by
  obtain⟨r,hr,e⟩:=mem_ysJ.1 hy
  rcases List.mem_append.1 hr with hr|hr
  ·have:=ha.inb r hr;obtain⟨_,_,q,_⟩:=ha.can.cnt r hr;omega
  ·exact .inr (mem_ends.2 ⟨r,hr,e⟩)) (by omega)
 rw[len_ends] at this
 omega
theorem len_xends (l:List RC):(xends l).length=2 * l.length:=by
 induction l with
 | nil=>rfl
 | cons r l ih=>
  have e:xends (r::l)=[r.x,r.x+r.w]++xends l:=rfl
  rw[e,List.length_append,ih,List.length_cons];simp;omega
theorem Bx.xsJ1 {K:Int} {n:Nat} {A B:List RC} (ha:Bx K n A) (hb:B.length≤1) (y:Int):(Proofs.YtbknacpdcdkjiaaGreat.xsJ A B y).length≤n+3:=by
 have:=up_len2 (a:=-K) (b:=n - K) (m:=xends B) (up_xsJ A B y) (fun x hx=>by
  obtain⟨r,hr,_,e⟩:=mem_xsJ.1 hx
  rcases List.mem_append.1 hr with hr|hr
  ·have:=ha.inb r hr;obtain⟨⟨_,q,_⟩,_⟩:=ha.can.cnt r hr;omega
  ·exact .inr (mem_xends.2 ⟨r,hr,e⟩)) (by omega)
 rw[len_xends] at this
 omega
theorem len_flatMap_le {α:Type} {f:Nat→List α} {c:Nat}:∀{n:Nat},(∀i,i<n→(f i).length≤c)→((List.range n).flatMap f).length≤n * c
 | 0,_=>by simp
 | n+1,h=>by
  rw[List.range_succ,List.flatMap_append,List.length_append,Nat.add_mul]
  have h1:=len_flatMap_le (n:=n) fun i hi=>h i (by omega)
  have h2:=h n (by omega)
  simp only[List.flatMap_cons,List.flatMap_nil,List.append_nil]
  omega
theorem cellJ_len (k:Bool→Bool→Bool) (A B:List RC) (y z:Int) (xs:List Int) (n:Nat):(cellJ k A B y z xs n).length≤n:=by
 have:=len_flatMap_le (n:=n) (c:=1) (f:=fun j=>if k (hasR A (xs.getD j 0) y) (hasR B (xs.getD j 0) y) then [(⟨xs.getD j 0,y,xs.getD (j+1) 0 - xs.getD j 0,z - y⟩:RC)] else []) fun i _=>by split<;>simp
 unfold cellJ
 omega
theorem outJ_len {k:Bool→Bool→Bool} {A B:List RC} {n c:Nat} (h:∀y,(xsJ A B y).length≤c+1):(outJ k A B n).length≤n * c:=by
 refine len_flatMap_le fun i _=>?_
 unfold rowJ
 have:=cellJ_len k A B ((ysJ A B).getD i 0) ((ysJ A B).getD (i+1) 0) (xsJ A B ((ysJ A B).getD i 0)) ((xsJ A B ((ysJ A B).getD i 0)).length - 1)
 have:=h ((ysJ A B).getD i 0)
 omega
theorem of_one (r:RC):(ofF [r]).length≤1:=by
 by_cases hr:r.cnt
 ·have hr':=hr
  obtain⟨⟨_,h1,_⟩,_,h2,_⟩:=hr
  have hB:CanB [⟨r.y,r.h,[(r.x,r.x+r.w)]⟩]:=⟨h2,by simp,⟨by simp;omega,by simp⟩⟩
  rw[ofF_flat hB]
  ·simp[flatB,Bd.rects]
  ·intro x y
   rw[hasF_iff]
   simp only[List.mem_singleton,exists_eq_left,inB,inS]
   unfold RC.has
   constructor
   ·rintro⟨_,h3,h4,h5,h6⟩;exact⟨h5,h6,h3,h4⟩
   ·rintro⟨h5,h6,h3,h4⟩;exact⟨hr',h3,h4,h5,h6⟩
 ·have:ofF [r]=[]:=by
   refine (can_of [r]).nil_iff.2 fun x y=>?_
   rw[has_ofF];simp[hasF,hr]
  rw[this];simp
end Go.Proofs.YtbknacpdcdkjiaaGreat
/- Places counted one by one. No condition. -/
namespace Go.Proofs.YtbknacpdcdkjiaaGreat
open Go Go.VM
set_option linter.unusedVariables false
set_option linter.unusedSimpArgs false
end Go.Proofs.YtbknacpdcdkjiaaGreat
/- A region moved, far from the ends, is one: its list is moved. No condition. -/
namespace Go.Proofs.YtbknacpdcdkjiaaGreat
open Go Go.VM
set_option linter.unusedVariables false
set_option linter.unusedSimpArgs false
def shR (dx dy:Int) (r:RC):RC:=⟨r.x+dx,r.y+dy,r.w,r.h⟩
def shP (dx:Int) (p:Int × Int):Int × Int:=(p.1+dx,p.2+dx)
def shB (dx dy:Int) (b:Bd):Bd:=⟨b.y+dy,b.h,b.s.map (shP dx)⟩
theorem canS_sh {s:List (Int × Int)} {dx:Int} (h:CanS s):CanS (s.map (shP dx)):=⟨fun q hq=>by
 obtain⟨p,hp,rfl⟩:=List.mem_map.1 hq
 have:=h.pos p hp
 unfold shP;dsimp only;omega,by
 rw[List.pairwise_map]
 refine h.apart.imp fun {a b} hab=>?_
 unfold shP;dsimp only;omega⟩
theorem shP_inj {dx:Int} {s s':List (Int × Int)} (h:s.map (shP dx)=s'.map (shP dx)):s=s':=by
 refine (List.map_inj_right fun x y e=>?_).1 h
 unfold shP at e
 injection e with e1 e2
 ext
 ·omega
 ·omega
theorem okB_sh {b:Bd} {dx dy:Int} (h:b.ok):(shB dx dy b).ok:=⟨h.h,fun e=>h.ne (by unfold shB at e;simpa using e),canS_sh h.s⟩
theorem canB_sh {dx dy:Int}:∀{B:List Bd},CanB B→CanB (B.map (shB dx dy))
 | [],_=>trivial
 | [b],h=>okB_sh (b:=b) h
 | b::c::B,⟨h1,h2,h3⟩=>⟨okB_sh h1,⟨by have:=h2.1;unfold shB;dsimp only;omega,fun e q=>h2.2 (by unfold shB at e;dsimp only at e;omega) (shP_inj q)⟩,canB_sh (B:=c::B) h3⟩
theorem flatB_sh (dx dy:Int):∀B:List Bd,flatB (B.map (shB dx dy))=(flatB B).map (shR dx dy)
 | []=>rfl
 | b::B=>by
  have e1:flatB ((b::B).map (shB dx dy))=(shB dx dy b).rects++flatB (B.map (shB dx dy)):=rfl
  have e2:flatB (b::B)=b.rects++flatB B:=rfl
  rw[e1,e2,List.map_append,flatB_sh dx dy B]
  congr 1
  unfold Bd.rects shB
  dsimp only
  rw[List.map_map,List.map_map]
  refine List.map_congr_left fun p _=>?_
  show (⟨p.1+dx,b.y+dy,p.2+dx - (p.1+dx),b.h⟩:RC)=⟨p.1+dx,b.y+dy,p.2 - p.1,b.h⟩
  congr 1
  omega
theorem can_sh {l:List RC} {dx dy:Int} (h:Can l) (hc:∀r∈l.map (shR dx dy),r.cnt):Can (l.map (shR dx dy)):=by
 have hB:=(bandsF_spec l).1
 have hl:l=flatB (bandsF l):=h.symm
 have e:l.map (shR dx dy)=flatB ((bandsF l).map (shB dx dy)):=by rw[flatB_sh,←hl]
 unfold Can
 rw[e] at hc ⊢
 exact ofF_flat (canB_sh hB) fun x y=>by rw[hasF_cnt hc,hasR_flatB]
theorem has_sh (l:List RC) (dx dy x y:Int):hasR (l.map (shR dx dy)) (x+dx) (y+dy)=hasR l x y:=by
 rw[Bool.eq_iff_iff,hasR_iff,hasR_iff]
 constructor
 ·rintro⟨r,hr,k⟩
  obtain⟨q,hq,rfl⟩:=List.mem_map.1 hr
  refine⟨q,hq,?_⟩
  unfold RC.has shR at *;dsimp only at k;omega
 ·rintro⟨q,hq,k⟩
  refine⟨_,List.mem_map_of_mem hq,?_⟩
  unfold RC.has shR at *;dsimp only;omega
end Go.Proofs.YtbknacpdcdkjiaaGreat
