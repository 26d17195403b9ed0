import Derived.Test.YtbknacpdcdkjiaaGreatQ8
import Derived.Test.YtbknacpdcdkjiaaGreatVM29
import Derived.Test.YtbknacpdcdkjiaaGreatQ5
import Derived.Shelf.SlMaps.Clone
import Derived.Shelf.SlLaysW
import Derived.Test.YtbknacpdcdkjiaaGreatProg
import Derived.Test.YtbknacpdcdkjiaaGreatB9
/- Plain: trees of windows. No condition. -/
namespace Go.Proofs.YtbknacpdcdkjiaaGreat
open Go Go.VM
set_option linter.unusedVariables false
set_option linter.unusedSimpArgs false
set_option maxHeartbeats 4000000
section
variable {α:Type}
theorem lk_put_same (t:List (Int × α)) (i:Int) (a:α):lkF (putF t i a) i=some a:=by
 unfold putF
 cases h:lkF t i with
 | none=>
  simp only[Option.isSome_none,Bool.false_eq_true,if_false]
  have:=lkF_none.1 h
  unfold lkF
  rw[List.find?_append,List.find?_eq_none.2 (fun p hp=>by simpa using this p hp)]
  simp
 | some x=>
  simp only[Option.isSome_some,if_true]
  unfold lkF at h ⊢
  rw[List.find?_map]
  have e:((fun p:Int × α=>decide (p.1=i)) ∘ fun p:Int × α=>if p.1=i then (i,a) else p)=fun p=>decide (p.1=i):=by
   funext p
   show decide ((if p.1=i then (i,a) else p).1=i)=decide (p.1=i)
   split<;>simp_all
  rw[e]
  cases hf:t.find? (fun p=>decide (p.1=i)) with
  | none=>rw[hf] at h;cases h
  | some p=>
   have:=List.find?_some hf
   simp only[decide_eq_true_eq] at this
   simp[this]
theorem lk_put_ne (t:List (Int × α)) {i j:Int} (a:α) (hj:j≠i):lkF (putF t i a) j=lkF t j:=by
 unfold putF
 split
 ·unfold lkF
  rw[List.find?_map]
  have e:((fun p:Int × α=>decide (p.1=j)) ∘ fun p:Int × α=>if p.1=i then (i,a) else p)=fun p=>decide (p.1=j):=by
   funext p
   show decide ((if p.1=i then (i,a) else p).1=j)=decide (p.1=j)
   split
   ·rename_i h;rw[h]
   ·rfl
  rw[e]
  cases hf:t.find? (fun p=>decide (p.1=j)) with
  | none=>rfl
  | some p=>
   have:=List.find?_some hf
   simp only[decide_eq_true_eq] at this
   have hp:¬ p.1=i:=fun e=>hj (this ▸ e)
   simp[hp]
 ·unfold lkF
  rw[List.find?_append]
  cases t.find? (fun p=>decide (p.1=j)) with
  | none=>simp[Ne.symm hj]
  | some p=>rfl
theorem putF_mem {t:List (Int × α)} {i:Int} {a:α} {q:Int × α} (h:q∈putF t i a):q=(i,a)∨q∈t:=by
 unfold putF at h
 split at h
 ·obtain⟨p,hp,rfl⟩:=List.mem_map.1 h
  split
  ·exact .inl rfl
  ·exact .inr hp
 ·rcases List.mem_append.1 h with h|h
  ·exact .inr h
  ·exact .inl (by simpa using h)
theorem putF_len (t:List (Int × α)) (i:Int) (a:α):(putF t i a).length≤t.length+1:=by
 unfold putF
 split<;>simp
theorem putF_nodup {t:List (Int × α)} (i:Int) (a:α) (h:(t.map (·.1)).Nodup):((putF t i a).map (·.1)).Nodup:=by
 cases e:lkF t i with
 | some x=>
  unfold putF
  rw[e]
  simp only[Option.isSome_some,if_true]
  have:(t.map fun p=>if p.1=i then (i,a) else p).map (·.1)=t.map (·.1):=by
   rw[List.map_map]
   refine List.map_congr_left fun p _=>?_
   show (if p.1=i then (i,a) else p).1=p.1
   split
   ·rename_i e;exact e.symm
   ·rfl
  rw[this];exact h
 | none=>
  have hn:i∉t.map (·.1):=fun hm=>by
   obtain⟨p,h1,h2⟩:=List.mem_map.1 hm
   exact lkF_none.1 e p h1 h2
  rw[putF_new a hn,List.map_append,List.nodup_append]
  exact⟨h,by simp,fun x hx y hy=>by simp at hy;subst hy;exact fun e=>hn (e ▸ hx)⟩
end
theorem lkF_mem {α:Type} {t:List (Int × α)} {i:Int} {a:α} (h:lkF t i=some a):(i,a)∈t:=by
 unfold lkF at h
 obtain⟨q,h1,h2⟩:=Option.map_eq_some_iff.1 h
 have h3:=List.find?_some h1
 have h4:=List.mem_of_find?_eq_some h1
 have:q.1=i:=by simpa using h3
 rw[←this,←h2];exact h4
theorem key_lkF {α:Type} {t:List (Int × α)} {i:Int} {a:α} (h:lkF t i=some a):i∈t.map (·.1):=List.mem_map.2 ⟨_,lkF_mem h,rfl⟩
theorem lk_put {α:Type} (t:List (Int × α)) (i j:Int) (a:α):lkF (putF t i a) j=if j=i then some a else lkF t j:=by
 by_cases e:j=i
 ·subst e;rw[if_pos rfl];exact lk_put_same t j a
 ·rw[if_neg e];exact lk_put_ne t a e
theorem ofS_put (k:SVT) (p q:Int) (L:List Int):ofS (putF k p L) q=if q=p then L else ofS k q:=by
 unfold ofS
 rw[lk_put]
 split<;>rfl
def pathN (up:UP):Nat→Int→List Int
 | 0,_=>[]
 | n+1,id=>match lkF up id with
  | none=>[]
  | some p=>p::pathN up n p
theorem Pth.eq_path {up:UP} {id:Int} {R:List Int} (n1:lkF up 1=none) (h:Pth up id R):∀n,R.length≤n→pathN up n id=R:=by
 induction h with
 | root=>
  intro n _
  cases n with
  | zero=>rfl
  | succ n=>rw[pathN,n1]
 | @up id p R h1 h2 r ih=>
  intro n hn
  cases n with
  | zero=>simp at hn
  | succ n=>rw[pathN,h2];dsimp only;rw[ih n (by simpa using hn)]
structure TW (k:SVT) (up:UP):Prop where
 kn:(k.map (·.1)).Nodup
 un:(up.map (·.1)).Nodup
 kid:∀p c,c∈ofS k p↔lkF up c=some p
 kd:∀p,(ofS k p).Nodup
 kl:k.length≤up.length
 ol:∀q∈k,q.2.length≤up.length
 n1:lkF up 1=none
 pth:∀id,hasT up id=true→∃R,Pth up id R∧R.length≤up.length
def rP (up:UP) (id:Int):List Int:=pathN up up.length id
section
variable {k:SVT} {up:UP} (w:TW k up)
include w
theorem TW.pthR {id:Int} (h:hasT up id=true):Pth up id (rP up id)∧(rP up id).length≤up.length:=by
 obtain⟨R,h1,h2⟩:=w.pth id h
 have:=h1.eq_path w.n1 up.length h2
 rw[show rP up id=R from this]
 exact⟨h1,h2⟩
theorem TW.ofl (p:Int):(ofS k p).length≤up.length:=by
 unfold ofS
 cases e:lkF k p with
 | none=>exact Nat.zero_le _
 | some L=>exact w.ol _ (lkF_mem e)
theorem TW.has_kid {p c:Int} (h:c∈ofS k p):hasT up c=true:=by
 unfold hasT;rw[(w.kid p c).1 h];rfl
theorem TW.rP_kid {p c:Int} (h:c∈ofS k p):rP up c=p::rP up p∧hasT up p=true:=by
 have hc:=w.has_kid h
 obtain⟨h1,h2⟩:=w.pthR hc
 have hu:=(w.kid p c).1 h
 generalize hr:rP up c=R at *
 cases h1 with
 | root=>rw[w.n1] at hu;cases hu
 | @up _ q R' g1 g2 g3=>
  rw[g2] at hu
  obtain rfl:=Option.some.inj hu
  have h3:=g3.has
  have h4:=g3.eq_path w.n1 up.length (by simp at h2;omega)
  exact⟨by rw[show rP up q=R' from h4],h3⟩
theorem TW.kid_ne1 {p c:Int} (h:c∈ofS k p):c≠1:=fun e=>by
 have:=(w.kid p c).1 h
 rw[e,w.n1] at this;cases this
theorem TW.rank {p c:Int} (h:c∈ofS k p):up.length - (rP up c).length<up.length - (rP up p).length:=by
 have h1:=(w.rP_kid h).1
 have h2:=(w.pthR (w.has_kid h)).2
 rw[h1] at h2 ⊢
 simp at h2 ⊢;omega
end
def belF (K:Int→List Int):Nat→Int→List Int
 | 0,_=>[]
 | f+1,id=>id::(K id).flatMap (belF K f)
inductive Anc (up:UP) (a:Int):Int→Prop
 | refl:Anc up a a
 | step {c p:Int} (h:lkF up c=some p) (r:Anc up a p):Anc up a c
theorem Anc.trans {up:UP} {a b c:Int} (h1:Anc up a b) (h2:Anc up b c):Anc up a c:=by
 induction h2 with
 | refl=>exact h1
 | step h r ih=>exact .step h ih
theorem Anc.line {up:UP} {a b c:Int} (h1:Anc up a c) (h2:Anc up b c):Anc up a b∨Anc up b a:=by
 induction h1 with
 | refl=>exact .inr h2
 | step h r ih=>
  cases h2 with
  | refl=>exact .inl (.step h r)
  | step h' r'=>
   rw[h] at h'
   obtain rfl:=Option.some.inj h'
   exact ih r'
theorem bel_anc {K:Int→List Int} {up:UP} (hK:∀p c,c∈K p→lkF up c=some p):∀(f:Nat) (id x:Int),x∈belF K f id→Anc up id x
 | 0,_,_,h=>by cases h
 | f+1,id,x,h=>by
  unfold belF at h
  rcases List.mem_cons.1 h with rfl|h
  ·exact .refl
  ·obtain⟨c,h1,h2⟩:=List.mem_flatMap.1 h
   exact (Anc.step (hK id c h1) .refl).trans (bel_anc hK f c x h2)
section
variable {k:SVT} {up:UP} (w:TW k up)
include w
theorem TW.anc_rank {a c:Int} (h:Anc up a c):a=c∨(rP up a).length<(rP up c).length:=by
 induction h with
 | refl=>exact .inl rfl
 | @step c p h r ih=>
  have h1:=(w.rP_kid ((w.kid p c).2 h)).1
  right
  rw[h1,List.length_cons]
  rcases ih with rfl|h<;>omega
theorem TW.apart {p a c x:Int} (ha:a∈ofS k p) (hc:c∈ofS k p) (h1:Anc up a x) (h2:Anc up c x):a=c:=by
 have e1:=(w.rP_kid ha).1
 have e2:=(w.rP_kid hc).1
 rcases h1.line h2 with h|h
 ·rcases w.anc_rank h with h|h
  ·exact h
  ·rw[e1,e2] at h;omega
 ·rcases w.anc_rank h with h|h
  ·exact h.symm
  ·rw[e1,e2] at h;omega
theorem TW.kid_above {p a:Int} (ha:a∈ofS k p):¬ Anc up a p:=fun h=>by
 have e1:=(w.rP_kid ha).1
 rcases w.anc_rank h with h|h
 ·rw[h] at e1
  have:=congrArg List.length e1
  simp at this
 ·rw[e1,List.length_cons] at h;omega
end
theorem TW.add {k:SVT} {up:UP} (w:TW k up) {id p:Int} (h1:id≠1) (hno:lkF up id=none) (hp:hasT up p=true):TW (putF k p (ofS k p++[id])) (putF up id p):=by
 have hkn:∀c,c∉ofS k id:=fun c hc=>by
  have h2:=(w.rP_kid hc).2
  unfold hasT at h2
  rw[hno,decide_eq_false h1] at h2;cases h2
 have hpid:p≠id:=fun e=>by subst e;unfold hasT at hp;rw[hno,decide_eq_false h1] at hp;cases hp
 have hin:∀q,id∉ofS k q:=fun q hq=>by rw[(w.kid q id).1 hq] at hno;cases hno
 have hlen:(putF up id p).length=up.length+1:=by
  unfold putF;rw[hno];simp
 have hpth:∀{c:Int} {R:List Int},Pth up c R→Pth (putF up id p) c R:=fun h=>by
  induction h with
  | root=>exact .root
  | @up c q R g1 g2 g3 ih=>
   refine .up g1 ?_ ih
   rw[lk_put,if_neg (fun e=>by subst e;rw[hno] at g2;cases g2)];exact g2
 refine⟨putF_nodup _ _ w.kn,putF_nodup _ _ w.un,fun q c=>?_,fun q=>?_,?_,fun q hq=>?_,?_,fun c hc=>?_⟩
 ·rw[ofS_put,lk_put]
  by_cases hq:q=p
  ·subst hq
   rw[if_pos rfl,List.mem_append,List.mem_singleton]
   by_cases hc:c=id
   ·subst hc;simp
   ·rw[if_neg hc];rw[w.kid];simp[hc]
  ·rw[if_neg hq]
   by_cases hc:c=id
   ·subst hc
    rw[if_pos rfl]
    exact⟨fun h=>absurd h (hin q),fun h=>absurd (Option.some.inj h).symm hq⟩
   ·rw[if_neg hc];exact w.kid q c
 ·rw[ofS_put]
  split
  ·rename_i e
   subst e
   rw[List.nodup_append]
   exact⟨w.kd q,by simp,fun a ha b hb=>by rw[List.mem_singleton.1 hb];rintro rfl;exact hin q ha⟩
  ·exact w.kd q
 ·rw[hlen]
  have:=putF_len k p (ofS k p++[id])
  have:=w.kl
  omega
 ·rw[hlen]
  rcases putF_mem hq with rfl|hq
  ·have:=w.ofl p
   simp;omega
  ·have:=w.ol q hq;omega
 ·rw[lk_put,if_neg (fun e=>h1 e.symm)];exact w.n1
 ·rw[hlen]
  by_cases e:c=id
  ·subst e
   obtain⟨R,g1,g2⟩:=w.pth p hp
   exact⟨p::R,.up h1 (by rw[lk_put,if_pos rfl]) (hpth g1),by simp;omega⟩
  ·have:hasT up c=true:=by
    unfold hasT at hc ⊢
    rw[lk_put,if_neg e] at hc
    exact hc
   obtain⟨R,g1,g2⟩:=w.pth c this
   exact⟨R,hpth g1,by omega⟩
theorem TW.start:TW [] []:=⟨by simp,by simp,fun p c=>by simp[ofS,lkF],fun p=>by simp[ofS,lkF],Nat.le_refl _,by simp,rfl,fun id h=>by
 unfold hasT at h
 have e:id=1:=by simpa[lkF] using h
 subst e
 exact⟨[],.root,Nat.le_refl _⟩⟩
end Go.Proofs.YtbknacpdcdkjiaaGreat

/- Plain: the view's windows, each once; how far they go. No condition. -/
namespace Go.Proofs.YtbknacpdcdkjiaaGreat
open Go Go.VM
set_option linter.unusedVariables false
set_option linter.unusedSimpArgs false
set_option maxHeartbeats 4000000
structure Zx (n:Nat) (l:List RC):Prop where
 can:Can l
 at':∃a c:Int,∀r∈l,(a≤r.x∧r.x+r.w≤a+n)∧c≤r.y∧r.y+r.h≤c+n
theorem Bx.zx {K:Int} {n:Nat} {l:List RC} (h:Bx K n l):Zx n l:=⟨h.can,-K,-K,fun r hr=>by have:=h.inb r hr;omega⟩
theorem Zx.len {n:Nat} {l:List RC} (h:Zx n l) (hn:n≤1000):l.length≤n * n:=by
 obtain⟨hc,a,c,hb⟩:=h
 have hb2:∀r∈l.map (shR (-a) (-c)),((0:Int)≤r.x∧r.x+r.w≤n)∧0≤r.y∧r.y+r.h≤n:=fun r hr=>by
  obtain⟨q,hq,rfl⟩:=List.mem_map.1 hr
  have:=hb q hq
  unfold shR;dsimp only;omega
 have hcan:Can (l.map (shR (-a) (-c))):=can_sh hc fun r hr=>by
  have h1:=hb2 r hr
  obtain⟨q,hq,rfl⟩:=List.mem_map.1 hr
  obtain⟨⟨_,h2,_⟩,_,h3,_⟩:=hc.cnt q hq
  unfold shR RC.cnt fitP at *;dsimp only at *;omega
 have:=(show Bx 0 n (l.map (shR (-a) (-c))) from⟨hcan,fun r hr=>by have:=hb2 r hr;omega⟩).len
 rwa[List.length_map] at this
theorem up_len3 {l:List Int} {a b c d:Int} (hu:Up_ l) (hy:∀y∈l,(a≤y∧y≤b)∨(c≤y∧y≤d)) (h:a≤b+1) (h':c≤d+1):(l.length:Int)≤(b+1 - a)+(d+1 - c):=by
 have h1:((l.filter fun y=>decide (a≤y∧y≤b)).length:Int)≤b+1 - a:=up_len (hu.filter _) (fun y hy'=>by simpa using (List.mem_filter.1 hy').2) h
 have h2:((l.filter fun y=>!decide (a≤y∧y≤b)).length:Int)≤d+1 - c:=up_len (hu.filter _) (fun y hy'=>by
  have:=List.mem_filter.1 hy'
  rcases hy y this.1 with q|q
  ·simp[q] at this
  ·exact q) h'
 have h3:=len_split (fun y=>decide (a≤y∧y≤b)) l
 omega
theorem Zx.jok {n m:Nat} {A B:List RC} (ha:Zx n A) (hb:Zx m B) (hn:n≤130) (hm:m≤130):JOk A B:=by
 have l1:=ha.len (by omega)
 have l2:=hb.len (by omega)
 have h3:n * n≤130 * 130:=Nat.mul_le_mul hn hn
 have h4:m * m≤130 * 130:=Nat.mul_le_mul hm hm
 obtain⟨ca,a,c,qa⟩:=ha
 obtain⟨cb,a',c',qb⟩:=hb
 refine⟨ca,cb,by omega,by omega,?_,fun y=>?_⟩
 ·have:=up_len3 (a:=c) (b:=c+n) (c:=c') (d:=c'+m) (up_ysJ A B) (fun y hy=>by
   obtain⟨r,hr,e⟩:=mem_ysJ.1 hy
   rcases List.mem_append.1 hr with hr|hr
   ·have:=qa r hr;obtain⟨_,_,q,_⟩:=ca.cnt r hr;omega
   ·have:=qb r hr;obtain⟨_,_,q,_⟩:=cb.cnt r hr;omega) (by omega) (by omega)
  omega
 ·have:=up_len3 (a:=a) (b:=a+n) (c:=a') (d:=a'+m) (up_xsJ A B y) (fun x hx=>by
   obtain⟨r,hr,_,e⟩:=mem_xsJ.1 hx
   rcases List.mem_append.1 hr with hr|hr
   ·have:=qa r hr;obtain⟨⟨_,q,_⟩,_⟩:=ca.cnt r hr;omega
   ·have:=qb r hr;obtain⟨⟨_,q,_⟩,_⟩:=cb.cnt r hr;omega) (by omega) (by omega)
  omega
theorem Zx.sh {n:Nat} {A:List RC} {dx dy:Int} (h:Bx 0 n A) (hn:n≤200) (hx:-1000000≤dx∧dx≤1000000) (hy:-1000000≤dy∧dy≤1000000):Zx n (shF dx dy A):=by
 have hb:∀r∈shF dx dy A,(dx≤r.x∧r.x+r.w≤dx+n)∧dy≤r.y∧r.y+r.h≤dy+n:=fun r hr=>by
  obtain⟨q,hq,rfl⟩:=List.mem_map.1 hr
  have:=h.inb q hq
  unfold shR;dsimp only;omega
 refine⟨can_sh h.can fun r hr=>?_,dx,dy,hb⟩
 have h1:=hb r hr
 obtain⟨q,hq,rfl⟩:=List.mem_map.1 hr
 obtain⟨⟨_,h2,_⟩,_,h3,_⟩:=h.can.cnt q hq
 unfold shR RC.cnt fitP at *;dsimp only at *;omega
theorem shift_in (A:List RC) (dx dy:Int) (h:Heap) (cA:Can A) (lA:A.length≤100000) (hb:∀r∈A,(-200000≤r.x∧r.x+r.w≤200000)∧-200000≤r.y∧r.y+r.h≤200000) (hx:-200000≤dx∧dx≤200000) (hy:-200000≤dy∧dy≤200000) :
  ACalls Tryz.prog 73 [regE A,.val (.int .i64 dx),.val (.int .i64 dy)] h (fun r h'=>r=regE (shF dx dy A)∧h'=h):=by
 have e:A.map (mvR dx dy)=A.map (shR dx dy):=List.map_congr_left fun r hr=>by
  have h1:=hb r hr
  obtain⟨⟨_,h2,_⟩,_,h3,_⟩:=cA.cnt r hr
  unfold mvR mvY mvX shR
  dsimp only
  rw[show max (r.x+dx) (-1048576)=r.x+dx by omega,show max (r.y+dy) (-1048576)=r.y+dy by omega,show min (r.x+dx+r.w) 1048576 - (r.x+dx)=r.w by omega,show min (r.y+dy+r.h) 1048576 - (r.y+dy)=r.h by omega]
 have hc:Can (A.map (shR dx dy)):=can_sh cA fun r hr=>by
  obtain⟨q,hq,rfl⟩:=List.mem_map.1 hr
  have h1:=hb q hq
  obtain⟨⟨_,h2,_⟩,_,h3,_⟩:=cA.cnt q hq
  unfold RC.cnt fitP shR
  dsimp only
  omega
 have:=shift_c A dx dy h lA cA.cnt (by omega) (by omega)
 rw[e,show ofF (A.map (shR dx dy))=A.map (shR dx dy) from hc] at this
 exact this
theorem shift_b (A:List RC) (dx dy:Int) (h:Heap) (k:Bx 0 16 A) (hx:-200000≤dx∧dx≤200000) (hy:-200000≤dy∧dy≤200000) :
  ACalls Tryz.prog 73 [regE A,.val (.int .i64 dx),.val (.int .i64 dy)] h (fun r h'=>r=regE (shF dx dy A)∧h'=h):=
 shift_in A dx dy h k.can (by have:=k.len;omega) (fun r hr=>by have h1:=k.inb r hr;obtain⟨⟨_,h2,_⟩,_,h3,_⟩:=k.can.cnt r hr;omega) hx hy
theorem Bx.right {K:Int} {n:Nat} {A B:List RC} (ha:Can A) (hb:Bx K n B):Bx K n (AndJ A B):=.of_has (can_join _ _ _) fun x y h=>by
 rw[has_join ha hb.can rfl,Bool.and_eq_true] at h
 exact hb.has h.2
structure BW.Ok (b:BW):Prop where
 x:-128≤b.x∧b.x≤127
 y:-128≤b.y∧b.y≤127
 w:1≤b.w∧b.w≤16
 h:1≤b.h∧b.h≤16
 g:0≤b.g∧b.g≤10
 sh:Bx 100 300 b.shape
 ns:b.sh=false→b.shape=[]
theorem hasF_1 (r:RC) (x y:Int):hasF [r] x y=(decide r.cnt&&decide (r.has x y)):=by unfold hasF;simp
theorem whole_has (w h:Int) (hw:1≤w∧w≤1000) (hh:1≤h∧h≤1000) (x y:Int):hasR (ofF [⟨0,0,w,h⟩]) x y=decide ((0≤x∧x<w)∧0≤y∧y<h):=by
 rw[has_ofF,hasF_1]
 rw[←Bool.decide_and]
 refine decide_eq_decide.2 ?_
 unfold RC.cnt fitP RC.has
 dsimp only
 omega
theorem BW.Ok.area_has {b:BW} (k:b.Ok) (x y:Int):hasR (areaB b) x y=((!b.sh||hasR b.shape x y)&&decide ((0≤x∧x<b.w)∧0≤y∧y<b.h)):=by
 have kw:=k.w;have kh:=k.h
 unfold areaB
 cases e:b.sh with
 | false=>rw[if_neg (by decide),whole_has _ _ (by omega) (by omega)];simp
 | true=>rw[if_pos rfl,has_join k.sh.can (can_of _) rfl,whole_has _ _ (by omega) (by omega)];simp
theorem BW.Ok.area {b:BW} (k:b.Ok):Bx 0 16 (areaB b):=.of_has (by unfold areaB;split;exact can_join _ _ _;exact can_of _) fun x y h=>by
 have kw:=k.w;have kh:=k.h
 rw[k.area_has,Bool.and_eq_true,decide_eq_true_iff] at h
 omega
theorem BW.Ok.jok {b:BW} (k:b.Ok):JOk b.shape (ofF [⟨0,0,b.w,b.h⟩]):=by
 have h1:=of_one ⟨0,0,b.w,b.h⟩
 have h2:=k.sh.len
 refine⟨k.sh.can,can_of _,by omega,by omega,?_,fun y=>?_⟩
 ·have:=k.sh.ysJ1 h1;omega
 ·have:=k.sh.xsJ1 h1 y;omega
end Go.Proofs.YtbknacpdcdkjiaaGreat

/- maps.Clone out of the kit's contract; an entry of a map's literal. No condition. -/
namespace Go.VM
open Go Go.Shelf
set_option linter.unusedVariables false
set_option linter.unusedSimpArgs false
set_option linter.unusedSectionVars false
theorem mclone_c {P:Program} {ρ:Ren} (L:Go.Proofs.SlLaysW.n5 P ρ) {ks:List Value} {l:List AV} (hne:ks≠[]) (h:Heap) :
  ACalls P (ρ.f 5) [.mro ks l] h (fun r h'=>∃b,r=.val (.map (some b))∧h'=.mp b ks l::h):=by
 intro m w vs hm hv hh
 simp only[RelL,Rel] at hv
 obtain⟨c,r,rfl,⟨q,rfl,hq⟩,rfl⟩:=hv
 rcases hq with ⟨_,h1,_⟩|⟨g,es,clk,es',rfl,h1,h2,h3,h4⟩
 ·exact absurd h1 hne
 refine (Go.Proofs.AnyW.maps_Clone L g es clk w (hm g _ h1)).mono ?_
 rintro e w' ⟨rfl,rfl⟩
 have hx:OERel m (w.alloc (.map es clk)) (.mp w.heap.size ks l):=by
  simp only[OERel]
  exact⟨es,clk,es',heap_new _ _,h2,h3,h4⟩
 refine⟨m,_,_,_,rfl,fun b o h=>h,fun b o hb=>by rw[heap_old w _ b (hm.lt hb)];exact hm b o hb,Same.alloc w _,rel_val rfl,HRel.cons hh hm (fun b hb=>heap_old w _ b hb) hx (fun b hb=>by injection hb with hb;omega),⟨fun b o hb=>.inl hb,fun b hb _=>heap_old w _ b hb,fun x hx b hb=>?_⟩,_,rfl,rfl⟩
 rcases List.mem_cons.1 hx with rfl|hx
 ·injection hb with hb;exact .inr (by omega)
 ·exact .inl ⟨x,hx,hb⟩
section
variable {n:Nat} {T:List (Nat × AV)} {h:Heap} {P:Program} {d:Option Nat} {ty:Nat} {pos:String} {af:Array Edge} {gd:Option (Nat × Bool)} {x y z:Operand} {mt kt et:Nat} {kd:IntKind} {α:Type} {f:α→AV} {m:List (Int × α)} {i:Int} {v:AV} {K:St→Prop}
theorem S.ins {b:Nat} {a:α} {v':AV} {h':Heap} [hm:TMap P mt kt et kd] (hK:K ⟨n,T,h'⟩) (hx:evalA T x=some (.val (.map (some b))):=by rfl) (hu:Up h (mpV b kd f m) (mpV b kd f (putF m i a)) h':=by (repeat (first|exact Up.here|assumption|apply Up.there))) (hy:evalA T y=some (.val (.int kd i)):=by rfl) (hz:evalA T z=some v':=by rfl) (hv:Wk v' (f a):=by exact Wk.refl _) :
  Step P ⟨none,.insert mt x y z,ty,pos,af,gd⟩ ⟨n,T,h⟩ K:=
 show Step P ⟨none,.mapUpdate mt x y z,ty,pos,af,gd⟩ ⟨n,T,h⟩ K from S.mapU hK hx hu hy hz hv
end
end Go.VM

/-
  DERIVED: THE SHELF's CONTRACTS AT THIS DUMP, IN PLAIN WORDS (tools/lay-plain.mjs out of 'YtbknacpdcdkjiaaGreatShelfLayM.lean', which tools/lay-shelf.mjs wrote): THE SAME DECLARATIONS UNDER THE SAME NAMES: 'import', 'namespace', 'open', 'def', 'theorem' AND NOTHING ELSE: no command of the shelf's: FOR A HAND-IN. Each laying: the table of numbers ('.._ren') and one theorem, a field a fact of the dump's own or the kernel's comparison; each contract: ONE APPLICATION.
-/
namespace Go.Proofs
open Go.Shelf
def Tryz.cloneB_ren:Go.Shelf.Ren:=⟨fun|5=>99|7=>128|n=>n,fun|23=>104|25=>38|3=>116|4=>4|20=>20|n=>n,fun|n=>n⟩
theorem Tryz.cloneB:Go.Proofs.SlLaysW.n5 Tryz.prog Tryz.cloneB_ren:={
 mixed:=by kernel_rfl
 f5:=⟨Tryz.f99.name,by decide,Tryz.func99.trans (congrArg some (by kernel_rfl))⟩
 f7:=Tryz.func128.trans (congrArg some (by kernel_rfl))
 t4:=Tryz.underlying4
 a4:=Tryz.isAgg4
 z4:=Tryz.sizeOf4
 v4:=Tryz.zeroValue4
 t20:=Tryz.underlying20
 a20:=Tryz.isAgg20
 z20:=Tryz.sizeOf20
 v20:=Tryz.zeroValue20
 t23:=Tryz.underlying104
 a23:=Tryz.isAgg104
 z23:=Tryz.sizeOf104
 v23:=Tryz.zeroValue104 }
end Go.Proofs

/- Plain: planes of pixels. No condition. -/
namespace Go.Proofs.YtbknacpdcdkjiaaGreat
open Go Go.VM
set_option linter.unusedVariables false
set_option linter.unusedSimpArgs false
set_option maxHeartbeats 4000000
structure GR where
 (w h:Nat) (pix:List Int)
structure GR.Ok (g:GR):Prop where
 w:1≤g.w∧g.w≤128
 h:1≤g.h∧g.h≤128
 len:g.pix.length=g.w * g.h
 px:∀p∈g.pix,0≤p∧p≤255
end Go.Proofs.YtbknacpdcdkjiaaGreat


/- slices.IndexFunc, DeleteFunc at ids; trees: take. No condition. -/
namespace Go.VM
open Go
end Go.VM
namespace Go.Proofs.YtbknacpdcdkjiaaGreat
open Go Go.VM
attribute [local irreducible] PurV Pur Step RL W D ACalls Then InBlock Fini
set_option linter.unusedVariables false
set_option linter.unusedSimpArgs false
set_option maxHeartbeats 20000000
end Go.Proofs.YtbknacpdcdkjiaaGreat


/- Grids: side, coord, Size, has, At, twin, Set, New. No condition. -/
namespace Go.Proofs.YtbknacpdcdkjiaaGreat
open Go Go.VM
attribute [local irreducible] PurV Pur Step RL W D ACalls Then InBlock Fini
set_option linter.unusedVariables false
set_option linter.unusedSimpArgs false
set_option maxHeartbeats 20000000
end Go.Proofs.YtbknacpdcdkjiaaGreat


namespace Go.VM
open Go
set_option linter.unusedVariables false
set_option linter.unusedSimpArgs false
theorem Sel.whole:∀h:Heap,Sel h h []
 | []=>.done _
 | x::h=>.ro (Sel.whole h)
theorem App.app:∀h r:Heap,App h r (h++r)
 | [],r=>.nil _
 | x::h,r=>.cons (App.app h r)
theorem Tk.last {x:OE}:∀h:Heap,Tk (h++[x]) x h
 | []=>.here
 | y::h=>.there (Tk.last h)
theorem LeH.rot (l:Heap) (x:OE):LeH (l++[x]) (x::l):=LeH.cons (Tk.last l) (LeH.refl l)
end Go.VM
namespace Go.Proofs.YtbknacpdcdkjiaaGreat
open Go Go.VM
attribute [local irreducible] PurV Pur Step RL W D ACalls Then InBlock Fini
set_option linter.unusedVariables false
set_option linter.unusedSimpArgs false
set_option maxHeartbeats 20000000
end Go.Proofs.YtbknacpdcdkjiaaGreat
