/- view.Of. No condition. -/
import Derived.Test.YtbknacpdcdkjiaaGreatZ7
import Derived.Test.YtbknacpdcdkjiaaGreatZ5
import Derived.Test.YtbknacpdcdkjiaaGreatC5
import Derived.Test.YtbknacpdcdkjiaaGreatU4
namespace Go.Proofs.YtbknacpdcdkjiaaGreat
open Go Go.VM
set_option maxRecDepth 100000
attribute [local irreducible] PurV Pur Step RL W D ACalls Then InBlock Fini
set_option linter.unusedVariables false
set_option linter.unusedSimpArgs false
set_option maxHeartbeats 20000000
instance fun_backw1:TFun Tryz.prog 102:=⟨by kernel_rfl⟩
instance fun_hand:TFun Tryz.prog 68:=⟨by kernel_rfl⟩
theorem backw_c (L:List Int) (h:Heap):ACalls Tryz.prog 71 [.ro 1 (ints .u32 (L))] h (fun r h'=>∃g1,r=.clo (.func 102) [.val (.pointer (some ⟨g1,0,none⟩))]∧h'=.box g1 [.ro 1 (ints .u32 (L))] 29::h):=by
 refine ACalls.intro Tryz.func71 rfl Tryz.ntmps71 Tryz.results71 (Nat.le_of_ble_eq_true rfl) ?_
 (repeat' first|refine svE ⟨?_⟩|refine .b fun b=>?_|refine .u fun u=>?_|refine .d ?_ ?_|(refine .g fun hg=>?_;try exact svx)|fail)
 exact fin_r (h':=_) ⟨b,rfl,rfl⟩
def backL (L:List Int):List (List AV):=L.zipIdx.reverse.map fun q=>[.val (.int .i64 ((q.2:Int))),.val (.int .u32 (q.1))]
theorem backL_len (L:List Int):(backL L).length=L.length:=by unfold backL;simp
theorem backL_at {L:List Int} {k:Nat} {a:Int} (h:k<L.length) (ha:L[L.length - 1 - k]?=some a):(backL L)[k]?=some [.val (.int .i64 (((L.length - 1 - k:Nat):Int))),.val (.int .u32 (a))]:=by
 unfold backL
 rw[List.getElem?_map,List.getElem?_reverse (by simpa using h),List.length_zipIdx,List.getElem?_zipIdx,ha]
 simp
theorem backw_iter (L:List Int) (g1:Nat) (hl:L.length≤1000000):Iter Tryz.prog 102 [.val (.pointer (some ⟨g1,0,none⟩))] [.box g1 [.ro 1 (ints .u32 (L))] 29] (backL L):=by
 intro lp R Z hy h h0
 refine ACalls.intro Tryz.func102 rfl Tryz.ntmps102 Tryz.results102 (Nat.le_of_ble_eq_true rfl) ?_
 show W none _ _ _ ⟨_,_,.box g1 [.ro 1 (ints .u32 (L))] 29::h⟩
 (repeat' first|refine svE ⟨?_⟩|refine .b fun b=>?_|refine .u fun u=>?_|refine .d ?_ ?_|(refine .g fun hg=>?_;try exact svx)|fail)
 refine W.loop (J:=fun q:Nat × Heap=>⟨19,[(3,.val (.int .i64 ((L.length:Int) - 1 - q.1))),(0,.val (.func (.yield lp) #[] #[])),(1,.val (.pointer (some ⟨g1,0,none⟩)))],.box g1 [.ro 1 (ints .u32 (L))] 29::q.2⟩)
  (Φ:=fun q=>q.1≤L.length∧R q.1 q.2) (μ:=fun q=>L.length - q.1) (0,h) (by rw[show (L.length:Int) - 1 - ((0:Nat):Int)=(L.length:Int) - 1 by omega];exact lee) ⟨Nat.zero_le _,h0⟩ ?_
 rintro⟨i,hh⟩ ⟨hi,hR⟩
 dsimp only at hi hR ⊢
 rcases Nat.lt_or_ge i L.length with hlt|hge
 ·obtain⟨a,ha⟩:∃a,L[L.length - 1 - i]?=some a:=⟨_,List.getElem?_eq_getElem (by omega)⟩
  have hat:=backL_at hlt ha
  have hc:(L.length:Int) - 1 - (i:Int)=((L.length - 1 - i:Nat):Int):=by omega
  rw[hc]
  generalize hm:L.length - 1 - i=m at *
  (repeat' ((fail_if_success (refine iYd ?_));(first|refine svE ⟨?_⟩|refine .b fun b=>?_|refine .u fun u=>?_|refine .d ?_ ?_|(refine .g fun hg=>?_;try exact svx)|fail)))
  refine RL.yield ((hy i _ hh hR hat).keep1.mono ?_)
  rintro bb h' ⟨h1,(⟨rfl,hR'⟩|⟨rfl,hZ⟩),rfl⟩
  ·(repeat' first|refine svE ⟨?_⟩|refine .b fun b=>?_|refine .u fun u=>?_|refine .d ?_ ?_|(refine .g fun hg=>?_;try exact svx)|fail)
   exact⟨(i+1,h1),⟨hlt,hR'⟩,by dsimp only;rw[show (L.length:Int) - 1 - ((i+1:Nat):Int)=(m:Int) - 1 by omega];exact lee,by dsimp only;omega⟩
  ·(repeat' first|refine svE ⟨?_⟩|refine .b fun b=>?_|refine .u fun u=>?_|refine .d ?_ ?_|(refine .g fun hg=>?_;try exact svx)|fail)
   exact fin_r (h':=.box g1 [.ro 1 (ints .u32 (L))] 29::h1) ⟨h1,rfl,.inr hZ⟩
 ·have e:i=L.length:=by omega
  subst e
  (repeat' first|refine svE ⟨?_⟩|refine .b fun b=>?_|refine .u fun u=>?_|refine .d ?_ ?_|(refine .g fun hg=>?_;try exact svx)|fail)
  exact fin_n (h':=.box g1 [.ro 1 (ints .u32 (L))] 29::hh) ⟨hh,rfl,.inl (by rw[backL_len];exact hR)⟩
theorem backL_inv {L:List Int} {k:Nat} {x:List AV} (h:(backL L)[k]?=some x):∃(i a:Int),L.reverse[k]?=some a∧x=[.val (.int .i64 (i)),.val (.int .u32 (a))]:=by
 unfold backL at h
 rw[List.getElem?_map] at h
 obtain⟨⟨a,i⟩,h1,rfl⟩:=Option.map_eq_some_iff.1 h
 refine⟨i,a,?_,rfl⟩
 have:(L.zipIdx.reverse.map (·.1))[k]?=some a:=by rw[List.getElem?_map,h1];rfl
 rw[List.map_reverse] at this
 simpa using this
def vSW (s:SW):AV:=.agg [.val (.int .i64 (s.x)),.val (.int .i64 (s.y)),.ro 4 (s.clip.map RC.enc)]
theorem lp_none {bx:PW} {ox oy:Int→Int} {hd:Int→List RC→List RC→List (Int × SW)} {id:Int} {pl lf:List RC} {kid:Int} {b0:BW} {ks:List Int} (h:lkF bx kid=some b0) (hm:b0.m=false):lpF bx ox oy hd id pl (kid::ks) lf=lpF bx ox oy hd id pl ks lf:=by
 rw[lpF,h];simp[hm]
theorem lp_some {bx:PW} {ox oy:Int→Int} {hd:Int→List RC→List RC→List (Int × SW)} {id:Int} {pl lf:List RC} {kid:Int} {b0:BW} {ks:List Int} (h:lkF bx kid=some b0) (hm:b0.m=true):lpF bx ox oy hd id pl (kid::ks) lf=(hd kid (kidA ox oy id b0 pl) (AndJ (kidA ox oy id b0 pl) lf)++(lpF bx ox oy hd id pl ks (NotJ lf (kidA ox oy id b0 pl))).1,(lpF bx ox oy hd id pl ks (NotJ lf (kidA ox oy id b0 pl))).2):=by
 rw[lpF,h];simp[hm]
structure Rd (bx:PW) (ox oy:Int→Int) (hd:Int→List RC→List RC→List (Int × SW)) (id:Int) (pl lf0:List RC) (L:List Int) (k:Nat) (acc:List (Int × SW)) (lf:List RC):Prop where
 e1:acc++(lpF bx ox oy hd id pl (L.drop k) lf).1=(lpF bx ox oy hd id pl L lf0).1
 e2:(lpF bx ox oy hd id pl (L.drop k) lf).2=(lpF bx ox oy hd id pl L lf0).2
 bl:Bx 0 16 lf
 mem:∀e∈acc,∃c∈L.take k,∃a l,e∈hd c a l
theorem Rd.none {bx:PW} {ox oy:Int→Int} {hd:Int→List RC→List RC→List (Int × SW)} {id:Int} {pl lf0 lf:List RC} {L:List Int} {k:Nat} {acc:List (Int × SW)} {c:Int} {b0:BW} (r:Rd bx ox oy hd id pl lf0 L k acc lf) (hc:L[k]?=some c) (hb:lkF bx c=some b0) (hm:b0.m=false):Rd bx ox oy hd id pl lf0 L (k+1) acc lf:=by
 have hd':L.drop k=c::L.drop (k+1):=by
  obtain⟨h1,h2⟩:=List.getElem?_eq_some_iff.1 hc
  rw[List.drop_eq_getElem_cons h1,h2]
 refine⟨?_,?_,r.bl,fun e he=>?_⟩
 ·rw[←r.e1,hd',lp_none hb hm]
 ·rw[←r.e2,hd',lp_none hb hm]
 ·obtain⟨q,h1,h2⟩:=r.mem e he
  exact⟨q,by rw[List.take_add_one];exact List.mem_append_left _ h1,h2⟩
theorem Rd.some {bx:PW} {ox oy:Int→Int} {hd:Int→List RC→List RC→List (Int × SW)} {id:Int} {pl lf0 lf:List RC} {L:List Int} {k:Nat} {acc:List (Int × SW)} {c:Int} {b0:BW} (r:Rd bx ox oy hd id pl lf0 L k acc lf) (hc:L[k]?=some c) (hb:lkF bx c=some b0) (hm:b0.m=true) (hA:Can (kidA ox oy id b0 pl)):Rd bx ox oy hd id pl lf0 L (k+1) (acc++hd c (kidA ox oy id b0 pl) (AndJ (kidA ox oy id b0 pl) lf)) (NotJ lf (kidA ox oy id b0 pl)):=by
 have hd':L.drop k=c::L.drop (k+1):=by
  obtain⟨h1,h2⟩:=List.getElem?_eq_some_iff.1 hc
  rw[List.drop_eq_getElem_cons h1,h2]
 refine⟨?_,?_,.left (fun b=>rfl) r.bl hA,fun e he=>?_⟩
 ·rw[←r.e1,hd',lp_some hb hm,List.append_assoc]
 ·rw[←r.e2,hd',lp_some hb hm]
 ·rcases List.mem_append.1 he with he|he
  ·obtain⟨q,h1,h2⟩:=r.mem e he
   exact⟨q,by rw[List.take_add_one];exact List.mem_append_left _ h1,h2⟩
  ·exact⟨c,by rw[List.take_add_one,hc];exact List.mem_append_right _ (List.mem_singleton.2 rfl),_,_,he⟩
theorem hand_c (k:SVT) (up:UP) (t:PW) (Q:PWOk k up t) (b3 b4 b5 b6 bm:Nat) :
  ∀(f:Nat) (id:Int) (pl lf:List RC) (m:List (Int × SW)) (H:Heap),rkF up id<f→hasT up id=true→Bx 0 16 pl→Bx 0 16 lf→(∀x∈m.map (·.1),¬ Anc up id x) →
   OE.box b3 [mapV .u32 vBox t] 106∈H→OE.box b4 [mapV .u32 vIds k,mapV .u32 (vI .u32) up] 28∈H→OE.box b5 [.clo (.func 68) [.val (.pointer (some ⟨b3,0,none⟩)),.val (.pointer (some ⟨b4,0,none⟩)),.val (.pointer (some ⟨b5,0,none⟩)),.val (.pointer (some ⟨b6,0,none⟩))]] 174∈H→OE.box b6 [.val (.slice none 0 0),.val (.map (some bm))] 32∈H →
   ACalls Tryz.prog 68 ([.val (.int .u32 (id)),regE pl,regE lf]++[.val (.pointer (some ⟨b3,0,none⟩)),.val (.pointer (some ⟨b4,0,none⟩)),.val (.pointer (some ⟨b5,0,none⟩)),.val (.pointer (some ⟨b6,0,none⟩))]) (mpV bm .u32 vSW m::H) (fun r h'=>r=.tup []∧h'=mpV bm .u32 vSW (m++handF t (ofS k) (oX up t) (oY up t) f id pl lf)::H)
 | 0,_,_,_,_,_,h,_,_,_,_,_,_,_,_=>absurd h (Nat.not_lt_zero _)
 | f+1,id,pl,lf,m,H,hr,hid,bp,bl,hm,m3,m4,m5,m6=>by
  have ih:=hand_c k up t Q b3 b4 b5 b6 bm f
  obtain⟨hp1,hp2⟩:=Q.path hid
  have oc:=fun h=>origin_c k up t id (rP up id) h hp1 (by omega) (Q.boxes hid) (fun w b e=>by have:=(Q.ok w b e).x;have:=(Q.ok w b e).y;omega)
  have hol:=Q.w.ofl id
  have hul:=Q.ul
  have kc:=fun h=>kids_c k up id h (by omega)
  have bc:=fun h=>backw_c (ofS k id) h
  have obd:=Q.o_bd hid
  unfold encP encT at *
  rw[show sumX t (id::rP up id)=oX up t id from rfl,show sumY t (id::rP up id)=oY up t id from rfl] at oc
  unfold handF
  simp only[List.cons_append,List.nil_append] at ih ⊢
  unfold regE at ih ⊢
  refine ACalls.intro Tryz.func68 rfl Tryz.ntmps68 Tryz.results68 (Nat.le_of_ble_eq_true rfl) ?_
  (repeat' first|refine svE ⟨?_⟩|refine .b fun b=>?_|refine .u fun u=>?_|refine .d ?_ ?_|(refine .g fun hg=>?_;try exact svx)|fail)
  refine S.call ?_;refine (oc _).mono ?_;rintro r h' ⟨rfl,hh⟩;subst hh
  (repeat' first|refine svE ⟨?_⟩|refine .b fun b=>?_|refine .u fun u=>?_|refine .d ?_ ?_|(refine .g fun hg=>?_;try exact svx)|fail)
  refine S.call ?_;refine (kc _).mono ?_;rintro r h' ⟨rfl,hh⟩;subst hh
  (repeat' first|refine svE ⟨?_⟩|refine .b fun b=>?_|refine .u fun u=>?_|refine .d ?_ ?_|(refine .g fun hg=>?_;try exact svx)|fail)
  refine S.call ?_
  refine (bc _).mono ?_
  rintro r h' ⟨g1,rfl,hh⟩
  subst hh
  (repeat' first|refine svE ⟨?_⟩|refine .b fun b=>?_|refine .u fun u=>?_|refine .d ?_ ?_|(refine .g fun hg=>?_;try exact svx)|fail)
  rename_i b8 b9
  revert b;intro b10
  have it:=backw_iter (ofS k id) g1 (by omega)
  have hst:Rd t (oX up t) (oY up t) (handF t (ofS k) (oX up t) (oY up t) f) id pl lf (ofS k id).reverse 0 [] lf:=⟨rfl,rfl,bl,fun e he=>by cases he⟩
  have hndr:(ofS k id).reverse.Nodup:=List.pairwise_reverse.2 ((Q.w.kd id).imp fun h=>Ne.symm h)
  refine W.le (s':=⟨78,[(29,.clo (.func 102) [.val (.pointer (some ⟨g1,0,none⟩))]),(10,.val (.pointer (some ⟨b10,0,none⟩))),(9,.val (.pointer (some ⟨b9,0,none⟩))),(8,.val (.pointer (some ⟨b8,0,none⟩))),(3,.val (.pointer (some ⟨b3,0,none⟩))),(4,.val (.pointer (some ⟨b4,0,none⟩))),(5,.val (.pointer (some ⟨b5,0,none⟩))),(6,.val (.pointer (some ⟨b6,0,none⟩))),(0,.val (.int .u32 (id)))],.box g1 [.ro 1 (ints .u32 (ofS k id))] 29::.box b9 [.ro 4 ((lf).map RC.enc)] 114::mpV bm .u32 vSW (m++([]:List (Int × SW)))::.box b10 [.val (.int .i64 (oX up t id)),.val (.int .i64 (oY up t id))] 122::.box b8 [.ro 4 (pl.map RC.enc)] 114::H⟩) (by rw[List.append_nil];exact lee) ?_
  refine W.range (fun kk hh=>∃acc lf',hh=.box b9 [.ro 4 ((lf').map RC.enc)] 114::mpV bm .u32 vSW (m++acc)::.box b10 [.val (.int .i64 (oX up t id)),.val (.int .i64 (oY up t id))] 122::.box b8 [.ro 4 (pl.map RC.enc)] 114::H∧Rd t (oX up t) (oY up t) (handF t (ofS k) (oX up t) (oY up t) f) id pl lf (ofS k id).reverse kk acc lf') (fun c hh=>False) it (h0:=.box b9 [.ro 4 ((lf).map RC.enc)] 114::mpV bm .u32 vSW (m++([]:List (Int × SW)))::.box b10 [.val (.int .i64 (oX up t id)),.val (.int .i64 (oY up t id))] 122::.box b8 [.ro 4 (pl.map RC.enc)] 114::H) ⟨[],lf,rfl,hst⟩ ?_ ?_ (fun c h hf=>hf.elim) (fun x hx=>by unfold backL at hx;obtain⟨q,_,rfl⟩:=List.mem_map.1 hx;rfl) (by repeat (first|exact LeH.refl _|exact LeH.nil _|refine LeH.cons (by (fail_if_success (apply tkG));(repeat (first|exact Tk.here|apply Tk.there));first|done|fail) ?_|refine LeH.boxw (by (fail_if_success (apply tkG));(repeat (first|exact Tk.here|apply Tk.there));first|done|fail) (by (repeat (first|exact Wk.refl _|exact Wk.nilr _|exact Wk.nilm|apply Wk.aggc|apply Wk.tupc|exact Wk.aggn|exact Wk.tupn));first|done|fail) ?_|refine LeH.skip ?_))
  ·rintro lp kk x hh ⟨acc,lf',rfl,rd⟩ hx
   obtain⟨i,a,ha,rfl⟩:=backL_inv hx
   have hain:a∈ofS k id:=List.mem_reverse.1 (List.mem_of_getElem? ha)
   have hhas:=Q.w.has_kid hain
   obtain⟨b0,hb0⟩:=Q.bt a hhas
   have ok0:=Q.ok a b0 hb0
   have pb:=fun h=>pbox_c t a b0 h hb0
   unfold encP at pb
   cases hbm:b0.m with
   | false=>
    have rd2:=rd.none ha hb0 hbm
    show W _ _ _ _ ⟨78,(31,.val (.int .u32 (a)))::(30,.val (.int .i64 (i)))::_,_⟩
    (repeat' first|refine svE ⟨?_⟩|refine .b fun b=>?_|refine .u fun u=>?_|refine .d ?_ ?_|(refine .g fun hg=>?_;try exact svx)|fail)
    refine S.call ?_;refine (pb _).mono ?_;rintro r h' ⟨rfl,hh⟩;subst hh
    unfold vBox
    rw[hbm]
    (repeat' first|refine svE ⟨?_⟩|refine .b fun b=>?_|refine .u fun u=>?_|refine .d ?_ ?_|(refine .g fun hg=>?_;try exact svx)|fail)
    exact⟨_,(by repeat (first|exact LeH.refl _|exact LeH.nil _|refine LeH.cons (by (fail_if_success (apply tkG));(repeat (first|exact Tk.here|apply Tk.there));first|done|fail) ?_|refine LeH.boxw (by (fail_if_success (apply tkG));(repeat (first|exact Tk.here|apply Tk.there));first|done|fail) (by (repeat (first|exact Wk.refl _|exact Wk.nilr _|exact Wk.nilm|apply Wk.aggc|apply Wk.tupc|exact Wk.aggn|exact Wk.tupn));first|done|fail) ?_|refine LeH.skip ?_)),acc,lf',rfl,rd2⟩
   | true=>
    have cz:=Q.can_kid hain hb0
    have hA:Bx 0 16 (kidA (oX up t) (oY up t) id b0 pl):=Bx.right cz.can bp
    have rd2:=rd.some ha hb0 hbm hA.can
    have bl':=rd.bl
    have hB:Bx 0 16 (AndJ (kidA (oX up t) (oY up t) id b0 pl) lf'):=.left (fun b=>rfl) hA bl'.can
    have hrk:=Q.w.rank hain
    have hnew:∀x∈(m++acc).map (·.1),¬ Anc up a x:=fun x hx hax=>by
     rw[List.map_append] at hx
     rcases List.mem_append.1 hx with hx|hx
     ·exact hm x hx ((Anc.step ((Q.w.kid id a).1 hain) .refl).trans hax)
     ·obtain⟨e,he,rfl⟩:=List.mem_map.1 hx
      obtain⟨c,h1,a',l',h2⟩:=rd.mem e he
      have h3:=hand_anc (fun p c=>(Q.w.kid p c).1) f c a' l' e h2
      have h4:=Q.w.apart (List.mem_reverse.1 (List.mem_of_mem_take h1)) hain h3 hax
      subst h4
      obtain⟨g1,g2⟩:=List.getElem?_eq_some_iff.1 ha
      have h5:=hndr
      rw[←List.take_append_drop kk (ofS k id).reverse,List.nodup_append,List.drop_eq_getElem_cons g1,g2] at h5
      exact h5.2.2 c h1 c (List.mem_cons_self ..) rfl
    have hc1:=fun H' m3 m4 m5 m6=>ih a (kidA (oX up t) (oY up t) id b0 pl) (AndJ (kidA (oX up t) (oY up t) id b0 pl) lf') (m++acc) H' (by unfold rkF at hr ⊢;omega) hhas hA hB hnew m3 m4 m5 m6
    have pa:=fun h=>parea_c t a b0 h hb0 ok0
    have s1:=fun h=>shift_b (areaB b0) (oX up t id+b0.x) (oY up t id+b0.y) h ok0.area (by have:=ok0.x;omega) (by have:=ok0.y;omega)
    have t1:=fun h=>meet_c (shF (oX up t id+b0.x) (oY up t id+b0.y) (areaB b0)) pl h (cz.jok bp.zx (by omega) (by omega))
    have t2:=fun h=>meet_c (kidA (oX up t) (oY up t) id b0 pl) lf' h (hA.jok bl' (by omega))
    have t3:=fun h=>minus_c lf' (kidA (oX up t) (oY up t) id b0 pl) h (bl'.jok hA (by omega))
    have hbx:=ok0.x
    have hby:=ok0.y
    clear hA hB hrk hnew ih hst it bp bl bl' ok0 cz rd hm oc kc bc
    rw[show joinJ (fun p q=>p&&q) (shF (oX up t id+b0.x) (oY up t id+b0.y) (areaB b0)) pl=kidA (oX up t) (oY up t) id b0 pl from rfl] at t1
    rw[show joinJ (fun p q=>p&&q) (kidA (oX up t) (oY up t) id b0 pl) lf'=AndJ (kidA (oX up t) (oY up t) id b0 pl) lf' from rfl] at t2
    rw[show joinJ (fun p q=>p&&!q) lf' (kidA (oX up t) (oY up t) id b0 pl)=NotJ lf' (kidA (oX up t) (oY up t) id b0 pl) from rfl] at t3
    generalize AndJ (kidA (oX up t) (oY up t) id b0 pl) lf'=LB at *
    generalize NotJ lf' (kidA (oX up t) (oY up t) id b0 pl)=LN at *
    generalize kidA (oX up t) (oY up t) id b0 pl=KA at *
    rw[List.append_assoc] at hc1
    unfold encP regE at *
    show W _ _ _ _ ⟨78,(31,.val (.int .u32 (a)))::(30,.val (.int .i64 (i)))::_,_⟩
    (repeat' first|refine svE ⟨?_⟩|refine .b fun b=>?_|refine .u fun u=>?_|refine .d ?_ ?_|(refine .g fun hg=>?_;try exact svx)|fail)
    refine S.call ?_;refine (pb _).mono ?_;rintro r h' ⟨rfl,hh⟩;subst hh
    unfold vBox
    rw[hbm]
    (repeat' ((fail_if_success (refine drg ?_));(first|refine svE ⟨?_⟩|refine .b fun b=>?_|refine .u fun u=>?_|refine .d ?_ ?_|(refine .g fun hg=>?_;try exact svx)|fail)))
    revert b;intro b15
    refine W.dr (.ro (.ro (.ro (.ro (.ro (Sel.all _)))))) ?_
    (repeat' first|refine svE ⟨?_⟩|refine .b fun b=>?_|refine .u fun u=>?_|refine .d ?_ ?_|(refine .g fun hg=>?_;try exact svx)|fail)
    refine R2.C (pa _) ?_
    (repeat' first|refine svE ⟨?_⟩|refine .b fun b=>?_|refine .u fun u=>?_|refine .d ?_ ?_|(refine .g fun hg=>?_;try exact svx)|fail)
    refine R2.C (s1 _) ?_
    refine R2.B ?_
    refine S.alloc (fun b=>?_)
    refine kd ?_
    refine R2.Bs ?_
    (repeat' first|refine svE ⟨?_⟩|refine .b fun b=>?_|refine .u fun u=>?_|refine .d ?_ ?_|(refine .g fun hg=>?_;try exact svx)|fail)
    revert b;intro b17
    refine R2.E ?_ (App.app _ _)
    refine thn ?_
    refine W.le (s':=⟨78,[(17,.val (.pointer (some ⟨b17,0,none⟩))),(15,.val (.pointer (some ⟨b15,0,none⟩))),(14,.val (.int .u32 (a))),(10,.val (.pointer (some ⟨b10,0,none⟩))),(9,.val (.pointer (some ⟨b9,0,none⟩))),(8,.val (.pointer (some ⟨b8,0,none⟩))),(3,.val (.pointer (some ⟨b3,0,none⟩))),(4,.val (.pointer (some ⟨b4,0,none⟩))),(5,.val (.pointer (some ⟨b5,0,none⟩))),(6,.val (.pointer (some ⟨b6,0,none⟩))),(0,.val (.int .u32 (id)))],.box b17 [.ro 4 ((shF (oX up t id+b0.x) (oY up t id+b0.y) (areaB b0)).map RC.enc)] 114::.box b15 (vBox b0).cells 116::.box b9 [.ro 4 ((lf').map RC.enc)] 114::mpV bm .u32 vSW (m++acc)::.box b10 [.val (.int .i64 (oX up t id)),.val (.int .i64 (oY up t id))] 122::.box b8 [.ro 4 (pl.map RC.enc)] 114::H⟩) ⟨rfl,(by repeat (first|exact LeT.nil|refine LeT.cons rfl ?_|refine LeT.consw rfl (by (repeat (first|exact Wk.refl _|exact Wk.nilr _|exact Wk.nilm|apply Wk.aggc|apply Wk.tupc|exact Wk.aggn|exact Wk.tupn));first|done|fail) ?_)),?_⟩ ?_
    ·unfold vBox
     rw[hbm]
     exact LeH.rot (.box b15 [.val (.int .i64 (b0.x)),.val (.int .i64 (b0.y)),.val (.int .i64 (b0.w)),.val (.int .i64 (b0.h)),.val (.bool (true)),.val (.int .i64 (b0.g)),.val (.int .i64 (b0.g)),.val (.bool (b0.sh)),.ro 4 (b0.shape.map RC.enc)] 116::.box b9 [.ro 4 ((lf').map RC.enc)] 114::mpV bm .u32 vSW (m++acc)::.box b10 [.val (.int .i64 (oX up t id)),.val (.int .i64 (oY up t id))] 122::.box b8 [.ro 4 (pl.map RC.enc)] 114::H) (.box b17 [.ro 4 ((shF (oX up t id+b0.x) (oY up t id+b0.y) (areaB b0)).map RC.enc)] 114)
    generalize (vBox b0).cells=CB at *
    (repeat' first|refine svE ⟨?_⟩|refine .b fun b=>?_|refine .u fun u=>?_|refine .d ?_ ?_|(refine .g fun hg=>?_;try exact svx)|fail)
    refine S.call ?_;refine (t1 _).mono ?_;rintro r h' ⟨rfl,hh⟩;subst hh
    (repeat' ((fail_if_success (refine drg ?_));(first|refine svE ⟨?_⟩|refine .b fun b=>?_|refine .u fun u=>?_|refine .d ?_ ?_|(refine .g fun hg=>?_;try exact svx)|fail)))
    refine W.dr (.ro (.ro (.ro (.ro (.ro (.ro (Sel.all _))))))) ?_
    (repeat' first|refine svE ⟨?_⟩|refine .b fun b=>?_|refine .u fun u=>?_|refine .d ?_ ?_|(refine .g fun hg=>?_;try exact svx)|fail)
    refine R2.C (t2 _) ?_
    refine R2.melt (ha:=App.app _ _) ?_
    rw[List.append_nil]
    refine R2.B ?_
    refine Step.le (s':=⟨78,[(67,.agg [.ro 4 (LB.map RC.enc)]),(64,.agg [.ro 4 (KA.map RC.enc)]),(63,.val (.int .u32 (a))),(62,.clo (.func 68) [.val (.pointer (some ⟨b3,0,none⟩)),.val (.pointer (some ⟨b4,0,none⟩)),.val (.pointer (some ⟨b5,0,none⟩)),.val (.pointer (some ⟨b6,0,none⟩))])],mpV bm .u32 vSW (m++acc)::.box b17 [.ro 4 (KA.map RC.enc)] 114::.box b15 CB 116::.box b9 [.ro 4 (lf'.map RC.enc)] 114::.box b10 [.val (.int .i64 (oX up t id)),.val (.int .i64 (oY up t id))] 122::.box b8 [.ro 4 (pl.map RC.enc)] 114::H⟩) lee ?_
    refine S.callv (.clo 68 [.val (.pointer (some ⟨b3,0,none⟩)),.val (.pointer (some ⟨b4,0,none⟩)),.val (.pointer (some ⟨b5,0,none⟩)),.val (.pointer (some ⟨b6,0,none⟩))]) ((hc1 (.box b17 [.ro 4 (KA.map RC.enc)] 114::.box b15 CB 116::.box b9 [.ro 4 (lf'.map RC.enc)] 114::.box b10 [.val (.int .i64 (oX up t id)),.val (.int .i64 (oY up t id))] 122::.box b8 [.ro 4 (pl.map RC.enc)] 114::H) (by (fail_if_success (apply memG));repeat (first|exact List.Mem.head _|assumption|refine List.Mem.tail _ ?_)) (by (fail_if_success (apply memG));repeat (first|exact List.Mem.head _|assumption|refine List.Mem.tail _ ?_)) (by (fail_if_success (apply memG));repeat (first|exact List.Mem.head _|assumption|refine List.Mem.tail _ ?_)) (by (fail_if_success (apply memG));repeat (first|exact List.Mem.head _|assumption|refine List.Mem.tail _ ?_))).mono ?_)
    rintro r h' ⟨rfl,hh⟩
    subst hh
    refine kd ?_
    (repeat' first|refine svE ⟨?_⟩|refine .b fun b=>?_|refine .u fun u=>?_|refine .d ?_ ?_|(refine .g fun hg=>?_;try exact svx)|fail)
    refine S.call ?_;refine (t3 _).mono ?_;rintro r h' ⟨rfl,hh⟩;subst hh
    (repeat' first|refine svE ⟨?_⟩|refine .b fun b=>?_|refine .u fun u=>?_|refine .d ?_ ?_|(refine .g fun hg=>?_;try exact svx)|fail)
    exact⟨_,(by repeat (first|exact LeH.refl _|exact LeH.nil _|refine LeH.cons (by (fail_if_success (apply tkG));(repeat (first|exact Tk.here|apply Tk.there));first|done|fail) ?_|refine LeH.boxw (by (fail_if_success (apply tkG));(repeat (first|exact Tk.here|apply Tk.there));first|done|fail) (by (repeat (first|exact Wk.refl _|exact Wk.nilr _|exact Wk.nilm|apply Wk.aggc|apply Wk.tupc|exact Wk.aggn|exact Wk.tupn));first|done|fail) ?_|refine LeH.skip ?_)),_,LN,rfl,rd2⟩
  ·rintro hh ⟨acc,lf',rfl,rd⟩
   rw[backL_len,←List.length_reverse] at rd
   have h1:=rd.e1
   have h2:=rd.e2
   rw[List.drop_length] at h1 h2
   rw[show (lpF t (oX up t) (oY up t) (handF t (ofS k) (oX up t) (oY up t) f) id pl [] lf').1=[] from rfl,List.append_nil] at h1
   rw[show (lpF t (oX up t) (oY up t) (handF t (ofS k) (oX up t) (oY up t) f) id pl [] lf').2=lf' from rfl] at h2
   rw[←h1,←h2]
   have hnk:id∉(m++acc).map (·.1):=fun hx=>by
    rw[List.map_append] at hx
    rcases List.mem_append.1 hx with hx|hx
    ·exact hm id hx .refl
    ·obtain⟨e,he,e1⟩:=List.mem_map.1 hx
     obtain⟨c,g1,a',l',g2⟩:=rd.mem e he
     have g3:=hand_anc (fun p c=>(Q.w.kid p c).1) f c a' l' e g2
     rw[e1] at g3
     exact Q.w.kid_above (List.mem_reverse.1 (List.mem_of_mem_take g1)) g3
   have hput:=putF_new (⟨oX up t id,oY up t id,lf'⟩:SW) hnk
   rw[←List.append_assoc]
   clear rd h1 h2 it hst
   generalize m++acc=M at *
   generalize hM2:M++[(id,(⟨oX up t id,oY up t id,lf'⟩:SW))]=M2 at *
   (repeat' (first|refine svF ⟨?_⟩|refine .b fun b=>?_|refine .u fun u=>?_|refine .d ?_ ?_|(refine .g fun hg=>?_;try exact svx)|refine sva ?_|refine sv3 ?_|fail))
   refine S.mapU (f:=vSW) (m:=M) (a:=⟨oX up t id,oY up t id,lf'⟩) ?_
   rw[hput]
   (repeat' first|refine svE ⟨?_⟩|refine .b fun b=>?_|refine .u fun u=>?_|refine .d ?_ ?_|(refine .g fun hg=>?_;try exact svx)|fail)
   exact fin_n (h':=mpV bm .u32 vSW M2::H) ⟨rfl,rfl⟩
def vwF (k:SVT) (up:UP) (t:PW):List (Int × SW):=handF t (ofS k) (oX up t) (oY up t) (up.length+1) 1 (areaB (bxF t 1)) (areaB (bxF t 1))
def orF (k:SVT) (up:UP) (t:PW):List Int:=(belF (ofS k) (up.length+1) 1).filter fun id=>(lkF (vwF k up t) id).isSome
def encV (k:SVT) (up:UP) (t:PW):AV:=.agg [.ro 1 (ints .u32 (orF k up t)),mapV .u32 vSW (vwF k up t)]
theorem vof_c (k:SVT) (up:UP) (t:PW) (Q:PWOk k up t) (h:Heap) (hbl:(belF (ofS k) (up.length+1) 1).length≤1000000):ACalls Tryz.prog 32 [encT k up,encP t] h (fun r h'=>r=encV k up t∧h'=h):=by
 obtain⟨rx,ry,hroot⟩:=Q.root
 have hbr:bxF t 1=rootB rx ry:=by unfold bxF;rw[hroot];rfl
 have ok1:=Q.ok 1 _ hroot
 have pb:=fun h=>pbox_c t 1 _ h hroot
 have pa:=fun h=>parea_c t 1 _ h hroot ok1
 have bl:=fun h=>below_c k up (rkF up) (fun p c hc=>Q.w.rank hc) (fun p=>by have:=Q.w.ofl p;have:=Q.ul;omega) (up.length+1) 1 h Q.has1 (by unfold rkF;omega) hbl
 have hc:=fun b3 b4 b5 b6 bm H m3 m4 m5 m6=>hand_c k up t Q b3 b4 b5 b6 bm (up.length+1) 1 (areaB (bxF t 1)) (areaB (bxF t 1)) [] H (by unfold rkF;omega) Q.has1 (by rw[hbr];exact ok1.area) (by rw[hbr];exact ok1.area) (fun x hx=>by cases hx) m3 m4 m5 m6
 simp only[List.nil_append,List.cons_append] at hc
 rw[←hbr] at pb pa
 unfold encV orF
 unfold vwF
 refine fz (g:=fun v=>.agg [v,mapV .u32 vSW (handF t (ofS k) (oX up t) (oY up t) (up.length+1) 1 (areaB (bxF t 1)) (areaB (bxF t 1)))]) (g':=fun v=>.agg [v,mapV .u32 vSW (handF t (ofS k) (oX up t) (oY up t) (up.length+1) 1 (areaB (bxF t 1)) (areaB (bxF t 1)))]) (k:=1) (e:=38) (fun v=>by (repeat' (first|exact Frz.hit|apply Frz.aggc|apply Frz.tupc|exact Frz.aggn|exact Frz.tupn|exact Frz.keep _))) ?_
 generalize handF t (ofS k) (oX up t) (oY up t) (up.length+1) 1 (areaB (bxF t 1)) (areaB (bxF t 1))=V at *
 generalize belF (ofS k) (up.length+1) 1=BL at *
 generalize areaB (bxF t 1)=A1 at *
 rw[hbr] at pb
 clear hbr hroot ok1
 unfold rootB vBox at pb
 unfold encT encP regE at *
 refine ACalls.intro Tryz.func32 rfl Tryz.ntmps32 Tryz.results32 (Nat.le_of_ble_eq_true rfl) ?_
 (repeat' first|refine svE ⟨?_⟩|refine .b fun b=>?_|refine .u fun u=>?_|refine .d ?_ ?_|(refine .g fun hg=>?_;try exact svx)|fail)
 rename_i b2 b3
 revert b;intro b4
 refine S.mkm0 vSW (fun bm=>?_)
 (repeat' first|refine svE ⟨?_⟩|refine .b fun b=>?_|refine .u fun u=>?_|refine .d ?_ ?_|(refine .g fun hg=>?_;try exact svx)|fail)
 rename_i b5
 revert b;intro b6
 refine S.call ?_;refine (pb _).mono ?_;rintro r h' ⟨rfl,hh⟩;subst hh
 (repeat' first|refine svE ⟨?_⟩|refine .b fun b=>?_|refine .u fun u=>?_|refine .d ?_ ?_|(refine .g fun hg=>?_;try exact svx)|fail)
 revert b;intro b7
 refine S.call ?_;refine (pa _).mono ?_;rintro r h' ⟨rfl,hh⟩;subst hh
 (repeat' first|refine svE ⟨?_⟩|refine .b fun b=>?_|refine .u fun u=>?_|refine .d ?_ ?_|(refine .g fun hg=>?_;try exact svx)|fail)
 revert b;intro b9
 refine Step.le (s':=⟨52,[(27,.agg [.ro 4 (A1.map RC.enc)]),(26,.agg [.ro 4 (A1.map RC.enc)]),(25,.clo (.func 68) [.val (.pointer (some ⟨b3,0,none⟩)),.val (.pointer (some ⟨b2,0,none⟩)),.val (.pointer (some ⟨b6,0,none⟩)),.val (.pointer (some ⟨b5,0,none⟩))]),(5,.val (.pointer (some ⟨b5,0,none⟩))),(4,.val (.pointer (some ⟨b4,0,none⟩))),(2,.val (.pointer (some ⟨b2,0,none⟩)))],mpV bm .u32 vSW ([]:List (Int × SW))::.box b6 [.clo (.func 68) [.val (.pointer (some ⟨b3,0,none⟩)),.val (.pointer (some ⟨b2,0,none⟩)),.val (.pointer (some ⟨b6,0,none⟩)),.val (.pointer (some ⟨b5,0,none⟩))]] 174::.box b5 [.val (.slice none 0 0),.val (.map (some bm))] 32::.box b4 [.val (.slice none 0 0),.val (.map none)] 32::.box b3 [mapV .u32 vBox t] 106::.box b2 [mapV .u32 vIds k,mapV .u32 (vI .u32) up] 28::h⟩) lee ?_
 refine S.callv (.clo 68 [.val (.pointer (some ⟨b3,0,none⟩)),.val (.pointer (some ⟨b2,0,none⟩)),.val (.pointer (some ⟨b6,0,none⟩)),.val (.pointer (some ⟨b5,0,none⟩))]) ((hc b3 b2 b6 b5 bm (.box b6 [.clo (.func 68) [.val (.pointer (some ⟨b3,0,none⟩)),.val (.pointer (some ⟨b2,0,none⟩)),.val (.pointer (some ⟨b6,0,none⟩)),.val (.pointer (some ⟨b5,0,none⟩))]] 174::.box b5 [.val (.slice none 0 0),.val (.map (some bm))] 32::.box b4 [.val (.slice none 0 0),.val (.map none)] 32::.box b3 [mapV .u32 vBox t] 106::.box b2 [mapV .u32 vIds k,mapV .u32 (vI .u32) up] 28::h) (by (fail_if_success (apply memG));repeat (first|exact List.Mem.head _|assumption|refine List.Mem.tail _ ?_)) (by (fail_if_success (apply memG));repeat (first|exact List.Mem.head _|assumption|refine List.Mem.tail _ ?_)) (by (fail_if_success (apply memG));repeat (first|exact List.Mem.head _|assumption|refine List.Mem.tail _ ?_)) (by (fail_if_success (apply memG));repeat (first|exact List.Mem.head _|assumption|refine List.Mem.tail _ ?_))).mono ?_)
 rintro r h' ⟨rfl,hh⟩
 subst hh
 (repeat' first|refine svE ⟨?_⟩|refine .b fun b=>?_|refine .u fun u=>?_|refine .d ?_ ?_|(refine .g fun hg=>?_;try exact svx)|fail)
 refine S.call ?_;refine (bl _).mono ?_;rintro r h' ⟨rfl,hh⟩;subst hh
 (repeat' first|refine svE ⟨?_⟩|refine .b fun b=>?_|refine .u fun u=>?_|refine .d ?_ ?_|(refine .g fun hg=>?_;try exact svx)|fail)
 refine W.frzm (b:=bm) (by (fail_if_success (apply tkG));(repeat (first|exact Tk.here|apply Tk.there));first|done|fail) (by repeat' (first|apply FzT.cons|exact FzT.rest _|exact Fz.hit|apply Fz.aggc|apply Fz.tupc|exact Fz.aggn|exact Fz.tupn|exact Fz.keep _)) (by repeat' (first|apply FzH.box|apply FzH.keep|exact FzH.rest _|exact Fz.hit|apply Fz.aggc|apply Fz.tupc|exact Fz.aggn|exact Fz.tupn|exact Fz.keep _)) ?_
 refine W.nil_ 1 38 ?_
 refine W.loop (J:=fun z:Nat × Value=>⟨52,[(32,.val (.int .i64 ((z.1:Nat)))),(31,.val (.int .i64 ((BL.length:Nat)))),(30,.ro 1 (ints .u32 (BL))),(5,.val (.pointer (some ⟨b5,0,none⟩))),(4,.val (.pointer (some ⟨b4,0,none⟩)))],.box b5 [.val z.2,mapV .u32 vSW V] 32::.own z.2 1 (ints .u32 ((BL.take z.1).filter fun id=>(lkF V id).isSome)) 38::.box b4 [.val (.slice none 0 0),.val (.map none)] 32::h⟩)
  (Φ:=fun z=>z.1≤BL.length) (μ:=fun z=>BL.length - z.1) (0,.slice none 0 0) lee (Nat.zero_le _) ?_
 rintro⟨i,v1⟩ hi
 dsimp only at hi ⊢
 rcases Nat.lt_or_ge i BL.length with hlt|hge
 ·obtain⟨a,ha⟩:∃a,BL[i]?=some a:=⟨_,List.getElem?_eq_getElem hlt⟩
  have hs:(BL.take (i+1)).filter (fun id=>(lkF V id).isSome)=(BL.take i).filter (fun id=>(lkF V id).isSome)++if (lkF V a).isSome then [a] else []:=by
   rw[List.take_add_one,ha,Option.toList_some,List.filter_append]
   simp[List.filter_cons]
  have hfl:=List.length_filter_le (fun id=>(lkF V id).isSome) (BL.take i)
  rw[List.length_take] at hfl
  generalize (BL.take i).filter (fun id=>(lkF V id).isSome)=F0 at *
  cases e:lkF V a with
  | none=>
   rw[e] at hs
   simp only[Option.isSome_none,Bool.false_eq_true,if_false,List.append_nil] at hs
   (repeat' first|refine svE ⟨?_⟩|refine .b fun b=>?_|refine .u fun u=>?_|refine .d ?_ ?_|(refine .g fun hg=>?_;try exact svx)|fail)
   rw[e]
   (repeat' first|refine svE ⟨?_⟩|refine .b fun b=>?_|refine .u fun u=>?_|refine .d ?_ ?_|(refine .g fun hg=>?_;try exact svx)|fail)
   exact⟨(i+1,v1),hlt,by dsimp only;rw[hs];exact lee,by dsimp only;omega⟩
  | some s=>
   rw[e] at hs
   simp only[Option.isSome_some,if_true] at hs
   (repeat' first|refine svE ⟨?_⟩|refine .b fun b=>?_|refine .u fun u=>?_|refine .d ?_ ?_|(refine .g fun hg=>?_;try exact svx)|fail)
   rw[e]
   obtain⟨sx,sy,sc⟩:=s
   (repeat' (first|(refine iR2 ?_;refine r2b ?_;refine R2.one ?_)|(refine iS ?_;refine iN ?_;refine S.build1r ?_)|(refine iS ?_;refine iMu ?_;refine S.mapU ?_)|refine svF ⟨?_⟩|refine .b fun b=>?_|refine .u fun u=>?_|refine .d ?_ ?_|(refine .g fun hg=>?_;try exact svx)|refine sva ?_|refine sv3 ?_|fail))
   exact⟨(i+1,u),hlt,by dsimp only;rw[hs,ints_append];exact lee,by dsimp only;omega⟩
 ·rw[List.take_of_length_le hge]
  generalize BL.filter (fun id=>(lkF V id).isSome)=OL at *
  (repeat' first|refine svE ⟨?_⟩|refine .b fun b=>?_|refine .u fun u=>?_|refine .d ?_ ?_|(refine .g fun hg=>?_;try exact svx)|fail)
  exact fin_r (h':=.own v1 1 (ints .u32 OL) 38::h) ⟨v1,rfl,rfl⟩
end Go.Proofs.YtbknacpdcdkjiaaGreat
