import Derived.Test.YtbknacpdcdkjiaaGreatZ3
import Derived.Test.YtbknacpdcdkjiaaGreatZ5
/- Plain: trees of windows with their places; what the view has. No condition. -/
namespace Go.Proofs.YtbknacpdcdkjiaaGreat
open Go Go.VM
set_option maxRecDepth 100000
set_option linter.unusedVariables false
set_option linter.unusedSimpArgs false
set_option linter.unusedSectionVars false
set_option maxHeartbeats 4000000
theorem sum_bd {t:PW} (hx:∀w b,lkF t w=some b→b.Ok):∀L,(-128 * (L.length:Int)≤sumX t L∧sumX t L≤128 * (L.length:Int))∧-128 * (L.length:Int)≤sumY t L∧sumY t L≤128 * (L.length:Int)
 | []=>by simp[sumX,sumY]
 | w::L=>by
  have ih:=sum_bd hx L
  have hb:(-128≤(bxF t w).x∧(bxF t w).x≤128)∧-128≤(bxF t w).y∧(bxF t w).y≤128:=by
   unfold bxF
   cases e:lkF t w with
   | none=>simp
   | some b=>have h1:=(hx w b e).x;have h2:=(hx w b e).y;simp;omega
  unfold sumX sumY
  rw[List.length_cons]
  split<;>omega
structure PWOk (k:SVT) (up:UP) (t:PW):Prop where
 w:TW k up
 bt:∀id,hasT up id=true→∃b,lkF t id=some b
 ok:∀id b,lkF t id=some b→b.Ok
 root:∃x y,lkF t 1=some (rootB x y)
 ul:up.length≤60
def oX (up:UP) (t:PW) (id:Int):Int:=sumX t (id::rP up id)
def oY (up:UP) (t:PW) (id:Int):Int:=sumY t (id::rP up id)
theorem path_in {up:UP} {id:Int} {R:List Int} (h:Pth up id R):∀w∈id::R,hasT up w=true:=by
 induction h with
 | root=>intro w hw;rw[List.mem_singleton.1 hw];unfold hasT;simp
 | @up id p R h1 h2 r ih=>
  intro w hw
  rcases List.mem_cons.1 hw with rfl|hw
  ·unfold hasT;rw[h2];rfl
  ·exact ih w hw
section
variable {k:SVT} {up:UP} {t:PW} (Q:PWOk k up t)
include Q
theorem PWOk.path {id:Int} (h:hasT up id=true):Pth up id (rP up id)∧(rP up id).length≤60:=by
 have:=Q.w.pthR h;have:=Q.ul
 exact⟨(Q.w.pthR h).1,by omega⟩
theorem PWOk.boxes {id:Int} (h:hasT up id=true):∀w∈id::rP up id,∃b,lkF t w=some b:=fun w hw=>Q.bt w (path_in (Q.path h).1 w hw)
theorem PWOk.o_bd {id:Int} (h:hasT up id=true):(-10000≤oX up t id∧oX up t id≤10000)∧-10000≤oY up t id∧oY up t id≤10000:=by
 have h1:=sum_bd Q.ok (id::rP up id)
 have h2:=(Q.path h).2
 rw[List.length_cons] at h1
 unfold oX oY
 omega
theorem PWOk.o_kid {p c:Int} {b:BW} (h:c∈ofS k p) (hb:lkF t c=some b):oX up t c=oX up t p+b.x∧oY up t c=oY up t p+b.y:=by
 have h1:=(Q.w.rP_kid h).1
 have h2:=Q.w.kid_ne1 h
 have h3:bxF t c=b:=by unfold bxF;rw[hb];rfl
 unfold oX oY
 rw[h1]
 rw[show sumX t (c::p::rP up p)=(if c=1 then 0 else (bxF t c).x)+sumX t (p::rP up p) from rfl,show sumY t (c::p::rP up p)=(if c=1 then 0 else (bxF t c).y)+sumY t (p::rP up p) from rfl,if_neg h2,if_neg h2,h3]
 omega
theorem PWOk.o_root:oX up t 1=0∧oY up t 1=0:=by
 have h1:=(Pth.root (up:=up)).eq_path Q.w.n1 up.length (Nat.zero_le _)
 unfold oX oY rP
 rw[h1]
 simp[sumX,sumY]
theorem PWOk.has1:hasT up 1=true:=by unfold hasT;simp
theorem PWOk.can_kid {p c:Int} {b:BW} (h:c∈ofS k p) (hb:lkF t c=some b):Zx 16 (shF (oX up t p+b.x) (oY up t p+b.y) (areaB b)):=by
 have h1:=Q.o_bd (Q.w.rP_kid h).2
 have ob:=Q.ok c b hb
 have h2:=ob.x
 have h3:=ob.y
 exact Zx.sh ob.area (by omega) (by omega) (by omega)
end
def rkF (up:UP) (id:Int):Nat:=up.length - (rP up id).length
section
variable {bx:PW} {K:Int→List Int} {ox oy:Int→Int} {up:UP}
theorem lp_mem {hd:Int→List RC→List RC→List (Int × SW)} {id:Int} {pl:List RC} {e:Int × SW}:∀{ks:List Int} {lf:List RC},e∈(lpF bx ox oy hd id pl ks lf).1→∃kid∈ks,∃b lf',lkF bx kid=some b∧e∈hd kid (kidA ox oy id b pl) (AndJ (kidA ox oy id b pl) lf')
 | [],lf,h=>by cases h
 | kid::ks,lf,h=>by
  unfold lpF at h
  cases hb:lkF bx kid with
  | none=>
   rw[hb] at h
   obtain⟨c,h1,h2⟩:=lp_mem h
   exact⟨c,List.mem_cons_of_mem _ h1,h2⟩
  | some b=>
   rw[hb] at h
   dsimp only at h
   split at h
   ·obtain⟨c,h1,h2⟩:=lp_mem h
    exact⟨c,List.mem_cons_of_mem _ h1,h2⟩
   ·rcases List.mem_append.1 h with h|h
    ·exact⟨kid,List.mem_cons_self ..,b,lf,hb,h⟩
    ·obtain⟨c,h1,h2⟩:=lp_mem h
     exact⟨c,List.mem_cons_of_mem _ h1,h2⟩
theorem hand_anc (hK:∀p c,c∈K p→lkF up c=some p):∀(f:Nat) (id:Int) (pl lf:List RC),∀e∈handF bx K ox oy f id pl lf,Anc up id e.1
 | 0,_,_,_,e,he=>by cases he
 | f+1,id,pl,lf,e,he=>by
  unfold handF at he
  rcases List.mem_append.1 he with he|he
  ·obtain⟨c,h1,b,lf',h2,h3⟩:=lp_mem he
   exact (Anc.step (hK id c (List.mem_reverse.1 h1)) .refl).trans (hand_anc hK f c _ _ e h3)
  ·rw[List.mem_singleton.1 he];exact .refl
theorem lp_nodup {hd:Int→List RC→List RC→List (Int × SW)} {id:Int} {pl:List RC} (h1:∀c a l,((hd c a l).map (·.1)).Nodup) (h2:∀c a l,∀e∈hd c a l,Anc up c e.1)
  (h3:∀a c x,a∈K id→c∈K id→Anc up a x→Anc up c x→a=c):∀(ks:List Int) (lf:List RC),(∀c∈ks,c∈K id)→ks.Nodup→((lpF bx ox oy hd id pl ks lf).1.map (·.1)).Nodup
 | [],lf,_,_=>by simp[lpF]
 | kid::ks,lf,hs,hn=>by
  rw[List.nodup_cons] at hn
  unfold lpF
  cases hb:lkF bx kid with
  | none=>exact lp_nodup h1 h2 h3 ks lf (fun c hc=>hs c (List.mem_cons_of_mem _ hc)) hn.2
  | some b=>
   dsimp only
   split
   ·exact lp_nodup h1 h2 h3 ks lf (fun c hc=>hs c (List.mem_cons_of_mem _ hc)) hn.2
   ·rw[List.map_append,List.nodup_append]
    refine⟨h1 _ _ _,lp_nodup h1 h2 h3 ks _ (fun c hc=>hs c (List.mem_cons_of_mem _ hc)) hn.2,fun x hx y hy e=>?_⟩
    subst e
    obtain⟨q,q1,rfl⟩:=List.mem_map.1 hx
    obtain⟨q',q1',q2'⟩:=List.mem_map.1 hy
    obtain⟨c,g1,b',lf',g2,g3⟩:=lp_mem q1'
    have:=h3 kid c q.1 (hs kid (List.mem_cons_self ..)) (hs c (List.mem_cons_of_mem _ g1)) (h2 _ _ _ q q1) (q2' ▸ h2 _ _ _ q' g3)
    exact hn.1 (this ▸ g1)
end
theorem hand_nodup {k:SVT} {up:UP} (w:TW k up) {bx:PW} {ox oy:Int→Int}:∀(f:Nat) (id:Int) (pl lf:List RC),((handF bx (ofS k) ox oy f id pl lf).map (·.1)).Nodup
 | 0,_,_,_=>by simp[handF]
 | f+1,id,pl,lf=>by
  unfold handF
  have hK:∀p c,c∈ofS k p→lkF up c=some p:=fun p c=>(w.kid p c).1
  rw[List.map_append,List.nodup_append]
  refine⟨lp_nodup (K:=ofS k) (up:=up) (hand_nodup w f) (hand_anc hK f) (fun a c x ha hc=>w.apart ha hc) _ lf (fun c hc=>List.mem_reverse.1 hc) (List.pairwise_reverse.2 ((w.kd id).imp fun h=>Ne.symm h)),by simp,fun x hx y hy e=>?_⟩
  subst e
  obtain⟨q,q1,rfl⟩:=List.mem_map.1 hx
  obtain⟨c,g1,b',lf',g2,g3⟩:=lp_mem q1
  have h1:=hand_anc hK f c _ _ q g3
  have h2:q.1=id:=by simpa using hy
  rw[h2] at h1
  exact w.kid_above (List.mem_reverse.1 g1) h1
end Go.Proofs.YtbknacpdcdkjiaaGreat


/- Trees: Kids, Below; Place at the top. No condition. -/
namespace Go.Proofs.YtbknacpdcdkjiaaGreat
open Go Go.VM
set_option maxRecDepth 100000
attribute [local irreducible] PurV Pur Step RL W D ACalls Then InBlock Fini
set_option linter.unusedVariables false
set_option linter.unusedSimpArgs false
set_option maxHeartbeats 20000000
instance tf_below1:TFun Tryz.prog 50:=⟨by kernel_rfl⟩
theorem kids_c (k:SVT) (up:UP) (id:Int) (h:Heap) (hl:(ofS k id).length≤1000000):ACalls Tryz.prog 70 [encT k up,.val (.int .u32 (id))] h (fun r h'=>r=.ro 1 (ints .u32 (ofS k id))∧h'=h):=by
 have cl:=fun h=>clnI_c (ofS k id) h (by omega)
 unfold encT
 refine ACalls.intro Tryz.func70 rfl Tryz.ntmps70 Tryz.results70 (Nat.le_of_ble_eq_true rfl) ?_
 (repeat' first|refine svE ⟨?_⟩|refine .b fun b=>?_|refine .u fun u=>?_|refine .d ?_ ?_|(refine .g fun hg=>?_;try exact svx)|fail)
 refine S.call ?_;refine (cl _).mono ?_;rintro r h' ⟨rfl,hh⟩;subst hh
 (repeat' first|refine svE ⟨?_⟩|refine .b fun b=>?_|refine .u fun u=>?_|refine .d ?_ ?_|(refine .g fun hg=>?_;try exact svx)|fail)
 exact fin_r (h':=_) ⟨rfl,rfl⟩
theorem flat_snoc {g:Int→List Int} {L:List Int} {i:Nat} {a:Int} (h:L[i]?=some a):(L.take (i+1)).flatMap g=(L.take i).flatMap g++g a:=by
 rw[List.take_add_one,h,Option.toList_some,List.flatMap_append];simp
theorem flat_le {g:Int→List Int} {L:List Int} {i:Nat}:((L.take i).flatMap g).length≤(L.flatMap g).length:=by
 have:L.flatMap g=(L.take i).flatMap g++(L.drop i).flatMap g:=by rw[←List.flatMap_append,List.take_append_drop]
 rw[this,List.length_append];omega
theorem below1_c (k:SVT) (up:UP) (rk:Int→Nat) (hrk:∀p c,c∈ofS k p→rk c<rk p) (hll:∀p,(ofS k p).length≤1000000) (b5 b2 b6:Nat) (H:Heap) (m2:OE.box b2 [mapV .u32 vIds k,mapV .u32 (vI .u32) up] 28∈H) (m6:OE.box b6 [.clo (.func 50) [.val (.pointer (some ⟨b5,0,none⟩)),.val (.pointer (some ⟨b2,0,none⟩)),.val (.pointer (some ⟨b6,0,none⟩))]] 156∈H) :
  ∀(f:Nat) (id:Int) (v:Value) (acc:List Int),rk id<f→acc.length+(belF (ofS k) f id).length≤1000000 →
   ACalls Tryz.prog 50 ([.val (.int .u32 (id))]++[.val (.pointer (some ⟨b5,0,none⟩)),.val (.pointer (some ⟨b2,0,none⟩)),.val (.pointer (some ⟨b6,0,none⟩))]) (.box b5 [.val v] 29::.own v 1 (ints .u32 acc) 38::H) (fun r h'=>∃v',r=.tup []∧h'=.box b5 [.val v'] 29::.own v' 1 (ints .u32 (acc++belF (ofS k) f id)) 38::H)
 | 0,_,_,_,h,_=>absurd h (Nat.not_lt_zero _)
 | f+1,id,v,acc,hr,hlen=>by
  have ih:=below1_c k up rk hrk hll b5 b2 b6 H m2 m6 f
  have hk:∀c∈ofS k id,rk c<f:=fun c hc=>by have:=hrk id c hc;omega
  clear hr
  unfold belF at hlen ⊢
  simp only[List.cons_append,List.nil_append] at ih ⊢
  rw[List.length_cons] at hlen
  rw[show acc++id::(ofS k id).flatMap (belF (ofS k) f)=(acc++[id])++(ofS k id).flatMap (belF (ofS k) f) by simp]
  generalize belF (ofS k) f=g at *
  have hLL:(lkF k id).getD []=ofS k id:=rfl
  have hll:=hll id
  refine ACalls.intro Tryz.func50 rfl Tryz.ntmps50 Tryz.results50 (Nat.le_of_ble_eq_true rfl) ?_
  (repeat' (first|(refine iR2 ?_;refine r2b ?_;refine R2.one ?_)|(refine iS ?_;refine iN ?_;refine S.build1r ?_)|(refine iS ?_;refine iMu ?_;refine S.mapU ?_)|refine svF ⟨?_⟩|refine .b fun b=>?_|refine .u fun u=>?_|refine .d ?_ ?_|(refine .g fun hg=>?_;try exact svx)|refine sva ?_|refine sv3 ?_|fail))
  rw[hLL]
  generalize ofS k id=L at *
  refine W.loop (J:=fun z:Nat × Value=>⟨24,[(16,.val (.int .i64 ((z.1:Nat)))),(15,.val (.int .i64 ((L.length:Nat)))),(14,.ro 1 (ints .u32 (L))),(1,.val (.pointer (some ⟨b5,0,none⟩))),(2,.val (.pointer (some ⟨b2,0,none⟩))),(3,.val (.pointer (some ⟨b6,0,none⟩)))],.box b5 [.val z.2] 29::.own z.2 1 (ints .u32 (acc++[id]++(L.take z.1).flatMap g)) 38::H⟩)
   (Φ:=fun z=>z.1≤L.length) (μ:=fun z=>L.length - z.1) (0,u) (by simp only[List.take_zero,List.flatMap_nil,List.append_nil,ints_append];exact lee) (Nat.zero_le _) ?_
  rintro⟨i,v1⟩ hi
  dsimp only at hi ⊢
  rcases Nat.lt_or_ge i L.length with hlt|hge
  ·obtain⟨a,ha⟩:∃a,L[i]?=some a:=⟨_,List.getElem?_eq_getElem hlt⟩
   have hs:=flat_snoc (g:=g) ha
   have hle:=flat_le (g:=g) (L:=L) (i:=i+1)
   have c1:=ih a v1 (acc++[id]++(L.take i).flatMap g) (hk a (List.mem_of_getElem? ha)) (by rw[hs] at hle;simp only[List.length_append,List.length_cons,List.length_nil] at hle ⊢;omega)
   rw[List.append_assoc (acc++[id]),←hs] at c1
   (repeat' first|refine svE ⟨?_⟩|refine .b fun b=>?_|refine .u fun u=>?_|refine .d ?_ ?_|(refine .g fun hg=>?_;try exact svx)|fail)
   refine S.callv (.clo 50 [.val (.pointer (some ⟨b5,0,none⟩)),.val (.pointer (some ⟨b2,0,none⟩)),.val (.pointer (some ⟨b6,0,none⟩))]) (c1.mono ?_)
   rintro r h' ⟨v2,rfl,hh⟩
   subst hh
   (repeat' first|refine svE ⟨?_⟩|refine .b fun b=>?_|refine .u fun u=>?_|refine .d ?_ ?_|(refine .g fun hg=>?_;try exact svx)|fail)
   exact⟨(i+1,v2),hlt,lee,by dsimp only;omega⟩
  ·rw[List.take_of_length_le hge]
   (repeat' first|refine svE ⟨?_⟩|refine .b fun b=>?_|refine .u fun u=>?_|refine .d ?_ ?_|(refine .g fun hg=>?_;try exact svx)|fail)
   exact fin_n (h':=.box b5 [.val v1] 29::.own v1 1 (ints .u32 (acc++[id]++L.flatMap g)) 38::H) ⟨v1,rfl,rfl⟩
theorem below_c (k:SVT) (up:UP) (rk:Int→Nat) (hrk:∀p c,c∈ofS k p→rk c<rk p) (hll:∀p,(ofS k p).length≤1000000) (f:Nat) (id:Int) (h:Heap) (hid:hasT up id=true) (hf:rk id<f) (hl:(belF (ofS k) f id).length≤1000000) :
  ACalls Tryz.prog 19 [encT k up,.val (.int .u32 (id))] h (fun r h'=>r=.ro 1 (ints .u32 (belF (ofS k) f id))∧h'=h):=by
 have th:=fun h=>thas_c k up id h
 rw[hid] at th
 have b1:=fun b5 b2 b6 H m2 m6 v=>below1_c k up rk hrk hll b5 b2 b6 H m2 m6 f id v [] hf (by simpa using hl)
 simp only[List.nil_append,List.cons_append] at b1
 generalize belF (ofS k) f id=L at *
 refine fz (g:=fun v=>v) (g':=fun v=>v) (k:=1) (e:=38) (l:=ints .u32 L) (fun v=>by (repeat' (first|exact Frz.hit|apply Frz.aggc|apply Frz.tupc|exact Frz.aggn|exact Frz.tupn|exact Frz.keep _))) ?_
 unfold encT at *
 refine ACalls.intro Tryz.func19 rfl Tryz.ntmps19 Tryz.results19 (Nat.le_of_ble_eq_true rfl) ?_
 (repeat' first|refine svE ⟨?_⟩|refine .b fun b=>?_|refine .u fun u=>?_|refine .d ?_ ?_|(refine .g fun hg=>?_;try exact svx)|fail)
 refine S.call ?_;refine (th _).mono ?_;rintro r h' ⟨rfl,hh⟩;subst hh
 refine RL.nil_ 1 38 ?_
 (repeat' first|refine svE ⟨?_⟩|refine .b fun b=>?_|refine .u fun u=>?_|refine .d ?_ ?_|(refine .g fun hg=>?_;try exact svx)|fail)
 rename_i b2 b5
 revert b;intro b6
 refine Step.le (s':=⟨16,[(13,.val (.int .u32 (id))),(12,.clo (.func 50) [.val (.pointer (some ⟨b5,0,none⟩)),.val (.pointer (some ⟨b2,0,none⟩)),.val (.pointer (some ⟨b6,0,none⟩))]),(5,.val (.pointer (some ⟨b5,0,none⟩)))],.box b5 [.val (.slice none 0 0)] 29::.own (.slice none 0 0) 1 (ints .u32 []) 38::.box b6 [.clo (.func 50) [.val (.pointer (some ⟨b5,0,none⟩)),.val (.pointer (some ⟨b2,0,none⟩)),.val (.pointer (some ⟨b6,0,none⟩))]] 156::.box b2 [mapV .u32 vIds k,mapV .u32 (vI .u32) up] 28::h⟩) lee ?_
 refine S.callv (.clo 50 [.val (.pointer (some ⟨b5,0,none⟩)),.val (.pointer (some ⟨b2,0,none⟩)),.val (.pointer (some ⟨b6,0,none⟩))]) ((b1 b5 b2 b6 (.box b6 [.clo (.func 50) [.val (.pointer (some ⟨b5,0,none⟩)),.val (.pointer (some ⟨b2,0,none⟩)),.val (.pointer (some ⟨b6,0,none⟩))]] 156::.box b2 [mapV .u32 vIds k,mapV .u32 (vI .u32) up] 28::h) (by (fail_if_success (apply memG));repeat (first|exact List.Mem.head _|assumption|refine List.Mem.tail _ ?_)) (by (fail_if_success (apply memG));repeat (first|exact List.Mem.head _|assumption|refine List.Mem.tail _ ?_)) _).mono ?_)
 rintro r h' ⟨v2,rfl,hh⟩
 subst hh
 (repeat' first|refine svE ⟨?_⟩|refine .b fun b=>?_|refine .u fun u=>?_|refine .d ?_ ?_|(refine .g fun hg=>?_;try exact svx)|fail)
 exact fin_r (h':=.own v2 1 (ints .u32 L) 38::h) ⟨v2,rfl,rfl⟩
end Go.Proofs.YtbknacpdcdkjiaaGreat
