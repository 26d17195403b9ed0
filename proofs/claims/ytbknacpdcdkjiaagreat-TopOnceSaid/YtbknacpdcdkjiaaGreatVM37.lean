import Derived.Test.YtbknacpdcdkjiaaGreatZ11
import Derived.Test.YtbknacpdcdkjiaaGreatZ5
/- Views: Visible, Clip, Origin, Windows; expose.One. No condition. -/
namespace Go.Proofs.YtbknacpdcdkjiaaGreat
open Go Go.VM
set_option maxRecDepth 100000
attribute [local irreducible] PurV Pur Step RL W D ACalls Then InBlock Fini
set_option linter.unusedVariables false
set_option linter.unusedSimpArgs false
set_option maxHeartbeats 20000000
def encW (o:List Int) (V:List (Int × SW)):AV:=.agg [.ro 1 (ints .u32 (o)),mapV .u32 vSW V]
def clF (V:List (Int × SW)) (id:Int):List RC:=match lkF V id with|none=>[]|some s=>s.clip
def VOk (V:List (Int × SW)):Prop:=∀id s,lkF V id=some s→Bx 0 16 s.clip∧(-100000≤s.x∧s.x≤100000)∧-100000≤s.y∧s.y≤100000
theorem vclip_c (o:List Int) (V:List (Int × SW)) (id:Int) (h:Heap):ACalls Tryz.prog 168 [encW o V,.val (.int .u32 (id))] h (fun r h'=>r=regE (clF V id)∧h'=h):=by
 unfold clF
 cases e:lkF V id with
 | none=>
  refine ACalls.wk (Q:=fun v h'=>v=.agg [.val (.slice none 0 0)]∧h'=h) ?_ ?_
  ·unfold encW
   refine ACalls.intro Tryz.func168 rfl Tryz.ntmps168 Tryz.results168 (Nat.le_of_ble_eq_true rfl) ?_
   (repeat' first|refine svE ⟨?_⟩|refine .b fun b=>?_|refine .u fun u=>?_|refine .d ?_ ?_|(refine .g fun hg=>?_;try exact svx)|fail)
   rw[show lkV vSW (.agg [.val (.int .i64 (0)),.val (.int .i64 (0)),.val (.slice none 0 0)]) (lkF V id)=(.agg [.val (.int .i64 (0)),.val (.int .i64 (0)),.val (.slice none 0 0)]) by rw[e];rfl]
   (repeat' first|refine svE ⟨?_⟩|refine .b fun b=>?_|refine .u fun u=>?_|refine .d ?_ ?_|(refine .g fun hg=>?_;try exact svx)|fail)
   exact fin_r (h':=h) ⟨rfl,rfl⟩
  ·rintro v h' ⟨rfl,rfl⟩
   exact⟨_,(by (repeat (first|exact Wk.refl _|exact Wk.nilr _|exact Wk.nilm|apply Wk.aggc|apply Wk.tupc|exact Wk.aggn|exact Wk.tupn));first|done|fail),rfl,rfl⟩
 | some s=>
  dsimp only
  unfold encW regE at *
  refine ACalls.intro Tryz.func168 rfl Tryz.ntmps168 Tryz.results168 (Nat.le_of_ble_eq_true rfl) ?_
  (repeat' first|refine svE ⟨?_⟩|refine .b fun b=>?_|refine .u fun u=>?_|refine .d ?_ ?_|(refine .g fun hg=>?_;try exact svx)|fail)
  rw[show lkV vSW (.agg [.val (.int .i64 (0)),.val (.int .i64 (0)),.val (.slice none 0 0)]) (lkF V id)=vSW s by rw[e];rfl]
  unfold vSW
  (repeat' first|refine svE ⟨?_⟩|refine .b fun b=>?_|refine .u fun u=>?_|refine .d ?_ ?_|(refine .g fun hg=>?_;try exact svx)|fail)
  exact fin_r (h':=h) ⟨rfl,rfl⟩
theorem vorig_c (o:List Int) (V:List (Int × SW)) (id:Int) (s:SW) (h:Heap) (e:lkF V id=some s):ACalls Tryz.prog 88 [encW o V,.val (.int .u32 (id))] h (fun r h'=>r=.tup [.agg [.val (.int .i64 (s.x)),.val (.int .i64 (s.y))],.val (.bool (true))]∧h'=h):=by
 unfold encW
 refine ACalls.intro Tryz.func88 rfl Tryz.ntmps88 Tryz.results88 (Nat.le_of_ble_eq_true rfl) ?_
 (repeat' first|refine svE ⟨?_⟩|refine .b fun b=>?_|refine .u fun u=>?_|refine .d ?_ ?_|(refine .g fun hg=>?_;try exact svx)|fail)
 rw[show lkV vSW (.agg [.val (.int .i64 (0)),.val (.int .i64 (0)),.val (.slice none 0 0)]) (lkF V id)=vSW s by rw[e];rfl,e]
 unfold vSW
 (repeat' first|refine svE ⟨?_⟩|refine .b fun b=>?_|refine .u fun u=>?_|refine .d ?_ ?_|(refine .g fun hg=>?_;try exact svx)|fail)
 exact fin_r (h':=h) ⟨rfl,rfl⟩
theorem vwin_c (o:List Int) (V:List (Int × SW)) (h:Heap) (hl:o.length≤1000000):ACalls Tryz.prog 167 [encW o V] h (fun r h'=>r=.ro 1 (ints .u32 (o))∧h'=h):=by
 have cl:=fun h=>clnI_c o h (by omega)
 unfold encW
 refine ACalls.intro Tryz.func167 rfl Tryz.ntmps167 Tryz.results167 (Nat.le_of_ble_eq_true rfl) ?_
 (repeat' first|refine svE ⟨?_⟩|refine .b fun b=>?_|refine .u fun u=>?_|refine .d ?_ ?_|(refine .g fun hg=>?_;try exact svx)|fail)
 refine S.call ?_;refine (cl _).mono ?_;rintro r h' ⟨rfl,hh⟩;subst hh
 (repeat' first|refine svE ⟨?_⟩|refine .b fun b=>?_|refine .u fun u=>?_|refine .d ?_ ?_|(refine .g fun hg=>?_;try exact svx)|fail)
 exact fin_r (h':=h) ⟨rfl,rfl⟩
structure CH where
 (id:Int) (kept nw:List RC)
def CH.enc (c:CH):AV:=.agg [.val (.int .u32 (c.id)),.ro 4 (c.kept.map RC.enc),.ro 4 (c.nw.map RC.enc)]
end Go.Proofs.YtbknacpdcdkjiaaGreat
/- Paths, a key's way, the window at a place. No condition. -/
namespace Go.Proofs.YtbknacpdcdkjiaaGreat
open Go Go.VM
set_option maxRecDepth 100000
attribute [local irreducible] PurV Pur Step RL W D ACalls Then InBlock Fini
set_option linter.unusedVariables false
set_option linter.unusedSimpArgs false
set_option maxHeartbeats 20000000
def pathA (up:UP) (id:Int):List Int:=if hasT up id then id::rP up id else []
theorem path_no (k:SVT) (up:UP) (id:Int) (h:Heap) (hp:hasT up id=false):ACalls Tryz.prog 15 [encT k up,.val (.int .u32 (id))] h (fun r h'=>r=.ro 1 (ints .u32 ([]))∧h'=h):=by
 have th:=fun h=>thas_c k up id h
 rw[hp] at th
 refine ACalls.wk (Q:=fun r h'=>r=.val (.slice none 0 0)∧h'=h) ?_ (by rintro r h' ⟨rfl,rfl⟩;exact⟨_,.nilr 1,rfl,rfl⟩)
 unfold encT at *
 refine ACalls.intro Tryz.func15 rfl Tryz.ntmps15 Tryz.results15 (Nat.le_of_ble_eq_true rfl) ?_
 (repeat' first|refine svE ⟨?_⟩|refine .b fun b=>?_|refine .u fun u=>?_|refine .d ?_ ?_|(refine .g fun hg=>?_;try exact svx)|fail)
 refine S.call ?_;refine (th _).mono ?_;rintro r h' ⟨rfl,hh⟩;subst hh
 (repeat' first|refine svE ⟨?_⟩|refine .b fun b=>?_|refine .u fun u=>?_|refine .d ?_ ?_|(refine .g fun hg=>?_;try exact svx)|fail)
 refine fin_r (h':=h) (Q:=fun r h'=>r=_∧h'=h) ?_;exact⟨rfl,rfl⟩
theorem path_all {k:SVT} {up:UP} (w:TW k up) (hl:up.length≤1000000) (id:Int) (h:Heap):ACalls Tryz.prog 15 [encT k up,.val (.int .u32 (id))] h (fun r h'=>r=.ro 1 (ints .u32 (pathA up id))∧h'=h):=by
 unfold pathA
 cases e:hasT up id with
 | true=>obtain⟨q1,q2⟩:=w.pthR e;exact path_c k up id _ h q1 (by omega)
 | false=>exact path_no k up id h e
theorem pathA_len {k:SVT} {up:UP} (w:TW k up) (id:Int):(pathA up id).length≤up.length+1:=by
 unfold pathA
 split
 ·next e=>have:=(w.pthR e).2;rw[List.length_cons];omega
 ·simp
def idxN (x:Int):List Int→Option Nat
 | []=>none
 | a::l=>if a=x then some 0 else (idxN x l).map (·+1)
theorem idxN_at {x:Int}:∀{l:List Int} {i:Nat},x∉l.take i→l[i]?=some x→idxN x l=some i
 | [],i,_,h=>by simp at h
 | a::l,0,_,h=>by
  have:a=x:=by simpa using h
  unfold idxN;rw[if_pos this]
 | a::l,i+1,hn,h=>by
  rw[List.take_succ_cons,List.mem_cons] at hn
  unfold idxN
  rw[if_neg (fun e=>hn (.inl e.symm)),idxN_at (fun q=>hn (.inr q)) (by simpa using h)];rfl
theorem idxN_none {x:Int}:∀{l:List Int},x∉l→idxN x l=none
 | [],_=>rfl
 | a::l,hn=>by
  rw[List.mem_cons] at hn
  unfold idxN
  rw[if_neg (fun e=>hn (.inl e.symm)),idxN_none (fun q=>hn (.inr q))];rfl
theorem idxN_lt {x:Int}:∀{l:List Int} {i:Nat},idxN x l=some i→l[i]?=some x
 | [],i,h=>by cases h
 | a::l,i,h=>by
  unfold idxN at h
  split at h
  ·next e=>injection h with h;subst h;rw[e];rfl
  ·cases q:idxN x l with
   | none=>rw[q] at h;cases h
   | some j=>rw[q] at h;injection h with h;subst h;rw[List.getElem?_cons_succ];exact idxN_lt q
def idxI (x:Int) (l:List Int):Int:=match idxN x l with
 | some i=>(i:Int)
 | none=>-1
theorem idx_c (l:List Int) (x:Int) (h:Heap):ACalls Tryz.prog 34 [.ro 1 (ints .u32 (l)),.val (.int .u32 (x))] h (fun r h'=>r=.val (.int .i64 (idxI x l))∧h'=h):=by
 refine ACalls.intro Tryz.func34 rfl Tryz.ntmps34 Tryz.results34 (Nat.le_of_ble_eq_true rfl) ?_
 refine W.len 0 rfl (fun hl=>?_);simp only[ints,splice,List.length_map,List.length_append,List.length_cons,List.length_nil,List.length_take,List.length_drop,List.length_set,List.length_replicate] at hl
 (repeat' first|refine svE ⟨?_⟩|refine .b fun b=>?_|refine .u fun u=>?_|refine .d ?_ ?_|(refine .g fun hg=>?_;try exact svx)|fail)
 refine W.loop (J:=fun i:Nat=>⟨19,[(8,.val (.int .i64 ((i:Nat)))),(7,.val (.int .i64 ((l.length:Nat)))),(0,.ro 1 (ints .u32 (l))),(1,.val (.int .u32 (x))),(4,.val (.int .i64 (0)))],h⟩)
  (Φ:=fun i=>i≤l.length∧x∉l.take i) (μ:=fun i=>l.length - i) 0 lee ⟨Nat.zero_le _,by simp⟩ ?_
 rintro i ⟨hi,hn⟩
 rcases Nat.lt_or_ge i l.length with hlt|hge
 ·obtain⟨a,ha⟩:∃a,l[i]?=some a:=⟨_,List.getElem?_eq_getElem hlt⟩
  by_cases hx:x=a
  ·have e:idxI x l=(i:Int):=by unfold idxI;rw[idxN_at hn (by rw[hx];exact ha)]
   rw[e]
   (repeat' first|refine svE ⟨?_⟩|refine .b fun b=>?_|refine .u fun u=>?_|refine .d ?_ ?_|(refine .g fun hg=>?_;try exact svx)|fail)
   exact fin_r (h':=h) ⟨rfl,rfl⟩
  ·(repeat' first|refine svE ⟨?_⟩|refine .b fun b=>?_|refine .u fun u=>?_|refine .d ?_ ?_|(refine .g fun hg=>?_;try exact svx)|fail)
   refine⟨i+1,⟨hlt,?_⟩,lee,by omega⟩
   rw[List.take_add_one,ha]
   intro hm
   rcases List.mem_append.1 hm with q|q
   ·exact hn q
   ·exact hx (by simpa using q)
 ·rw[List.take_of_length_le hge] at hn
  have e:idxI x l=-1:=by unfold idxI;rw[idxN_none hn]
  rw[e]
  (repeat' first|refine svE ⟨?_⟩|refine .b fun b=>?_|refine .u fun u=>?_|refine .d ?_ ?_|(refine .g fun hg=>?_;try exact svx)|fail)
  exact fin_r (h':=h) ⟨rfl,rfl⟩
def wayF (up:UP) (fw un:Int):List Int:=if fw=0 then [] else if hasT up fw=false then [] else match idxN fw (pathA up un) with
 | some i=>(pathA up un).take (i+1)
 | none=>[fw]
def encF (fw fr ft:Int):AV:=.agg [.val (.int .u32 (fw)),.val (.int .i64 (fr)),.val (.int .u32 (ft))]
theorem way_c {k:SVT} {up:UP} (w:TW k up) (hl:up.length≤1000000) (fw fr ft un:Int) (h:Heap):ACalls Tryz.prog 10 [encF fw fr ft,encT k up,.val (.int .u32 (un))] h (fun r h'=>r=.ro 1 (ints .u32 (wayF up fw un))∧h'=h):=by
 have th:=fun h=>thas_c k up fw h
 have pc:=fun h=>path_all w hl un h
 have ic:=fun h=>idx_c (pathA up un) fw h
 have cl:=fun (l:List Int) (hl:l.length≤1000002) h=>clnI_c l h (by omega)
 have hpl:=pathA_len w un
 unfold wayF encF idxI at *
 generalize pathA up un=L at *
 by_cases h0:fw=0
 ·rw[if_pos h0]
  refine ACalls.wk (Q:=fun r h'=>r=.val (.slice none 0 0)∧h'=h) ?_ (by rintro r h' ⟨rfl,rfl⟩;exact⟨_,.nilr 1,rfl,rfl⟩)
  unfold encT at *
  refine ACalls.intro Tryz.func10 rfl Tryz.ntmps10 Tryz.results10 (Nat.le_of_ble_eq_true rfl) ?_
  (repeat' first|refine svE ⟨?_⟩|refine .b fun b=>?_|refine .u fun u=>?_|refine .d ?_ ?_|(refine .g fun hg=>?_;try exact svx)|fail)
  refine fin_r (h':=h) (Q:=fun r h'=>r=_∧h'=h) ?_;exact⟨rfl,rfl⟩
 rw[if_neg h0]
 cases hh:hasT up fw with
 | false=>
  rw[if_pos rfl]
  rw[hh] at th
  refine ACalls.wk (Q:=fun r h'=>r=.val (.slice none 0 0)∧h'=h) ?_ (by rintro r h' ⟨rfl,rfl⟩;exact⟨_,.nilr 1,rfl,rfl⟩)
  unfold encT at *
  refine ACalls.intro Tryz.func10 rfl Tryz.ntmps10 Tryz.results10 (Nat.le_of_ble_eq_true rfl) ?_
  (repeat' first|refine svE ⟨?_⟩|refine .b fun b=>?_|refine .u fun u=>?_|refine .d ?_ ?_|(refine .g fun hg=>?_;try exact svx)|fail)
  refine S.call ?_;refine (th _).mono ?_;rintro r h' ⟨rfl,hh⟩;subst hh
  (repeat' first|refine svE ⟨?_⟩|refine .b fun b=>?_|refine .u fun u=>?_|refine .d ?_ ?_|(refine .g fun hg=>?_;try exact svx)|fail)
  refine fin_r (h':=h) (Q:=fun r h'=>r=_∧h'=h) ?_;exact⟨rfl,rfl⟩
 | true=>
  rw[if_neg (by simp)]
  rw[hh] at th
  cases hi:idxN fw L with
  | none=>
   rw[hi] at ic
   dsimp only at ic ⊢
   unfold encT at *
   refine ACalls.intro Tryz.func10 rfl Tryz.ntmps10 Tryz.results10 (Nat.le_of_ble_eq_true rfl) ?_
   (repeat' first|refine svE ⟨?_⟩|refine .b fun b=>?_|refine .u fun u=>?_|refine .d ?_ ?_|(refine .g fun hg=>?_;try exact svx)|fail)
   refine S.call ?_;refine (th _).mono ?_;rintro r h' ⟨rfl,hh⟩;subst hh
   (repeat' first|refine svE ⟨?_⟩|refine .b fun b=>?_|refine .u fun u=>?_|refine .d ?_ ?_|(refine .g fun hg=>?_;try exact svx)|fail)
   refine S.call ?_;refine (pc _).mono ?_;rintro r h' ⟨rfl,hh⟩;subst hh
   (repeat' first|refine svE ⟨?_⟩|refine .b fun b=>?_|refine .u fun u=>?_|refine .d ?_ ?_|(refine .g fun hg=>?_;try exact svx)|fail)
   refine S.call ?_;refine (ic _).mono ?_;rintro r h' ⟨rfl,hh⟩;subst hh
   (repeat' (first|(refine iR2 ?_;refine r2b ?_;refine R2.one ?_)|(refine iS ?_;refine iN ?_;refine S.build1r ?_)|(refine iS ?_;refine iMu ?_;refine S.mapU ?_)|refine svF ⟨?_⟩|refine .b fun b=>?_|refine .u fun u=>?_|refine .d ?_ ?_|(refine .g fun hg=>?_;try exact svx)|refine sva ?_|refine sv3 ?_|fail))
   refine fin_r (h':=h) (Q:=fun r h'=>r=_∧h'=h) ?_;exact⟨rfl,rfl⟩
  | some i=>
   rw[hi] at ic
   dsimp only at ic ⊢
   have hlt:i<L.length:=(List.getElem?_eq_some_iff.1 (idxN_lt hi)).1
   have cl2:=cl (L.take (i+1)) (by rw[List.length_take];omega)
   have e2:ints .u32 (L.take (i+1))=List.take (i+1 - 0) (List.drop 0 (ints .u32 L)):=by simp[ints,List.map_take]
   rw[e2] at cl2 ⊢
   unfold encT at *
   refine ACalls.intro Tryz.func10 rfl Tryz.ntmps10 Tryz.results10 (Nat.le_of_ble_eq_true rfl) ?_
   (repeat' first|refine svE ⟨?_⟩|refine .b fun b=>?_|refine .u fun u=>?_|refine .d ?_ ?_|(refine .g fun hg=>?_;try exact svx)|fail)
   refine S.call ?_;refine (th _).mono ?_;rintro r h' ⟨rfl,hh⟩;subst hh
   (repeat' first|refine svE ⟨?_⟩|refine .b fun b=>?_|refine .u fun u=>?_|refine .d ?_ ?_|(refine .g fun hg=>?_;try exact svx)|fail)
   refine S.call ?_;refine (pc _).mono ?_;rintro r h' ⟨rfl,hh⟩;subst hh
   (repeat' first|refine svE ⟨?_⟩|refine .b fun b=>?_|refine .u fun u=>?_|refine .d ?_ ?_|(refine .g fun hg=>?_;try exact svx)|fail)
   refine S.call ?_;refine (ic _).mono ?_;rintro r h' ⟨rfl,hh⟩;subst hh
   (repeat' first|refine svE ⟨?_⟩|refine .b fun b=>?_|refine .u fun u=>?_|refine .d ?_ ?_|(refine .g fun hg=>?_;try exact svx)|fail)
   refine S.call ?_;refine (cl2 _).mono ?_;rintro r h' ⟨rfl,hh⟩;subst hh
   (repeat' first|refine svE ⟨?_⟩|refine .b fun b=>?_|refine .u fun u=>?_|refine .d ?_ ?_|(refine .g fun hg=>?_;try exact svx)|fail)
   refine fin_r (h':=h) (Q:=fun r h'=>r=_∧h'=h) ?_;exact⟨rfl,rfl⟩
def atF (o:List Int) (V:List (Int × SW)) (x y:Int):Option Int:=o.find? fun id=>hasR (clF V id) x y
def atV:Option Int→AV
 | some i=>.tup [.val (.int .u32 (i)),.val (.bool (true))]
 | none=>.tup [.val (.int .u32 (0)),.val (.bool (false))]
theorem VOk.clp {V:List (Int × SW)} (ok:VOk V) (id:Int):(clF V id).length≤1000000000000∧(∀r∈clF V id,r.cnt)∧(clF V id).Pairwise fun a b=>a.y≤b.y:=by
 unfold clF
 cases e:lkF V id with
 | none=>exact⟨by simp,by simp,by simp⟩
 | some s=>
  have ba:=(ok id s e).1
  exact⟨by have:=ba.len;dsimp only;omega,ba.can.cnt,ba.can.y⟩
theorem vat_c (o:List Int) (V:List (Int × SW)) (x y:Int) (h:Heap) (ok:VOk V) (ho:o.length≤1000000):ACalls Tryz.prog 17 [encW o V,.val (.int .i64 (x)),.val (.int .i64 (y))] h (fun r h'=>r=atV (atF o V x y)∧h'=h):=by
 have bh:=fun id h=>bhas_c (clF V id) x y h (VOk.clp ok id).1 (VOk.clp ok id).2.1 (VOk.clp ok id).2.2
 unfold encW
 refine ACalls.intro Tryz.func17 rfl Tryz.ntmps17 Tryz.results17 (Nat.le_of_ble_eq_true rfl) ?_
 (repeat' first|refine svE ⟨?_⟩|refine .b fun b=>?_|refine .u fun u=>?_|refine .d ?_ ?_|(refine .g fun hg=>?_;try exact svx)|fail)
 refine W.loop (J:=fun i:Nat=>⟨27,[(13,.val (.int .i64 ((i:Nat)))),(12,.val (.int .i64 ((o.length:Nat)))),(11,.ro 1 (ints .u32 (o))),(1,.val (.int .i64 (x))),(2,.val (.int .i64 (y))),(3,.val (.pointer (some ⟨b,0,none⟩)))],.box b (AV.agg [.ro 1 (ints .u32 (o)),mapV .u32 vSW V]).cells 32::h⟩)
  (Φ:=fun i=>i≤o.length∧atF o V x y=atF (o.drop i) V x y) (μ:=fun i=>o.length - i) 0 lee ⟨Nat.zero_le _,rfl⟩ ?_
 rintro i ⟨hi,hn⟩
 rcases Nat.lt_or_ge i o.length with hlt|hge
 ·obtain⟨a,ha⟩:∃a,o[i]?=some a:=⟨_,List.getElem?_eq_getElem hlt⟩
  have hd:o.drop i=a::o.drop (i+1):=by
   rw[List.drop_eq_getElem_cons hlt];congr 1;rw[List.getElem?_eq_getElem hlt] at ha;injection ha
  have bha:=bh a
  have hst:atF (o.drop i) V x y=if hasR (clF V a) x y=true then some a else atF (o.drop (i+1)) V x y:=by
   rw[hd];unfold atF;rw[List.find?_cons];cases hasR (clF V a) x y<;>rfl
  rw[hn,hst]
  clear hst
  (repeat' first|refine svE ⟨?_⟩|refine .b fun b=>?_|refine .u fun u=>?_|refine .d ?_ ?_|(refine .g fun hg=>?_;try exact svx)|fail)
  cases e:lkF V a with
  | none=>
   have ec:clF V a=[]:=by unfold clF;rw[e]
   rw[ec] at bha ⊢
   have bh0:=fun h=>(bha h).args (vs:=[.agg [.val (.slice none 0 0)],.val (.int .i64 (x)),.val (.int .i64 (y))]) (by (repeat (first|exact Wk.refl _|exact Wk.nilr _|exact Wk.nilm|apply Wk.aggc|apply Wk.tupc|exact Wk.aggn|exact Wk.tupn));first|done|fail)
   rw[show hasR [] x y=false from rfl] at bh0 ⊢
   rw[if_neg (by simp),show lkV vSW (.agg [.val (.int .i64 (0)),.val (.int .i64 (0)),.val (.slice none 0 0)]) none=(.agg [.val (.int .i64 (0)),.val (.int .i64 (0)),.val (.slice none 0 0)]) from rfl]
   (repeat' first|refine svE ⟨?_⟩|refine .b fun b=>?_|refine .u fun u=>?_|refine .d ?_ ?_|(refine .g fun hg=>?_;try exact svx)|fail)
   refine S.call ?_;refine (bh0 _).mono ?_;rintro r h' ⟨rfl,hh⟩;subst hh
   (repeat' first|refine svE ⟨?_⟩|refine .b fun b=>?_|refine .u fun u=>?_|refine .d ?_ ?_|(refine .g fun hg=>?_;try exact svx)|fail)
   refine⟨i+1,⟨hlt,?_⟩,lee,by omega⟩
   rfl
  | some s=>
   have ec:clF V a=s.clip:=by unfold clF;rw[e]
   rw[ec] at bha ⊢
   rw[show lkV vSW (.agg [.val (.int .i64 (0)),.val (.int .i64 (0)),.val (.slice none 0 0)]) (some s)=vSW s from rfl]
   unfold vSW
   unfold regE at bha
   (repeat' first|refine svE ⟨?_⟩|refine .b fun b=>?_|refine .u fun u=>?_|refine .d ?_ ?_|(refine .g fun hg=>?_;try exact svx)|fail)
   refine S.call ?_;refine (bha _).mono ?_;rintro r h' ⟨rfl,hh⟩;subst hh
   cases hb:hasR s.clip x y with
   | true=>
    rw[if_pos rfl]
    (repeat' first|refine svE ⟨?_⟩|refine .b fun b=>?_|refine .u fun u=>?_|refine .d ?_ ?_|(refine .g fun hg=>?_;try exact svx)|fail)
    refine fin_r (h':=h) (Q:=fun r h'=>r=_∧h'=h) ?_;exact⟨rfl,rfl⟩
   | false=>
    rw[if_neg (by simp)]
    (repeat' first|refine svE ⟨?_⟩|refine .b fun b=>?_|refine .u fun u=>?_|refine .d ?_ ?_|(refine .g fun hg=>?_;try exact svx)|fail)
    refine⟨i+1,⟨hlt,?_⟩,lee,by omega⟩
    rfl
 ·rw[hn,List.drop_of_length_le hge,show atF [] V x y=none from rfl]
  (repeat' first|refine svE ⟨?_⟩|refine .b fun b=>?_|refine .u fun u=>?_|refine .d ?_ ?_|(refine .g fun hg=>?_;try exact svx)|fail)
  refine fin_r (h':=h) (Q:=fun r h'=>r=_∧h'=h) ?_;exact⟨rfl,rfl⟩
theorem viewable_c (o:List Int) (V:List (Int × SW)) (id:Int) (h:Heap):ACalls Tryz.prog 8 [encW o V,.val (.int .u32 (id))] h (fun r h'=>r=.val (.bool ((lkF V id).isSome))∧h'=h):=by
 cases e:lkF V id with
 | none=>
  unfold encW
  refine ACalls.intro Tryz.func8 rfl Tryz.ntmps8 Tryz.results8 (Nat.le_of_ble_eq_true rfl) ?_
  (repeat' first|refine svE ⟨?_⟩|refine .b fun b=>?_|refine .u fun u=>?_|refine .d ?_ ?_|(refine .g fun hg=>?_;try exact svx)|fail)
  rw[show lkV vSW (.agg [.val (.int .i64 (0)),.val (.int .i64 (0)),.val (.slice none 0 0)]) (lkF V id)=(.agg [.val (.int .i64 (0)),.val (.int .i64 (0)),.val (.slice none 0 0)]) by rw[e];rfl,e]
  (repeat' first|refine svE ⟨?_⟩|refine .b fun b=>?_|refine .u fun u=>?_|refine .d ?_ ?_|(refine .g fun hg=>?_;try exact svx)|fail)
  refine fin_r (h':=h) (Q:=fun r h'=>r=_∧h'=h) ?_;exact⟨rfl,rfl⟩
 | some s=>
  unfold encW
  refine ACalls.intro Tryz.func8 rfl Tryz.ntmps8 Tryz.results8 (Nat.le_of_ble_eq_true rfl) ?_
  (repeat' first|refine svE ⟨?_⟩|refine .b fun b=>?_|refine .u fun u=>?_|refine .d ?_ ?_|(refine .g fun hg=>?_;try exact svx)|fail)
  rw[show lkV vSW (.agg [.val (.int .i64 (0)),.val (.int .i64 (0)),.val (.slice none 0 0)]) (lkF V id)=vSW s by rw[e];rfl,e]
  unfold vSW
  (repeat' first|refine svE ⟨?_⟩|refine .b fun b=>?_|refine .u fun u=>?_|refine .d ?_ ?_|(refine .g fun hg=>?_;try exact svx)|fail)
  refine fin_r (h':=h) (Q:=fun r h'=>r=_∧h'=h) ?_;exact⟨rfl,rfl⟩
def origV:Option SW→AV
 | some s=>.tup [.agg [.val (.int .i64 (s.x)),.val (.int .i64 (s.y))],.val (.bool (true))]
 | none=>.tup [.agg [.val (.int .i64 (0)),.val (.int .i64 (0))],.val (.bool (false))]
theorem vorigN_c (o:List Int) (V:List (Int × SW)) (id:Int) (h:Heap):ACalls Tryz.prog 88 [encW o V,.val (.int .u32 (id))] h (fun r h'=>r=origV (lkF V id)∧h'=h):=by
 cases e:lkF V id with
 | some s=>exact vorig_c o V id s h e
 | none=>
  unfold encW origV
  refine ACalls.intro Tryz.func88 rfl Tryz.ntmps88 Tryz.results88 (Nat.le_of_ble_eq_true rfl) ?_
  (repeat' first|refine svE ⟨?_⟩|refine .b fun b=>?_|refine .u fun u=>?_|refine .d ?_ ?_|(refine .g fun hg=>?_;try exact svx)|fail)
  rw[show lkV vSW (.agg [.val (.int .i64 (0)),.val (.int .i64 (0)),.val (.slice none 0 0)]) (lkF V id)=(.agg [.val (.int .i64 (0)),.val (.int .i64 (0)),.val (.slice none 0 0)]) by rw[e];rfl,e]
  (repeat' first|refine svE ⟨?_⟩|refine .b fun b=>?_|refine .u fun u=>?_|refine .d ?_ ?_|(refine .g fun hg=>?_;try exact svx)|fail)
  refine fin_r (h':=h) (Q:=fun r h'=>r=_∧h'=h) ?_;exact⟨rfl,rfl⟩
end Go.Proofs.YtbknacpdcdkjiaaGreat
/- Structs of numbers and bools: == and !=. No condition. -/
namespace Go.VM
open Go
set_option maxRecDepth 100000
set_option linter.unusedVariables false
set_option linter.unusedSimpArgs false
inductive Scl where
 | i (k:IntKind) (a b:Int)
 | b (a b:Bool)
def Scl.l:Scl→Value
 | .i k x _=>.int k x
 | .b x _=>.bool x
def Scl.r:Scl→Value
 | .i k _ z=>.int k z
 | .b _ z=>.bool z
def Scl.eq:Scl→Bool
 | .i _ x z=>x == z
 | .b x z=>x == z
def Scl.isI:Scl→Bool
 | .i _ _ _=>true
 | .b _ _=>false
def flatQ (P:Program):Nat→List Field→List Bool→Bool
 | _,[],[]=>true
 | i,f::fs,s::ss=>!(f.name == "_")&&(Nat.beq f.offset i&&((match valQ P f.type with|some (false,_)=>true|_=>false)&&((match P.underlying f.type with|some (.int _)=>s|some .bool=>!s|_=>false)&&flatQ P (i+1) fs ss)))
 | _,_,_=>false
theorem eqQ {P:Program} {w:World} {d:Nat}:∀(fs:List Field) (L:List Scl) (i:Nat) (pre pre':List Value),pre.length=i→pre'.length=i→flatQ P i fs (L.map Scl.isI)=true →
  (Op.eqFields (d+1) (pre++L.map Scl.l).toArray (pre'++L.map Scl.r).toArray fs).run P w=.ok (L.all Scl.eq) w
 | [],[],i,pre,pre',_,_,_=>by simp[Op.eqFields]
 | [],_::_,i,pre,pre',_,_,hf=>by cases hf
 | _::_,[],i,pre,pre',_,_,hf=>by cases hf
 | f::fs,s::L,i,pre,pre',h1,h2,hf=>by
  rw[List.map_cons] at hf
  unfold flatQ at hf
  simp only[Bool.and_eq_true,Bool.not_eq_true',beq_eq_false_iff_ne,ne_eq] at hf
  obtain⟨f1,f2,f3,f4,f5⟩:=hf
  have f2:=Nat.eq_of_beq_eq_true f2
  obtain⟨n,hv⟩:∃n,valQ P f.type=some (false,n):=by
   split at f3
   ·exact⟨_,by assumption⟩
   ·cases f3
  have hn:=(valQ_spec hv).2.2 rfl
  subst hn
  have p1:(part f.type (pre++(s::L).map Scl.l).toArray f.offset).run P w=.ok s.l w:=by
   rw[run_part hv (by simp[f2,h1]),f2]
   simp[List.drop_append,←h1,mk]
  have p2:(part f.type (pre'++(s::L).map Scl.r).toArray f.offset).run P w=.ok s.r w:=by
   rw[run_part hv (by simp[f2,h2]),f2]
   simp[List.drop_append,←h2,mk]
  have ih:=eqQ (P:=P) (w:=w) (d:=d) fs L (i+1) (pre++[s.l]) (pre'++[s.r]) (by simp[h1]) (by simp[h2]) f5
  simp only[List.append_assoc,List.singleton_append] at ih
  have he:(Op.equalIn (d+1) f.type s.l s.r).run P w=.ok s.eq w:=by
   cases s with
   | i k a b=>
    obtain⟨k',hk⟩:∃k',P.underlying f.type=some (.int k'):=by
     split at f4
     ·exact⟨_,by assumption⟩
     ·cases f4
     ·cases f4
    exact run_equalIn_int (P:=P) w d f.type k k' a b hk
   | b a b=>
    have hk:P.underlying f.type=some .bool:=by
     split at f4
     ·cases f4
     ·assumption
     ·cases f4
    exact run_equalIn_bool' (P:=P) w d f.type a b hk
  unfold Op.eqFields
  rw[if_pos f1]
  simp only[Sem.run_bind,p1,p2,Result.andThen_ok,he]
  rw[List.all_cons]
  cases hs:s.eq with
  | true=>simp[ih]
  | false=>simp
class TEqS (P:Program) (t:Nat) (sh:outParam (List Bool)):Prop where
 h:P.underlying t=some (.struct (P.fieldsOf t))
 s:P.stoodInHeld t=false
 g:P.eqGuardType P.depth t=false
 f:flatQ P 0 (P.fieldsOf t).toList sh=true
inductive IEqS:List AV→List AV→List Scl→Prop
 | nil:IEqS [] [] []
 | i {k:IntKind} {a b:Int} {x y:List AV} {L:List Scl} (h:IEqS x y L):IEqS (.val (.int k a)::x) (.val (.int k b)::y) (.i k a b::L)
 | b {a b:Bool} {x y:List AV} {L:List Scl} (h:IEqS x y L):IEqS (.val (.bool a)::x) (.val (.bool b)::y) (.b a b::L)
theorem IEqS.rel {m:Ghost} {x y:List AV} {L:List Scl} (h:IEqS x y L):∀{cs ds:List Value},RelL m x cs→RelL m y ds→cs=L.map Scl.l∧ds=L.map Scl.r:=by
 induction h with
 | nil=>intro cs ds h1 h2;simp only[RelL] at h1 h2;subst h1;subst h2;exact⟨rfl,rfl⟩
 | i h ih=>
  intro cs ds h1 h2
  simp only[RelL,Rel] at h1 h2
  obtain⟨c,r,rfl,⟨rfl,_⟩,h1⟩:=h1
  obtain⟨c',r',rfl,⟨rfl,_⟩,h2⟩:=h2
  obtain⟨rfl,rfl⟩:=ih h1 h2
  exact⟨rfl,rfl⟩
 | b h ih=>
  intro cs ds h1 h2
  simp only[RelL,Rel] at h1 h2
  obtain⟨c,r,rfl,⟨rfl,_⟩,h1⟩:=h1
  obtain⟨c',r',rfl,⟨rfl,_⟩,h2⟩:=h2
  obtain⟨rfl,rfl⟩:=ih h1 h2
  exact⟨rfl,rfl⟩
section
variable {P:Program} {d:Option Nat} {ty:Nat} {pos:String} {af:Array Edge} {gd:Option (Nat × Bool)} {tm:List (Nat × AV)} {h:Heap} {x y:Operand} {xt yt:Nat} {l l':List AV} {L:List Scl} {sh:List Bool} {p:Bool}
theorem eqS_key [ht:TEqS P xt sh] {m:Ghost} {cs ds:Array Value} (hx:RelL m l cs.toList) (hy:RelL m l' ds.toList) (he:IEqS l l' L) (hn:L.map Scl.isI=sh) (hp:L.all Scl.eq=p) (w:World):(Op.equalIn (9999+1) xt (.agg cs) (.agg ds)).run P w=.ok p w:=by
 obtain⟨e1,e2⟩:=he.rel hx hy
 have key:=eqQ (P:=P) (w:=w) (d:=9998) (P.fieldsOf xt).toList L 0 [] [] rfl rfl (by rw[hn];exact ht.f)
 rw[List.nil_append,List.nil_append,←e1,←e2,hp] at key
 simp only[Array.toArray_toList] at key
 have k2:=run_equalIn_struct (P:=P) w 9999 xt cs ds ht.h ht.s
 rw[key] at k2
 exact k2
theorem pur_neqS [ht:TEqS P xt sh] (hx:evalA tm x=some (.agg l)) (hy:evalA tm y=some (.agg l')) (he:IEqS l l' L) (hn:L.map Scl.isI=sh) (hp:L.all Scl.eq=p):PurV P ⟨d,.binOp .neq xt x y yt,ty,pos,af,gd⟩ tm h (.val (.bool (!p))):=fun m a w0 h1 h2 h3=>by
 have hx:=h1.eval hx
 have hy:=h1.eval hy
 simp only[Rel] at hx hy
 obtain⟨cs,hx,hxr⟩:=hx
 obtain⟨ds,hy,hyr⟩:=hy
 refine⟨.bool (!p),by simp[Rel];rfl,fun w=>?_⟩
 have k2:=eqS_key (ht:=ht) hxr hyr he hn hp w
 have k3:=run_neq_struct (P:=P) w xt cs ds
 rw[k2] at k3
 have k1:=run_eqGuard_agg (P:=P) w .neq xt x y cs ds ht.g
 simp[execOp,hx,hy,k1,k3]
end
end Go.VM
