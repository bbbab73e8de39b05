/- What FlatRounds computes is true. -/
import Derived.Test.YtjmflccbddjlhaaPFmx11
import Derived.Test.YtjmflccbddjlhaaPureFlat0
set_option linter.unusedVariables false
set_option linter.unusedSimpArgs false
namespace Go.Proofs.Ytjmflccbddjlhaa.Pure
open Go.RowKit Go.Proofs.Ytjmflccbddjlhaa.PFm Go.Proofs.YtjmflccbddjlhaaW.PrintWords Go.Proofs.YtjmflccbddjlhaaW.PrintLast Go.Proofs.YtjmflccbddjlhaaW.PrintMore
/-! ### lines hang together,and come back -/
def Ch (z0 z1 : Int) : Int → Int → List S34 → Prop
 | a0,a1,[]=>a0=z0∧a1=z1
 | a0,a1,s :: t=>s.f0=a0∧s.f1=a1∧Ch z0 z1 s.f2 s.f3 t
theorem Ch_append {y0 y1 z0 z1 : Int} (r : List S34) (hr : Ch y0 y1 z0 z1 r) (l : List S34) : ∀ a0 a1,Ch z0 z1 a0 a1 l → Ch y0 y1 a0 a1 (l ++ r):=by
 induction l with
 | nil=>rintro a0 a1 ⟨rfl,rfl⟩;exact hr
 | cons s t ih=>rintro a0 a1 ⟨h1,h2,h3⟩;exact ⟨h1,h2,ih _ _ h3⟩
theorem bentP_eight (a b c : Int) : bentP a b c 8=c:=by unfold bentP;simp;omega
theorem curP_Ch (a b c : S78) : Ch c.f0 c.f1 a.f0 a.f1 (curP a b c):=by
 have e : List.range 8=[0,1,2,3,4,5,6,7]:=rfl
 unfold curP curveP
 rw [e]
 simp only [List.map_cons,List.map_nil,Ch,segK]
 refine ⟨bentP_zero _ _ _,bentP_zero _ _ _,rfl,rfl,rfl,rfl,rfl,rfl,rfl,rfl,rfl,rfl,rfl,rfl,rfl,rfl,bentP_eight _ _ _,bentP_eight _ _ _⟩
theorem linesP_Ch (z : S78) (hz : z.f2=true) (t : List S78) : ∀ (last : S78) (o : Option S78),Ch z.f0 z.f1 last.f0 last.f1 (linesP last o (t ++ [z])):=by
 induction t with
 | nil =>
  intro last o
  cases o with
  | none=>simp [linesP,hz,Ch,segP]
  | some o=>simp only [List.nil_append,linesP,hz,if_true,List.append_nil];exact curP_Ch last o z
 | cons p t ih =>
  intro last o
  cases o with
  | none =>
   simp only [List.cons_append,linesP]
   split
   ·exact ⟨rfl,rfl,ih p none⟩
   ·exact ih last (some p)
  | some o =>
   simp only [List.cons_append,linesP]
   split
   ·exact Ch_append _ (ih p none) _ _ _ (curP_Ch last o p)
   ·exact Ch_append _ (ih (midP o p) (some p)) _ _ _ (curP_Ch last o (midP o p))
theorem curP_start (a b c : S78) : ∃ s ∈ curP a b c,s.f0=a.f0∧s.f1=a.f1:=by
 refine ⟨segK a.f0 a.f1 b.f0 b.f1 c.f0 c.f1 0,?_,bentP_zero _ _ _,bentP_zero _ _ _⟩
 unfold curP curveP
 exact List.mem_map_of_mem (by simp)
theorem linesP_start (z : S78) (hz : z.f2=true) (t : List S78) : ∀ (last : S78) (o : Option S78),∃ s ∈ linesP last o (t ++ [z]),s.f0=last.f0∧s.f1=last.f1:=by
 induction t with
 | nil =>
  intro last o
  cases o with
  | none=>exact ⟨segP last z,by simp [linesP,hz],rfl,rfl⟩
  | some o =>
   obtain ⟨s,hs,h⟩:=curP_start last o z
   exact ⟨s,by simp only [List.nil_append,linesP,hz,if_true,List.append_nil];exact hs,h⟩
 | cons p t ih =>
  intro last o
  cases o with
  | none =>
   simp only [List.cons_append,linesP]
   split
   ·exact ⟨segP last p,by simp,rfl,rfl⟩
   ·exact ih last (some p)
  | some o =>
   simp only [List.cons_append,linesP]
   split
   ·obtain ⟨s,hs,h⟩:=curP_start last o p
    exact ⟨s,List.mem_append_left _ hs,h⟩
   ·obtain ⟨s,hs,h⟩:=curP_start last o (midP o p)
    exact ⟨s,List.mem_append_left _ hs,h⟩
theorem linesP_starts (z : S78) (hz : z.f2=true) (t : List S78) : ∀ (last : S78) (o : Option S78),∀ p ∈ t,p.f2=true → ∃ s ∈ linesP last o (t ++ [z]),s.f0=p.f0∧s.f1=p.f1:=by
 induction t with
 | nil=>intro last o p hp;simp at hp
 | cons q t ih =>
  intro last o p hp hon
  cases o with
  | none =>
   simp only [List.cons_append,linesP]
   split
   ·rcases List.mem_cons.1 hp with rfl|h
    ·obtain ⟨s,hs,h⟩:=linesP_start z hz t p none
     exact ⟨s,List.mem_cons_of_mem _ hs,h⟩
    ·obtain ⟨s,hs,h⟩:=ih q none p h hon
     exact ⟨s,List.mem_cons_of_mem _ hs,h⟩
   ·rename_i hq
    rcases List.mem_cons.1 hp with rfl|h
    ·exact absurd hon hq
    ·exact ih last (some q) p h hon
  | some o =>
   simp only [List.cons_append,linesP]
   split
   ·rcases List.mem_cons.1 hp with rfl|h
    ·obtain ⟨s,hs,h⟩:=linesP_start z hz t p none
     exact ⟨s,List.mem_append_right _ hs,h⟩
    ·obtain ⟨s,hs,h⟩:=ih q none p h hon
     exact ⟨s,List.mem_append_right _ hs,h⟩
   ·rename_i hq
    rcases List.mem_cons.1 hp with rfl|h
    ·exact absurd hon hq
    ·obtain ⟨s,hs,h⟩:=ih (midP o q) (some q) p h hon
     exact ⟨s,List.mem_append_right _ hs,h⟩
theorem linesP_one (z : S78) (hz : z.f2=true) (t : List S78) (last : S78) (o : Option S78) : 1≤(linesP last o (t ++ [z])).length:=by
 obtain ⟨s,hs,_⟩:=linesP_start z hz t last o
 exact List.length_pos_of_mem hs
theorem linesP_eight (t : List S78) (h : t ≠ []) (last o : S78) : 8≤(linesP last (some o) t).length:=by
 cases t with
 | nil=>exact absurd rfl h
 | cons p t =>
  unfold linesP
  split <;> simp [curP,curveP_length]
theorem linesP_two (z : S78) (hz : z.f2=true) (t : List S78) (ht : t ≠ []) (last : S78) : 2≤(linesP last none (t ++ [z])).length:=by
 cases t with
 | nil=>exact absurd rfl ht
 | cons p t =>
  simp only [List.cons_append,linesP]
  split
  ·have:=linesP_one z hz t p none;simp only [List.length_cons];omega
  ·have:=linesP_eight (t ++ [z]) (by simp) last p;omega
theorem begunP_shape (l : List S78) (h : 2≤l.length) : ∃ a t,begunP l=a :: (t ++ [a])∧a.f2=true∧t ≠ []∧∀ p ∈ l,p.f2=true → p ∈ a :: t:=by
 unfold begunP
 cases hf : l.findIdx? (fun x=>x.f2) with
 | some i =>
  have hi:=findIdx_lt hf
  have hon : (l[i]).f2=true:=by rw [List.findIdx?_eq_some_iff_getElem] at hf;exact hf.2.1
  refine ⟨l[i],l.drop (i+1) ++ l.take i,?_,hon,?_,?_⟩
  ·simp only []
   rw [List.drop_eq_getElem_cons hi,List.append_assoc,← List.take_succ_eq_append_getElem hi]
   rfl
  ·intro e
   have:=congrArg List.length e
   simp only [List.length_append,List.length_drop,List.length_take,List.length_nil] at this
   omega
  ·intro p hp _
   have e : l=l.take i ++ l[i] :: l.drop (i+1):=by rw [← List.drop_eq_getElem_cons hi,List.take_append_drop]
   rw [e] at hp
   simp only [List.mem_append,List.mem_cons] at hp ⊢
   rcases hp with h|h|h
   ·exact .inr (.inr h)
   ·exact .inl h
   ·exact .inr (.inl h)
 | none =>
  refine ⟨midP (l.getD (l.length - 1) z78) (l.getD 0 z78),l,by simp,rfl,?_,?_⟩
  ·intro e;rw [e] at h;simp at h
  ·intro p hp _;exact List.mem_cons_of_mem _ hp

/-! ### what the statement asks of one contour -/
theorem segsOf_two (m : Aff) (l : List S36) (h : 2≤l.length) : 2≤(segsOf m l).length:=by
 unfold segsOf
 rw [if_pos h]
 obtain ⟨a,t,e,hon,ht,_⟩:=begunP_shape (l.map (tp m)) (by rw [List.length_map];exact h)
 rw [e]
 exact linesP_two a hon t ht a
theorem segsOf_Ch (m : Aff) (l : List S36) (h : 2≤l.length) : ∃ a0 a1,Ch a0 a1 a0 a1 (segsOf m l):=by
 unfold segsOf
 rw [if_pos h]
 obtain ⟨a,t,e,hon,ht,_⟩:=begunP_shape (l.map (tp m)) (by rw [List.length_map];exact h)
 rw [e]
 exact ⟨a.f0,a.f1,linesP_Ch a hon t a none⟩
theorem segsOf_starts (m : Aff) (l : List S36) (h : 2≤l.length) (p : S36) (hp : p ∈ l) (hon : p.f2=true) : ∃ s ∈ segsOf m l,s.f0=(tp m p).f0∧s.f1=(tp m p).f1:=by
 unfold segsOf
 rw [if_pos h]
 obtain ⟨a,t,e,ha,ht,hin⟩:=begunP_shape (l.map (tp m)) (by rw [List.length_map];exact h)
 rw [e]
 rcases List.mem_cons.1 (hin (tp m p) (List.mem_map_of_mem hp) hon) with h|h
 ·obtain ⟨s,hs,h'⟩:=linesP_start a ha t a none
  rw [h]
  exact ⟨s,hs,h'⟩
 ·exact linesP_starts a ha t a none _ h hon
theorem Ch_get {z0 z1 : Int} (l : List S34) : ∀ a0 a1,Ch z0 z1 a0 a1 l → (∀ h : 0 < l.length,(l[0]).f0=a0∧(l[0]).f1=a1∧(l[l.length - 1]'(by omega)).f2=z0∧(l[l.length - 1]'(by omega)).f3=z1)∧∀ i,∀ h : i+1 < l.length,(l[i+1]).f0=(l[i]'(by omega)).f2∧(l[i+1]).f1=(l[i]'(by omega)).f3:=by
 induction l with
 | nil=>intro a0 a1 _;exact ⟨fun h=>absurd h (by simp),fun i h=>absurd h (by simp)⟩
 | cons s t ih =>
  rintro a0 a1 ⟨h1,h2,h3⟩
  obtain ⟨ih1,ih2⟩:=ih _ _ h3
  refine ⟨fun h=>⟨h1,h2,?_⟩,fun i h=>?_⟩
  ·cases t with
   | nil=>exact h3
   | cons q t=>exact (ih1 (by simp)).2.2
  ·cases i with
   | zero=>exact ⟨(ih1 (by simpa using h)).1,(ih1 (by simpa using h)).2.1⟩
   | succ i=>simpa using ih2 i (by simpa using h)
theorem Ch_prev {a0 a1 : Int} (l : List S34) (hc : Ch a0 a1 a0 a1 l) (hn : l.length≤100000) (j : Nat) (hj : j < l.length) :
  (rd_T34 l j).f0=(rd_T34 l (Int.tmod (wrap64 ((wrap64 ((j : Int)+(l.length : Int))) - 1)) (l.length : Int))).f2∧(rd_T34 l j).f1=(rd_T34 l (Int.tmod (wrap64 ((wrap64 ((j : Int)+(l.length : Int))) - 1)) (l.length : Int))).f3:=by
 rw [prev_ix j _ hj hn,rd34 l j hj,rd34 l _ (by split <;> omega)]
 obtain ⟨h1,h2⟩:=Ch_get l _ _ hc
 cases j with
 | zero =>
  obtain ⟨e1,e2,e3,e4⟩:=h1 hj
  simp only [if_true]
  exact ⟨e1.trans e3.symm,e2.trans e4.symm⟩
 | succ i =>
  simp only [Nat.add_eq_zero_iff,Nat.one_ne_zero,and_false,if_false,Nat.add_sub_cancel]
  exact h2 i hj
theorem l3_f (m : Aff) (s : List S34) (u v : Int) (ls : List (List S36)) (n i : Int) (c : List S36) (nc j : Int) (hs : s.length≤100000)
  (hk : Ev (fun k=>versallaw17_FlatRounds.l2 k s ls n i c nc (wrap64 (j+1)) m.xx m.yx m.xy m.yy m.dx m.dy) true) (d : Nat) :
  ∀ (q : Nat) (b : Bool),q+d=s.length → (b=true ∨ ∃ x ∈ s.drop q,x.f0=u∧x.f1=v) → Ev (fun k=>versallaw17_FlatRounds.l3 k s u v b ls n i c nc j s (s.length : Int) (q : Int) m.xx m.yx m.xy m.yy m.dx m.dy) true:=by
 induction d with
 | zero =>
  intro q b hq hb
  have : b=true:=by
   rcases hb with h|⟨x,hx,_⟩
   ·exact h
   ·rw [List.drop_of_length_le (by omega)] at hx;simp at hx
  subst this
  refine Ev.step (fun k=>?_) hk
  simp only [versallaw17_FlatRounds.l3]
  rw [if_neg (by omega),if_pos trivial]
 | succ d ih =>
  intro q b hq hb
  have hw : wrap64 ((q : Int)+1)=((q+1 : Nat) : Int):=by rw [w64 (by omega) (by omega)];push_cast;rfl
  cases b with
  | true =>
   refine Ev.step (fun k=>?_) (ih (q+1) true (by omega) (.inl rfl))
   simp only [versallaw17_FlatRounds.l3]
   rw [if_pos (by omega),if_pos (by omega),if_pos (by omega),if_pos trivial,hw]
  | false =>
   obtain ⟨x,hx,hx0,hx1⟩ : ∃ x ∈ s.drop q,x.f0=u∧x.f1=v:=by
    rcases hb with h|h
    ·exact absurd h (by simp)
    ·exact h
   rw [List.drop_eq_getElem_cons (by omega)] at hx
   have hr:=rd34 s q (by omega)
   by_cases h0 : (rd_T34 s q).f0=u
   ·have hh : ((rd_T34 s q).f1 == v)=true ∨ ∃ x ∈ s.drop (q+1),x.f0=u∧x.f1=v:=by
     rcases List.mem_cons.1 hx with hxe|h
     ·left;rw [hr,← hxe];simpa using hx1
     ·exact .inr ⟨x,h,hx0,hx1⟩
    refine Ev.step (fun k=>?_) (ih (q+1) _ (by omega) hh)
    simp only [versallaw17_FlatRounds.l3]
    rw [if_pos (by omega),if_pos (by omega),if_pos (by omega),if_neg Bool.false_ne_true,if_pos h0,hw]
   ·have hh : ∃ x ∈ s.drop (q+1),x.f0=u∧x.f1=v:=by
     rcases List.mem_cons.1 hx with hxe|h
     ·exact absurd (by rw [hr,← hxe];exact hx0) h0
     ·exact ⟨x,h,hx0,hx1⟩
    refine Ev.step (fun k=>?_) (ih (q+1) false (by omega) (.inr hh))
    simp only [versallaw17_FlatRounds.l3]
    rw [if_pos (by omega),if_pos (by omega),if_pos (by omega),if_neg Bool.false_ne_true,if_neg h0,hw]
theorem l2_f (m : Aff) (ls : List (List S36)) (n i : Int) (c : List S36) (hc2 : 2≤c.length) (hc : c.length≤900)
  (hk : Ev (fun k=>versallaw17_FlatRounds.l0 k ls n (wrap64 (i+1)) m.xx m.yx m.xy m.yy m.dx m.dy) true) (d : Nat) :
  ∀ (j : Nat),j+d=c.length → Ev (fun k=>versallaw17_FlatRounds.l2 k (segsOf m c) ls n i c (c.length : Int) (j : Int) m.xx m.yx m.xy m.yy m.dx m.dy) true:=by
 induction d with
 | zero =>
  intro j hj
  refine Ev.step (fun k=>?_) hk
  simp only [versallaw17_FlatRounds.l2]
  rw [if_neg (by omega)]
 | succ d ih =>
  intro j hj
  have hw : wrap64 ((j : Int)+1)=((j+1 : Nat) : Int):=by rw [w64 (by omega) (by omega)];push_cast;rfl
  have next:=ih (j+1) (by omega)
  rw [← hw] at next
  have hr:=rd36 c j (by omega)
  have hmem : rd_T36 c j ∈ c:=by rw [hr];exact List.getElem_mem _
  by_cases hon : (rd_T36 c j).f2=true
  ·have hl:=segsOf_length m c hc
   have h3:=l3_f m (segsOf m c) (tp m (rd_T36 c j)).f0 (tp m (rd_T36 c j)).f1 ls n i c (c.length : Int) (j : Int) (by omega) next (segsOf m c).length 0 false (by omega)
    (.inr (by rw [List.drop_zero];exact segsOf_starts m c hc2 _ hmem hon))
   refine Ev.step (fun k=>?_) h3
   simp only [versallaw17_FlatRounds.l2]
   rw [if_pos (by omega),if_pos (by omega),if_pos (by omega),if_pos hon]
   simp only [rwhole_f,rapply_f,Option.bind_some]
   rfl
  ·refine Ev.step (fun k=>?_) next
   simp only [versallaw17_FlatRounds.l2]
   rw [if_pos (by omega),if_pos (by omega),if_pos (by omega),if_neg hon]
theorem l1_f (m : Aff) (ls : List (List S36)) (n i : Int) (c : List S36) (hc2 : 2≤c.length) (hc : c.length≤900)
  (hk : Ev (fun k=>versallaw17_FlatRounds.l0 k ls n (wrap64 (i+1)) m.xx m.yx m.xy m.yy m.dx m.dy) true) (d : Nat) :
  ∀ (j : Nat),j+d=(segsOf m c).length → Ev (fun k=>versallaw17_FlatRounds.l1 k c (segsOf m c) ls n i ((segsOf m c).length : Int) (j : Int) m.xx m.yx m.xy m.yy m.dx m.dy) true:=by
 have hl:=segsOf_length m c hc
 have h2:=segsOf_two m c hc2
 obtain ⟨a0,a1,hch⟩:=segsOf_Ch m c hc2
 induction d with
 | zero =>
  intro j hj
  refine Ev.step (fun k=>?_) (l2_f m ls n i c hc2 hc hk c.length 0 (by omega))
  simp only [versallaw17_FlatRounds.l1]
  rw [if_neg (by omega)]
  rfl
 | succ d ih =>
  intro j hj
  have hw : wrap64 ((j : Int)+1)=((j+1 : Nat) : Int):=by rw [w64 (by omega) (by omega)];push_cast;rfl
  have hp:=Ch_prev _ hch (by omega) j (by omega)
  have hix:=prev_ix j (segsOf m c).length (by omega) (by omega)
  refine Ev.step (fun k=>?_) (ih (j+1) (by omega))
  simp only [versallaw17_FlatRounds.l1]
  rw [if_pos (by omega),if_neg (by omega),if_pos (by rw [hix];exact Int.natCast_nonneg _),if_pos (by rw [hix];split <;> omega),if_pos (by omega),if_pos (by omega),if_pos hp.1,if_pos hp.2,hw]
theorem l0_f (m : Aff) (ls : List (List S36)) (hn : ls.length≤1000) (hl : ∀ l ∈ ls,l.length≤900) (d : Nat) :
  ∀ (j : Nat),j+d=ls.length → Ev (fun k=>versallaw17_FlatRounds.l0 k ls (ls.length : Int) (j : Int) m.xx m.yx m.xy m.yy m.dx m.dy) true:=by
 induction d with
 | zero =>
  intro j hj
  refine Ev.step (f:=fun _=>some true) (fun k=>?_) (Ev.now true)
  simp only [versallaw17_FlatRounds.l0]
  rw [if_neg (by omega)]
 | succ d ih =>
  intro j hj
  have hw : wrap64 ((j : Int)+1)=((j+1 : Nat) : Int):=by rw [w64 (by omega) (by omega)];push_cast;rfl
  have next:=ih (j+1) (by omega)
  rw [← hw] at next
  have hmem : rd_L6 ls j ∈ ls:=by rw [rdL6 ls j (by omega)];exact List.getElem_mem _
  have hlen:=hl _ hmem
  generalize hgl : rd_L6 ls (j : Int)=c at *
  have hs:=segs_f m [c] (by simp) (by simpa using hlen)
  have es : (([c].map (segsOf m)).flatten)=segsOf m c:=by simp
  rw [es] at hs
  refine Ev.step (f:=fun k=>(flat_Segs.f k [c] m.xx m.yx m.xy m.yy m.dx m.dy).bind fun t343=>(if ((c).length : Int) < 2 then (if (t343.length : Int) > 0 then (some false) else (versallaw17_FlatRounds.l0 k ls (ls.length : Int) (wrap64 ((j : Int)+1)) m.xx m.yx m.xy m.yy m.dx m.dy)) else (if (t343.length : Int) < 2 then (some false) else (versallaw17_FlatRounds.l1 k c t343 ls (ls.length : Int) (j : Int) (t343.length : Int) 0 m.xx m.yx m.xy m.yy m.dx m.dy)))) (fun k=>?_) (Ev.bind hs ?_)
  ·simp only [versallaw17_FlatRounds.l0]
   rw [if_pos (by omega),if_pos (by omega),if_pos (by omega),hgl]
  ·by_cases h2 : 2≤c.length
   ·have hs2:=segsOf_two m c h2
    refine Ev.congr (fun k=>?_) (l1_f m ls _ _ c h2 hlen next (segsOf m c).length 0 (by omega))
    rw [if_neg (by omega),if_neg (by omega)]
    rfl
   ·have e : segsOf m c=[]:=by unfold segsOf;rw [if_neg h2]
    rw [e]
    refine Ev.congr (fun k=>?_) next
    rw [if_pos (by omega),if_neg (by simp)]
theorem FlatRounds_f (l : List Int) (hl : l.length≤1000000000000000) (a b c d e f : Int) : Ev (fun k=>versallaw17_FlatRounds.f k l a b c d e f) true:=by
 obtain ⟨m,hm⟩:=affine_f a b c d e f
 obtain ⟨ls,hls,h1,h2⟩:=contours_f l hl
 have h0:=l0_f m ls (by omega) (fun x hx=>by have:=(h2 x hx).1;omega) ls.length 0 (by omega)
 unfold versallaw17_FlatRounds.f
 rw [hm]
 refine Ev.bind known_f ?_
 simp only [if_true,Option.bind_some]
 exact Ev.bind hls h0
theorem FlatRounds : versallaw17_FlatRounds.Pure:=fun l0 a b c d e f _ hb _ _ _ _ _ _ _=>(FlatRounds_f l0 (by omega) a b c d e f).rounds
end Go.Proofs.Ytjmflccbddjlhaa.Pure
