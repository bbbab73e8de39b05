/- What FlatTells computes is true. -/
import Derived.Test.YtjmflccbddjlhaaPFmx15
import Derived.Test.YtjmflccbddjlhaaPureFlat0
set_option linter.unusedVariables false
set_option linter.unusedSimpArgs false
namespace Go.Proofs.Ytjmflccbddjlhaa.Pure
open Go.RowKit Go.Proofs.Ytjmflccbddjlhaa.PFm Go.Proofs.YtjmflccbddjlhaaW.PrintWords Go.Proofs.YtjmflccbddjlhaaW.PrintLast Go.Proofs.YtjmflccbddjlhaaW.PrintMore
theorem rbent_f (a b c : Int) {k : Int} (h1 : 1≤k) (h2 : k≤8) : versalref14_bent.f a b c k=some (bentP (C a) (C b) (C c) k):=by
 obtain ⟨ha,ha'⟩:=Sm_C a
 obtain ⟨hb,hb'⟩:=Sm_C b
 obtain ⟨hc,hc'⟩:=Sm_C c
 unfold versalref14_bent.f
 simp only [rclip_f,Option.bind_some]
 generalize C a=a at *
 generalize C b=b at *
 generalize C c=c at *
 have : k=1 ∨ k=2 ∨ k=3 ∨ k=4 ∨ k=5 ∨ k=6 ∨ k=7 ∨ k=8:=by omega
 rcases this with rfl|rfl|rfl|rfl|rfl|rfl|rfl|rfl <;>
  (rw [floor_f _ _ (by omega) (by simp only [wrap64];omega) (by simp only [wrap64];omega)];unfold bentP;simp only [Option.bind_some];congr 1;simp only [wrap64];omega)
theorem rcurve_l (a0 a1 b0 b1 c0 c1 : Int) (d : Nat) : ∀ (j : Nat) (out : List S34),j+d=8 → out.length≤100+j →
  Ev (fun k=>versalref14_Curve.l0 k out (bentP (C a0) (C b0) (C c0) j) (bentP (C a1) (C b1) (C c1) j) ((j : Int)+1) a0 a1 b0 b1 c0 c1) (out ++ ((List.range 8).drop j).map (segK (C a0) (C a1) (C b0) (C b1) (C c0) (C c1))):=by
 induction d with
 | zero =>
  intro j out hj ho
  obtain rfl : j=8:=by omega
  refine Ev.step (f:=fun _=>some out) (fun k=>?_) (by rw [List.drop_of_length_le (by simp)];simpa using Ev.now out)
  simp only [versalref14_Curve.l0]
  rw [if_neg (by omega)]
 | succ d ih =>
  intro j out hj ho
  have:=ih (j+1) (out ++ [segK (C a0) (C a1) (C b0) (C b1) (C c0) (C c1) j]) (by omega) (by simp;omega)
  rw [List.append_assoc,List.singleton_append] at this
  rw [drop_range j (by omega),List.map_cons]
  refine Ev.step (fun k=>?_) this
  simp only [versalref14_Curve.l0]
  rw [if_pos (by omega),rbent_f _ _ _ (by omega) (by omega),rbent_f _ _ _ (by omega) (by omega)]
  simp only [Option.bind_some]
  rw [if_pos (by omega),w64 (by omega) (by omega)]
  push_cast
  rfl
theorem rcurve_f (a0 a1 b0 b1 c0 c1 : Int) : Ev (fun k=>versalref14_Curve.f k a0 a1 b0 b1 c0 c1) (curveP (C a0) (C a1) (C b0) (C b1) (C c0) (C c1)):=by
 have:=rcurve_l a0 a1 b0 b1 c0 c1 8 0 [] (by omega) (by simp)
 simpa [versalref14_Curve.f,curveP,bentP_zero,rclip_f] using this
theorem Curve_f (a0 a1 b0 b1 c0 c1 : Int) : Ev (fun k=>flat_Curve.f k a0 a1 b0 b1 c0 c1) (curveP (C a0) (C a1) (C b0) (C b1) (C c0) (C c1)):=by
 have:=curve_f (Sm_C a0) (Sm_C a1) (Sm_C b0) (Sm_C b1) (Sm_C c0) (Sm_C c1) true true true
 simpa [flat_Curve.f,flat_of.f,clip_f] using this

/-! ### the same lines,told round a ring -/
def expP : S78 → List S78 → List S78
 | _,[]=>[]
 | pr,p :: t=>if pr.f2=true then p :: expP p t else if p.f2=true then p :: expP p t else midP pr p :: p :: expP p t
def W : List S78 → List S34
 | a :: b :: t=>if b.f2=true then segP a b :: W (b :: t) else match t with
  | []=>[]
  | c :: t'=>curP a b c ++ W (c :: t')
 | _=>[]
theorem W_on (a b : S78) (t : List S78) (h : b.f2=true) : W (a :: b :: t)=segP a b :: W (b :: t):=by rw [W.eq_def];simp only;rw [if_pos h]
theorem W_off (a b c : S78) (t : List S78) (h : ¬ b.f2=true) : W (a :: b :: c :: t)=curP a b c ++ W (c :: t):=by rw [W.eq_def];simp only;rw [if_neg h]
theorem linesP_W (t : List S78) : (∀ last : S78,last.f2=true → linesP last none t=W (last :: expP last t))∧∀ last o : S78,¬ o.f2=true → linesP last (some o) t=W (last :: o :: expP o t):=by
 induction t with
 | nil =>
  refine ⟨fun last _=>?_,fun last o ho=>?_⟩
  ·simp [linesP,expP,W]
  ·rw [W.eq_def];simp only [expP,linesP];rw [if_neg ho]
 | cons p t ih =>
  obtain ⟨ih1,ih2⟩:=ih
  refine ⟨fun last hl=>?_,fun last o ho=>?_⟩
  ·simp only [linesP,expP,if_pos hl]
   by_cases hp : p.f2=true
   ·rw [if_pos hp,W_on _ _ _ hp,ih1 p hp]
   ·rw [if_neg hp,ih2 last p hp]
  ·simp only [linesP,expP,if_neg ho]
   by_cases hp : p.f2=true
   ·rw [if_pos hp,if_pos hp,W_off _ _ _ _ ho,ih1 p hp]
   ·rw [if_neg hp,if_neg hp,W_off _ _ _ _ ho,ih2 _ p hp]
theorem expP_on (a : S78) (t : List S78) (p : S78) (h : a.f2=true ∨ p.f2=true) : expP a (p :: t)=p :: expP p t:=by
 simp only [expP]
 by_cases ha : a.f2=true
 ·rw [if_pos ha]
 ·rw [if_neg ha,if_pos (h.resolve_left ha)]
theorem expP_append (y : List S78) (x : List S78) : ∀ pr,expP pr (x ++ y)=expP pr x ++ expP (x.getLastD pr) y:=by
 induction x with
 | nil=>intro pr;simp [expP]
 | cons p t ih =>
  intro pr
  have e : (p :: t).getLastD pr=t.getLastD p:=by cases t <;> rfl
  rw [e,List.cons_append]
  simp only [expP]
  rw [ih p]
  split
  ·rfl
  ·split <;> rfl

/-! ### places with a mark: is it one of the contour's own? -/
def tg (p : S78) (r : Bool) : S100:=⟨⟨p.f0,p.f1⟩,p.f2,r⟩
def un (x : S100) : S78:=⟨x.f0.f0,x.f0.f1,x.f1⟩
theorem un_tg (p : S78) (r : Bool) : un (tg p r)=p:=rfl
def expT : S78 → List S78 → List S100
 | _,[]=>[]
 | pr,p :: t=>if pr.f2=true then tg p true :: expT p t else if p.f2=true then tg p true :: expT p t else tg (midP pr p) false :: tg p true :: expT p t
theorem expT_un (t : List S78) : ∀ pr,(expT pr t).map un=expP pr t:=by
 induction t with
 | nil=>intro pr;rfl
 | cons p t ih =>
  intro pr
  simp only [expT,expP]
  split
  ·rw [List.map_cons,ih,un_tg]
  ·split
   ·rw [List.map_cons,ih,un_tg]
   ·rw [List.map_cons,List.map_cons,ih,un_tg,un_tg]
theorem expT_append (y : List S78) (x : List S78) : ∀ pr,expT pr (x ++ y)=expT pr x ++ expT (x.getLastD pr) y:=by
 induction x with
 | nil=>intro pr;simp [expT]
 | cons p t ih =>
  intro pr
  have e : (p :: t).getLastD pr=t.getLastD p:=by cases t <;> rfl
  rw [e,List.cons_append]
  simp only [expT]
  rw [ih p]
  split
  ·rfl
  ·split <;> rfl
theorem expT_length (t : List S78) : ∀ pr,t.length≤(expT pr t).length∧(expT pr t).length≤2 * t.length:=by
 induction t with
 | nil=>intro pr;simp [expT]
 | cons p t ih =>
  intro pr
  have:=ih p
  simp only [expT,List.length_cons]
  split
  ·simp only [List.length_cons];omega
  ·split <;> simp only [List.length_cons] <;> omega
def okS (x : S100) : Bool:=x.f1 && x.f2
theorem expT_off (t : List S78) : ∀ pr,(∀ p ∈ t,¬ p.f2=true) → ∀ x ∈ expT pr t,okS x=false:=by
 induction t with
 | nil=>intro pr _ x hx;simp [expT] at hx
 | cons p t ih =>
  intro pr h x hx
  have hp:=h p (by simp)
  have hp' : p.f2=false:=by simpa using hp
  have:=ih p (fun q hq=>h q (by simp [hq]))
  simp only [expT,if_neg hp] at hx
  split at hx
  ·rcases List.mem_cons.1 hx with rfl|hx
   ·simp [okS,tg,hp']
   ·exact this x hx
  ·rcases List.mem_cons.1 hx with rfl|hx
   ·simp [okS,tg]
   ·rcases List.mem_cons.1 hx with rfl|hx
    ·simp [okS,tg,hp']
    ·exact this x hx
theorem expP_Bd (t : List S78) : ∀ pr,Bd pr → (∀ p ∈ t,Bd p) → ∀ x ∈ expP pr t,Bd x:=by
 induction t with
 | nil=>intro pr _ _ x hx;simp [expP] at hx
 | cons p t ih =>
  intro pr hpr h x hx
  have hp:=h p (by simp)
  have:=ih p hp (fun q hq=>h q (by simp [hq]))
  simp only [expP] at hx
  split at hx
  ·rcases List.mem_cons.1 hx with rfl|hx
   ·exact hp
   ·exact this x hx
  ·split at hx
   ·rcases List.mem_cons.1 hx with rfl|hx
    ·exact hp
    ·exact this x hx
   ·rcases List.mem_cons.1 hx with rfl|hx
    ·exact Bd_mid hpr hp
    ·rcases List.mem_cons.1 hx with rfl|hx
     ·exact hp
     ·exact this x hx
/-- The first one that is on the curve and the contour's own,or b. -/
def gP (E : List S100) : Nat → Nat → Nat
 | 0,b=>b
 | j+1,b=>gP E j (if okS (E.getD j z100)=true then j else b)
theorem gP_none (E : List S100) (j : Nat) : ∀ b,(∀ i,i < j → okS (E.getD i z100)=false) → gP E j b=b:=by
 induction j with
 | zero=>intro b _;rfl
 | succ j ih =>
  intro b h
  unfold gP
  rw [h j (by omega),if_neg (by simp)]
  exact ih b (fun i hi=>h i (by omega))
theorem gP_some (E : List S100) (f : Nat) (h : ∀ i,i < f → okS (E.getD i z100)=false) (hf : okS (E.getD f z100)=true) (j : Nat) : ∀ b,f < j → gP E j b=f:=by
 induction j with
 | zero=>intro b hj;omega
 | succ j ih =>
  intro b hj
  unfold gP
  by_cases e : f < j
  ·exact ih _ e
  ·obtain rfl : f=j:=by omega
   rw [hf,if_pos rfl]
   exact gP_none E f f h
/-- The ring,walked from the place where the lines begin,and back to it: the same as the lines of the contour begun. -/
theorem ring (l : List S78) (h : 2≤l.length) : ∃ f,f < (expT (l.getD (l.length - 1) z78) l).length∧gP (expT (l.getD (l.length - 1) z78) l) (expT (l.getD (l.length - 1) z78) l).length 0=f ∧
  linesB (begunP l)=W (((expT (l.getD (l.length - 1) z78) l).drop f ++ (expT (l.getD (l.length - 1) z78) l).take (f+1)).map un)∧((expT (l.getD (l.length - 1) z78) l).getD f z100).f1=true:=by
 have hlast : ∀ d,l.getLastD d=l.getD (l.length - 1) z78:=by
  intro d
  rw [List.getLastD_eq_getLast?,List.getLast?_eq_getElem?,List.getD_eq_getElem?_getD,List.getElem?_eq_getElem (by omega)]
  rfl
 have hl:=expT_length l (l.getD (l.length - 1) z78)
 unfold begunP
 cases hf : l.findIdx? (fun x=>x.f2) with
 | some i =>
  have hi:=findIdx_lt hf
  rw [List.findIdx?_eq_some_iff_getElem] at hf
  obtain ⟨_,hon,hoff⟩:=hf
  have e : l=l.take i ++ l[i] :: l.drop (i+1):=by rw [← List.drop_eq_getElem_cons hi,List.take_append_drop]
  have hdrop:=List.drop_eq_getElem_cons hi
  have htake:=List.take_succ_eq_append_getElem hi
  have hne : ∀ p ∈ l.take i,¬ p.f2=true:=by
   intro p hp
   obtain ⟨j,hj,rfl⟩:=List.getElem_of_mem hp
   rw [List.getElem_take]
   exact hoff j (by simp at hj;omega)
  generalize l[i]=a at *
  generalize hA : expT (l.getD (l.length - 1) z78) (l.take i)=A
  generalize hB : expT a (l.drop (i+1))=B
  have hAP : expP (l.getD (l.length - 1) z78) (l.take i)=A.map un:=by rw [← hA,expT_un]
  have hBP : expP a (l.drop (i+1))=B.map un:=by rw [← hB,expT_un]
  have hE : expT (l.getD (l.length - 1) z78) l=A ++ tg a true :: B:=by
   conv=>lhs;arg 2;rw [e]
   rw [expT_append,hA]
   congr 1
   simp only [expT,hon,if_true,hB]
   split <;> rfl
  have hAoff : ∀ x ∈ A,okS x=false:=by rw [← hA];exact expT_off _ _ hne
  rw [hE]
  have hget : (A ++ tg a true :: B).getD A.length z100=tg a true:=by
   rw [List.getD_eq_getElem?_getD,List.getElem?_append_right (by omega)];simp
  refine ⟨A.length,by simp,?_,?_,by rw [hget];exact hon⟩
  ·refine gP_some _ _ (fun j hj=>?_) (by rw [hget];simp [okS,tg,hon]) _ _ (by simp)
   rw [List.getD_eq_getElem?_getD,List.getElem?_append_left hj,List.getElem?_eq_getElem hj]
   exact hAoff _ (List.getElem_mem _)
  ·simp only []
   rw [hdrop,htake]
   simp only [List.cons_append,linesB]
   rw [(linesP_W _).1 _ hon,← List.append_assoc,expP_append,expP_append,hBP]
   have hlt : (l.drop (i+1)).getLastD a=l.getD (l.length - 1) z78:=by
    rw [← hlast a]
    conv=>rhs;rw [e]
    cases hd : l.drop (i+1) with
    | nil=>simp
    | cons q t=>simp only [List.getLastD_eq_getLast?,List.getLast?_append,List.getLast?_cons_cons,List.getLast?_cons];simp
   rw [hlt,hAP]
   have hlo : ∀ z,expP z [a]=[a]:=by
    intro z;rw [expP_on _ _ _ (.inr hon)];rfl
   rw [hlo]
   rw [List.drop_left' rfl,List.take_length_add_append]
   simp [un_tg]
 | none =>
  have hoff : ∀ p ∈ l,¬ p.f2=true:=by
   intro p hp
   rw [List.findIdx?_eq_none_iff] at hf
   simpa using hf p hp
  generalize hz : l.getD (l.length - 1) z78=z at *
  have hzoff : ¬ z.f2=true:=by
   rw [← hz,List.getD_eq_getElem?_getD,List.getElem?_eq_getElem (by omega)]
   exact hoff _ (List.getElem_mem _)
  cases l with
  | nil=>simp at h
  | cons p t =>
   have hp:=hoff p (by simp)
   have hE : expT z (p :: t)=tg (midP z p) false :: tg p true :: expT p t:=by
    simp only [expT];rw [if_neg hzoff,if_neg hp]
   have hE' : (expT z (p :: t)).map un=midP z p :: p :: expP p t:=by
    rw [hE];simp only [List.map_cons,un_tg,expT_un]
   refine ⟨0,by omega,gP_none _ _ _ (fun i hi=>?_),?_,by rw [hE];rfl⟩
   ·rw [List.getD_eq_getElem?_getD,List.getElem?_eq_getElem hi]
    exact expT_off _ _ hoff _ (List.getElem_mem _)
   ·rw [List.drop_zero,List.map_append,hE',hE]
    simp only [List.getD_cons_zero,List.cons_append,List.nil_append,linesB,List.take_succ_cons,List.take_zero,List.map_cons,List.map_nil,un_tg]
    rw [(linesP_W _).1 _ rfl,expP_on _ _ _ (.inl rfl),expP_append,expP_on _ _ _ (.inr rfl)]
    rfl
/-! ### the reference's walk round the ring -/
def allT (T : List S78) : List S100:=T.map (fun p=>tg p true)
theorem allT_length (T : List S78) : (allT T).length=T.length:=by unfold allT;rw [List.length_map]
theorem rdT (E : List S100) (j : Nat) : rd_T100 E (j : Int)=E.getD j z100:=rfl
theorem allT_get (T : List S78) (j : Nat) (h : j < T.length) : rd_T100 (allT T) (j : Int)=tg (T.getD j z78) true:=by
 rw [rdT,List.getD_eq_getElem?_getD,List.getD_eq_getElem?_getD]
 unfold allT
 simp [h]
theorem c0_l (m : Aff) (l : List S36) (hl : l.length≤1000) {r : List S34} (hk : Ev (fun k=>versalref14_contour.l1 k (l.length : Int) (allT (l.map (tp m))) [] 0) r) (d : Nat) : ∀ (j : Nat),j+d=l.length →
  Ev (fun k=>versalref14_contour.l0 k l (l.length : Int) ((allT (l.map (tp m))).take j) (j : Int) m.xx m.yx m.xy m.yy m.dx m.dy) r:=by
 induction d with
 | zero =>
  intro j hj
  rw [List.take_of_length_le (by rw [allT_length,List.length_map];omega)]
  refine Ev.step (fun k=>?_) hk
  simp only [versalref14_contour.l0]
  rw [if_neg (by omega)]
 | succ d ih =>
  intro j hj
  have hr:=rd36 l j (by omega)
  have hlen : (allT (l.map (tp m))).length=l.length:=by rw [allT_length,List.length_map]
  have e : (allT (l.map (tp m))).take (j+1)=(allT (l.map (tp m))).take j ++ [tg (tp m (rd_T36 l j)) true]:=by
   rw [List.take_succ_eq_append_getElem (by omega),hr]
   simp [allT]
  have:=ih (j+1) (by omega)
  rw [e] at this
  refine Ev.step (fun k=>?_) this
  simp only [versalref14_contour.l0]
  rw [if_pos (by omega),if_pos (by omega),if_pos (by omega)]
  simp only [rwhole_f,rapply_f,Option.bind_some]
  rw [if_pos (by rw [List.length_take];omega),w64 (by omega) (by omega)]
  push_cast
  rfl
theorem middle_f {a b : S78} (h : Bd a) (h' : Bd b) : versalref14_middle.f a.f0 a.f1 b.f0 b.f1=some ((midP a b).f0,(midP a b).f1):=by
 obtain ⟨⟨h1,h2⟩,h3,h4⟩:=h
 obtain ⟨⟨h5,h6⟩,h7,h8⟩:=h'
 unfold versalref14_middle.f midP
 rw [w64 (x:=a.f0+b.f0) (by omega) (by omega),w64 (x:=a.f1+b.f1) (by omega) (by omega),floor_f _ _ (by omega) (by omega) (by omega),floor_f _ _ (by omega) (by omega) (by omega)]
 rfl
def prevAt (T : List S78) (j : Nat) : S78:=T.getD (if j=0 then T.length - 1 else j - 1) z78
theorem c1_step (T : List S78) (hl : T.length≤1000) (hb : ∀ p ∈ T,Bd p) (out : List S100) (ho : out.length≤100000) (j : Nat) (hj : j < T.length) (k : Nat) :
  versalref14_contour.l1 (k+1) (T.length : Int) (allT T) out (j : Int)=versalref14_contour.l1 k (T.length : Int) (allT T) (out ++ (if (prevAt T j).f2=true then [tg (T.getD j z78) true] else if (T.getD j z78).f2=true then [tg (T.getD j z78) true] else [tg (midP (prevAt T j) (T.getD j z78)) false,tg (T.getD j z78) true])) ((j+1 : Nat) : Int):=by
 have hq : Bd (prevAt T j):=getD_Bd hb (by split <;> omega)
 have hp : Bd (T.getD j z78):=getD_Bd hb hj
 have e0:=allT_get T j hj
 have e1 : rd_T100 (allT T) (((if j=0 then T.length - 1 else j - 1 : Nat) : Int))=tg (prevAt T j) true:=allT_get T _ (by split <;> omega)
 have hix:=prev_ix j T.length hj (by omega)
 have hw : wrap64 ((j : Int)+1)=((j+1 : Nat) : Int):=by rw [w64 (by omega) (by omega)];push_cast;rfl
 simp only [versalref14_contour.l1]
 rw [hix,allT_length,if_pos (by omega),if_neg (by omega),if_pos (Int.natCast_nonneg _),if_pos (by split <;> omega),e1,e0,hw]
 generalize prevAt T j=q at *
 generalize T.getD j z78=p at *
 by_cases h1 : q.f2=true
 ·rw [if_pos (show (tg q true).f1=true from h1),if_pos h1,if_pos (by omega),if_pos (by omega),if_pos (by omega)]
 ·rw [if_neg (show ¬ (tg q true).f1=true from h1),if_neg h1,if_pos (by omega),if_pos (by omega)]
  by_cases h2 : p.f2=true
  ·rw [if_pos (show (tg p true).f1=true from h2),if_pos h2,if_pos (by omega)]
  ·rw [if_neg (show ¬ (tg p true).f1=true from h2),if_neg h2]
   have em : versalref14_middle.f (tg q true).f0.f0 (tg q true).f0.f1 (tg p true).f0.f0 (tg p true).f0.f1=some ((midP q p).f0,(midP q p).f1):=middle_f hq hp
   rw [em]
   simp only [Option.bind_some]
   rw [if_pos (by omega),if_pos (by rw [List.length_append,List.length_singleton];omega),List.append_assoc]
   rfl
theorem c1_l (T : List S78) (hl : T.length≤1000) (hb : ∀ p ∈ T,Bd p) {r : List S34} (d : Nat) : ∀ (j : Nat) (out : List S100),j+d=T.length → out.length≤2 * j →
  Ev (fun k=>versalref14_contour.l2 k (out ++ expT (prevAt T j) (T.drop j)) 0 (wrap64 (((out ++ expT (prevAt T j) (T.drop j)).length : Int) - 1))) r →
  Ev (fun k=>versalref14_contour.l1 k (T.length : Int) (allT T) out (j : Int)) r:=by
 induction d with
 | zero =>
  intro j out hj ho hk
  rw [List.drop_of_length_le (by omega)] at hk
  simp only [expT,List.append_nil] at hk
  refine Ev.step (fun k=>?_) hk
  simp only [versalref14_contour.l1]
  rw [if_neg (by omega)]
 | succ d ih =>
  intro j out hj ho hk
  have hpn : prevAt T (j+1)=T.getD j z78:=by unfold prevAt;rw [if_neg (by omega)];rfl
  have hdr : T.drop j=T.getD j z78 :: T.drop (j+1):=drop_rd T z78 j (by omega)
  refine Ev.step (fun k=>c1_step T hl hb out (by omega) j (by omega) k) (ih (j+1) _ (by omega) ?_ ?_)
  ·rw [List.length_append];split
   ·rw [List.length_singleton];omega
   ·split
    ·rw [List.length_singleton];omega
    ·simp only [List.length_cons,List.length_nil];omega
  ·rw [hpn]
   rw [hdr] at hk
   have e : out ++ expT (prevAt T j) (T.getD j z78 :: T.drop (j+1))=out ++ (if (prevAt T j).f2=true then [tg (T.getD j z78) true] else if (T.getD j z78).f2=true then [tg (T.getD j z78) true] else [tg (midP (prevAt T j) (T.getD j z78)) false,tg (T.getD j z78) true]) ++ expT (T.getD j z78) (T.drop (j+1)):=by
    rw [List.append_assoc]
    congr 1
    simp only [expT]
    split
    ·rfl
    ·split <;> rfl
   rw [← e]
   exact hk
theorem c2_l (E : List S100) (hE : E.length≤100000) {r : List S34} (j : Nat) : ∀ b : Nat,j≤E.length → Ev (fun k=>versalref14_contour.l3 k E ((gP E j b : Nat) : Int) [] 0) r → Ev (fun k=>versalref14_contour.l2 k E (b : Int) ((j : Int) - 1)) r:=by
 induction j with
 | zero =>
  intro b hj hk
  refine Ev.step (fun k=>?_) hk
  simp only [versalref14_contour.l2]
  rw [if_neg (by omega)]
  rfl
 | succ j ih =>
  intro b hj hk
  have hw : wrap64 (((j+1 : Nat) : Int) - 1 - 1)=(j : Int) - 1:=by rw [w64 (by omega) (by omega)];omega
  have hj1 : ((j+1 : Nat) : Int) - 1=(j : Int):=by omega
  have:=ih (if okS (E.getD j z100)=true then j else b) (by omega) hk
  refine Ev.step (fun k=>?_) this
  simp only [versalref14_contour.l2]
  rw [hw,hj1,if_pos (by omega),if_pos (by omega),if_pos (by omega),rdT]
  unfold okS
  generalize E.getD j z100=x
  by_cases h1 : x.f1=true
  ·rw [if_pos h1]
   by_cases h2 : x.f2=true
   ·rw [if_pos h2,if_pos (by rw [h1,h2];rfl)]
   ·rw [if_neg h2,if_neg (by rw [h1];simpa using h2)]
  ·rw [if_neg h1,if_neg (by simp [h1])]
theorem ix0 (f j N : Nat) (hf : f≤100000) (hj : j≤100000) : Int.tmod (wrap64 ((f : Int)+(j : Int))) (N : Int)=(((f+j) % N : Nat) : Int):=by
 rw [w64 (by omega) (by omega),Int.tmod_eq_emod_of_nonneg (by omega)];push_cast;rfl
theorem ix1 (f j c N : Nat) (hf : f≤100000) (hj : j≤100000) (hc : c≤10) : Int.tmod (wrap64 (wrap64 ((f : Int)+(j : Int))+(c : Int))) (N : Int)=(((f+(j+c)) % N : Nat) : Int):=by
 rw [w64 (x:=(f : Int)+(j : Int)) (by omega) (by omega),w64 (by omega) (by omega),Int.tmod_eq_emod_of_nonneg (by omega)];push_cast;rw [Int.add_assoc]
theorem c3_step (E : List S100) (hE : E.length≤100000) (f j : Nat) (hf : f < E.length) (hj : j < E.length) (out : List S34) (ho : out.length≤1000000) (k : Nat) :
  versalref14_contour.l3 (k+1) E (f : Int) out (j : Int)=if (E.getD ((f+(j+1)) % E.length) z100).f1=true then versalref14_contour.l3 k E (f : Int) (out ++ [segP (un (E.getD ((f+j) % E.length) z100)) (un (E.getD ((f+(j+1)) % E.length) z100))]) ((j+1 : Nat) : Int)
   else (versalref14_Curve.f k (un (E.getD ((f+j) % E.length) z100)).f0 (un (E.getD ((f+j) % E.length) z100)).f1 (un (E.getD ((f+(j+1)) % E.length) z100)).f0 (un (E.getD ((f+(j+1)) % E.length) z100)).f1 (un (E.getD ((f+(j+2)) % E.length) z100)).f0 (un (E.getD ((f+(j+2)) % E.length) z100)).f1).bind fun t=>if out.length+t.length < 4398046511104 then versalref14_contour.l3 k E (f : Int) (out ++ t) ((j+2 : Nat) : Int) else none:=by
 have hw1 : wrap64 ((j : Int)+1)=((j+1 : Nat) : Int):=by rw [w64 (by omega) (by omega)];push_cast;rfl
 have hw2 : wrap64 ((j : Int)+2)=((j+2 : Nat) : Int):=by rw [w64 (by omega) (by omega)];push_cast;rfl
 have i0:=ix0 f j E.length (by omega) (by omega)
 have i1:=ix1 f j 1 E.length (by omega) (by omega) (by omega)
 have i2:=ix1 f j 2 E.length (by omega) (by omega) (by omega)
 have hN : 0 < E.length:=by omega
 have l0:=Nat.mod_lt (f+j) hN
 have l1:=Nat.mod_lt (f+(j+1)) hN
 have l2:=Nat.mod_lt (f+(j+2)) hN
 simp only [versalref14_contour.l3]
 rw [i0,hw1,hw2]
 rw [show wrap64 (wrap64 ((f : Int)+(j : Int))+1)=wrap64 (wrap64 ((f : Int)+(j : Int))+((1 : Nat) : Int)) from rfl,show wrap64 (wrap64 ((f : Int)+(j : Int))+2)=wrap64 (wrap64 ((f : Int)+(j : Int))+((2 : Nat) : Int)) from rfl]
 rw [ix1 f j 1 E.length (by omega) (by omega) (by omega),ix1 f j 2 E.length (by omega) (by omega) (by omega)]
 rw [rdT E ((f+j) % E.length),rdT E ((f+(j+1)) % E.length),rdT E ((f+(j+2)) % E.length)]
 rw [if_pos (by omega),if_neg (by omega),if_pos (by omega),if_pos (by omega),if_pos (by omega),if_pos (by omega),if_pos (show out.length < 4398046511104 by omega)]
 by_cases h : (E.getD ((f+(j+1)) % E.length) z100).f1=true
 ·rw [if_pos h,if_pos h];rfl
 ·rw [if_neg h,if_neg h,if_pos (by omega),if_pos (by omega)];rfl
theorem R_get (E : List S100) (f j : Nat) (hf : f < E.length) (hj : j≤E.length) : (E.drop f ++ E.take (f+1)).getD j z100=E.getD ((f+j) % E.length) z100:=by
 rw [List.getD_eq_getElem?_getD,List.getD_eq_getElem?_getD]
 congr 1
 by_cases h : j < E.length - f
 ·rw [List.getElem?_append_left (by rw [List.length_drop];exact h),List.getElem?_drop,Nat.mod_eq_of_lt (by omega)]
 ·rw [List.getElem?_append_right (by rw [List.length_drop];omega),List.length_drop,List.getElem?_take,if_pos (by omega)]
  congr 1
  rw [show f+j=(j - (E.length - f))+E.length by omega,Nat.add_mod_right,Nat.mod_eq_of_lt (by omega)]
theorem drop_cons (R : List S100) (j : Nat) (h : j < R.length) : R.drop j=R.getD j z100 :: R.drop (j+1):=drop_rd R z100 j h
theorem W_one (a : S78) : W [a]=[]:=by simp [W]
theorem C_Sm {x : Int} (h : Sm x) : C x=x:=C_id h.1 h.2
theorem c3_l (E : List S100) (hE : E.length≤10000) (f : Nat) (hf : f < E.length) (hon : (E.getD f z100).f1=true) (hb : ∀ x ∈ E,Bd (un x)) (d : Nat) : ∀ (j : Nat) (out : List S34),j+d=E.length → out.length≤8 * j →
  Ev (fun k=>versalref14_contour.l3 k E (f : Int) out (j : Int)) (out ++ W (((E.drop f ++ E.take (f+1)).drop j).map un)):=by
 have hRl : (E.drop f ++ E.take (f+1)).length=E.length+1:=by rw [List.length_append,List.length_drop,List.length_take];omega
 have hN : 0 < E.length:=by omega
 have bd : ∀ i,Bd (un (E.getD (i % E.length) z100)):=by
  intro i
  have:=Nat.mod_lt i hN
  rw [List.getD_eq_getElem?_getD,List.getElem?_eq_getElem this]
  exact hb _ (List.getElem_mem _)
 induction d using Nat.strongRecOn with
 | _ d ih =>
  intro j out hj ho
  have hR:=fun i h=>R_get E f i hf h
  generalize hRR : E.drop f ++ E.take (f+1)=R at *
  by_cases h0 : j=E.length
  ·refine Ev.step (f:=fun _=>some out) (fun k=>?_) ?_
   ·simp only [versalref14_contour.l3]
    rw [if_neg (by omega)]
   ·rw [drop_cons R j (by omega),List.drop_of_length_le (by omega)]
    simp only [List.map_cons,List.map_nil]
    rw [W_one,List.append_nil]
    exact Ev.now out
  ·have hst:=fun k=>c3_step E (by omega) f j hf (by omega) out (by omega) k
   rw [drop_cons R j (by omega),drop_cons R (j+1) (by omega),hR j (by omega),hR (j+1) (by omega),List.map_cons,List.map_cons]
   by_cases hb1 : (E.getD ((f+(j+1)) % E.length) z100).f1=true
   ·have:=ih (d - 1) (by omega) (j+1) (out ++ [segP (un (E.getD ((f+j) % E.length) z100)) (un (E.getD ((f+(j+1)) % E.length) z100))]) (by omega) (by rw [List.length_append,List.length_singleton];omega)
    rw [List.append_assoc,List.singleton_append] at this
    rw [W_on _ _ _ hb1]
    rw [drop_cons R (j+1) (by omega),hR (j+1) (by omega),List.map_cons] at this
    simp only [if_pos hb1] at hst
    exact Ev.step hst this
   ·have hj2 : j+1 < E.length:=by
     rcases Nat.lt_or_ge (j+1) E.length with h|h
     ·exact h
     ·exfalso
      apply hb1
      rw [show f+(j+1)=f+E.length by omega,Nat.add_mod_right,Nat.mod_eq_of_lt hf]
      exact hon
    have hc:=rcurve_f (un (E.getD ((f+j) % E.length) z100)).f0 (un (E.getD ((f+j) % E.length) z100)).f1 (un (E.getD ((f+(j+1)) % E.length) z100)).f0 (un (E.getD ((f+(j+1)) % E.length) z100)).f1 (un (E.getD ((f+(j+2)) % E.length) z100)).f0 (un (E.getD ((f+(j+2)) % E.length) z100)).f1
    rw [C_Sm (bd _).1,C_Sm (bd _).2,C_Sm (bd _).1,C_Sm (bd _).2,C_Sm (bd _).1,C_Sm (bd _).2] at hc
    have:=ih (d - 2) (by omega) (j+2) (out ++ curP (un (E.getD ((f+j) % E.length) z100)) (un (E.getD ((f+(j+1)) % E.length) z100)) (un (E.getD ((f+(j+2)) % E.length) z100))) (by omega) (by rw [List.length_append];simp only [curP,curveP_length];omega)
    rw [drop_cons R (j+2) (by omega),hR (j+2) (by omega),List.map_cons] at this ⊢
    rw [W_off _ _ _ _ hb1,← List.append_assoc]
    simp only [if_neg hb1] at hst
    refine Ev.step hst (Ev.bind hc (Ev.congr (fun k=>?_) this))
    rw [if_pos (by rw [curveP_length];omega)]
    rfl
theorem rcontour_f (m : Aff) (l : List S36) (hl : l.length≤900) : Ev (fun k=>versalref14_contour.f k l m.xx m.yx m.xy m.yy m.dx m.dy) (segsOf m l):=by
 unfold versalref14_contour.f
 by_cases h2 : 2≤l.length
 ·have hT : (l.map (tp m)).length=l.length:=List.length_map _
  have hb : ∀ p ∈ l.map (tp m),Bd p:=by
   intro p hp
   obtain ⟨q,_,rfl⟩:=List.mem_map.1 hp
   exact Bd_tp m q
  obtain ⟨f,hf,hg,hW,hon⟩:=ring (l.map (tp m)) (by omega)
  have he:=expT_length (l.map (tp m)) ((l.map (tp m)).getD ((l.map (tp m)).length - 1) z78)
  have hEb : ∀ x ∈ expT ((l.map (tp m)).getD ((l.map (tp m)).length - 1) z78) (l.map (tp m)),Bd (un x):=by
   intro x hx
   refine expP_Bd (l.map (tp m)) ((l.map (tp m)).getD ((l.map (tp m)).length - 1) z78) (getD_Bd hb (by omega)) hb _ ?_
   rw [← expT_un]
   exact List.mem_map_of_mem hx
  have h3:=c3_l _ (by omega) f hf hon hEb _ 0 [] (Nat.zero_add _) (by simp)
  rw [List.nil_append,List.drop_zero,← hW] at h3
  have h2':=c2_l (expT ((l.map (tp m)).getD ((l.map (tp m)).length - 1) z78) (l.map (tp m))) (by omega) _ 0 (Nat.le_refl _) (by rw [hg];exact h3)
  have h1:=c1_l (l.map (tp m)) (by omega) hb (r:=linesB (begunP (l.map (tp m)))) (l.map (tp m)).length 0 [] (by omega) (by simp) (by
   rw [List.nil_append,List.drop_zero]
   have ep : prevAt (l.map (tp m)) 0=(l.map (tp m)).getD ((l.map (tp m)).length - 1) z78:=rfl
   rw [ep,w64 (by omega) (by omega)]
   exact h2')
  rw [hT] at h1
  have h0:=c0_l m l (by omega) h1 l.length 0 (by omega)
  refine Ev.congr (fun k=>?_) (show Ev _ (segsOf m l) by unfold segsOf;rw [if_pos h2];exact h0)
  rw [if_neg (by omega)]
  rfl
 ·refine Ev.congr (f:=fun _=>some []) (fun k=>?_) (by unfold segsOf;rw [if_neg h2];exact Ev.now [])
  rw [if_pos (by omega)]
theorem rsegs_l (m : Aff) (ls : List (List S36)) (hn : ls.length≤1000) (hl : ∀ l ∈ ls,l.length≤900) (d : Nat) : ∀ (j : Nat) (out : List S34),j+d=ls.length → out.length≤10000+7300 * j →
  Ev (fun k=>versalref14_Segs.l0 k ls out (j : Int) m.xx m.yx m.xy m.yy m.dx m.dy) (out ++ ((ls.drop j).map (segsOf m)).flatten):=by
 induction d with
 | zero =>
  intro j out hj ho
  refine Ev.step (f:=fun _=>some out) (fun k=>?_) (by rw [List.drop_of_length_le (by omega)];simpa using Ev.now out)
  simp only [versalref14_Segs.l0]
  rw [if_neg (by omega)]
 | succ d ih =>
  intro j out hj ho
  have hdr:=drop_rd ls ([] : List S36) j (by omega)
  have hmem : rd_L6 ls j ∈ ls:=by rw [rdL6 ls j (by omega)];exact List.getElem_mem _
  have hlen:=hl _ hmem
  have hs:=segsOf_length m _ hlen
  rw [hdr]
  change Ev _ (out ++ ((rd_L6 ls j :: ls.drop (j+1)).map (segsOf m)).flatten)
  have:=ih (j+1) (out ++ segsOf m (rd_L6 ls j)) (by omega) (by rw [List.length_append];omega)
  rw [List.append_assoc] at this
  rw [List.map_cons,List.flatten_cons]
  generalize hgl : rd_L6 ls (j : Int)=l at *
  have hw : wrap64 ((j : Int)+1)=((j+1 : Nat) : Int):=by rw [w64 (by omega) (by omega)];push_cast;rfl
  refine Ev.step (f:=fun k=>(versalref14_contour.f k l m.xx m.yx m.xy m.yy m.dx m.dy).bind fun t=>if out.length+t.length < 4398046511104 then versalref14_Segs.l0 k ls (out ++ t) ((j+1 : Nat) : Int) m.xx m.yx m.xy m.yy m.dx m.dy else none) (fun k=>?_) ?_
  ·simp only [versalref14_Segs.l0]
   rw [if_pos (by omega),if_pos (by omega),hw,hgl]
  refine Ev.bind (rcontour_f m l hlen) (Ev.congr (fun k=>?_) this)
  rw [if_pos (by omega)]
theorem rsegs_f (m : Aff) (ls : List (List S36)) (hn : ls.length≤1000) (hl : ∀ l ∈ ls,l.length≤900) : Ev (fun k=>versalref14_Segs.f k ls m.xx m.yx m.xy m.yy m.dx m.dy) ((ls.map (segsOf m)).flatten):=by
 have:=rsegs_l m ls hn hl ls.length 0 [] (by omega) (by simp)
 simpa [versalref14_Segs.f] using this
theorem same_l (l : List S34) (hl : l.length≤1000000000) (d : Nat) : ∀ j : Nat,j+d=l.length → Ev (fun k=>versalref14_SameSegs.l0 k l l (j : Int)) true:=by
 induction d with
 | zero =>
  intro j hj
  refine Ev.step (f:=fun _=>some true) (fun k=>?_) (Ev.now true)
  simp only [versalref14_SameSegs.l0]
  rw [if_neg (by omega)]
 | succ d ih =>
  intro j hj
  have hw : wrap64 ((j : Int)+1)=((j+1 : Nat) : Int):=by rw [w64 (by omega) (by omega)];push_cast;rfl
  refine Ev.step (fun k=>?_) (ih (j+1) (by omega))
  simp only [versalref14_SameSegs.l0]
  rw [if_pos (by omega),if_pos (by omega),if_pos (by omega),if_neg (by simp),hw]
theorem same_f (l : List S34) (hl : l.length≤1000000000) : Ev (fun k=>versalref14_SameSegs.f k l l) true:=by
 unfold versalref14_SameSegs.f
 simp only [if_true]
 exact same_l l hl l.length 0 (by omega)
theorem flat_len (m : Aff) (ls : List (List S36)) (hl : ∀ l ∈ ls,l.length≤900) : ((ls.map (segsOf m)).flatten).length≤7300 * ls.length:=by
 induction ls with
 | nil=>simp
 | cons l t ih =>
  have:=ih (fun x hx=>hl x (by simp [hx]))
  have h1:=segsOf_length m l (hl l (by simp))
  simp only [List.map_cons,List.flatten_cons,List.length_append,List.length_cons]
  omega
theorem j2_f (m : Aff) (ls : List (List S36)) (hn : ls.length≤1000) (hl : ∀ l ∈ ls,l.length≤900) (a b c d e f : Int) : Ev (fun k=>versallaw17_FlatTells.j2 k ls a b c d e f m.xx m.yx m.xy m.yy m.dx m.dy) true:=by
 have hlen:=flat_len m ls hl
 refine Ev.step (fun k=>by rw [versallaw17_FlatTells.j2]) ?_
 refine Ev.bind known_f ?_
 simp only [if_true]
 refine Ev.bind (segs_f m ls hn hl) (Ev.bind (rsegs_f m ls hn hl) (Ev.bind (same_f _ (by omega)) ?_))
 simp only [if_true]
 refine Ev.bind (Curve_f a b c d e f) (Ev.bind (rcurve_f a b c d e f) (Ev.bind (same_f _ (by rw [curveP_length];omega)) (Ev.now true)))
theorem j0_f (m : Aff) (ls : List (List S36)) (hn : ls.length≤40) (hl : ∀ l ∈ ls,l.length≤40∧1≤l.length) (x a b c d e f : Int) : Ev (fun k=>versallaw17_FlatTells.j0 k x ls a b c d e f m.xx m.yx m.xy m.yy m.dx m.dy) true:=by
 have plain:=j2_f m ls (by omega) (fun l h=>by have:=(hl l h).1;omega) a b c d e f
 have off : Ev (fun k=>versallaw17_FlatTells.j1 k x ls false a b c d e f m.xx m.yx m.xy m.yy m.dx m.dy) true:=by
  refine Ev.step (fun k=>?_) plain
  simp only [versallaw17_FlatTells.j1]
  rw [if_neg (by simp)]
 by_cases h6 : Int.tmod x 7=6
 ·by_cases h0 : (ls.length : Int) > 0
  ·have hmem : rd_L6 ls 0 ∈ ls:=by
    have:=rdL6 ls 0 (by omega)
    rw [show ((0 : Nat) : Int)=0 from rfl] at this
    rw [this];exact List.getElem_mem _
   have hm:=hl _ hmem
   have turned:=j2_f m (ls.set (0 : Int).toNat ((rd_L6 ls 0).set (0 : Int).toNat (⟨x,(rd_T36 (rd_L6 ls 0) 0).f1,(rd_T36 (rd_L6 ls 0) 0).f2⟩ : S36))) (by rw [List.length_set];omega) (fun l h=>by
    rcases List.mem_or_eq_of_mem_set h with h|h
    ·have:=(hl l h).1;omega
    ·rw [h,List.length_set];omega) a b c d e f
   refine Ev.step (f:=fun k=>versallaw17_FlatTells.j1 k x ls true a b c d e f m.xx m.yx m.xy m.yy m.dx m.dy) (fun k=>?_) (Ev.step (fun k=>?_) turned)
   ·simp only [versallaw17_FlatTells.j0]
    rw [if_pos h6,decide_eq_true h0]
   ·simp only [versallaw17_FlatTells.j1]
    rw [if_pos trivial,if_pos (by omega),if_pos (by omega)]
  ·refine Ev.step (fun k=>?_) off
   simp only [versallaw17_FlatTells.j0]
   rw [if_pos h6,decide_eq_false h0]
 ·refine Ev.step (fun k=>?_) off
  simp only [versallaw17_FlatTells.j0]
  rw [if_neg h6]
theorem FlatTells_f (l : List Int) (hl : l.length≤1000000000000000) (a b c d e f : Int) (g : Bool) (h i j q r s t : Int) : Ev (fun k=>versallaw17_FlatTells.f k l a b c d e f g h i j q r s t) true:=by
 obtain ⟨m,hm⟩:=affine_f a b c d e f
 obtain ⟨ls,hls,h1,h2⟩:=contours_f l hl
 unfold versallaw17_FlatTells.f
 rw [hm,one_f]
 refine Ev.bind hls ?_
 simp only [Option.bind_some]
 cases g with
 | true =>
  simp only [if_true]
  exact j0_f oneA ls h1 h2 t h i j q r s
 | false =>
  simp only [Bool.false_eq_true,if_false]
  exact j0_f m ls h1 h2 t h i j q r s
theorem FlatTells : versallaw17_FlatTells.Pure:=fun l0 a b c d e f g h i j k l m n _ hb _ _ _ _ _ _ _ _ _ _ _ _ _ _=>(FlatTells_f l0 (by omega) a b c d e f g h i j k l m n).rounds
end Go.Proofs.Ytjmflccbddjlhaa.Pure
