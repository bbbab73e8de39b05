/- Plain laws of contours and their lines, for both statements. -/
import Derived.Test.YtjmflccbddjlhaaPFmx7
import Derived.Test.YtjmflccbddjlhaaPFmx8
import Derived.Test.YtjmflccbddjlhaaPFmx9
import Derived.Test.YtjmflccbddjlhaaPFmx10
set_option linter.unusedVariables false
set_option linter.unusedSimpArgs false
namespace Go.Proofs.Ytjmflccbddjlhaa.Pure
open Go.RowKit Go.Proofs.Ytjmflccbddjlhaa.PFm Go.Proofs.YtjmflccbddjlhaaW.PrintWords Go.Proofs.YtjmflccbddjlhaaW.PrintLast Go.Proofs.YtjmflccbddjlhaaW.PrintMore
/-! ### numbers -/
def C (x : Int) : Int:=mx (-2147483647) (mn x 2147483647)
theorem C_lo (x : Int) : -2147483647≤C x:=by unfold C mx mn;split <;> split <;> omega
theorem C_hi (x : Int) : C x≤2147483647:=by unfold C mx mn;split <;> split <;> omega
theorem C_id {x : Int} (h : -2147483647≤x) (h' : x≤2147483647) : C x=x:=by unfold C mx mn;split <;> split <;> omega
theorem C_C (x : Int) : C (C x)=C x:=C_id (C_lo x) (C_hi x)
theorem clip_f (x : Int) : fixed_Clip.f x=some (C x):=rfl
theorem rclip_f (x : Int) : versalref2_Clip.f x=some (C x):=by
 show some (mx (-2147483647) (mn 2147483647 x))=some (C x)
 congr 1
 unfold C mx mn
 (repeat' split) <;> omega
theorem w64 {x : Int} (h : -9223372036854775808≤x) (h' : x≤9223372036854775807) : wrap64 x=x:=by unfold wrap64;omega
theorem prod_bd (a b : Int) (m n : Nat) (ha : a.natAbs≤m) (hb : b.natAbs≤n) : (a * b).natAbs≤m * n:=by
 rw [Int.natAbs_mul];exact Nat.mul_le_mul ha hb
theorem CC_bd (a b : Int) : -4611686014132420609≤C a * C b∧C a * C b≤4611686014132420609:=by
 have:=prod_bd (C a) (C b) 2147483647 2147483647 (by have:=C_lo a;have:=C_hi a;omega) (by have:=C_lo b;have:=C_hi b;omega)
 omega
theorem tdm (a b : Int) (hb : 0 < b) : (Int.tmod a b < 0 → Int.tdiv a b - 1=a / b)∧(¬ Int.tmod a b < 0 → Int.tdiv a b=a / b):=by
 have h1:=Int.emod_nonneg a (show b ≠ 0 by omega)
 have h2:=Int.emod_lt_of_pos a hb
 rw [Int.tmod_eq_emod,Int.tdiv_eq_ediv]
 by_cases h : 0≤a ∨ b ∣ a
 ·rw [if_pos h,if_pos h]
  exact ⟨fun h=>by omega,fun _=>by omega⟩
 ·rw [if_neg h,if_neg h,Int.sign_eq_one_of_pos hb]
  exact ⟨fun _=>by omega,fun h=>by omega⟩
theorem ediv_bd (a b : Int) (hb : 1 < b) (h : -9223372036854775808≤a) (h' : a≤9223372036854775807) : -9223372036854775807≤a / b∧a / b≤9223372036854775806:=by
 constructor
 ·have : -4611686018427387904≤a / b:=by
   rw [Int.le_ediv_iff_mul_le (by omega)]
   have : -4611686018427387904 * b≤-4611686018427387904 * 2:=Int.mul_le_mul_of_nonpos_left (by omega) (by omega)
   omega
  omega
 ·have : a / b≤4611686018427387904:=by
   have : a / b < 4611686018427387905:=by
    rw [Int.ediv_lt_iff_lt_mul (by omega)]
    have : 4611686018427387905 * 2≤4611686018427387905 * b:=Int.mul_le_mul_of_nonneg_left (by omega) (by omega)
    omega
   omega
  omega
theorem floor_f (a b : Int) (hb : 1 < b) (h : -9223372036854775808≤a) (h' : a≤9223372036854775807) : versalref2_Floor.f a b=some (a / b):=by
 unfold versalref2_Floor.f
 rw [if_neg (by omega)]
 have hd:=ediv_bd a b hb h h'
 obtain ⟨h1,h2⟩:=tdm a b (by omega)
 by_cases hc : Int.tmod a b < 0
 ·rw [if_pos hc,w64 (x:=Int.tdiv a b) (by have:=h1 hc;omega) (by have:=h1 hc;omega),h1 hc,w64 (by omega) (by omega)]
 ·rw [if_neg hc,h2 hc,w64 (by omega) (by omega)]
def MulP (a b : Int) : Int:=C ((C a * C b+32768) / 65536)
theorem mul_f (a b : Int) : fixed_Mul.f a b=some (MulP a b):=by
 have:=CC_bd a b
 unfold fixed_Mul.f MulP
 simp only [clip_f,Option.bind_some]
 rw [w64 (x:=C a * C b) (by omega) (by omega),w64 (by omega) (by omega)]
theorem rmul_f (a b : Int) : versalref2_Mul.f a b=some (MulP a b):=by
 have:=CC_bd a b
 unfold versalref2_Mul.f MulP
 simp only [rclip_f,Option.bind_some]
 rw [w64 (x:=C a * C b) (by omega) (by omega),w64 (by omega) (by omega),floor_f _ _ (by omega) (by omega) (by omega)]
 rfl
def WholeP (n : Int) : Int:=C (C n * 65536)
theorem whole_f (n : Int) : fixed_Whole.f n=some (WholeP n):=by
 have:=C_lo n;have:=C_hi n
 unfold fixed_Whole.f WholeP
 simp only [clip_f,Option.bind_some]
 rw [w64 (by omega) (by omega)]
theorem rwhole_f (n : Int) : versalref2_Whole.f n=some (WholeP n):=by
 have:=C_lo n;have:=C_hi n
 unfold versalref2_Whole.f WholeP
 simp only [rclip_f,Option.bind_some]
 rw [w64 (by omega) (by omega)]
/-- An affine: its six numbers. -/
structure Aff where
 (xx yx xy yy dx dy : Int)
def ax (m : Aff) (x y : Int) : Int:=C (MulP m.xx x+MulP m.xy y+C m.dx)
def ay (m : Aff) (x y : Int) : Int:=C (MulP m.yx x+MulP m.yy y+C m.dy)
theorem MulP_C (a b : Int) : MulP (C a) b=MulP a b:=by unfold MulP;rw [C_C]
theorem MulP_bd (a b : Int) : -2147483647≤MulP a b∧MulP a b≤2147483647:=⟨C_lo _,C_hi _⟩
theorem apply_f (m : Aff) (x y : Int) : affine_Apply.f m.xx m.yx m.xy m.yy m.dx m.dy x y=some (ax m x y,ay m x y):=by
 have h1:=MulP_bd m.xx x;have h2:=MulP_bd m.xy y;have h3:=MulP_bd m.yx x;have h4:=MulP_bd m.yy y
 have h5:=C_lo m.dx;have h6:=C_hi m.dx;have h7:=C_lo m.dy;have h8:=C_hi m.dy
 unfold affine_Apply.f affine_clipped.f ax ay
 simp only [clip_f,mul_f,Option.bind_some,MulP_C]
 rw [w64 (x:=MulP m.xx x+MulP m.xy y) (by omega) (by omega),w64 (x:=MulP m.yx x+MulP m.yy y) (by omega) (by omega),w64 (x:=MulP m.xx x+MulP m.xy y+C m.dx) (by omega) (by omega),w64 (x:=MulP m.yx x+MulP m.yy y+C m.dy) (by omega) (by omega)]
theorem rapply_f (m : Aff) (x y : Int) : versalref2_Apply.f m.xx m.yx m.xy m.yy m.dx m.dy x y=some (ax m x y,ay m x y):=by
 have h1:=MulP_bd m.xx x;have h2:=MulP_bd m.xy y;have h3:=MulP_bd m.yx x;have h4:=MulP_bd m.yy y
 have h5:=C_lo m.dx;have h6:=C_hi m.dx;have h7:=C_lo m.dy;have h8:=C_hi m.dy
 unfold versalref2_Apply.f ax ay
 simp only [rclip_f,rmul_f,Option.bind_some]
 rw [w64 (x:=MulP m.xx x+MulP m.xy y) (by omega) (by omega),w64 (x:=MulP m.yx x+MulP m.yy y) (by omega) (by omega),w64 (x:=MulP m.xx x+MulP m.xy y+C m.dx) (by omega) (by omega),w64 (x:=MulP m.yx x+MulP m.yy y+C m.dy) (by omega) (by omega)]
/-! ### curves -/
def bentP (a b c k : Int) : Int:=(a * (8 - k) * (8 - k)+2 * b * k * (8 - k)+c * k * k) / 64
def Sm (x : Int) : Prop:=-2147483647≤x∧x≤2147483647
theorem Sm_C (x : Int) : Sm (C x):=⟨C_lo x,C_hi x⟩
theorem bent_f {a b c k : Int} (ha : Sm a) (hb : Sm b) (hc : Sm c) (h1 : 1≤k) (h2 : k≤8) : flat_bent.f a b c k=some (bentP a b c k):=by
 obtain ⟨ha,ha'⟩:=ha
 obtain ⟨hb,hb'⟩:=hb
 obtain ⟨hc,hc'⟩:=hc
 have : k=1 ∨ k=2 ∨ k=3 ∨ k=4 ∨ k=5 ∨ k=6 ∨ k=7 ∨ k=8:=by omega
 unfold flat_bent.f bentP
 rcases this with rfl|rfl|rfl|rfl|rfl|rfl|rfl|rfl <;>
  (congr 1;simp only [wrap64];omega)
def segK (a0 a1 b0 b1 c0 c1 : Int) (k : Nat) : S34:=⟨bentP a0 b0 c0 k,bentP a1 b1 c1 k,bentP a0 b0 c0 ((k : Int)+1),bentP a1 b1 c1 ((k : Int)+1)⟩
def curveP (a0 a1 b0 b1 c0 c1 : Int) : List S34:=(List.range 8).map (segK a0 a1 b0 b1 c0 c1)
theorem curveP_length (a0 a1 b0 b1 c0 c1 : Int) : (curveP a0 a1 b0 b1 c0 c1).length=8:=by simp [curveP]
theorem drop_range (j : Nat) (h : j < 8) : (List.range 8).drop j=j :: (List.range 8).drop (j+1):=by
 rw [List.drop_eq_getElem_cons (by simpa using h)];simp
theorem curve_l {a0 a1 b0 b1 c0 c1 : Int} (h0 : Sm a0) (h1 : Sm a1) (h2 : Sm b0) (h3 : Sm b1) (h4 : Sm c0) (h5 : Sm c1) (ab bb cb : Bool) (d : Nat) : ∀ (j : Nat) (out : List S34) (lb : Bool),j+d=8 → out.length≤100+j →
  Ev (fun k=>flat_curve.l0 k out ((j : Int)+1) a0 a1 ab b0 b1 bb c0 c1 cb (bentP a0 b0 c0 j) (bentP a1 b1 c1 j) lb) (out ++ ((List.range 8).drop j).map (segK a0 a1 b0 b1 c0 c1)):=by
 induction d with
 | zero =>
  intro j out lb hj ho
  obtain rfl : j=8:=by omega
  refine Ev.step (f:=fun _=>some out) (fun k=>?_) (by rw [List.drop_of_length_le (by simp)];simpa using Ev.now out)
  simp only [flat_curve.l0]
  rw [if_neg (by omega)]
 | succ d ih =>
  intro j out lb hj ho
  have:=ih (j+1) (out ++ [segK a0 a1 b0 b1 c0 c1 j]) true (by omega) (by simp;omega)
  rw [List.append_assoc,List.singleton_append] at this
  rw [drop_range j (by omega),List.map_cons]
  refine Ev.step (fun k=>?_) this
  simp only [flat_curve.l0]
  rw [if_pos (by omega),bent_f h0 h2 h4 (by omega) (by omega),bent_f h1 h3 h5 (by omega) (by omega)]
  simp only [Option.bind_some,flat_seg.f]
  rw [if_pos (by omega),w64 (by omega) (by omega)]
  push_cast
  rfl
theorem bentP_zero (a b c : Int) : bentP a b c 0=a:=by unfold bentP;simp;omega
theorem curve_f {a0 a1 b0 b1 c0 c1 : Int} (h0 : Sm a0) (h1 : Sm a1) (h2 : Sm b0) (h3 : Sm b1) (h4 : Sm c0) (h5 : Sm c1) (ab bb cb : Bool) :
  Ev (fun k=>flat_curve.f k a0 a1 ab b0 b1 bb c0 c1 cb) (curveP a0 a1 b0 b1 c0 c1):=by
 have:=curve_l h0 h1 h2 h3 h4 h5 ab bb cb 8 0 [] ab (by omega) (by simp)
 simpa [flat_curve.f,curveP,bentP_zero] using this
/-! ### a contour's points,turned -/
def tp (m : Aff) (p : S36) : S78:=⟨ax m (WholeP p.f0) (WholeP p.f1),ay m (WholeP p.f0) (WholeP p.f1),p.f2⟩
theorem drop_rd {α : Type} (l : List α) (z : α) (j : Nat) (h : j < l.length) : l.drop j=l.getD ((j : Int)).toNat z :: l.drop (j+1):=by
 rw [List.drop_eq_getElem_cons h]
 simp [List.getD_eq_getElem?_getD,List.getElem?_eq_getElem h]
theorem turned_l (m : Aff) (l : List S36) (d : Nat) : ∀ (j : Nat) (out : List S78),j+d=l.length → l.length≤1000 → out.length≤1000+j →
  Ev (fun k=>flat_turned.l0 k out l (l.length : Int) (j : Int) m.xx m.yx m.xy m.yy m.dx m.dy) (out ++ (l.drop j).map (tp m)):=by
 induction d with
 | zero =>
  intro j out hj hl ho
  refine Ev.step (f:=fun _=>some out) (fun k=>?_) (by rw [List.drop_of_length_le (by omega)];simpa using Ev.now out)
  simp only [flat_turned.l0]
  rw [if_neg (by omega)]
 | succ d ih =>
  intro j out hj hl ho
  have:=ih (j+1) (out ++ [tp m (rd_T36 l j)]) (by omega) hl (by simp;omega)
  rw [List.append_assoc,List.singleton_append] at this
  rw [drop_rd l z36 j (by omega),List.map_cons]
  refine Ev.step (fun k=>?_) this
  simp only [flat_turned.l0]
  rw [if_pos (by omega),if_pos (by omega),if_pos (by omega)]
  simp only [whole_f,apply_f,Option.bind_some]
  rw [if_pos (by omega),w64 (by omega) (by omega)]
  push_cast
  rfl
theorem turned_f (m : Aff) (l : List S36) (hl : l.length≤1000) : Ev (fun k=>flat_turned.f k l m.xx m.yx m.xy m.yy m.dx m.dy) (l.map (tp m)):=by
 have:=turned_l m l l.length 0 [] (by omega) hl (by simp)
 simpa [flat_turned.f] using this

/-! ### slices put behind each other -/
theorem flen {α : Type} (ls : List (List α)) : (ls.flatten).length=(ls.map List.length).sum:=by simp
theorem grow_f (n : Int) (h : 0≤n) (h' : n≤100000) : flat_place_61.f n=some []:=by
 unfold flat_place_61.f
 rw [if_neg (by omega),w64 (by omega) (by omega)]
 split
 ·(try rw [if_pos h]);rw [if_pos (by show (0 : Nat)+n.toNat < _;omega)]
  simp
 ·rfl
theorem cat_l1 (ls : List (List S78)) (d : Nat) : ∀ (j : Nat) (out : List S78),j+d=ls.length → out.length+((ls.drop j).flatten).length≤100000 →  ls.length≤1000 →
  Ev (fun k=>flat_place_51.l1 k out ls (ls.length : Int) (j : Int)) (out ++ (ls.drop j).flatten):=by
 induction d with
 | zero =>
  intro j out hj ho hl
  refine Ev.step (f:=fun _=>some out) (fun k=>?_) (by rw [List.drop_of_length_le (by omega)];simpa using Ev.now out)
  simp only [flat_place_51.l1]
  rw [if_neg (by omega)]
 | succ d ih =>
  intro j out hj ho hl
  have hd:=drop_rd ls ([] : List S78) j (by omega)
  rw [hd,List.flatten_cons,List.length_append] at ho
  have:=ih (j+1) (out ++ rd_L4 ls j) (by omega) (by rw [List.length_append];unfold rd_L4;omega) hl
  rw [hd,List.flatten_cons,← List.append_assoc]
  refine Ev.step (fun k=>?_) this
  simp only [flat_place_51.l1]
  rw [if_pos (by omega),if_pos (by omega),if_pos (by omega),if_pos (by unfold rd_L4;omega),w64 (by omega) (by omega)]
  push_cast
  rfl
theorem cat_l0 (ls : List (List S78)) (hl : ls.length≤1000) (hf : ls.flatten.length≤100000) (d : Nat) : ∀ (j : Nat) (s : Int),j+d=ls.length → 0≤s → s+((ls.drop j).flatten).length≤100000 →
  Ev (fun k=>flat_place_51.l0 k ls s ls (ls.length : Int) (j : Int)) ls.flatten:=by
 induction d with
 | zero =>
  intro j s hj h0 hs
  have:=cat_l1 ls ls.length 0 [] (by omega) (by simpa using hf) hl
  simp only [List.nil_append,List.drop_zero] at this
  refine Ev.step (fun k=>?_) this
  simp only [flat_place_51.l0]
  rw [if_neg (by omega),grow_f s h0 (by omega)]
  rfl
 | succ d ih =>
  intro j s hj h0 hs
  have hd:=drop_rd ls ([] : List S78) j (by omega)
  rw [hd,List.flatten_cons,List.length_append] at hs
  have:=ih (j+1) (s+(rd_L4 ls j).length) (by omega) (by omega) (by unfold rd_L4;push_cast at hs;omega)
  refine Ev.step (fun k=>?_) this
  simp only [flat_place_51.l0]
  have hw : wrap64 (s+((rd_L4 ls j).length : Int))=s+(rd_L4 ls j).length:=w64 (by omega) (by unfold rd_L4;push_cast at hs;omega)
  rw [if_pos (by omega),if_pos (by omega),if_pos (by omega),hw,if_neg (by omega),w64 (by omega) (by omega)]
  push_cast
  rfl
theorem cat_f (ls : List (List S78)) (hl : ls.length≤1000) (hf : ls.flatten.length≤100000) : Ev (fun k=>flat_place_51.f k ls) ls.flatten:=by
 have:=cat_l0 ls hl hf ls.length 0 0 (by omega) (by omega) (by rw [List.drop_zero];omega)
 simpa [flat_place_51.f] using this
/-! ### a contour begun,and its lines -/
def Bd (p : S78) : Prop:=Sm p.f0∧Sm p.f1
def midP (a b : S78) : S78:=⟨(a.f0+b.f0) / 2,(a.f1+b.f1) / 2,true⟩
def segP (a b : S78) : S34:=⟨a.f0,a.f1,b.f0,b.f1⟩
def curP (a b c : S78) : List S34:=curveP a.f0 a.f1 b.f0 b.f1 c.f0 c.f1
theorem Bd_tp (m : Aff) (p : S36) : Bd (tp m p):=⟨Sm_C _,Sm_C _⟩
theorem Bd_mid {a b : S78} (h : Bd a) (h' : Bd b) : Bd (midP a b):=by
 obtain ⟨⟨h1,h2⟩,h3,h4⟩:=h
 obtain ⟨⟨h5,h6⟩,h7,h8⟩:=h'
 refine ⟨⟨?_,?_⟩,?_,?_⟩ <;> simp only [midP] <;> omega
theorem mid_f {a b : S78} (h : Bd a) (h' : Bd b) : flat_between.f a.f0 a.f1 a.f2 b.f0 b.f1 b.f2=some ((midP a b).f0,(midP a b).f1,true):=by
 obtain ⟨⟨h1,h2⟩,h3,h4⟩:=h
 obtain ⟨⟨h5,h6⟩,h7,h8⟩:=h'
 unfold flat_between.f midP
 rw [w64 (x:=a.f0+b.f0) (by omega) (by omega),w64 (x:=a.f1+b.f1) (by omega) (by omega)]
def linesP : S78 → Option S78 → List S78 → List S34
 | _,_,[]=>[]
 | last,none,p :: t=>if p.f2=true then segP last p :: linesP p none t else linesP last (some p) t
 | last,some o,p :: t=>if p.f2=true then curP last o p ++ linesP p none t else curP last o (midP o p) ++ linesP (midP o p) (some p) t
/-- A contour from a place on the curve on,and back to it. -/
def begunP (l : List S78) : List S78 :=
 match l.findIdx? (fun x=>x.f2) with
 | some i=>l.drop i ++ l.take (i+1)
 | none=>[midP (l.getD (l.length - 1) z78) (l.getD 0 z78)] ++ l ++ [midP (l.getD (l.length - 1) z78) (l.getD 0 z78)]
theorem findIdx_lt {α : Type} {p : α → Bool} {l : List α} {i : Nat} (h : l.findIdx? p=some i) : i < l.length:=by
 rw [List.findIdx?_eq_some_iff_getElem] at h
 exact h.1
theorem begunP_length_le (l : List S78) : (begunP l).length≤l.length+2:=by
 unfold begunP
 split
 ·rename_i i hi
  have:=findIdx_lt hi
  simp;omega
 ·simp
theorem getD_Bd {l : List S78} (hb : ∀ p ∈ l,Bd p) {i : Nat} (h : i < l.length) : Bd (l.getD i z78):=by
 rw [List.getD_eq_getElem?_getD,List.getElem?_eq_getElem h]
 exact hb _ (List.getElem_mem h)
theorem begun_f (l : List S78) (h1 : 1≤l.length) (h2 : l.length≤1000) (hb : ∀ p ∈ l,Bd p) : Ev (fun k=>flat_begun.f k l) (begunP l):=by
 unfold flat_begun.f flat_place_49.f firstAt begunP
 cases hf : l.findIdx? (fun x=>x.f2) with
 | some i =>
  have hi:=findIdx_lt hf
  have:=cat_f [l.drop i,l.take (i+1)] (by simp) (by simp;omega)
  simp only [List.flatten_cons,List.flatten_nil,List.append_nil] at this
  refine Ev.congr (fun k=>?_) this
  simp only [Option.bind_some]
  rw [if_neg (by omega),if_pos (by omega),if_pos (by omega),w64 (by omega) (by omega),if_pos (by omega),if_pos (by omega)]
  rw [show ((i : Int)+1).toNat=i+1 by omega,show ((i : Int)).toNat=i by omega]
  cases flat_place_51.f k [l.drop i,l.take (i+1)] <;> rfl
 | none =>
  have hg0:=getD_Bd hb (i:=0) (by omega)
  have hg1:=getD_Bd hb (i:=l.length - 1) (by omega)
  have:=cat_f [[midP (l.getD (l.length - 1) z78) (l.getD 0 z78)],l,[midP (l.getD (l.length - 1) z78) (l.getD 0 z78)]] (by simp) (by simp;omega)
  simp only [List.flatten_cons,List.flatten_nil,List.append_nil] at this
  rw [← List.append_assoc] at this
  refine Ev.congr (fun k=>?_) this
  simp only [Option.bind_some]
  have e : rd_T78 l ((l.length : Int) - 1)=l.getD (l.length - 1) z78:=by unfold rd_T78;rw [show ((l.length : Int) - 1).toNat=l.length - 1 by omega]
  have e0 : rd_T78 l 0=l.getD 0 z78:=rfl
  rw [if_pos (by omega),w64 (by omega) (by omega),if_pos (by omega),if_pos (by omega),if_pos (by omega),e,e0,mid_f hg1 hg0]
  simp only [Option.bind_some]
  have em : (⟨(midP (l.getD (l.length - 1) z78) (l.getD 0 z78)).f0,(midP (l.getD (l.length - 1) z78) (l.getD 0 z78)).f1,true⟩ : S78)=midP (l.getD (l.length - 1) z78) (l.getD 0 z78):=rfl
  rw [em]
  cases flat_place_51.f k [[midP (l.getD (l.length - 1) z78) (l.getD 0 z78)],l,[midP (l.getD (l.length - 1) z78) (l.getD 0 z78)]] <;> rfl
theorem begunP_Bd {l : List S78} (h1 : 1≤l.length) (hb : ∀ p ∈ l,Bd p) : ∀ p ∈ begunP l,Bd p:=by
 intro p hp
 unfold begunP at hp
 split at hp
 ·rcases List.mem_append.1 hp with h|h
  ·exact hb p (List.mem_of_mem_drop h)
  ·exact hb p (List.mem_of_mem_take h)
 ·have:=Bd_mid (getD_Bd hb (i:=l.length - 1) (by omega)) (getD_Bd hb (i:=0) (by omega))
  simp only [List.mem_append,List.mem_singleton] at hp
  rcases hp with (rfl|h)|rfl
  ·exact this
  ·exact hb p h
  ·exact this
theorem linesP_length (t : List S78) : ∀ last o,(linesP last o t).length≤8 * t.length:=by
 induction t with
 | nil=>intro last o;cases o <;> simp [linesP]
 | cons p t ih =>
  intro last o
  cases o with
  | none =>
   unfold linesP
   split
   ·have:=ih p none;simp;omega
   ·have:=ih last (some p);simp;omega
  | some o =>
   unfold linesP
   split
   ·have:=ih p none;simp [curP,curveP_length];omega
   ·have:=ih (midP o p) (some p);simp [curP,curveP_length];omega
theorem lines_l (l : List S78) (hl : l.length≤1000) (hb : ∀ p ∈ l,Bd p) (d : Nat) : ∀ (j : Nat) (out : List S34) (last : S78) (o : Option S78),j+d=l.length → out.length≤100000+8 * j → Bd last → (∀ q,o=some q → Bd q) →
  Ev (fun k=>flat_lines.l0 k out o.toList l (l.length : Int) (j : Int) last.f0 last.f1 last.f2) (out ++ linesP last o (l.drop j)):=by
 induction d with
 | zero =>
  intro j out last o hj ho hla hq
  refine Ev.step (f:=fun _=>some out) (fun k=>?_) (by rw [List.drop_of_length_le (by omega)];cases o <;> simpa [linesP] using Ev.now out)
  simp only [flat_lines.l0]
  rw [if_neg (by omega)]
 | succ d ih =>
  intro j out last o hj ho hla hq
  have hdr:=drop_rd l z78 j (by omega)
  have hpb : Bd (rd_T78 l j):=by unfold rd_T78;exact getD_Bd hb (by omega)
  rw [hdr]
  change Ev _ (out ++ linesP last o (rd_T78 l j :: l.drop (j+1)))
  generalize hp : rd_T78 l (j : Int)=p at *
  have hw : wrap64 ((j : Int)+1)=((j+1 : Nat) : Int):=by rw [w64 (by omega) (by omega)];push_cast;rfl
  cases o with
  | none =>
   unfold linesP
   cases hon : p.f2 with
   | true =>
    have:=ih (j+1) (out ++ [segP last p]) p none (by omega) (by simp;omega) hpb (by simp)
    rw [List.append_assoc,List.singleton_append] at this
    simp only [if_true]
    refine Ev.step (f:=fun k=>flat_lines.j1 k out [] l (l.length : Int) (j : Int) false last.f0 last.f1 last.f2 p.f0 p.f1 p.f2 p.f0 p.f1 p.f2) (fun k=>?_) ?_
    ·simp only [flat_lines.l0,Option.toList]
     rw [if_pos (by omega),if_pos (by omega),if_pos (by omega),hp,if_pos hon]
    refine Ev.step (f:=fun k=>flat_lines.j2 k out [] l (l.length : Int) (j : Int) last.f0 last.f1 last.f2 p.f0 p.f1 p.f2 p.f0 p.f1 p.f2) (fun k=>?_) ?_
    ·simp only [flat_lines.j1]
     rw [if_neg (by simp)]
    refine Ev.step (fun k=>?_) this
    simp only [flat_lines.j2]
    rw [if_neg (by simp),if_pos hon]
    simp only [flat_seg.f,Option.bind_some]
    rw [if_pos (by omega),hw]
    rfl
   | false =>
    have:=ih (j+1) out last (some p) (by omega) (by omega) hla (by rintro q ⟨rfl⟩;exact hpb)
    simp only [Bool.false_eq_true,if_false]
    refine Ev.step (f:=fun k=>flat_lines.j1 k out [] l (l.length : Int) (j : Int) false last.f0 last.f1 last.f2 p.f0 p.f1 p.f2 p.f0 p.f1 p.f2) (fun k=>?_) ?_
    ·simp only [flat_lines.l0,Option.toList]
     rw [if_pos (by omega),if_pos (by omega),if_pos (by omega),hp,if_neg (by rw [hon];simp)]
     simp
    refine Ev.step (f:=fun k=>flat_lines.j2 k out [] l (l.length : Int) (j : Int) last.f0 last.f1 last.f2 p.f0 p.f1 p.f2 p.f0 p.f1 p.f2) (fun k=>?_) ?_
    ·simp only [flat_lines.j1]
     rw [if_neg (by simp)]
    refine Ev.step (fun k=>?_) this
    simp only [flat_lines.j2]
    rw [if_neg (by simp),if_neg (by rw [hon];simp),hw]
    rfl
  | some q =>
   have hqb:=hq q rfl
   unfold linesP
   have r0 : rd_T78 [q] 0=q:=rfl
   cases hon : p.f2 with
   | true =>
    have:=ih (j+1) (out ++ curP last q p) p none (by omega) (by simp [curP,curveP_length];omega) hpb (by simp)
    rw [List.append_assoc] at this
    simp only [if_true]
    refine Ev.step (f:=fun k=>flat_lines.j1 k out [q] l (l.length : Int) (j : Int) false last.f0 last.f1 last.f2 p.f0 p.f1 p.f2 p.f0 p.f1 p.f2) (fun k=>?_) ?_
    ·simp only [flat_lines.l0,Option.toList]
     rw [if_pos (by omega),if_pos (by omega),if_pos (by omega),hp,if_pos hon]
    refine Ev.step (f:=fun k=>flat_lines.j2 k out [q] l (l.length : Int) (j : Int) last.f0 last.f1 last.f2 p.f0 p.f1 p.f2 p.f0 p.f1 p.f2) (fun k=>?_) ?_
    ·simp only [flat_lines.j1]
     rw [if_neg (by simp)]
    have hc:=curve_f hla.1 hla.2 hqb.1 hqb.2 hpb.1 hpb.2 last.f2 q.f2 p.f2
    refine Ev.step (f:=fun k=>(flat_curve.f k last.f0 last.f1 last.f2 q.f0 q.f1 q.f2 p.f0 p.f1 p.f2).bind fun t=>if out.length+t.length < 4398046511104 then flat_lines.l0 k (out ++ t) [] l (l.length : Int) ((j+1 : Nat) : Int) p.f0 p.f1 p.f2 else none) (fun k=>?_) ?_
    ·simp only [flat_lines.j2]
     rw [if_pos (by simp),if_pos (by simp),r0]
     simp only [Option.bind_some,hw,hon,if_true]
    refine Ev.bind hc ?_
    refine Ev.congr (fun k=>?_) this
    rw [if_pos (by rw [curveP_length];omega)]
    rfl
   | false =>
    have hmb:=Bd_mid hqb hpb
    have:=ih (j+1) (out ++ curP last q (midP q p)) (midP q p) (some p) (by omega) (by simp [curP,curveP_length];omega) hmb (by rintro q ⟨rfl⟩;exact hpb)
    rw [List.append_assoc] at this
    simp only [Bool.false_eq_true,if_false]
    refine Ev.step (f:=fun k=>flat_lines.j1 k out [q] l (l.length : Int) (j : Int) true last.f0 last.f1 last.f2 p.f0 p.f1 p.f2 p.f0 p.f1 p.f2) (fun k=>?_) ?_
    ·simp only [flat_lines.l0,Option.toList]
     rw [if_pos (by omega),if_pos (by omega),if_pos (by omega),hp,if_neg (by rw [hon];simp)]
     simp
    refine Ev.step (f:=fun k=>flat_lines.j2 k out [q] l (l.length : Int) (j : Int) last.f0 last.f1 last.f2 p.f0 p.f1 p.f2 (midP q p).f0 (midP q p).f1 true) (fun k=>?_) ?_
    ·simp only [flat_lines.j1]
     rw [if_pos trivial,if_pos (by simp),r0,mid_f hqb hpb]
     rfl
    have hc:=curve_f hla.1 hla.2 hqb.1 hqb.2 hmb.1 hmb.2 last.f2 q.f2 true
    refine Ev.step (f:=fun k=>(flat_curve.f k last.f0 last.f1 last.f2 q.f0 q.f1 q.f2 (midP q p).f0 (midP q p).f1 true).bind fun t=>if out.length+t.length < 4398046511104 then flat_lines.l0 k (out ++ t) [⟨p.f0,p.f1,p.f2⟩] l (l.length : Int) ((j+1 : Nat) : Int) (midP q p).f0 (midP q p).f1 true else none) (fun k=>?_) ?_
    ·simp only [flat_lines.j2]
     rw [if_pos (by simp),if_pos (by simp),r0]
     simp only [Option.bind_some,hw,hon,Bool.false_eq_true,if_false]
    refine Ev.bind hc ?_
    refine Ev.congr (fun k=>?_) this
    rw [if_pos (by rw [curveP_length];omega)]
    rfl
theorem lines_f (a : S78) (t : List S78) (hl : t.length≤1000) (ha : Bd a) (hb : ∀ p ∈ t,Bd p) : Ev (fun k=>flat_lines.f k (a :: t)) (linesP a none t):=by
 have:=lines_l t hl hb t.length 0 [] a none (by omega) (by simp) ha (by simp)
 simp only [List.nil_append,List.drop_zero] at this
 refine Ev.congr (fun k=>?_) this
 unfold flat_lines.f
 rw [if_pos (by simp),if_pos (by simp;omega)]
 simp only [Option.bind_some,List.drop_one,List.tail_cons]
 rfl
/-! ### contours' lines -/
def linesB : List S78 → List S34
 | []=>[]
 | a :: t=>linesP a none t
def segsOf (m : Aff) (l : List S36) : List S34:=if 2≤l.length then linesB (begunP (l.map (tp m))) else []
theorem linesB_length (l : List S78) : (linesB l).length≤8 * l.length:=by
 cases l with
 | nil=>simp [linesB]
 | cons a t=>have:=linesP_length t a none;simp only [linesB,List.length_cons];omega
theorem segsOf_length (m : Aff) (l : List S36) (h : l.length≤900) : (segsOf m l).length≤7300:=by
 unfold segsOf
 split
 ·have h1:=linesB_length (begunP (l.map (tp m)))
  have h2:=begunP_length_le (l.map (tp m))
  rw [List.length_map] at h2
  omega
 ·simp
theorem begunP_ne {l : List S78} : begunP l ≠ []:=by
 unfold begunP
 split
 ·rename_i i hi
  have:=findIdx_lt hi
  intro e
  have:=congrArg List.length e
  simp at this
  omega
 ·simp
theorem linesB_f (l : List S78) (h1 : 1≤l.length) (hl : l.length≤1000) (hb : ∀ p ∈ l,Bd p) : Ev (fun k=>flat_lines.f k l) (linesB l):=by
 cases l with
 | nil=>simp at h1
 | cons a t=>exact lines_f a t (by simp at hl;omega) (hb a (by simp)) (fun p hp=>hb p (by simp [hp]))
theorem segs_l (m : Aff) (ls : List (List S36)) (hn : ls.length≤1000) (hl : ∀ l ∈ ls,l.length≤900) (d : Nat) : ∀ (j : Nat) (out : List S34),j+d=ls.length → out.length≤10000+7300 * j →
  Ev (fun k=>flat_Segs.l0 k out ls (ls.length : Int) (j : Int) m.xx m.yx m.xy m.yy m.dx m.dy) (out ++ ((ls.drop j).map (segsOf m)).flatten):=by
 induction d with
 | zero =>
  intro j out hj ho
  refine Ev.step (f:=fun _=>some out) (fun k=>?_) (by rw [List.drop_of_length_le (by omega)];simpa using Ev.now out)
  simp only [flat_Segs.l0]
  rw [if_neg (by omega)]
 | succ d ih =>
  intro j out hj ho
  have hdr:=drop_rd ls ([] : List S36) j (by omega)
  have hmem : rd_L6 ls j ∈ ls:=by
   unfold rd_L6
   rw [List.getD_eq_getElem?_getD,List.getElem?_eq_getElem (by omega)]
   exact List.getElem_mem _
  have hlen:=hl _ hmem
  have hs:=segsOf_length m _ hlen
  rw [hdr]
  change Ev _ (out ++ ((rd_L6 ls j :: ls.drop (j+1)).map (segsOf m)).flatten)
  have:=ih (j+1) (out ++ segsOf m (rd_L6 ls j)) (by omega) (by rw [List.length_append];omega)
  rw [List.append_assoc] at this
  rw [List.map_cons,List.flatten_cons]
  generalize hgl : rd_L6 ls (j : Int)=l at *
  have hw : wrap64 ((j : Int)+1)=((j+1 : Nat) : Int):=by rw [w64 (by omega) (by omega)];push_cast;rfl
  have hb : ∀ p ∈ l.map (tp m),Bd p:=by
   intro p hp
   obtain ⟨q,_,rfl⟩:=List.mem_map.1 hp
   exact Bd_tp m q
  by_cases h2 : 2≤l.length
  ·have e1:=turned_f m l (by omega)
   have e2:=begun_f (l.map (tp m)) (by rw [List.length_map];omega) (by rw [List.length_map];omega) hb
   have hbl:=begunP_length_le (l.map (tp m))
   rw [List.length_map] at hbl
   have e3:=linesB_f (begunP (l.map (tp m))) (Nat.one_le_iff_ne_zero.2 (fun e=>begunP_ne (List.eq_nil_of_length_eq_zero e))) (by omega) (begunP_Bd (by rw [List.length_map];omega) hb)
   have es : segsOf m l=linesB (begunP (l.map (tp m))):=by unfold segsOf;rw [if_pos h2]
   rw [es] at this hs ⊢
   refine Ev.step (f:=fun k=>(flat_turned.f k l m.xx m.yx m.xy m.yy m.dx m.dy).bind fun t=>(flat_begun.f k t).bind fun t=>(flat_lines.f k t).bind fun t=>if out.length+t.length < 4398046511104 then flat_Segs.l0 k (out ++ t) ls (ls.length : Int) ((j+1 : Nat) : Int) m.xx m.yx m.xy m.yy m.dx m.dy else none) (fun k=>?_) ?_
   ·simp only [flat_Segs.l0]
    rw [if_pos (by omega),if_pos (by omega),if_pos (by omega),hw,hgl,if_pos (by omega)]
   refine Ev.bind e1 (Ev.bind e2 (Ev.bind e3 (Ev.congr (fun k=>?_) this)))
   rw [if_pos (by omega)]
  ·have es : segsOf m l=[]:=by unfold segsOf;rw [if_neg h2]
   rw [es] at this ⊢
   simp only [List.append_nil,List.nil_append] at this ⊢
   refine Ev.step (fun k=>?_) this
   simp only [flat_Segs.l0]
   rw [if_pos (by omega),if_pos (by omega),if_pos (by omega),hw,hgl,if_neg (by omega)]
theorem segs_f (m : Aff) (ls : List (List S36)) (hn : ls.length≤1000) (hl : ∀ l ∈ ls,l.length≤900) : Ev (fun k=>flat_Segs.f k ls m.xx m.yx m.xy m.yy m.dx m.dy) ((ls.map (segsOf m)).flatten):=by
 have:=segs_l m ls hn hl ls.length 0 [] (by omega) (by simp)
 simpa [flat_Segs.f] using this
/-! ### what the statements share: the example,numbers,contours -/
def oneA : Aff:=⟨65536,0,0,65536,0,0⟩
theorem one_f : versallaw17_one.f=some (65536,0,0,65536,0,0):=rfl
theorem known_segs : (([[⟨0,0,true⟩,⟨0,9,true⟩,⟨9,0,true⟩]].map (segsOf oneA)).flatten)=[⟨0,0,0,589824⟩,⟨0,589824,589824,0⟩,⟨589824,0,0,0⟩]:=by rfl
theorem known_f : Ev (fun k=>versallaw17_known.f k) true:=by
 have:=segs_f oneA [[⟨0,0,true⟩,⟨0,9,true⟩,⟨9,0,true⟩]] (by simp) (by simp)
 rw [known_segs] at this
 unfold versallaw17_known.f
 rw [one_f]
 exact Ev.bind (Ev.now _) (Ev.bind this (Ev.now true))
theorem pick_f (n m : Int) (hm : m ≠ 0) : ∃ r,versalhand_Pick.f n m=some r:=by
 unfold versalhand_Pick.f
 rw [if_neg hm]
 split <;> exact ⟨_,rfl⟩
theorem num_f (n : Int) : ∃ r,versalhand_Num.f n=some r:=by
 unfold versalhand_Num.f
 obtain ⟨t,ht⟩:=pick_f n 8 (by decide)
 rw [ht]
 simp only [Option.bind_some]
 split
 ·exact ⟨_,rfl⟩
 ·split
  ·obtain ⟨r,hr⟩:=pick_f (wrap64 (Int.tdiv n 8)) 2001 (by decide)
   rw [hr];exact ⟨_,rfl⟩
  ·split
   ·obtain ⟨r,hr⟩:=pick_f (wrap64 (Int.tdiv n 8)) 9 (by decide)
    rw [hr];exact ⟨_,rfl⟩
   ·split
    ·obtain ⟨r,hr⟩:=pick_f (wrap64 (Int.tdiv n 8)) 9 (by decide)
     rw [hr];exact ⟨_,rfl⟩
    ·obtain ⟨r,hr⟩:=pick_f (wrap64 (Int.tdiv n 8)) 1310720 (by decide)
     rw [hr];exact ⟨_,rfl⟩
theorem affine_f (a b c d e f : Int) : ∃ m : Aff,versallaw17_affine.f a b c d e f=some (m.xx,m.yx,m.xy,m.yy,m.dx,m.dy):=by
 unfold versallaw17_affine.f
 obtain ⟨r1,h1⟩:=num_f a
 obtain ⟨r2,h2⟩:=num_f b
 obtain ⟨r3,h3⟩:=num_f c
 obtain ⟨r4,h4⟩:=num_f d
 obtain ⟨r5,h5⟩:=num_f e
 obtain ⟨r6,h6⟩:=num_f f
 rw [h1,h2,h3,h4,h5,h6]
 exact ⟨⟨_,_,_,_,_,_⟩,rfl⟩
theorem st0 (l : List Int) (out : List (List S36)) (c : List S36) (i : Int) (k : Nat) (hl : l.length≤1000000000000000) (h0 : 0≤i) (hin : i+2 < (l.length : Int)) (h90 : i < 90) : versalhand_Contours.l0 (k+1) l out c i=versalhand_Contours.j1 k l out c i true:=by
 simp only [versalhand_Contours.l0]
 rw [w64 (by omega) (by omega),if_pos hin,decide_eq_true h90]
theorem st1 (l : List Int) (out : List (List S36)) (c : List S36) (i : Int) (k : Nat) (hl : l.length≤1000000000000000) (h0 : 0≤i) (hin : i+2 < (l.length : Int)) (h90 : i < 90) (hc : c.length≤50)  (r1 r2 r3 : Int) (e1 : versalhand_Pick.f (rd l (i+2)) 12=some r1) (e2 : versalhand_Pick.f (rd l i) 1201=some r2) (e3 : versalhand_Pick.f (rd l (i+1)) 1201=some r3) : versalhand_Contours.j1 (k+1) l out c i true=if r1=11 then (if out.length < 5864062014805 then versalhand_Contours.l0 k l (out ++ [c ++ [(⟨wrap64 (r2 - 100),wrap64 (r3 - 300),decide (r1 > 3)⟩ : S36)]]) [] (i+3) else none) else if r1=0 then (if out.length < 5864062014805 then versalhand_Contours.l0 k l (out ++ [c ++ [(⟨wrap64 (r2 - 100),wrap64 (r3 - 300),decide (r1 > 3)⟩ : S36)]]) [] (i+3) else none) else versalhand_Contours.l0 k l out (c ++ [(⟨wrap64 (r2 - 100),wrap64 (r3 - 300),decide (r1 > 3)⟩ : S36)]) (i+3):=by
 simp only [versalhand_Contours.j1]
 rw [if_pos trivial,w64 (x:=i+2) (by omega) (by omega),if_pos (by omega),if_pos hin,e1]
 simp only [Option.bind_some]
 rw [if_pos (by omega),if_pos (by omega),e2]
 simp only [Option.bind_some]
 rw [w64 (x:=i+1) (by omega) (by omega),if_pos (by omega),if_pos (by omega),e3]
 simp only [Option.bind_some]
 rw [if_pos (by omega),w64 (x:=i+3) (by omega) (by omega)]
theorem contours_end (l : List Int) (hl : l.length≤1000000000000000) (j : Nat) (out : List (List S36)) (c : List S36) (hj : j≤31) (ho : out.length≤j) (hc : c.length≤j) (hx : ∀ x ∈ out,x.length≤40∧1≤x.length)
  (hs : ¬ (3 * (j : Int)+2 < (l.length : Int)) ∨ ¬ (3 * (j : Int) < 90)) :
  ∃ ls : List (List S36),Ev (fun k=>versalhand_Contours.l0 k l out c (3 * (j : Int))) ls∧ls.length≤40∧∀ x ∈ ls,x.length≤40∧1≤x.length:=by
 have w2 : wrap64 (3 * (j : Int)+2)=3 * (j : Int)+2:=w64 (by omega) (by omega)
 have step0 : ∀ k,versalhand_Contours.l0 (k+1) l out c (3 * (j : Int))=versalhand_Contours.j1 k l out c (3 * (j : Int)) false:=by
  intro k
  simp only [versalhand_Contours.l0]
  rw [w2]
  by_cases hin : 3 * (j : Int)+2 < (l.length : Int)
  ·rw [if_pos hin,decide_eq_false (by rcases hs with h|h;exact absurd hin h;exact h)]
  ·rw [if_neg hin]
 by_cases h1 : (c.length : Int) > 0
 ·refine ⟨out ++ [c],Ev.step step0 (Ev.step (f:=fun _=>some (out ++ [c])) (fun k=>?_) (Ev.now _)),by rw [List.length_append,List.length_singleton];omega,fun x hx'=>?_⟩
  ·simp only [versalhand_Contours.j1]
   rw [if_neg Bool.false_ne_true,if_pos h1,if_pos (by omega)]
  ·rcases List.mem_append.1 hx' with h|h
   ·exact hx x h
   ·rw [List.mem_singleton.1 h];omega
 ·refine ⟨out,Ev.step step0 (Ev.step (f:=fun _=>some out) (fun k=>?_) (Ev.now _)),by omega,hx⟩
  simp only [versalhand_Contours.j1]
  rw [if_neg Bool.false_ne_true,if_neg h1]
theorem contours_l (l : List Int) (hl : l.length≤1000000000000000) (d : Nat) : ∀ (j : Nat) (out : List (List S36)) (c : List S36),j+d=31 → out.length≤j → c.length≤j → (∀ x ∈ out,x.length≤40∧1≤x.length) →
  ∃ ls : List (List S36),Ev (fun k=>versalhand_Contours.l0 k l out c (3 * (j : Int))) ls∧ls.length≤40∧∀ x ∈ ls,x.length≤40∧1≤x.length:=by
 induction d with
 | zero =>
  intro j out c hj ho hc hx
  exact contours_end l hl j out c (by omega) ho hc hx (.inr (by omega))
 | succ d ih =>
  intro j out c hj ho hc hx
  by_cases hin : 3 * (j : Int)+2 < (l.length : Int)
  ·by_cases h90 : 3 * (j : Int) < 90
   ·obtain ⟨r1,e1⟩:=pick_f (rd l (3 * (j : Int)+2)) 12 (by decide)
    obtain ⟨r2,e2⟩:=pick_f (rd l (3 * (j : Int))) 1201 (by decide)
    obtain ⟨r3,e3⟩:=pick_f (rd l (3 * (j : Int)+1)) 1201 (by decide)
    have hi : 3 * (j : Int)+3=3 * ((j+1 : Nat) : Int):=by omega
    have step0:=fun k=>st0 l out c (3 * (j : Int)) k hl (by omega) hin h90
    have step1:=fun k=>st1 l out c (3 * (j : Int)) k hl (by omega) hin h90 (by omega) r1 r2 r3 e1 e2 e3
    rw [hi] at step1
    generalize hcc : c ++ [(⟨wrap64 (r2 - 100),wrap64 (r3 - 300),decide (r1 > 3)⟩ : S36)]=c' at step1
    have hcl : c'.length≤j+1:=by rw [← hcc,List.length_append,List.length_singleton];omega
    have hcg : 1≤c'.length:=by rw [← hcc,List.length_append,List.length_singleton];omega
    have hx' : ∀ x ∈ out ++ [c'],x.length≤40∧1≤x.length:=fun x h=>by
     rcases List.mem_append.1 h with h|h
     ·exact hx x h
     ·rw [List.mem_singleton.1 h];omega
    have hol : (out ++ [c']).length≤j+1:=by rw [List.length_append,List.length_singleton];omega
    have hlt : out.length < 5864062014805:=by omega
    simp only [if_pos hlt] at step1
    by_cases hend : r1=11 ∨ r1=0
    ·obtain ⟨ls,hls,h1,h2⟩:=ih (j+1) (out ++ [c']) [] (by omega) hol (Nat.zero_le _) hx'
     refine ⟨ls,Ev.step step0 (Ev.step (fun k=>?_) hls),h1,h2⟩
     rw [step1]
     rcases hend with h|h
     ·rw [if_pos h]
     ·rw [if_pos h];split <;> rfl
    ·obtain ⟨ls,hls,h1,h2⟩:=ih (j+1) out c' (by omega) (by omega) hcl hx
     refine ⟨ls,Ev.step step0 (Ev.step (fun k=>?_) hls),h1,h2⟩
     rw [step1,if_neg (fun h=>hend (.inl h)),if_neg (fun h=>hend (.inr h))]
   ·exact contours_end l hl j out c (by omega) ho hc hx (.inr h90)
  ·exact contours_end l hl j out c (by omega) ho hc hx (.inl hin)
theorem contours_f (l : List Int) (hl : l.length≤1000000000000000) : ∃ ls : List (List S36),Ev (fun k=>versalhand_Contours.f k l) ls∧ls.length≤40∧∀ x ∈ ls,x.length≤40∧1≤x.length:=by
 obtain ⟨ls,h,h'⟩:=contours_l l hl 31 0 [] [] (by omega) (by simp) (by simp) (by simp)
 exact ⟨ls,by simpa [versalhand_Contours.f] using h,h'⟩
theorem rd34 (l : List S34) (j : Nat) (h : j < l.length) : rd_T34 l j=l[j]:=by
 unfold rd_T34
 rw [List.getD_eq_getElem?_getD]
 simp [List.getElem?_eq_getElem h]
theorem rd36 (l : List S36) (j : Nat) (h : j < l.length) : rd_T36 l j=l[j]:=by
 unfold rd_T36
 rw [List.getD_eq_getElem?_getD]
 simp [List.getElem?_eq_getElem h]
theorem rdL6 (l : List (List S36)) (j : Nat) (h : j < l.length) : rd_L6 l j=l[j]:=by
 unfold rd_L6
 rw [List.getD_eq_getElem?_getD]
 simp [List.getElem?_eq_getElem h]
theorem prev_ix (j n : Nat) (hj : j < n) (hn : n≤100000) : Int.tmod (wrap64 ((wrap64 ((j : Int)+(n : Int))) - 1)) (n : Int)=((if j=0 then n - 1 else j - 1 : Nat) : Int):=by
 rw [w64 (x:=(j : Int)+(n : Int)) (by omega) (by omega),w64 (by omega) (by omega)]
 split
 ·rename_i h
  subst h
  rw [show ((0 : Nat) : Int)+(n : Int) - 1=((n - 1 : Nat) : Int) by omega]
  rw [Int.tmod_eq_emod_of_nonneg (by omega),Int.emod_eq_of_lt (by omega) (by omega)]
 ·rw [show (j : Int)+(n : Int) - 1=((j - 1 : Nat) : Int)+(n : Int) by omega,Int.tmod_eq_emod_of_nonneg (by omega),Int.add_emod_right,Int.emod_eq_of_lt (by omega) (by omega)]
end Go.Proofs.Ytjmflccbddjlhaa.Pure
