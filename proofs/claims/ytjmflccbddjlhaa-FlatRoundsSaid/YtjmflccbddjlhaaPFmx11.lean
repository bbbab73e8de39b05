-- WRITTEN BY A PROGRAM OF THIS SESSION (wip/xprint) out of the translation. Not trusted: Lean checks it.
import Derived.Test.YtjmflccbddjlhaaPFmx0
import Derived.Test.YtjmflccbddjlhaaPFmx7
import Derived.Test.YtjmflccbddjlhaaPFmx8
import Derived.Test.YtjmflccbddjlhaaPFmx9
import Derived.Test.YtjmflccbddjlhaaPFmx10
namespace Go.Proofs.Ytjmflccbddjlhaa.PFm
open Go.RowKit Go.Proofs.YtjmflccbddjlhaaW.PrintWords Go.Proofs.YtjmflccbddjlhaaW.PrintLast Go.Proofs.YtjmflccbddjlhaaW.PrintMore
attribute [local go_sem] max2_int min2_int max_two min_two max_three min_three max_four min_four   -- for this text's walks alone
set_option linter.unusedVariables false
set_option linter.unusedSimpArgs false

/-! ### versallaw17_FlatRounds: function 3 -/
mutual
def versallaw17_FlatRounds.l0 : Nat → List (List (S36)) → Int → Int → Int → Int → Int → Int → Int → Int → Option (Bool)
 | 0,_,_,_,_,_,_,_,_,_=>none
 | k+1,x23,x24,x25,x336000,x336001,x336002,x336003,x336004,x336005=>if x25 < x24 then (if 0≤x25 then (if x25 < (x23.length : Int) then ((flat_Segs.f k (([rd_L6 x23 x25] : List (List (S36)))) x336000 x336001 x336002 x336003 x336004 x336005).bind fun t343=>(if ((rd_L6 x23 x25).length : Int) < 2 then (if (t343.length : Int) > 0 then (some false) else (versallaw17_FlatRounds.l0 k x23 x24 (wrap64 (x25+1)) x336000 x336001 x336002 x336003 x336004 x336005)) else (if (t343.length : Int) < 2 then (some false) else (versallaw17_FlatRounds.l1 k (rd_L6 x23 x25) t343 x23 x24 x25 (t343.length : Int) 0 x336000 x336001 x336002 x336003 x336004 x336005)))) else (none)) else (none)) else (some true)
def versallaw17_FlatRounds.l1 : Nat → List (S36) → List (S34) → List (List (S36)) → Int → Int → Int → Int → Int → Int → Int → Int → Int → Int → Option (Bool)
 | 0,_,_,_,_,_,_,_,_,_,_,_,_,_=>none
 | k+1,x7,x8,x23,x24,x25,x43,x44,x336000,x336001,x336002,x336003,x336004,x336005=>if x44 < x43 then (if (x8.length : Int)=0 then (none) else (if 0≤(Int.tmod (wrap64 ((wrap64 (x44+(x8.length : Int))) - 1)) (x8.length : Int)) then (if (Int.tmod (wrap64 ((wrap64 (x44+(x8.length : Int))) - 1)) (x8.length : Int)) < (x8.length : Int) then (if 0≤x44 then (if x44 < (x8.length : Int) then (if ((rd_T34 x8 x44).f0)=((rd_T34 x8 (Int.tmod (wrap64 ((wrap64 (x44+(x8.length : Int))) - 1)) (x8.length : Int))).f2) then (if ((rd_T34 x8 x44).f1)=((rd_T34 x8 (Int.tmod (wrap64 ((wrap64 (x44+(x8.length : Int))) - 1)) (x8.length : Int))).f3) then (versallaw17_FlatRounds.l1 k x7 x8 x23 x24 x25 x43 (wrap64 (x44+1)) x336000 x336001 x336002 x336003 x336004 x336005) else (some false)) else (some false)) else (none)) else (none)) else (none)) else (none))) else (versallaw17_FlatRounds.l2 k x8 x23 x24 x25 x7 (x7.length : Int) 0 x336000 x336001 x336002 x336003 x336004 x336005)
def versallaw17_FlatRounds.l2 : Nat → List (S34) → List (List (S36)) → Int → Int → List (S36) → Int → Int → Int → Int → Int → Int → Int → Int → Option (Bool)
 | 0,_,_,_,_,_,_,_,_,_,_,_,_,_=>none
 | k+1,x8,x23,x24,x25,x77,x78,x79,x336000,x336001,x336002,x336003,x336004,x336005=>if x79 < x78 then (if 0≤x79 then (if x79 < (x77.length : Int) then (if ((rd_T36 x77 x79).f2=true) then ((versalref2_Whole.f ((rd_T36 x77 x79).f0)).bind fun t352=>((versalref2_Whole.f ((rd_T36 x77 x79).f1)).bind fun t353=>((versalref2_Apply.f x336000 x336001 x336002 x336003 x336004 x336005 t352 t353).bind fun bt354=>(versallaw17_FlatRounds.l3 k x8 bt354.1 bt354.2 false x23 x24 x25 x77 x78 x79 x8 (x8.length : Int) 0 x336000 x336001 x336002 x336003 x336004 x336005)))) else (versallaw17_FlatRounds.l2 k x8 x23 x24 x25 x77 x78 (wrap64 (x79+1)) x336000 x336001 x336002 x336003 x336004 x336005)) else (none)) else (none)) else (versallaw17_FlatRounds.l0 k x23 x24 (wrap64 (x25+1)) x336000 x336001 x336002 x336003 x336004 x336005)
def versallaw17_FlatRounds.l3 : Nat → List (S34) → Int → Int → Bool → List (List (S36)) → Int → Int → List (S36) → Int → Int → List (S34) → Int → Int → Int → Int → Int → Int → Int → Int → Option (Bool)
 | 0,_,_,_,_,_,_,_,_,_,_,_,_,_,_,_,_,_,_,_=>none
 | k+1,x8,x13,x14,x15,x23,x24,x25,x77,x78,x79,x97,x98,x99,x336000,x336001,x336002,x336003,x336004,x336005=>if x99 < x98 then (if 0≤x99 then (if x99 < (x97.length : Int) then (if x15=true then (versallaw17_FlatRounds.l3 k x8 x13 x14 true x23 x24 x25 x77 x78 x79 x97 x98 (wrap64 (x99+1)) x336000 x336001 x336002 x336003 x336004 x336005) else (if ((rd_T34 x97 x99).f0)=x13 then (versallaw17_FlatRounds.l3 k x8 x13 x14 (((rd_T34 x97 x99).f1) == x14) x23 x24 x25 x77 x78 x79 x97 x98 (wrap64 (x99+1)) x336000 x336001 x336002 x336003 x336004 x336005) else (versallaw17_FlatRounds.l3 k x8 x13 x14 false x23 x24 x25 x77 x78 x79 x97 x98 (wrap64 (x99+1)) x336000 x336001 x336002 x336003 x336004 x336005))) else (none)) else (none)) else (if x15=true then (versallaw17_FlatRounds.l2 k x8 x23 x24 x25 x77 x78 (wrap64 (x79+1)) x336000 x336001 x336002 x336003 x336004 x336005) else (some false))
end
def versallaw17_FlatRounds.f (k : Nat) (l0 : List Int) (a1_0 : Int) (a1_1 : Int) (a1_2 : Int) (a1_3 : Int) (a1_4 : Int) (a1_5 : Int) : Option (Bool):=(versallaw17_known.f k).bind fun t328=>(if t328=true then ((versallaw17_affine.f a1_0 a1_1 a1_2 a1_3 a1_4 a1_5).bind fun bt329=>((versalhand_Contours.f k l0).bind fun t336=>(versallaw17_FlatRounds.l0 k t336 (t336.length : Int) 0 bt329.1 bt329.2.1 bt329.2.2.1 bt329.2.2.2.1 bt329.2.2.2.2.1 bt329.2.2.2.2.2))) else (some false))
theorem versallaw17_FlatRounds.mono_l : ∀ k,(∀ y0 y1 y2 y3 y4 y5 y6 y7 y8,LeO (versallaw17_FlatRounds.l0 k y0 y1 y2 y3 y4 y5 y6 y7 y8) (versallaw17_FlatRounds.l0 (k+1) y0 y1 y2 y3 y4 y5 y6 y7 y8))∧(∀ y0 y1 y2 y3 y4 y5 y6 y7 y8 y9 y10 y11 y12,LeO (versallaw17_FlatRounds.l1 k y0 y1 y2 y3 y4 y5 y6 y7 y8 y9 y10 y11 y12) (versallaw17_FlatRounds.l1 (k+1) y0 y1 y2 y3 y4 y5 y6 y7 y8 y9 y10 y11 y12))∧(∀ y0 y1 y2 y3 y4 y5 y6 y7 y8 y9 y10 y11 y12,LeO (versallaw17_FlatRounds.l2 k y0 y1 y2 y3 y4 y5 y6 y7 y8 y9 y10 y11 y12) (versallaw17_FlatRounds.l2 (k+1) y0 y1 y2 y3 y4 y5 y6 y7 y8 y9 y10 y11 y12))∧(∀ y0 y1 y2 y3 y4 y5 y6 y7 y8 y9 y10 y11 y12 y13 y14 y15 y16 y17 y18,LeO (versallaw17_FlatRounds.l3 k y0 y1 y2 y3 y4 y5 y6 y7 y8 y9 y10 y11 y12 y13 y14 y15 y16 y17 y18) (versallaw17_FlatRounds.l3 (k+1) y0 y1 y2 y3 y4 y5 y6 y7 y8 y9 y10 y11 y12 y13 y14 y15 y16 y17 y18))
 | 0=>⟨fun _ _ _ _ _ _ _ _ _ r h=>by simp [versallaw17_FlatRounds.l0] at h,fun _ _ _ _ _ _ _ _ _ _ _ _ _ r h=>by simp [versallaw17_FlatRounds.l1] at h,fun _ _ _ _ _ _ _ _ _ _ _ _ _ r h=>by simp [versallaw17_FlatRounds.l2] at h,fun _ _ _ _ _ _ _ _ _ _ _ _ _ _ _ _ _ _ _ r h=>by simp [versallaw17_FlatRounds.l3] at h⟩
 | k+1=>by
  obtain ⟨ih0,ih1,ih2,ih3⟩:=versallaw17_FlatRounds.mono_l k
  refine ⟨?_,?_,?_,?_⟩
  ·intro y0 y1 y2 y3 y4 y5 y6 y7 y8
   unfold versallaw17_FlatRounds.l0
   repeat' first
   | (with_reducible exact ih0 _ _ _ _ _ _ _ _ _)
   | (with_reducible exact ih1 _ _ _ _ _ _ _ _ _ _ _ _ _)
   | (with_reducible exact ih2 _ _ _ _ _ _ _ _ _ _ _ _ _)
   | (with_reducible exact ih3 _ _ _ _ _ _ _ _ _ _ _ _ _ _ _ _ _ _ _)
   | (with_reducible exact flat_Segs.mono _ _ _ _ _ _ _ _)
   | (with_reducible exact versalhand_Contours.mono _ _)
   | (with_reducible exact versallaw17_known.mono _)
   | (with_reducible exact LeO.refl _)
   | (with_reducible exact LeO.none _)
   | (with_reducible refine LeO.ite ?_ ?_)
   | (with_reducible refine LeO.bind ?_ (fun _=>?_))
   | exact ih0 _ _ _ _ _ _ _ _ _
   | exact ih1 _ _ _ _ _ _ _ _ _ _ _ _ _
   | exact ih2 _ _ _ _ _ _ _ _ _ _ _ _ _
   | exact ih3 _ _ _ _ _ _ _ _ _ _ _ _ _ _ _ _ _ _ _
   | exact flat_Segs.mono _ _ _ _ _ _ _ _
   | exact versalhand_Contours.mono _ _
   | exact versallaw17_known.mono _
   | exact LeO.none _
   | refine LeO.ite ?_ ?_
   | refine LeO.bind ?_ (fun _=>?_)
  ·intro y0 y1 y2 y3 y4 y5 y6 y7 y8 y9 y10 y11 y12
   unfold versallaw17_FlatRounds.l1
   repeat' first
   | (with_reducible exact ih0 _ _ _ _ _ _ _ _ _)
   | (with_reducible exact ih1 _ _ _ _ _ _ _ _ _ _ _ _ _)
   | (with_reducible exact ih2 _ _ _ _ _ _ _ _ _ _ _ _ _)
   | (with_reducible exact ih3 _ _ _ _ _ _ _ _ _ _ _ _ _ _ _ _ _ _ _)
   | (with_reducible exact flat_Segs.mono _ _ _ _ _ _ _ _)
   | (with_reducible exact versalhand_Contours.mono _ _)
   | (with_reducible exact versallaw17_known.mono _)
   | (with_reducible exact LeO.refl _)
   | (with_reducible exact LeO.none _)
   | (with_reducible refine LeO.ite ?_ ?_)
   | (with_reducible refine LeO.bind ?_ (fun _=>?_))
   | exact ih0 _ _ _ _ _ _ _ _ _
   | exact ih1 _ _ _ _ _ _ _ _ _ _ _ _ _
   | exact ih2 _ _ _ _ _ _ _ _ _ _ _ _ _
   | exact ih3 _ _ _ _ _ _ _ _ _ _ _ _ _ _ _ _ _ _ _
   | exact flat_Segs.mono _ _ _ _ _ _ _ _
   | exact versalhand_Contours.mono _ _
   | exact versallaw17_known.mono _
   | exact LeO.none _
   | refine LeO.ite ?_ ?_
   | refine LeO.bind ?_ (fun _=>?_)
  ·intro y0 y1 y2 y3 y4 y5 y6 y7 y8 y9 y10 y11 y12
   unfold versallaw17_FlatRounds.l2
   repeat' first
   | (with_reducible exact ih0 _ _ _ _ _ _ _ _ _)
   | (with_reducible exact ih1 _ _ _ _ _ _ _ _ _ _ _ _ _)
   | (with_reducible exact ih2 _ _ _ _ _ _ _ _ _ _ _ _ _)
   | (with_reducible exact ih3 _ _ _ _ _ _ _ _ _ _ _ _ _ _ _ _ _ _ _)
   | (with_reducible exact flat_Segs.mono _ _ _ _ _ _ _ _)
   | (with_reducible exact versalhand_Contours.mono _ _)
   | (with_reducible exact versallaw17_known.mono _)
   | (with_reducible exact LeO.refl _)
   | (with_reducible exact LeO.none _)
   | (with_reducible refine LeO.ite ?_ ?_)
   | (with_reducible refine LeO.bind ?_ (fun _=>?_))
   | exact ih0 _ _ _ _ _ _ _ _ _
   | exact ih1 _ _ _ _ _ _ _ _ _ _ _ _ _
   | exact ih2 _ _ _ _ _ _ _ _ _ _ _ _ _
   | exact ih3 _ _ _ _ _ _ _ _ _ _ _ _ _ _ _ _ _ _ _
   | exact flat_Segs.mono _ _ _ _ _ _ _ _
   | exact versalhand_Contours.mono _ _
   | exact versallaw17_known.mono _
   | exact LeO.none _
   | refine LeO.ite ?_ ?_
   | refine LeO.bind ?_ (fun _=>?_)
  ·intro y0 y1 y2 y3 y4 y5 y6 y7 y8 y9 y10 y11 y12 y13 y14 y15 y16 y17 y18
   unfold versallaw17_FlatRounds.l3
   repeat' first
   | (with_reducible exact ih0 _ _ _ _ _ _ _ _ _)
   | (with_reducible exact ih1 _ _ _ _ _ _ _ _ _ _ _ _ _)
   | (with_reducible exact ih2 _ _ _ _ _ _ _ _ _ _ _ _ _)
   | (with_reducible exact ih3 _ _ _ _ _ _ _ _ _ _ _ _ _ _ _ _ _ _ _)
   | (with_reducible exact flat_Segs.mono _ _ _ _ _ _ _ _)
   | (with_reducible exact versalhand_Contours.mono _ _)
   | (with_reducible exact versallaw17_known.mono _)
   | (with_reducible exact LeO.refl _)
   | (with_reducible exact LeO.none _)
   | (with_reducible refine LeO.ite ?_ ?_)
   | (with_reducible refine LeO.bind ?_ (fun _=>?_))
   | exact ih0 _ _ _ _ _ _ _ _ _
   | exact ih1 _ _ _ _ _ _ _ _ _ _ _ _ _
   | exact ih2 _ _ _ _ _ _ _ _ _ _ _ _ _
   | exact ih3 _ _ _ _ _ _ _ _ _ _ _ _ _ _ _ _ _ _ _
   | exact flat_Segs.mono _ _ _ _ _ _ _ _
   | exact versalhand_Contours.mono _ _
   | exact versallaw17_known.mono _
   | exact LeO.none _
   | refine LeO.ite ?_ ?_
   | refine LeO.bind ?_ (fun _=>?_)
theorem versallaw17_FlatRounds.mono : ∀ a0 a1 a2 a3 a4 a5 a6 k,LeO (versallaw17_FlatRounds.f k a0 a1 a2 a3 a4 a5 a6) (versallaw17_FlatRounds.f (k+1) a0 a1 a2 a3 a4 a5 a6):=by
 intro a0 a1 a2 a3 a4 a5 a6 k
 obtain ⟨ih0,ih1,ih2,ih3⟩:=versallaw17_FlatRounds.mono_l k
 unfold versallaw17_FlatRounds.f
 repeat' first
   | (with_reducible exact ih0 _ _ _ _ _ _ _ _ _)
   | (with_reducible exact ih1 _ _ _ _ _ _ _ _ _ _ _ _ _)
   | (with_reducible exact ih2 _ _ _ _ _ _ _ _ _ _ _ _ _)
   | (with_reducible exact ih3 _ _ _ _ _ _ _ _ _ _ _ _ _ _ _ _ _ _ _)
   | (with_reducible exact flat_Segs.mono _ _ _ _ _ _ _ _)
   | (with_reducible exact versalhand_Contours.mono _ _)
   | (with_reducible exact versallaw17_known.mono _)
   | (with_reducible exact LeO.refl _)
   | (with_reducible exact LeO.none _)
   | (with_reducible refine LeO.ite ?_ ?_)
   | (with_reducible refine LeO.bind ?_ (fun _=>?_))
   | exact ih0 _ _ _ _ _ _ _ _ _
   | exact ih1 _ _ _ _ _ _ _ _ _ _ _ _ _
   | exact ih2 _ _ _ _ _ _ _ _ _ _ _ _ _
   | exact ih3 _ _ _ _ _ _ _ _ _ _ _ _ _ _ _ _ _ _ _
   | exact flat_Segs.mono _ _ _ _ _ _ _ _
   | exact versalhand_Contours.mono _ _
   | exact versallaw17_known.mono _
   | exact LeO.none _
   | refine LeO.ite ?_ ?_
   | refine LeO.bind ?_ (fun _=>?_)
def versallaw17_FlatRounds.T17 : Bool × List (List Nat × List Nat):=(true,[([],[]),([],[]),([0,1],[0,1]),([2],[2]),([3],[3]),([],[]),([5],[5]),([4,6],[4,6]),([7],[7]),([8],[8]),([8],[8]),([9,10,8],[8,9,10]),([11,8],[8,11]),([12,8],[8,12]),([8],[8]),([14,8],[8,14]),([13,15,8],[8,13,15]),([8,16],[8,16])])
def versallaw17_FlatRounds.B17 : List Nat:=[0,0,3,7,15,0,32,127,255,511,511,2047,4095,8191,511,16895,65535,131071]
theorem versallaw17_FlatRounds.tab17 : rtab .any (opsOf Try.f3 17)=versallaw17_FlatRounds.T17:=by kernel_rfl
theorem versallaw17_FlatRounds.bits17 : waitsOk versallaw17_FlatRounds.T17.2 versallaw17_FlatRounds.B17=true:=by kernel_rfl
def versallaw17_FlatRounds.T24 : Bool × List (List Nat × List Nat):=(true,[([],[]),([],[]),([1],[1]),([2],[2]),([],[]),([4],[4]),([5,3],[5]),([0,3,6,6],[0,3,6]),([7],[7]),([8],[8]),([8],[8]),([9,7,0,1,2,3,4,5,6,7,8,9],[9]),([10,11,0,1,2,3,4,5,6,7,8,9,10,11],[10])])
def versallaw17_FlatRounds.B24 : List Nat:=[0,0,2,6,0,16,62,127,255,511,511,1023,4095]
theorem versallaw17_FlatRounds.tab24 : rtab .any (opsOf Try.f3 24)=versallaw17_FlatRounds.T24:=by kernel_rfl
theorem versallaw17_FlatRounds.bits24 : waitsOk versallaw17_FlatRounds.T24.2 versallaw17_FlatRounds.B24=true:=by kernel_rfl
set_option maxHeartbeats 8000000 in
set_option maxRecDepth 100000 in
theorem versallaw17_FlatRounds.calls (k : Nat) (A0 : Option Addr) (c0 : Nat) (l0 : List Int) (a1_0 : Int) (a1_1 : Int) (a1_2 : Int) (a1_3 : Int) (a1_4 : Int) (a1_5 : Int) (r : Bool) (w : World) (hr0 : Kd.C (Kd.int .i64) w A0 l0.length l0) (hc0 : l0.length≤c0) (h : versallaw17_FlatRounds.f k l0 a1_0 a1_1 a1_2 a1_3 a1_4 a1_5=some r) :
  Calls Try.prog 3 #[.slice A0 l0.length c0,.agg #[.int .i64 a1_0,.int .i64 a1_1,.int .i64 a1_2,.int .i64 a1_3,.int .i64 a1_4,.int .i64 a1_5]] w fun e w'=>e=.returned (.bool r)∧Below w.heap.size w w':=by
 have hu23:=Try.underlying23
 have hu26:=Try.underlying26
 have hu34:=Try.underlying34
 have hu36:=Try.underlying36
 have HR0:=amk hr0
 have HC0:=amk hc0
 clear hr0 hc0
 have HB:=amk (Below.refl w.heap.size w)
 have H : ((versallaw17_known.f k).bind fun t328=>(if t328=true then ((versallaw17_affine.f a1_0 a1_1 a1_2 a1_3 a1_4 a1_5).bind fun bt329=>((versalhand_Contours.f k l0).bind fun t336=>(versallaw17_FlatRounds.l0 k t336 (t336.length : Int) 0 bt329.1 bt329.2.1 bt329.2.2.1 bt329.2.2.2.1 bt329.2.2.2.2.1 bt329.2.2.2.2.2))) else (some false)))=some r:=h
 clear h
 replace H:=Option.bind_eq_some_iff.mp H
 obtain ⟨t328,A30,H⟩:=H
 replace H : (if t328=true then ((versallaw17_affine.f a1_0 a1_1 a1_2 a1_3 a1_4 a1_5).bind fun bt329=>((versalhand_Contours.f k l0).bind fun t336=>(versallaw17_FlatRounds.l0 k t336 (t336.length : Int) 0 bt329.1 bt329.2.1 bt329.2.2.1 bt329.2.2.2.1 bt329.2.2.2.2.1 bt329.2.2.2.2.2))) else (some false))=some r:=H
 have A3:=amk A30
 clear A30
 by_cases c4 : t328=true
 ·subst c4
  have H1 : ((versallaw17_affine.f a1_0 a1_1 a1_2 a1_3 a1_4 a1_5).bind fun bt329=>((versalhand_Contours.f k l0).bind fun t336=>(versallaw17_FlatRounds.l0 k t336 (t336.length : Int) 0 bt329.1 bt329.2.1 bt329.2.2.1 bt329.2.2.2.1 bt329.2.2.2.2.1 bt329.2.2.2.2.2)))=some r:=by rw [if_pos rfl] at H;exact H
  clear H
  have H:=H1
  clear H1
  replace H:=Option.bind_eq_some_iff.mp H
  obtain ⟨⟨t329,t330,t331,t332,t333,t334⟩,A50,H⟩:=H
  replace H : ((versalhand_Contours.f k l0).bind fun t336=>(versallaw17_FlatRounds.l0 k t336 (t336.length : Int) 0 t329 t330 t331 t332 t333 t334))=some r:=H
  have A5:=amk A50
  clear A50
  replace H:=Option.bind_eq_some_iff.mp H
  obtain ⟨t336,A60,H⟩:=H
  replace H : (versallaw17_FlatRounds.l0 k t336 (t336.length : Int) 0 t329 t330 t331 t332 t333 t334)=some r:=H
  have A6:=amk A60
  clear A60
  have H':=amk H
  clear H
  go_enter Try.func3,Try.ntmps3
  go_wp2_with (first|((with_reducible refine gate_dst (N:=3) rfl ?_);refine box_event ?hg (N:=3) ?hd (cs:=#[.int .i64 a1_0,.int .i64 a1_1,.int .i64 a1_2,.int .i64 a1_3,.int .i64 a1_4,.int .i64 a1_5]) (t:=23) ?hr ?_;(case hd=>rfl);(case hg=>rfl);(case hr=>first|(go_simp;done)|(go_simp;rfl));intro gb327 hg w7 hbox hb;have n0_:=amk (below_step (by repeat (first|(with_reducible first|exact HB.out|apply bAl|apply bDN|apply bD1)|exact HB.out)) hb);have n1_:=amk (hbox);have n2_:=amk ((by rw [hg];exact (below_size (by repeat (first|(with_reducible first|exact HB.out|apply bAl|apply bDN|apply bD1)|exact HB.out))) : w.heap.size≤gb327));have n3_:=amk ((by rw [hg];exact (below_size (by repeat (first|(with_reducible first|exact HB.out|apply bAl|apply bDN|apply bD1)|exact HB.out))) : w.heap.size≤gb327));clear HB;have HB:=n0_;have BK327:=n1_;have GW327:=n2_;have GE327:=n3_;clear n0_ n1_ n2_ n3_;clear hb hbox hg)|((with_reducible refine gate_callee (f:=7) rfl ?_);refine goesL_ (some 18) rfl rfl Try.func7 (by kernel_rfl) rfl #[] rfl (by (try simp only [List.map_toArray,List.map_cons,List.map_nil]);first|done|rfl|(simp only [List.length_drop,List.length_take];rfl)) ?_;(with_reducible refine (versallaw17_known.calls k  true _ A3.out).mono ?_);rintro e w8 ⟨rfl,hb⟩;refine ⟨_,rfl,?_⟩;have n0_:=amk (blk_below (g:=gb327) (o:=.cells #[.int .i64 a1_0,.int .i64 a1_1,.int .i64 a1_2,.int .i64 a1_3,.int .i64 a1_4,.int .i64 a1_5] 23 (0,0)) (by (with_reducible repeat first|apply kN|apply kD|apply kA);exact BK327.out) hb);have n1_:=amk (below_step (by repeat (first|(with_reducible first|exact HB.out|apply bAl|apply bDN|apply bD1|refine bSe ?_ GE327.out)|exact HB.out)) hb);clear BK327;clear HB;have BK327:=n0_;have HB:=n1_;clear n0_ n1_;(try clear hb);(try clear hb2);(try clear hk);(try clear hi);have hcz9_0 : w8.cell? ⟨gb327,0,none⟩=some (.int .i64 a1_0):=(blk_cell BK327.out 0).trans rfl;have hcz9_1 : w8.cell? ⟨gb327,1,none⟩=some (.int .i64 a1_1):=(blk_cell BK327.out 1).trans rfl;have hcz9_2 : w8.cell? ⟨gb327,2,none⟩=some (.int .i64 a1_2):=(blk_cell BK327.out 2).trans rfl;have hcz9_3 : w8.cell? ⟨gb327,3,none⟩=some (.int .i64 a1_3):=(blk_cell BK327.out 3).trans rfl;have hcz9_4 : w8.cell? ⟨gb327,4,none⟩=some (.int .i64 a1_4):=(blk_cell BK327.out 4).trans rfl;have hcz9_5 : w8.cell? ⟨gb327,5,none⟩=some (.int .i64 a1_5):=(blk_cell BK327.out 5).trans rfl;have hfz9_0:=blk_frozen BK327.out 0;have hfz9_1:=blk_frozen BK327.out 1;have hfz9_2:=blk_frozen BK327.out 2;have hfz9_3:=blk_frozen BK327.out 3;have hfz9_4:=blk_frozen BK327.out 4;have hfz9_5:=blk_frozen BK327.out 5)|((with_reducible refine gate_callee (f:=8) rfl ?_);refine goesL_ (some 21) rfl rfl Try.func8 (by kernel_rfl) rfl #[.agg #[.int .i64 a1_0,.int .i64 a1_1,.int .i64 a1_2,.int .i64 a1_3,.int .i64 a1_4,.int .i64 a1_5]] rfl (by (try simp only [List.map_toArray,List.map_cons,List.map_nil]);first|done|rfl|(simp only [List.length_drop,List.length_take];rfl)) ?_;(with_reducible refine (versallaw17_affine.calls a1_0 a1_1 a1_2 a1_3 a1_4 a1_5 t329 t330 t331 t332 t333 t334 _ A5.out).mono ?_);rintro e w10 ⟨rfl,hb⟩;refine ⟨_,rfl,?_⟩;have n0_:=amk (blk_below (g:=gb327) (o:=.cells #[.int .i64 a1_0,.int .i64 a1_1,.int .i64 a1_2,.int .i64 a1_3,.int .i64 a1_4,.int .i64 a1_5] 23 (0,0)) (by (with_reducible repeat first|apply kN|apply kD|apply kA);exact BK327.out) hb);have n1_:=amk (below_step (by repeat (first|(with_reducible first|exact HB.out|apply bAl|apply bDN|apply bD1|refine bSe ?_ GE327.out)|exact HB.out)) hb);clear BK327;clear HB;have BK327:=n0_;have HB:=n1_;clear n0_ n1_;(try clear hb);(try clear hb2);(try clear hk);(try clear hi))|((with_reducible refine gate_dst (N:=5) rfl ?_);refine box_event ?hg (N:=5) ?hd (cs:=#[.int .i64 0,.int .i64 0,.int .i64 0,.int .i64 0,.int .i64 0,.int .i64 0]) (t:=26) ?hr ?_;(case hd=>rfl);(case hg=>rfl);(case hr=>first|(go_simp;done)|(go_simp;rfl));intro gb335 hg w11 hbox hb;have n0_:=amk (blk_below (g:=gb327) (o:=.cells #[.int .i64 a1_0,.int .i64 a1_1,.int .i64 a1_2,.int .i64 a1_3,.int .i64 a1_4,.int .i64 a1_5] 23 (0,0)) (by (with_reducible repeat first|apply kN|apply kD|apply kA);exact BK327.out) hb);have n1_:=amk (below_step (by repeat (first|(with_reducible first|exact HB.out|apply bAl|apply bDN|apply bD1|refine bSe ?_ GE327.out)|exact HB.out)) hb);have n2_:=amk (hbox);have n3_:=amk ((by rw [hg];exact (below_size (by repeat (first|(with_reducible first|exact HB.out|apply bAl|apply bDN|apply bD1|refine bSe ?_ GE327.out)|exact HB.out))) : w.heap.size≤gb335));have n4_:=amk ((by rw [hg];exact (below_size (by repeat (first|(with_reducible first|exact HB.out|apply bAl|apply bDN|apply bD1|refine bSe ?_ GE327.out)|exact HB.out))) : w.heap.size≤gb335));have n5_:=amk ((by rw [hg];exact Nat.ne_of_lt (blk_lt (g:=gb327) (o:=.cells #[.int .i64 a1_0,.int .i64 a1_1,.int .i64 a1_2,.int .i64 a1_3,.int .i64 a1_4,.int .i64 a1_5] 23 (0,0)) (by (with_reducible repeat first|apply kN|apply kD|apply kA);exact BK327.out)) : gb327 ≠ gb335));have n6_:=amk ((by rw [hg];exact Nat.ne_of_gt (blk_lt (g:=gb327) (o:=.cells #[.int .i64 a1_0,.int .i64 a1_1,.int .i64 a1_2,.int .i64 a1_3,.int .i64 a1_4,.int .i64 a1_5] 23 (0,0)) (by (with_reducible repeat first|apply kN|apply kD|apply kA);exact BK327.out)) : gb335 ≠ gb327));clear BK327;clear HB;have BK327:=n0_;have HB:=n1_;have BK335:=n2_;have GW335:=n3_;have GE335:=n4_;have NB327_335:=n5_;have NB335_327:=n6_;clear n0_ n1_ n2_ n3_ n4_ n5_ n6_;clear hb hbox hg;have hnb12:=NB335_327.out;have hnc12:=NB327_335.out;have hcz13_0 : w11.cell? ⟨gb335,0,none⟩=some (.int .i64 0):=(blk_cell BK335.out 0).trans rfl;have hcz13_1 : w11.cell? ⟨gb335,1,none⟩=some (.int .i64 0):=(blk_cell BK335.out 1).trans rfl;have hcz13_2 : w11.cell? ⟨gb335,2,none⟩=some (.int .i64 0):=(blk_cell BK335.out 2).trans rfl;have hcz13_3 : w11.cell? ⟨gb335,3,none⟩=some (.int .i64 0):=(blk_cell BK335.out 3).trans rfl;have hcz13_4 : w11.cell? ⟨gb335,4,none⟩=some (.int .i64 0):=(blk_cell BK335.out 4).trans rfl;have hcz13_5 : w11.cell? ⟨gb335,5,none⟩=some (.int .i64 0):=(blk_cell BK335.out 5).trans rfl;have hfz13_0:=blk_frozen BK335.out 0;have hfz13_1:=blk_frozen BK335.out 1;have hfz13_2:=blk_frozen BK335.out 2;have hfz13_3:=blk_frozen BK335.out 3;have hfz13_4:=blk_frozen BK335.out 4;have hfz13_5:=blk_frozen BK335.out 5)|((with_reducible refine gate_callee (f:=9) rfl ?_);refine goesL_ (some 23) rfl rfl Try.func9 (by kernel_rfl) rfl #[.slice A0 l0.length c0] rfl (by (try simp only [List.map_toArray,List.map_cons,List.map_nil]);first|done|rfl|(simp only [List.length_drop,List.length_take];rfl)) ?_;(with_reducible refine (versalhand_Contours.calls k _ _ l0 t336 _ ?side1 ?side2 A6.out).mono ?_);(case side1=>exact Kd.C_below HR0.out (by repeat (first|(with_reducible first|exact HB.out|apply bAl|apply bDN|apply bD1|refine bSe ?_ GE327.out|refine bSe ?_ GE335.out)|exact HB.out)));(case side2=>exact HC0.out);rintro e w14 ⟨v337,rfl,ho0,hb⟩;refine ⟨_,rfl,?_⟩;have n0_:=amk (Kd.N_lower (Kd.N_mono (ok':=fun k_=>k_ ≠ gb327∧k_ ≠ gb335) (Kd.S_N (Kd.S_bound ho0)) (fun k_ hk_=>⟨(Kd.freshB (g:=gb327) (o:=.cells #[.int .i64 a1_0,.int .i64 a1_1,.int .i64 a1_2,.int .i64 a1_3,.int .i64 a1_4,.int .i64 a1_5] 23 (0,0)) (by (with_reducible repeat first|apply kN|apply kD|apply kA);refine blk_far ?_ NB327_335.out _;(with_reducible repeat first|apply kN|apply kD|apply kA);refine blk_far ?_ NB327_335.out _;(with_reducible repeat first|apply kN|apply kD|apply kA);refine blk_far ?_ NB327_335.out _;(with_reducible repeat first|apply kN|apply kD|apply kA);refine blk_far ?_ NB327_335.out _;(with_reducible repeat first|apply kN|apply kD|apply kA);refine blk_far ?_ NB327_335.out _;(with_reducible repeat first|apply kN|apply kD|apply kA);refine blk_far ?_ NB327_335.out _;(with_reducible repeat first|apply kN|apply kD|apply kA);exact BK327.out) k_ hk_.2.1),(Kd.freshB (g:=gb335) (o:=.cells #[.int .i64 t329,.int .i64 t330,.int .i64 t331,.int .i64 t332,.int .i64 t333,.int .i64 t334] 26 (0,0)) (by (with_reducible repeat first|apply kN|apply kD|apply kA);refine blk_put (cs:=#[.int .i64 t329,.int .i64 t330,.int .i64 t331,.int .i64 t332,.int .i64 t333,.int .i64 0]) ?_ 5 _ rfl;(with_reducible repeat first|apply kN|apply kD|apply kA);refine blk_put (cs:=#[.int .i64 t329,.int .i64 t330,.int .i64 t331,.int .i64 t332,.int .i64 0,.int .i64 0]) ?_ 4 _ rfl;(with_reducible repeat first|apply kN|apply kD|apply kA);refine blk_put (cs:=#[.int .i64 t329,.int .i64 t330,.int .i64 t331,.int .i64 0,.int .i64 0,.int .i64 0]) ?_ 3 _ rfl;(with_reducible repeat first|apply kN|apply kD|apply kA);refine blk_put (cs:=#[.int .i64 t329,.int .i64 t330,.int .i64 0,.int .i64 0,.int .i64 0,.int .i64 0]) ?_ 2 _ rfl;(with_reducible repeat first|apply kN|apply kD|apply kA);refine blk_put (cs:=#[.int .i64 t329,.int .i64 0,.int .i64 0,.int .i64 0,.int .i64 0,.int .i64 0]) ?_ 1 _ rfl;(with_reducible repeat first|apply kN|apply kD|apply kA);refine blk_put (cs:=#[.int .i64 0,.int .i64 0,.int .i64 0,.int .i64 0,.int .i64 0,.int .i64 0]) ?_ 0 _ rfl;(with_reducible repeat first|apply kN|apply kD|apply kA);exact BK335.out) k_ hk_.2.1)⟩)) (below_size (by repeat (first|(with_reducible first|exact HB.out|apply bAl|apply bDN|apply bD1|refine bSe ?_ GE327.out|refine bSe ?_ GE335.out)|exact HB.out))));have n1_:=amk (blk_below (g:=gb327) (o:=.cells #[.int .i64 a1_0,.int .i64 a1_1,.int .i64 a1_2,.int .i64 a1_3,.int .i64 a1_4,.int .i64 a1_5] 23 (0,0)) (by (with_reducible repeat first|apply kN|apply kD|apply kA);refine blk_far ?_ NB327_335.out _;(with_reducible repeat first|apply kN|apply kD|apply kA);refine blk_far ?_ NB327_335.out _;(with_reducible repeat first|apply kN|apply kD|apply kA);refine blk_far ?_ NB327_335.out _;(with_reducible repeat first|apply kN|apply kD|apply kA);refine blk_far ?_ NB327_335.out _;(with_reducible repeat first|apply kN|apply kD|apply kA);refine blk_far ?_ NB327_335.out _;(with_reducible repeat first|apply kN|apply kD|apply kA);refine blk_far ?_ NB327_335.out _;(with_reducible repeat first|apply kN|apply kD|apply kA);exact BK327.out) hb);have n2_:=amk (blk_below (g:=gb335) (o:=.cells #[.int .i64 t329,.int .i64 t330,.int .i64 t331,.int .i64 t332,.int .i64 t333,.int .i64 t334] 26 (0,0)) (by (with_reducible repeat first|apply kN|apply kD|apply kA);refine blk_put (cs:=#[.int .i64 t329,.int .i64 t330,.int .i64 t331,.int .i64 t332,.int .i64 t333,.int .i64 0]) ?_ 5 _ rfl;(with_reducible repeat first|apply kN|apply kD|apply kA);refine blk_put (cs:=#[.int .i64 t329,.int .i64 t330,.int .i64 t331,.int .i64 t332,.int .i64 0,.int .i64 0]) ?_ 4 _ rfl;(with_reducible repeat first|apply kN|apply kD|apply kA);refine blk_put (cs:=#[.int .i64 t329,.int .i64 t330,.int .i64 t331,.int .i64 0,.int .i64 0,.int .i64 0]) ?_ 3 _ rfl;(with_reducible repeat first|apply kN|apply kD|apply kA);refine blk_put (cs:=#[.int .i64 t329,.int .i64 t330,.int .i64 0,.int .i64 0,.int .i64 0,.int .i64 0]) ?_ 2 _ rfl;(with_reducible repeat first|apply kN|apply kD|apply kA);refine blk_put (cs:=#[.int .i64 t329,.int .i64 0,.int .i64 0,.int .i64 0,.int .i64 0,.int .i64 0]) ?_ 1 _ rfl;(with_reducible repeat first|apply kN|apply kD|apply kA);refine blk_put (cs:=#[.int .i64 0,.int .i64 0,.int .i64 0,.int .i64 0,.int .i64 0,.int .i64 0]) ?_ 0 _ rfl;(with_reducible repeat first|apply kN|apply kD|apply kA);exact BK335.out) hb);have n3_:=amk (below_step (by repeat (first|(with_reducible first|exact HB.out|apply bAl|apply bDN|apply bD1|refine bSe ?_ GE327.out|refine bSe ?_ GE335.out)|exact HB.out)) hb);clear BK327;clear BK335;clear HB;have HO338:=n0_;have BK327:=n1_;have BK335:=n2_;have HB:=n3_;clear n0_ n1_ n2_ n3_;(try clear hb);(try clear hb2);(try clear hk);(try clear hi);(try clear ho0);obtain ⟨Ao15,co15,eo15⟩:=Kd.N_slice HO338.out;subst eo15))
  go_loopg [25] k (fun kq v25 w'=>∃ (x25_1 : Int),v25=.int .i64 x25_1∧Aside0 (versallaw17_FlatRounds.l0 kq t336 (t336.length : Int) x25_1 t329 t330 t331 t332 t333 t334=some r)∧Aside0 (kq≤k)∧Aside0 (Kd.N (Kd.slice 36 k36) 30 w' w.heap.size (fun k_=>k_ ≠ gb327∧k_ ≠ gb335) (.slice Ao15 t336.length co15) t336)∧Aside0 (w'.heap[gb327]?=some (.cells #[.int .i64 a1_0,.int .i64 a1_1,.int .i64 a1_2,.int .i64 a1_3,.int .i64 a1_4,.int .i64 a1_5] 23 (0,0)))∧Aside0 (w'.heap[gb335]?=some (.cells #[.int .i64 t329,.int .i64 t330,.int .i64 t331,.int .i64 t332,.int .i64 t333,.int .i64 t334] 26 (0,0)))∧Aside0 (Below w.heap.size w w'))
  case atStart=>exact ⟨(0),(by first|rfl|(simp;done)|(simp [*];done)),H',⟨Nat.le_refl _⟩,⟨by (with_reducible repeat (first|apply Kd.N_alloc|apply Kd.N_drewN|apply Kd.N_drew));exact HO338.out⟩,⟨by (with_reducible repeat first|apply kN|apply kD|apply kA);exact BK327.out⟩,⟨by (with_reducible repeat first|apply kN|apply kD|apply kA);exact BK335.out⟩,⟨by repeat (first|(with_reducible first|exact HB.out|apply bAl|apply bDN|apply bD1|refine bSe ?_ GE327.out|refine bSe ?_ GE335.out)|exact HB.out)⟩⟩
  case round =>
   clear H'
   try clear c1
   try clear p2
   try clear c3
   try clear c4
   try clear c7
   try clear c8
   try clear c9
   try clear c12
   try clear hcz13_0
   try clear hcz13_1
   try clear hcz13_2
   try clear hcz13_3
   try clear hcz13_4
   try clear hcz13_5
   try clear hcz9_0
   try clear hcz9_1
   try clear hcz9_2
   try clear hcz9_3
   try clear hcz9_4
   try clear hcz9_5
   try clear hfz13_0
   try clear hfz13_1
   try clear hfz13_2
   try clear hfz13_3
   try clear hfz13_4
   try clear hfz13_5
   try clear hfz9_0
   try clear hfz9_1
   try clear hfz9_2
   try clear hfz9_3
   try clear hfz9_4
   try clear hfz9_5
   obtain ⟨x25_1,rfl,HA,HK1,HO_23,BK327,BK335,HB⟩:=hrel
   cases gk with
   | zero=>exact absurd HA.out (by simp [versallaw17_FlatRounds.l0])
   | succ k1 =>
    have H:=HA.out
    clear HA
    simp only [versallaw17_FlatRounds.l0] at H
    by_cases c16 : x25_1 < (t336.length : Int)
    ·rw [if_pos c16] at H
     have c16b0 : decide (x25_1 < (t336.length : Int))=true:=decide_eq_true c16
     clear c16
     by_cases c17 : 0≤x25_1
     ·rw [if_pos c17] at H
      have c17b0 : decide (0≤x25_1)=true:=decide_eq_true c17
      clear c17
      by_cases c18 : x25_1 < (t336.length : Int)
      ·rw [if_pos c18] at H
       have c18b0 : decide (x25_1 < (t336.length : Int))=true:=decide_eq_true c18
       clear c18
       obtain ⟨y340,hy340⟩ : ∃ y_ : List (List (S36)),y_=(([rd_L6 t336 x25_1] : List (List (S36)))):=⟨_,rfl⟩
       replace H : ((flat_Segs.f k1 y340 t329 t330 t331 t332 t333 t334).bind fun t343=>(if ((rd_L6 t336 x25_1).length : Int) < 2 then (if (t343.length : Int) > 0 then (some false) else (versallaw17_FlatRounds.l0 k1 t336 (t336.length : Int) (wrap64 (x25_1+1)) t329 t330 t331 t332 t333 t334)) else (if (t343.length : Int) < 2 then (some false) else (versallaw17_FlatRounds.l1 k1 (rd_L6 t336 x25_1) t343 t336 (t336.length : Int) x25_1 (t343.length : Int) 0 t329 t330 t331 t332 t333 t334))))=some r:=by first|(rw [hy340];with_reducible exact H)|(have H2_:=(Option.bind_some _ _).symm.trans H;rw [hy340];with_reducible exact H2_)|(have H2_:=(Option.bind_some _ _).symm.trans H;with_reducible exact H2_)|with_reducible exact H|(rw [hy340];exact H)|exact H
       have Ny340:=amk hy340
       clear hy340
       replace H:=Option.bind_eq_some_iff.mp H
       obtain ⟨t343,A190,H⟩:=H
       replace H : (if ((rd_L6 t336 x25_1).length : Int) < 2 then (if (t343.length : Int) > 0 then (some false) else (versallaw17_FlatRounds.l0 k1 t336 (t336.length : Int) (wrap64 (x25_1+1)) t329 t330 t331 t332 t333 t334)) else (if (t343.length : Int) < 2 then (some false) else (versallaw17_FlatRounds.l1 k1 (rd_L6 t336 x25_1) t343 t336 (t336.length : Int) x25_1 (t343.length : Int) 0 t329 t330 t331 t332 t333 t334)))=some r:=H
       have A19:=amk A190
       clear A190
       by_cases c20 : ((rd_L6 t336 x25_1).length : Int) < 2
       ·rw [if_pos c20] at H
        have c20b0 : decide (((rd_L6 t336 x25_1).length : Int) < 2)=true:=decide_eq_true c20
        have c20b1 : decide ((rd_L6 t336 x25_1).length < 2)=true:=decide_eq_true (by omega)
        clear c20
        by_cases c21 : (t343.length : Int) > 0
        ·rw [if_pos c21] at H
         have c21b0 : decide (0 < (t343.length : Int))=true:=decide_eq_true c21
         have c21b1 : decide (0 < t343.length)=true:=decide_eq_true (by omega)
         clear c21
         obtain rfl:=Option.some.inj H
         have p339 : 0≤(x25_1 : Int):=of_decide_eq_true (by first|(with_reducible assumption)|assumption)
         have q339 : x25_1 < (t336.length : Int):=of_decide_eq_true (by first|(with_reducible assumption)|assumption)
         obtain ⟨ad339,A339_0,c339_0,e339,hx339_0,hl339_0,hi339_0⟩:=at_L6 (Kd.N_reads' HO_23.out).2.2 x25_1 p339 q339
         cases e339
         obtain ⟨ce339,hce339,hMe339,hcc339⟩:=Kd.N_get HO_23.out [] x25_1 p339 (by first|exact q339|exact of_decide_eq_true (by first|(with_reducible assumption)|assumption)|(have e_:=(Kd.N_reads' HO_23.out).1;omega))
         obtain ⟨ua339_0,uc339_0,rfl,ul339_0,ge339_0⟩:=Kd.FK_slice_open hMe339
         have hv339_0:=hcc339 0 _ rfl
         rw [Nat.add_zero,show ((Kd.slice 36 k36)).sz=1 from rfl,Nat.mul_one] at hv339_0
         replace hv339_0:=Option.some.inj (hv339_0.symm.trans hx339_0)
         injection hv339_0 with hva_ hvn_ hvc_
         rw [hva_] at ge339_0
         rw [hvc_] at ul339_0
         have HL339_0:=amk (show Kd.V k36 36 _ w.heap.size _ _ (rd_L6 t336 x25_1) from Kd.V_mk ul339_0 ge339_0)
         clear hva_ hvn_ hvc_ ge339_0 ul339_0
         clear hcc339 hce339
         have HR339_0:=amk hi339_0
         have HC339_0:=amk hl339_0
         clear hi339_0 hl339_0
         replace p339:=eq_true p339
         replace q339:=eq_true q339
         go_wp2_with (first|((with_reducible refine gate_dst (N:=30) rfl ?_);refine Kd.N_lit (Kd.slice 36 k36) _ 30 ?hg (N':=30) ?hd (xs:=([rd_L6 t336 x25_1] : List (List (S36)))) (inner:=[.slice A339_0 (rd_L6 t336 x25_1).length c339_0]) (ok:=(fun k_=>some k_ ≠ (.slice (some ad339) t336.length co15 : Value).ownBlock∧k_ ≠ gb327∧k_ ≠ gb335)) (okp:=(fun k_=>some k_ ≠ (.slice (some ad339) t336.length co15 : Value).ownBlock∧k_ ≠ gb327∧k_ ≠ gb335)) ?hr ?hp (fun _ hk=>hk) ((show ∀ k_,wr.heap.size≤k_ → (fun k_=>some k_ ≠ (.slice (some ad339) t336.length co15 : Value).ownBlock∧k_ ≠ gb327∧k_ ≠ gb335) k_ from fun k_ hk=>⟨Kd.fresh' (Kd.N_lt (by (with_reducible repeat (first|apply Kd.N_alloc|apply Kd.N_drewN|apply Kd.N_drew));exact HO_23.out)) k_ hk,Kd.freshB (g:=gb327) (o:=.cells #[.int .i64 a1_0,.int .i64 a1_1,.int .i64 a1_2,.int .i64 a1_3,.int .i64 a1_4,.int .i64 a1_5] 23 (0,0)) (by (with_reducible repeat first|apply kN|apply kD|apply kA);exact BK327.out) k_ hk,Kd.freshB (g:=gb335) (o:=.cells #[.int .i64 t329,.int .i64 t330,.int .i64 t331,.int .i64 t332,.int .i64 t333,.int .i64 t334] 26 (0,0)) (by (with_reducible repeat first|apply kN|apply kD|apply kA);exact BK335.out) k_ hk⟩) _ (Nat.le_refl _)) (Below.refl _ _) (Nat.le_refl _) (by simp) ?_;(case hd=>rfl);(case hg=>rfl);(case hr=>first|(go_simp;done)|(go_simp;rfl));(case hp=>exact (Reps.one (show Kd.FK (Kd.slice 36 k36) _ _ (rd_L6 t336 x25_1) [.slice A339_0 (rd_L6 t336 x25_1).length c339_0] from (Kd.FK_slice_mk (Kd.V_reads' (Kd.V_mono (ok':=(fun k_=>some k_ ≠ (.slice (some ad339) t336.length co15 : Value).ownBlock∧k_ ≠ gb327∧k_ ≠ gb335)) (HL339_0.out) (fun k_ hk=>⟨hk.2,⟨hk.1.1,hk.1.2⟩⟩))).2.1 (Kd.V_F (Kd.V_mono (ok':=(fun k_=>some k_ ≠ (.slice (some ad339) t336.length co15 : Value).ownBlock∧k_ ≠ gb327∧k_ ≠ gb335)) (HL339_0.out) (fun k_ hk=>⟨hk.2,⟨hk.1.1,hk.1.2⟩⟩))))) (Reps.none _ _)));intro v341 w22 ho23 hb hg_ hnew_;clear hg_ hnew_;(first|rw [← Ny340.out] at ho23|(simp only [Int.reduceToNat] at ho23;rw [← Ny340.out] at ho23));have n0_:=amk (Kd.N_elder' (by (with_reducible repeat (first|apply Kd.N_alloc|apply Kd.N_drewN|apply Kd.N_drew));exact HO_23.out) (Kd.N_base ho23) hb);have n1_:=amk (Kd.V_elder' (by (with_reducible repeat (first|apply Kd.V_alloc|apply Kd.V_drewN|apply Kd.V_drew));exact HL339_0.out) (Kd.N_base ho23) hb);have n2_:=amk (Kd.N_lower ho23 (below_size (by repeat (first|(with_reducible first|exact HB.out|apply bAl|apply bDN|apply bD1|refine bSe ?_ GE327.out|refine bSe ?_ GE335.out)|exact HB.out))));have n3_:=amk (blk_below (g:=gb327) (o:=.cells #[.int .i64 a1_0,.int .i64 a1_1,.int .i64 a1_2,.int .i64 a1_3,.int .i64 a1_4,.int .i64 a1_5] 23 (0,0)) (by (with_reducible repeat first|apply kN|apply kD|apply kA);exact BK327.out) hb);have n4_:=amk (blk_below (g:=gb335) (o:=.cells #[.int .i64 t329,.int .i64 t330,.int .i64 t331,.int .i64 t332,.int .i64 t333,.int .i64 t334] 26 (0,0)) (by (with_reducible repeat first|apply kN|apply kD|apply kA);exact BK335.out) hb);have n5_:=amk (Kd.C_below (by repeat (first|(with_reducible exact HR339_0.out)|(with_reducible refine Kd.C_alloc ?_ _)|(with_reducible refine Kd.C_drewN ?_ _)|(with_reducible refine Kd.C_drew ?_)|exact HR339_0.out)) hb);have n6_:=amk (below_step (by repeat (first|(with_reducible first|exact HB.out|apply bAl|apply bDN|apply bD1|refine bSe ?_ GE327.out|refine bSe ?_ GE335.out)|exact HB.out)) hb);clear HO_23;clear HL339_0;clear BK327;clear BK335;clear HR339_0;clear HB;have HO_23:=n0_;have HL339_0:=n1_;have HO342:=n2_;have BK327:=n3_;have BK335:=n4_;have HR339_0:=n5_;have HB:=n6_;clear n0_ n1_ n2_ n3_ n4_ n5_ n6_;clear hb ho23;have hnb24:=NB335_327.out;have hnc24:=NB327_335.out;have hcz25_0 : w22.cell? ⟨gb335,0,none⟩=some (.int .i64 t329):=(blk_cell BK335.out 0).trans rfl;have hcz25_1 : w22.cell? ⟨gb335,1,none⟩=some (.int .i64 t330):=(blk_cell BK335.out 1).trans rfl;have hcz25_2 : w22.cell? ⟨gb335,2,none⟩=some (.int .i64 t331):=(blk_cell BK335.out 2).trans rfl;have hcz25_3 : w22.cell? ⟨gb335,3,none⟩=some (.int .i64 t332):=(blk_cell BK335.out 3).trans rfl;have hcz25_4 : w22.cell? ⟨gb335,4,none⟩=some (.int .i64 t333):=(blk_cell BK335.out 4).trans rfl;have hcz25_5 : w22.cell? ⟨gb335,5,none⟩=some (.int .i64 t334):=(blk_cell BK335.out 5).trans rfl;have hfz25_0:=blk_frozen BK335.out 0;have hfz25_1:=blk_frozen BK335.out 1;have hfz25_2:=blk_frozen BK335.out 2;have hfz25_3:=blk_frozen BK335.out 3;have hfz25_4:=blk_frozen BK335.out 4;have hfz25_5:=blk_frozen BK335.out 5;obtain ⟨Ao26,co26,eo26⟩:=Kd.N_slice HO342.out;subst eo26)|((with_reducible refine gate_callee (f:=10) rfl ?_);refine goesL_ (some 32) rfl rfl Try.func10 (by kernel_rfl) rfl #[.slice Ao26 y340.length co26,.agg #[.int .i64 t329,.int .i64 t330,.int .i64 t331,.int .i64 t332,.int .i64 t333,.int .i64 t334]] rfl (by (try simp only [List.map_toArray,List.map_cons,List.map_nil]);first|done|rfl|(simp only [List.length_drop,List.length_take];rfl)) ?_;(with_reducible refine (flat_Segs.calls k1 _ _ y340 t329 t330 t331 t332 t333 t334 t343 _ ?side1 ?side2 A19.out).mono ?_);(case side1=>repeat (first|exact (Kd.N_reads' HO342.out).2.2|(with_reducible refine Kd.C_alloc ?_ _)|(with_reducible refine Kd.C_drewN ?_ _)|(with_reducible refine Kd.C_drew ?_)));(case side2=>exact (Kd.N_reads' HO342.out).2.1);rintro e w27 ⟨v344,rfl,ho0,hb⟩;refine ⟨_,rfl,?_⟩;have n0_:=amk (Kd.N_elder' (by (with_reducible repeat (first|apply Kd.N_alloc|apply Kd.N_drewN|apply Kd.N_drew));exact HO_23.out) (Kd.R_base ho0) hb);have n1_:=amk (Kd.V_elder' (by (with_reducible repeat (first|apply Kd.V_alloc|apply Kd.V_drewN|apply Kd.V_drew));exact HL339_0.out) (Kd.R_base ho0) hb);have n2_:=amk (Kd.N_elder' (by (with_reducible repeat (first|apply Kd.N_alloc|apply Kd.N_drewN|apply Kd.N_drew));exact HO342.out) (Kd.R_base ho0) hb);have n3_:=amk (Kd.R_lower ho0 (below_size (by repeat (first|(with_reducible first|exact HB.out|apply bAl|apply bDN|apply bD1|refine bSe ?_ GE327.out|refine bSe ?_ GE335.out)|exact HB.out))));have n4_:=amk (blk_below (g:=gb327) (o:=.cells #[.int .i64 a1_0,.int .i64 a1_1,.int .i64 a1_2,.int .i64 a1_3,.int .i64 a1_4,.int .i64 a1_5] 23 (0,0)) (by (with_reducible repeat first|apply kN|apply kD|apply kA);exact BK327.out) hb);have n5_:=amk (blk_below (g:=gb335) (o:=.cells #[.int .i64 t329,.int .i64 t330,.int .i64 t331,.int .i64 t332,.int .i64 t333,.int .i64 t334] 26 (0,0)) (by (with_reducible repeat first|apply kN|apply kD|apply kA);exact BK335.out) hb);have n6_:=amk (Kd.C_below (by repeat (first|(with_reducible exact HR339_0.out)|(with_reducible refine Kd.C_alloc ?_ _)|(with_reducible refine Kd.C_drewN ?_ _)|(with_reducible refine Kd.C_drew ?_)|exact HR339_0.out)) hb);have n7_:=amk (below_step (by repeat (first|(with_reducible first|exact HB.out|apply bAl|apply bDN|apply bD1|refine bSe ?_ GE327.out|refine bSe ?_ GE335.out)|exact HB.out)) hb);clear HO_23;clear HL339_0;clear HO342;clear BK327;clear BK335;clear HR339_0;clear HB;have HO_23:=n0_;have HL339_0:=n1_;have HO342:=n2_;have HO345:=n3_;have BK327:=n4_;have BK335:=n5_;have HR339_0:=n6_;have HB:=n7_;clear n0_ n1_ n2_ n3_ n4_ n5_ n6_ n7_;(try clear hb);(try clear hb2);(try clear hk);(try clear hi);(try clear ho0);obtain ⟨Ao28,co28,eo28⟩:=Kd.R_slice HO345.out;subst eo28))
         go_ret
         exact ⟨by first|rfl|(simp [errW_none,errW_some] <;> rfl)|(simp [*,errW_none,errW_some] <;> rfl),by repeat (first|(with_reducible first|exact HB.out|apply bAl|apply bDN|apply bD1|refine bSe ?_ GE327.out|refine bSe ?_ GE335.out)|exact HB.out)⟩
        ·rw [if_neg c21] at H
         have c21b0 : decide (0 < (t343.length : Int))=false:=decide_eq_false c21
         have c21b1 : decide (0 < t343.length)=false:=decide_eq_false (by omega)
         clear c21
         have H':=amk H
         clear H
         have p339 : 0≤(x25_1 : Int):=of_decide_eq_true (by first|(with_reducible assumption)|assumption)
         have q339 : x25_1 < (t336.length : Int):=of_decide_eq_true (by first|(with_reducible assumption)|assumption)
         obtain ⟨ad339,A339_0,c339_0,e339,hx339_0,hl339_0,hi339_0⟩:=at_L6 (Kd.N_reads' HO_23.out).2.2 x25_1 p339 q339
         cases e339
         obtain ⟨ce339,hce339,hMe339,hcc339⟩:=Kd.N_get HO_23.out [] x25_1 p339 (by first|exact q339|exact of_decide_eq_true (by first|(with_reducible assumption)|assumption)|(have e_:=(Kd.N_reads' HO_23.out).1;omega))
         obtain ⟨ua339_0,uc339_0,rfl,ul339_0,ge339_0⟩:=Kd.FK_slice_open hMe339
         have hv339_0:=hcc339 0 _ rfl
         rw [Nat.add_zero,show ((Kd.slice 36 k36)).sz=1 from rfl,Nat.mul_one] at hv339_0
         replace hv339_0:=Option.some.inj (hv339_0.symm.trans hx339_0)
         injection hv339_0 with hva_ hvn_ hvc_
         rw [hva_] at ge339_0
         rw [hvc_] at ul339_0
         have HL339_0:=amk (show Kd.V k36 36 _ w.heap.size _ _ (rd_L6 t336 x25_1) from Kd.V_mk ul339_0 ge339_0)
         clear hva_ hvn_ hvc_ ge339_0 ul339_0
         clear hcc339 hce339
         have HR339_0:=amk hi339_0
         have HC339_0:=amk hl339_0
         clear hi339_0 hl339_0
         replace p339:=eq_true p339
         replace q339:=eq_true q339
         go_wp2_with (first|((with_reducible refine gate_dst (N:=30) rfl ?_);refine Kd.N_lit (Kd.slice 36 k36) _ 30 ?hg (N':=30) ?hd (xs:=([rd_L6 t336 x25_1] : List (List (S36)))) (inner:=[.slice A339_0 (rd_L6 t336 x25_1).length c339_0]) (ok:=(fun k_=>some k_ ≠ (.slice (some ad339) t336.length co15 : Value).ownBlock∧k_ ≠ gb327∧k_ ≠ gb335)) (okp:=(fun k_=>some k_ ≠ (.slice (some ad339) t336.length co15 : Value).ownBlock∧k_ ≠ gb327∧k_ ≠ gb335)) ?hr ?hp (fun _ hk=>hk) ((show ∀ k_,wr.heap.size≤k_ → (fun k_=>some k_ ≠ (.slice (some ad339) t336.length co15 : Value).ownBlock∧k_ ≠ gb327∧k_ ≠ gb335) k_ from fun k_ hk=>⟨Kd.fresh' (Kd.N_lt (by (with_reducible repeat (first|apply Kd.N_alloc|apply Kd.N_drewN|apply Kd.N_drew));exact HO_23.out)) k_ hk,Kd.freshB (g:=gb327) (o:=.cells #[.int .i64 a1_0,.int .i64 a1_1,.int .i64 a1_2,.int .i64 a1_3,.int .i64 a1_4,.int .i64 a1_5] 23 (0,0)) (by (with_reducible repeat first|apply kN|apply kD|apply kA);exact BK327.out) k_ hk,Kd.freshB (g:=gb335) (o:=.cells #[.int .i64 t329,.int .i64 t330,.int .i64 t331,.int .i64 t332,.int .i64 t333,.int .i64 t334] 26 (0,0)) (by (with_reducible repeat first|apply kN|apply kD|apply kA);exact BK335.out) k_ hk⟩) _ (Nat.le_refl _)) (Below.refl _ _) (Nat.le_refl _) (by simp) ?_;(case hd=>rfl);(case hg=>rfl);(case hr=>first|(go_simp;done)|(go_simp;rfl));(case hp=>exact (Reps.one (show Kd.FK (Kd.slice 36 k36) _ _ (rd_L6 t336 x25_1) [.slice A339_0 (rd_L6 t336 x25_1).length c339_0] from (Kd.FK_slice_mk (Kd.V_reads' (Kd.V_mono (ok':=(fun k_=>some k_ ≠ (.slice (some ad339) t336.length co15 : Value).ownBlock∧k_ ≠ gb327∧k_ ≠ gb335)) (HL339_0.out) (fun k_ hk=>⟨hk.2,⟨hk.1.1,hk.1.2⟩⟩))).2.1 (Kd.V_F (Kd.V_mono (ok':=(fun k_=>some k_ ≠ (.slice (some ad339) t336.length co15 : Value).ownBlock∧k_ ≠ gb327∧k_ ≠ gb335)) (HL339_0.out) (fun k_ hk=>⟨hk.2,⟨hk.1.1,hk.1.2⟩⟩))))) (Reps.none _ _)));intro v341 w29 ho30 hb hg_ hnew_;clear hg_ hnew_;(first|rw [← Ny340.out] at ho30|(simp only [Int.reduceToNat] at ho30;rw [← Ny340.out] at ho30));have n0_:=amk (Kd.N_elder' (by (with_reducible repeat (first|apply Kd.N_alloc|apply Kd.N_drewN|apply Kd.N_drew));exact HO_23.out) (Kd.N_base ho30) hb);have n1_:=amk (Kd.V_elder' (by (with_reducible repeat (first|apply Kd.V_alloc|apply Kd.V_drewN|apply Kd.V_drew));exact HL339_0.out) (Kd.N_base ho30) hb);have n2_:=amk (Kd.N_lower ho30 (below_size (by repeat (first|(with_reducible first|exact HB.out|apply bAl|apply bDN|apply bD1|refine bSe ?_ GE327.out|refine bSe ?_ GE335.out)|exact HB.out))));have n3_:=amk (blk_below (g:=gb327) (o:=.cells #[.int .i64 a1_0,.int .i64 a1_1,.int .i64 a1_2,.int .i64 a1_3,.int .i64 a1_4,.int .i64 a1_5] 23 (0,0)) (by (with_reducible repeat first|apply kN|apply kD|apply kA);exact BK327.out) hb);have n4_:=amk (blk_below (g:=gb335) (o:=.cells #[.int .i64 t329,.int .i64 t330,.int .i64 t331,.int .i64 t332,.int .i64 t333,.int .i64 t334] 26 (0,0)) (by (with_reducible repeat first|apply kN|apply kD|apply kA);exact BK335.out) hb);have n5_:=amk (Kd.C_below (by repeat (first|(with_reducible exact HR339_0.out)|(with_reducible refine Kd.C_alloc ?_ _)|(with_reducible refine Kd.C_drewN ?_ _)|(with_reducible refine Kd.C_drew ?_)|exact HR339_0.out)) hb);have n6_:=amk (below_step (by repeat (first|(with_reducible first|exact HB.out|apply bAl|apply bDN|apply bD1|refine bSe ?_ GE327.out|refine bSe ?_ GE335.out)|exact HB.out)) hb);clear HO_23;clear HL339_0;clear BK327;clear BK335;clear HR339_0;clear HB;have HO_23:=n0_;have HL339_0:=n1_;have HO342:=n2_;have BK327:=n3_;have BK335:=n4_;have HR339_0:=n5_;have HB:=n6_;clear n0_ n1_ n2_ n3_ n4_ n5_ n6_;clear hb ho30;have hnb31:=NB335_327.out;have hnc31:=NB327_335.out;have hcz32_0 : w29.cell? ⟨gb335,0,none⟩=some (.int .i64 t329):=(blk_cell BK335.out 0).trans rfl;have hcz32_1 : w29.cell? ⟨gb335,1,none⟩=some (.int .i64 t330):=(blk_cell BK335.out 1).trans rfl;have hcz32_2 : w29.cell? ⟨gb335,2,none⟩=some (.int .i64 t331):=(blk_cell BK335.out 2).trans rfl;have hcz32_3 : w29.cell? ⟨gb335,3,none⟩=some (.int .i64 t332):=(blk_cell BK335.out 3).trans rfl;have hcz32_4 : w29.cell? ⟨gb335,4,none⟩=some (.int .i64 t333):=(blk_cell BK335.out 4).trans rfl;have hcz32_5 : w29.cell? ⟨gb335,5,none⟩=some (.int .i64 t334):=(blk_cell BK335.out 5).trans rfl;have hfz32_0:=blk_frozen BK335.out 0;have hfz32_1:=blk_frozen BK335.out 1;have hfz32_2:=blk_frozen BK335.out 2;have hfz32_3:=blk_frozen BK335.out 3;have hfz32_4:=blk_frozen BK335.out 4;have hfz32_5:=blk_frozen BK335.out 5;obtain ⟨Ao33,co33,eo33⟩:=Kd.N_slice HO342.out;subst eo33)|((with_reducible refine gate_callee (f:=10) rfl ?_);refine goesL_ (some 32) rfl rfl Try.func10 (by kernel_rfl) rfl #[.slice Ao33 y340.length co33,.agg #[.int .i64 t329,.int .i64 t330,.int .i64 t331,.int .i64 t332,.int .i64 t333,.int .i64 t334]] rfl (by (try simp only [List.map_toArray,List.map_cons,List.map_nil]);first|done|rfl|(simp only [List.length_drop,List.length_take];rfl)) ?_;(with_reducible refine (flat_Segs.calls k1 _ _ y340 t329 t330 t331 t332 t333 t334 t343 _ ?side1 ?side2 A19.out).mono ?_);(case side1=>repeat (first|exact (Kd.N_reads' HO342.out).2.2|(with_reducible refine Kd.C_alloc ?_ _)|(with_reducible refine Kd.C_drewN ?_ _)|(with_reducible refine Kd.C_drew ?_)));(case side2=>exact (Kd.N_reads' HO342.out).2.1);rintro e w34 ⟨v344,rfl,ho0,hb⟩;refine ⟨_,rfl,?_⟩;have n0_:=amk (Kd.N_elder' (by (with_reducible repeat (first|apply Kd.N_alloc|apply Kd.N_drewN|apply Kd.N_drew));exact HO_23.out) (Kd.R_base ho0) hb);have n1_:=amk (Kd.V_elder' (by (with_reducible repeat (first|apply Kd.V_alloc|apply Kd.V_drewN|apply Kd.V_drew));exact HL339_0.out) (Kd.R_base ho0) hb);have n2_:=amk (Kd.N_elder' (by (with_reducible repeat (first|apply Kd.N_alloc|apply Kd.N_drewN|apply Kd.N_drew));exact HO342.out) (Kd.R_base ho0) hb);have n3_:=amk (Kd.R_lower ho0 (below_size (by repeat (first|(with_reducible first|exact HB.out|apply bAl|apply bDN|apply bD1|refine bSe ?_ GE327.out|refine bSe ?_ GE335.out)|exact HB.out))));have n4_:=amk (blk_below (g:=gb327) (o:=.cells #[.int .i64 a1_0,.int .i64 a1_1,.int .i64 a1_2,.int .i64 a1_3,.int .i64 a1_4,.int .i64 a1_5] 23 (0,0)) (by (with_reducible repeat first|apply kN|apply kD|apply kA);exact BK327.out) hb);have n5_:=amk (blk_below (g:=gb335) (o:=.cells #[.int .i64 t329,.int .i64 t330,.int .i64 t331,.int .i64 t332,.int .i64 t333,.int .i64 t334] 26 (0,0)) (by (with_reducible repeat first|apply kN|apply kD|apply kA);exact BK335.out) hb);have n6_:=amk (Kd.C_below (by repeat (first|(with_reducible exact HR339_0.out)|(with_reducible refine Kd.C_alloc ?_ _)|(with_reducible refine Kd.C_drewN ?_ _)|(with_reducible refine Kd.C_drew ?_)|exact HR339_0.out)) hb);have n7_:=amk (below_step (by repeat (first|(with_reducible first|exact HB.out|apply bAl|apply bDN|apply bD1|refine bSe ?_ GE327.out|refine bSe ?_ GE335.out)|exact HB.out)) hb);clear HO_23;clear HL339_0;clear HO342;clear BK327;clear BK335;clear HR339_0;clear HB;have HO_23:=n0_;have HL339_0:=n1_;have HO342:=n2_;have HO345:=n3_;have BK327:=n4_;have BK335:=n5_;have HR339_0:=n6_;have HB:=n7_;clear n0_ n1_ n2_ n3_ n4_ n5_ n6_ n7_;(try clear hb);(try clear hb2);(try clear hk);(try clear hi);(try clear ho0);obtain ⟨Ao35,co35,eo35⟩:=Kd.R_slice HO345.out;subst eo35))
         go_roundg k1
         case measure=>have:=HK1.out;omega
         case rel=>exact ⟨(wrap64 (x25_1+1)),(by first|rfl|(simp;done)|(simp [*];done)),H',⟨by have:=HK1.out;omega⟩,⟨by (with_reducible repeat (first|apply Kd.N_alloc|apply Kd.N_drewN|apply Kd.N_drew));exact Kd.N_mono HO_23.out (fun _ hk=>⟨hk.1.1.1,hk.1.1.2⟩)⟩,⟨by (with_reducible repeat first|apply kN|apply kD|apply kA);exact BK327.out⟩,⟨by (with_reducible repeat first|apply kN|apply kD|apply kA);exact BK335.out⟩,⟨by repeat (first|(with_reducible first|exact HB.out|apply bAl|apply bDN|apply bD1|refine bSe ?_ GE327.out|refine bSe ?_ GE335.out)|exact HB.out)⟩⟩
       ·rw [if_neg c20] at H
        have c20b0 : decide (((rd_L6 t336 x25_1).length : Int) < 2)=false:=decide_eq_false c20
        have c20b1 : decide ((rd_L6 t336 x25_1).length < 2)=false:=decide_eq_false (by omega)
        clear c20
        by_cases c36 : (t343.length : Int) < 2
        ·rw [if_pos c36] at H
         have c36b0 : decide ((t343.length : Int) < 2)=true:=decide_eq_true c36
         have c36b1 : decide (t343.length < 2)=true:=decide_eq_true (by omega)
         clear c36
         obtain rfl:=Option.some.inj H
         have p339 : 0≤(x25_1 : Int):=of_decide_eq_true (by first|(with_reducible assumption)|assumption)
         have q339 : x25_1 < (t336.length : Int):=of_decide_eq_true (by first|(with_reducible assumption)|assumption)
         obtain ⟨ad339,A339_0,c339_0,e339,hx339_0,hl339_0,hi339_0⟩:=at_L6 (Kd.N_reads' HO_23.out).2.2 x25_1 p339 q339
         cases e339
         obtain ⟨ce339,hce339,hMe339,hcc339⟩:=Kd.N_get HO_23.out [] x25_1 p339 (by first|exact q339|exact of_decide_eq_true (by first|(with_reducible assumption)|assumption)|(have e_:=(Kd.N_reads' HO_23.out).1;omega))
         obtain ⟨ua339_0,uc339_0,rfl,ul339_0,ge339_0⟩:=Kd.FK_slice_open hMe339
         have hv339_0:=hcc339 0 _ rfl
         rw [Nat.add_zero,show ((Kd.slice 36 k36)).sz=1 from rfl,Nat.mul_one] at hv339_0
         replace hv339_0:=Option.some.inj (hv339_0.symm.trans hx339_0)
         injection hv339_0 with hva_ hvn_ hvc_
         rw [hva_] at ge339_0
         rw [hvc_] at ul339_0
         have HL339_0:=amk (show Kd.V k36 36 _ w.heap.size _ _ (rd_L6 t336 x25_1) from Kd.V_mk ul339_0 ge339_0)
         clear hva_ hvn_ hvc_ ge339_0 ul339_0
         clear hcc339 hce339
         have HR339_0:=amk hi339_0
         have HC339_0:=amk hl339_0
         clear hi339_0 hl339_0
         replace p339:=eq_true p339
         replace q339:=eq_true q339
         go_wp2_with (first|((with_reducible refine gate_dst (N:=30) rfl ?_);refine Kd.N_lit (Kd.slice 36 k36) _ 30 ?hg (N':=30) ?hd (xs:=([rd_L6 t336 x25_1] : List (List (S36)))) (inner:=[.slice A339_0 (rd_L6 t336 x25_1).length c339_0]) (ok:=(fun k_=>some k_ ≠ (.slice (some ad339) t336.length co15 : Value).ownBlock∧k_ ≠ gb327∧k_ ≠ gb335)) (okp:=(fun k_=>some k_ ≠ (.slice (some ad339) t336.length co15 : Value).ownBlock∧k_ ≠ gb327∧k_ ≠ gb335)) ?hr ?hp (fun _ hk=>hk) ((show ∀ k_,wr.heap.size≤k_ → (fun k_=>some k_ ≠ (.slice (some ad339) t336.length co15 : Value).ownBlock∧k_ ≠ gb327∧k_ ≠ gb335) k_ from fun k_ hk=>⟨Kd.fresh' (Kd.N_lt (by (with_reducible repeat (first|apply Kd.N_alloc|apply Kd.N_drewN|apply Kd.N_drew));exact HO_23.out)) k_ hk,Kd.freshB (g:=gb327) (o:=.cells #[.int .i64 a1_0,.int .i64 a1_1,.int .i64 a1_2,.int .i64 a1_3,.int .i64 a1_4,.int .i64 a1_5] 23 (0,0)) (by (with_reducible repeat first|apply kN|apply kD|apply kA);exact BK327.out) k_ hk,Kd.freshB (g:=gb335) (o:=.cells #[.int .i64 t329,.int .i64 t330,.int .i64 t331,.int .i64 t332,.int .i64 t333,.int .i64 t334] 26 (0,0)) (by (with_reducible repeat first|apply kN|apply kD|apply kA);exact BK335.out) k_ hk⟩) _ (Nat.le_refl _)) (Below.refl _ _) (Nat.le_refl _) (by simp) ?_;(case hd=>rfl);(case hg=>rfl);(case hr=>first|(go_simp;done)|(go_simp;rfl));(case hp=>exact (Reps.one (show Kd.FK (Kd.slice 36 k36) _ _ (rd_L6 t336 x25_1) [.slice A339_0 (rd_L6 t336 x25_1).length c339_0] from (Kd.FK_slice_mk (Kd.V_reads' (Kd.V_mono (ok':=(fun k_=>some k_ ≠ (.slice (some ad339) t336.length co15 : Value).ownBlock∧k_ ≠ gb327∧k_ ≠ gb335)) (HL339_0.out) (fun k_ hk=>⟨hk.2,⟨hk.1.1,hk.1.2⟩⟩))).2.1 (Kd.V_F (Kd.V_mono (ok':=(fun k_=>some k_ ≠ (.slice (some ad339) t336.length co15 : Value).ownBlock∧k_ ≠ gb327∧k_ ≠ gb335)) (HL339_0.out) (fun k_ hk=>⟨hk.2,⟨hk.1.1,hk.1.2⟩⟩))))) (Reps.none _ _)));intro v341 w37 ho38 hb hg_ hnew_;clear hg_ hnew_;(first|rw [← Ny340.out] at ho38|(simp only [Int.reduceToNat] at ho38;rw [← Ny340.out] at ho38));have n0_:=amk (Kd.N_elder' (by (with_reducible repeat (first|apply Kd.N_alloc|apply Kd.N_drewN|apply Kd.N_drew));exact HO_23.out) (Kd.N_base ho38) hb);have n1_:=amk (Kd.V_elder' (by (with_reducible repeat (first|apply Kd.V_alloc|apply Kd.V_drewN|apply Kd.V_drew));exact HL339_0.out) (Kd.N_base ho38) hb);have n2_:=amk (Kd.N_lower ho38 (below_size (by repeat (first|(with_reducible first|exact HB.out|apply bAl|apply bDN|apply bD1|refine bSe ?_ GE327.out|refine bSe ?_ GE335.out)|exact HB.out))));have n3_:=amk (blk_below (g:=gb327) (o:=.cells #[.int .i64 a1_0,.int .i64 a1_1,.int .i64 a1_2,.int .i64 a1_3,.int .i64 a1_4,.int .i64 a1_5] 23 (0,0)) (by (with_reducible repeat first|apply kN|apply kD|apply kA);exact BK327.out) hb);have n4_:=amk (blk_below (g:=gb335) (o:=.cells #[.int .i64 t329,.int .i64 t330,.int .i64 t331,.int .i64 t332,.int .i64 t333,.int .i64 t334] 26 (0,0)) (by (with_reducible repeat first|apply kN|apply kD|apply kA);exact BK335.out) hb);have n5_:=amk (Kd.C_below (by repeat (first|(with_reducible exact HR339_0.out)|(with_reducible refine Kd.C_alloc ?_ _)|(with_reducible refine Kd.C_drewN ?_ _)|(with_reducible refine Kd.C_drew ?_)|exact HR339_0.out)) hb);have n6_:=amk (below_step (by repeat (first|(with_reducible first|exact HB.out|apply bAl|apply bDN|apply bD1|refine bSe ?_ GE327.out|refine bSe ?_ GE335.out)|exact HB.out)) hb);clear HO_23;clear HL339_0;clear BK327;clear BK335;clear HR339_0;clear HB;have HO_23:=n0_;have HL339_0:=n1_;have HO342:=n2_;have BK327:=n3_;have BK335:=n4_;have HR339_0:=n5_;have HB:=n6_;clear n0_ n1_ n2_ n3_ n4_ n5_ n6_;clear hb ho38;have hnb39:=NB335_327.out;have hnc39:=NB327_335.out;have hcz40_0 : w37.cell? ⟨gb335,0,none⟩=some (.int .i64 t329):=(blk_cell BK335.out 0).trans rfl;have hcz40_1 : w37.cell? ⟨gb335,1,none⟩=some (.int .i64 t330):=(blk_cell BK335.out 1).trans rfl;have hcz40_2 : w37.cell? ⟨gb335,2,none⟩=some (.int .i64 t331):=(blk_cell BK335.out 2).trans rfl;have hcz40_3 : w37.cell? ⟨gb335,3,none⟩=some (.int .i64 t332):=(blk_cell BK335.out 3).trans rfl;have hcz40_4 : w37.cell? ⟨gb335,4,none⟩=some (.int .i64 t333):=(blk_cell BK335.out 4).trans rfl;have hcz40_5 : w37.cell? ⟨gb335,5,none⟩=some (.int .i64 t334):=(blk_cell BK335.out 5).trans rfl;have hfz40_0:=blk_frozen BK335.out 0;have hfz40_1:=blk_frozen BK335.out 1;have hfz40_2:=blk_frozen BK335.out 2;have hfz40_3:=blk_frozen BK335.out 3;have hfz40_4:=blk_frozen BK335.out 4;have hfz40_5:=blk_frozen BK335.out 5;obtain ⟨Ao41,co41,eo41⟩:=Kd.N_slice HO342.out;subst eo41)|((with_reducible refine gate_callee (f:=10) rfl ?_);refine goesL_ (some 32) rfl rfl Try.func10 (by kernel_rfl) rfl #[.slice Ao41 y340.length co41,.agg #[.int .i64 t329,.int .i64 t330,.int .i64 t331,.int .i64 t332,.int .i64 t333,.int .i64 t334]] rfl (by (try simp only [List.map_toArray,List.map_cons,List.map_nil]);first|done|rfl|(simp only [List.length_drop,List.length_take];rfl)) ?_;(with_reducible refine (flat_Segs.calls k1 _ _ y340 t329 t330 t331 t332 t333 t334 t343 _ ?side1 ?side2 A19.out).mono ?_);(case side1=>repeat (first|exact (Kd.N_reads' HO342.out).2.2|(with_reducible refine Kd.C_alloc ?_ _)|(with_reducible refine Kd.C_drewN ?_ _)|(with_reducible refine Kd.C_drew ?_)));(case side2=>exact (Kd.N_reads' HO342.out).2.1);rintro e w42 ⟨v344,rfl,ho0,hb⟩;refine ⟨_,rfl,?_⟩;have n0_:=amk (Kd.N_elder' (by (with_reducible repeat (first|apply Kd.N_alloc|apply Kd.N_drewN|apply Kd.N_drew));exact HO_23.out) (Kd.R_base ho0) hb);have n1_:=amk (Kd.V_elder' (by (with_reducible repeat (first|apply Kd.V_alloc|apply Kd.V_drewN|apply Kd.V_drew));exact HL339_0.out) (Kd.R_base ho0) hb);have n2_:=amk (Kd.N_elder' (by (with_reducible repeat (first|apply Kd.N_alloc|apply Kd.N_drewN|apply Kd.N_drew));exact HO342.out) (Kd.R_base ho0) hb);have n3_:=amk (Kd.R_lower ho0 (below_size (by repeat (first|(with_reducible first|exact HB.out|apply bAl|apply bDN|apply bD1|refine bSe ?_ GE327.out|refine bSe ?_ GE335.out)|exact HB.out))));have n4_:=amk (blk_below (g:=gb327) (o:=.cells #[.int .i64 a1_0,.int .i64 a1_1,.int .i64 a1_2,.int .i64 a1_3,.int .i64 a1_4,.int .i64 a1_5] 23 (0,0)) (by (with_reducible repeat first|apply kN|apply kD|apply kA);exact BK327.out) hb);have n5_:=amk (blk_below (g:=gb335) (o:=.cells #[.int .i64 t329,.int .i64 t330,.int .i64 t331,.int .i64 t332,.int .i64 t333,.int .i64 t334] 26 (0,0)) (by (with_reducible repeat first|apply kN|apply kD|apply kA);exact BK335.out) hb);have n6_:=amk (Kd.C_below (by repeat (first|(with_reducible exact HR339_0.out)|(with_reducible refine Kd.C_alloc ?_ _)|(with_reducible refine Kd.C_drewN ?_ _)|(with_reducible refine Kd.C_drew ?_)|exact HR339_0.out)) hb);have n7_:=amk (below_step (by repeat (first|(with_reducible first|exact HB.out|apply bAl|apply bDN|apply bD1|refine bSe ?_ GE327.out|refine bSe ?_ GE335.out)|exact HB.out)) hb);clear HO_23;clear HL339_0;clear HO342;clear BK327;clear BK335;clear HR339_0;clear HB;have HO_23:=n0_;have HL339_0:=n1_;have HO342:=n2_;have HO345:=n3_;have BK327:=n4_;have BK335:=n5_;have HR339_0:=n6_;have HB:=n7_;clear n0_ n1_ n2_ n3_ n4_ n5_ n6_ n7_;(try clear hb);(try clear hb2);(try clear hk);(try clear hi);(try clear ho0);obtain ⟨Ao43,co43,eo43⟩:=Kd.R_slice HO345.out;subst eo43))
         go_ret
         exact ⟨by first|rfl|(simp [errW_none,errW_some] <;> rfl)|(simp [*,errW_none,errW_some] <;> rfl),by repeat (first|(with_reducible first|exact HB.out|apply bAl|apply bDN|apply bD1|refine bSe ?_ GE327.out|refine bSe ?_ GE335.out)|exact HB.out)⟩
        ·rw [if_neg c36] at H
         have c36b0 : decide ((t343.length : Int) < 2)=false:=decide_eq_false c36
         have c36b1 : decide (t343.length < 2)=false:=decide_eq_false (by omega)
         clear c36
         have H':=amk H
         clear H
         have p339 : 0≤(x25_1 : Int):=of_decide_eq_true (by first|(with_reducible assumption)|assumption)
         have q339 : x25_1 < (t336.length : Int):=of_decide_eq_true (by first|(with_reducible assumption)|assumption)
         obtain ⟨ad339,A339_0,c339_0,e339,hx339_0,hl339_0,hi339_0⟩:=at_L6 (Kd.N_reads' HO_23.out).2.2 x25_1 p339 q339
         cases e339
         obtain ⟨ce339,hce339,hMe339,hcc339⟩:=Kd.N_get HO_23.out [] x25_1 p339 (by first|exact q339|exact of_decide_eq_true (by first|(with_reducible assumption)|assumption)|(have e_:=(Kd.N_reads' HO_23.out).1;omega))
         obtain ⟨ua339_0,uc339_0,rfl,ul339_0,ge339_0⟩:=Kd.FK_slice_open hMe339
         have hv339_0:=hcc339 0 _ rfl
         rw [Nat.add_zero,show ((Kd.slice 36 k36)).sz=1 from rfl,Nat.mul_one] at hv339_0
         replace hv339_0:=Option.some.inj (hv339_0.symm.trans hx339_0)
         injection hv339_0 with hva_ hvn_ hvc_
         rw [hva_] at ge339_0
         rw [hvc_] at ul339_0
         have HL339_0:=amk (show Kd.V k36 36 _ w.heap.size _ _ (rd_L6 t336 x25_1) from Kd.V_mk ul339_0 ge339_0)
         clear hva_ hvn_ hvc_ ge339_0 ul339_0
         clear hcc339 hce339
         have HR339_0:=amk hi339_0
         have HC339_0:=amk hl339_0
         clear hi339_0 hl339_0
         replace p339:=eq_true p339
         replace q339:=eq_true q339
         go_wp2_with (first|((with_reducible refine gate_dst (N:=30) rfl ?_);refine Kd.N_lit (Kd.slice 36 k36) _ 30 ?hg (N':=30) ?hd (xs:=([rd_L6 t336 x25_1] : List (List (S36)))) (inner:=[.slice A339_0 (rd_L6 t336 x25_1).length c339_0]) (ok:=(fun k_=>some k_ ≠ (.slice (some ad339) t336.length co15 : Value).ownBlock∧k_ ≠ gb327∧k_ ≠ gb335)) (okp:=(fun k_=>some k_ ≠ (.slice (some ad339) t336.length co15 : Value).ownBlock∧k_ ≠ gb327∧k_ ≠ gb335)) ?hr ?hp (fun _ hk=>hk) ((show ∀ k_,wr.heap.size≤k_ → (fun k_=>some k_ ≠ (.slice (some ad339) t336.length co15 : Value).ownBlock∧k_ ≠ gb327∧k_ ≠ gb335) k_ from fun k_ hk=>⟨Kd.fresh' (Kd.N_lt (by (with_reducible repeat (first|apply Kd.N_alloc|apply Kd.N_drewN|apply Kd.N_drew));exact HO_23.out)) k_ hk,Kd.freshB (g:=gb327) (o:=.cells #[.int .i64 a1_0,.int .i64 a1_1,.int .i64 a1_2,.int .i64 a1_3,.int .i64 a1_4,.int .i64 a1_5] 23 (0,0)) (by (with_reducible repeat first|apply kN|apply kD|apply kA);exact BK327.out) k_ hk,Kd.freshB (g:=gb335) (o:=.cells #[.int .i64 t329,.int .i64 t330,.int .i64 t331,.int .i64 t332,.int .i64 t333,.int .i64 t334] 26 (0,0)) (by (with_reducible repeat first|apply kN|apply kD|apply kA);exact BK335.out) k_ hk⟩) _ (Nat.le_refl _)) (Below.refl _ _) (Nat.le_refl _) (by simp) ?_;(case hd=>rfl);(case hg=>rfl);(case hr=>first|(go_simp;done)|(go_simp;rfl));(case hp=>exact (Reps.one (show Kd.FK (Kd.slice 36 k36) _ _ (rd_L6 t336 x25_1) [.slice A339_0 (rd_L6 t336 x25_1).length c339_0] from (Kd.FK_slice_mk (Kd.V_reads' (Kd.V_mono (ok':=(fun k_=>some k_ ≠ (.slice (some ad339) t336.length co15 : Value).ownBlock∧k_ ≠ gb327∧k_ ≠ gb335)) (HL339_0.out) (fun k_ hk=>⟨hk.2,⟨hk.1.1,hk.1.2⟩⟩))).2.1 (Kd.V_F (Kd.V_mono (ok':=(fun k_=>some k_ ≠ (.slice (some ad339) t336.length co15 : Value).ownBlock∧k_ ≠ gb327∧k_ ≠ gb335)) (HL339_0.out) (fun k_ hk=>⟨hk.2,⟨hk.1.1,hk.1.2⟩⟩))))) (Reps.none _ _)));intro v341 w44 ho45 hb hg_ hnew_;clear hg_ hnew_;(first|rw [← Ny340.out] at ho45|(simp only [Int.reduceToNat] at ho45;rw [← Ny340.out] at ho45));have n0_:=amk (Kd.N_elder' (by (with_reducible repeat (first|apply Kd.N_alloc|apply Kd.N_drewN|apply Kd.N_drew));exact HO_23.out) (Kd.N_base ho45) hb);have n1_:=amk (Kd.V_elder' (by (with_reducible repeat (first|apply Kd.V_alloc|apply Kd.V_drewN|apply Kd.V_drew));exact HL339_0.out) (Kd.N_base ho45) hb);have n2_:=amk (Kd.N_lower ho45 (below_size (by repeat (first|(with_reducible first|exact HB.out|apply bAl|apply bDN|apply bD1|refine bSe ?_ GE327.out|refine bSe ?_ GE335.out)|exact HB.out))));have n3_:=amk (blk_below (g:=gb327) (o:=.cells #[.int .i64 a1_0,.int .i64 a1_1,.int .i64 a1_2,.int .i64 a1_3,.int .i64 a1_4,.int .i64 a1_5] 23 (0,0)) (by (with_reducible repeat first|apply kN|apply kD|apply kA);exact BK327.out) hb);have n4_:=amk (blk_below (g:=gb335) (o:=.cells #[.int .i64 t329,.int .i64 t330,.int .i64 t331,.int .i64 t332,.int .i64 t333,.int .i64 t334] 26 (0,0)) (by (with_reducible repeat first|apply kN|apply kD|apply kA);exact BK335.out) hb);have n5_:=amk (Kd.C_below (by repeat (first|(with_reducible exact HR339_0.out)|(with_reducible refine Kd.C_alloc ?_ _)|(with_reducible refine Kd.C_drewN ?_ _)|(with_reducible refine Kd.C_drew ?_)|exact HR339_0.out)) hb);have n6_:=amk (below_step (by repeat (first|(with_reducible first|exact HB.out|apply bAl|apply bDN|apply bD1|refine bSe ?_ GE327.out|refine bSe ?_ GE335.out)|exact HB.out)) hb);clear HO_23;clear HL339_0;clear BK327;clear BK335;clear HR339_0;clear HB;have HO_23:=n0_;have HL339_0:=n1_;have HO342:=n2_;have BK327:=n3_;have BK335:=n4_;have HR339_0:=n5_;have HB:=n6_;clear n0_ n1_ n2_ n3_ n4_ n5_ n6_;clear hb ho45;have hnb46:=NB335_327.out;have hnc46:=NB327_335.out;have hcz47_0 : w44.cell? ⟨gb335,0,none⟩=some (.int .i64 t329):=(blk_cell BK335.out 0).trans rfl;have hcz47_1 : w44.cell? ⟨gb335,1,none⟩=some (.int .i64 t330):=(blk_cell BK335.out 1).trans rfl;have hcz47_2 : w44.cell? ⟨gb335,2,none⟩=some (.int .i64 t331):=(blk_cell BK335.out 2).trans rfl;have hcz47_3 : w44.cell? ⟨gb335,3,none⟩=some (.int .i64 t332):=(blk_cell BK335.out 3).trans rfl;have hcz47_4 : w44.cell? ⟨gb335,4,none⟩=some (.int .i64 t333):=(blk_cell BK335.out 4).trans rfl;have hcz47_5 : w44.cell? ⟨gb335,5,none⟩=some (.int .i64 t334):=(blk_cell BK335.out 5).trans rfl;have hfz47_0:=blk_frozen BK335.out 0;have hfz47_1:=blk_frozen BK335.out 1;have hfz47_2:=blk_frozen BK335.out 2;have hfz47_3:=blk_frozen BK335.out 3;have hfz47_4:=blk_frozen BK335.out 4;have hfz47_5:=blk_frozen BK335.out 5;obtain ⟨Ao48,co48,eo48⟩:=Kd.N_slice HO342.out;subst eo48)|((with_reducible refine gate_callee (f:=10) rfl ?_);refine goesL_ (some 32) rfl rfl Try.func10 (by kernel_rfl) rfl #[.slice Ao48 y340.length co48,.agg #[.int .i64 t329,.int .i64 t330,.int .i64 t331,.int .i64 t332,.int .i64 t333,.int .i64 t334]] rfl (by (try simp only [List.map_toArray,List.map_cons,List.map_nil]);first|done|rfl|(simp only [List.length_drop,List.length_take];rfl)) ?_;(with_reducible refine (flat_Segs.calls k1 _ _ y340 t329 t330 t331 t332 t333 t334 t343 _ ?side1 ?side2 A19.out).mono ?_);(case side1=>repeat (first|exact (Kd.N_reads' HO342.out).2.2|(with_reducible refine Kd.C_alloc ?_ _)|(with_reducible refine Kd.C_drewN ?_ _)|(with_reducible refine Kd.C_drew ?_)));(case side2=>exact (Kd.N_reads' HO342.out).2.1);rintro e w49 ⟨v344,rfl,ho0,hb⟩;refine ⟨_,rfl,?_⟩;have n0_:=amk (Kd.N_elder' (by (with_reducible repeat (first|apply Kd.N_alloc|apply Kd.N_drewN|apply Kd.N_drew));exact HO_23.out) (Kd.R_base ho0) hb);have n1_:=amk (Kd.V_elder' (by (with_reducible repeat (first|apply Kd.V_alloc|apply Kd.V_drewN|apply Kd.V_drew));exact HL339_0.out) (Kd.R_base ho0) hb);have n2_:=amk (Kd.N_elder' (by (with_reducible repeat (first|apply Kd.N_alloc|apply Kd.N_drewN|apply Kd.N_drew));exact HO342.out) (Kd.R_base ho0) hb);have n3_:=amk (Kd.R_lower ho0 (below_size (by repeat (first|(with_reducible first|exact HB.out|apply bAl|apply bDN|apply bD1|refine bSe ?_ GE327.out|refine bSe ?_ GE335.out)|exact HB.out))));have n4_:=amk (blk_below (g:=gb327) (o:=.cells #[.int .i64 a1_0,.int .i64 a1_1,.int .i64 a1_2,.int .i64 a1_3,.int .i64 a1_4,.int .i64 a1_5] 23 (0,0)) (by (with_reducible repeat first|apply kN|apply kD|apply kA);exact BK327.out) hb);have n5_:=amk (blk_below (g:=gb335) (o:=.cells #[.int .i64 t329,.int .i64 t330,.int .i64 t331,.int .i64 t332,.int .i64 t333,.int .i64 t334] 26 (0,0)) (by (with_reducible repeat first|apply kN|apply kD|apply kA);exact BK335.out) hb);have n6_:=amk (Kd.C_below (by repeat (first|(with_reducible exact HR339_0.out)|(with_reducible refine Kd.C_alloc ?_ _)|(with_reducible refine Kd.C_drewN ?_ _)|(with_reducible refine Kd.C_drew ?_)|exact HR339_0.out)) hb);have n7_:=amk (below_step (by repeat (first|(with_reducible first|exact HB.out|apply bAl|apply bDN|apply bD1|refine bSe ?_ GE327.out|refine bSe ?_ GE335.out)|exact HB.out)) hb);clear HO_23;clear HL339_0;clear HO342;clear BK327;clear BK335;clear HR339_0;clear HB;have HO_23:=n0_;have HL339_0:=n1_;have HO342:=n2_;have HO345:=n3_;have BK327:=n4_;have BK335:=n5_;have HR339_0:=n6_;have HB:=n7_;clear n0_ n1_ n2_ n3_ n4_ n5_ n6_ n7_;(try clear hb);(try clear hb2);(try clear hk);(try clear hi);(try clear ho0);obtain ⟨Ao50,co50,eo50⟩:=Kd.R_slice HO345.out;subst eo50))
         go_loopg [44] k1 (fun kq v44 w'=>∃ (x44_2 : Int),v44=.int .i64 x44_2∧Aside0 (versallaw17_FlatRounds.l1 kq (rd_L6 t336 x25_1) t343 t336 (t336.length : Int) x25_1 (t343.length : Int) x44_2 t329 t330 t331 t332 t333 t334=some r)∧Aside0 (kq≤k1)∧Aside0 (Kd.V k36 36 w' w.heap.size (fun k_=>some k_ ≠ ((.slice Ao50 t343.length co50) : Value).ownBlock∧some k_ ≠ ((.slice (some ad339) t336.length co15) : Value).ownBlock∧k_ ≠ gb327∧k_ ≠ gb335) (.slice A339_0 (rd_L6 t336 x25_1).length c339_0) (rd_L6 t336 x25_1))∧Aside0 (Kd.R k34 34 w' w.heap.size (fun _=>True) (.slice Ao50 t343.length co50) t343)∧Aside0 (Kd.N (Kd.slice 36 k36) 30 w' w.heap.size (fun k_=>some k_ ≠ ((.slice Ao50 t343.length co50) : Value).ownBlock∧k_ ≠ gb327∧k_ ≠ gb335) (.slice (some ad339) t336.length co15) t336)∧Aside0 (w'.heap[gb327]?=some (.cells #[.int .i64 a1_0,.int .i64 a1_1,.int .i64 a1_2,.int .i64 a1_3,.int .i64 a1_4,.int .i64 a1_5] 23 (0,0)))∧Aside0 (w'.heap[gb335]?=some (.cells #[.int .i64 t329,.int .i64 t330,.int .i64 t331,.int .i64 t332,.int .i64 t333,.int .i64 t334] 26 (0,0)))∧Aside0 (Below w.heap.size w w'))
         case atStart=>exact ⟨(0),(by first|rfl|(simp;done)|(simp [*];done)),H',⟨Nat.le_refl _⟩,⟨by (with_reducible repeat (first|apply Kd.V_alloc|apply Kd.V_drewN|apply Kd.V_drew));exact Kd.V_mono HL339_0.out (fun _ hk=>⟨hk.2,⟨hk.1.1.2,⟨hk.1.1.1.1,hk.1.1.1.2⟩⟩⟩)⟩,⟨by (with_reducible repeat (first|apply Kd.R_alloc|apply Kd.R_drewN|apply Kd.R_drew));exact HO345.out⟩,⟨by (with_reducible repeat (first|apply Kd.N_alloc|apply Kd.N_drewN|apply Kd.N_drew));exact Kd.N_mono HO_23.out (fun _ hk=>⟨hk.2,⟨hk.1.1.1,hk.1.1.2⟩⟩)⟩,⟨by (with_reducible repeat first|apply kN|apply kD|apply kA);exact BK327.out⟩,⟨by (with_reducible repeat first|apply kN|apply kD|apply kA);exact BK335.out⟩,⟨by repeat (first|(with_reducible first|exact HB.out|apply bAl|apply bDN|apply bD1|refine bSe ?_ GE327.out|refine bSe ?_ GE335.out)|exact HB.out)⟩⟩
         case round =>
          clear H'
          try clear c1
          try clear c2
          try clear p2
          try clear c3
          try clear p3
          try clear q3
          try clear hx3
          try clear c4
          try clear p6
          try clear c7
          try clear c8
          try clear c9
          try clear c10
          try clear c12
          try clear c16
          try clear c16b0
          try clear c17
          try clear c17b0
          try clear c18
          try clear c18b0
          try clear c20
          try clear c20b0
          try clear c20b1
          try clear c21
          try clear c21b0
          try clear c21b1
          try clear c24
          try clear c31
          try clear c33
          try clear p33
          try clear q33
          try clear hx33
          try clear c36
          try clear c36b0
          try clear c36b1
          try clear c39
          try clear c46
          try clear hcz13_0
          try clear hcz13_1
          try clear hcz13_2
          try clear hcz13_3
          try clear hcz13_4
          try clear hcz13_5
          try clear hcz25_0
          try clear hcz25_1
          try clear hcz25_2
          try clear hcz25_3
          try clear hcz25_4
          try clear hcz25_5
          try clear hcz32_0
          try clear hcz32_1
          try clear hcz32_2
          try clear hcz32_3
          try clear hcz32_4
          try clear hcz32_5
          try clear hcz40_0
          try clear hcz40_1
          try clear hcz40_2
          try clear hcz40_3
          try clear hcz40_4
          try clear hcz40_5
          try clear hcz47_0
          try clear hcz47_1
          try clear hcz47_2
          try clear hcz47_3
          try clear hcz47_4
          try clear hcz47_5
          try clear hcz9_0
          try clear hcz9_1
          try clear hcz9_2
          try clear hcz9_3
          try clear hcz9_4
          try clear hcz9_5
          try clear hfz13_0
          try clear hfz13_1
          try clear hfz13_2
          try clear hfz13_3
          try clear hfz13_4
          try clear hfz13_5
          try clear hfz25_0
          try clear hfz25_1
          try clear hfz25_2
          try clear hfz25_3
          try clear hfz25_4
          try clear hfz25_5
          try clear hfz32_0
          try clear hfz32_1
          try clear hfz32_2
          try clear hfz32_3
          try clear hfz32_4
          try clear hfz32_5
          try clear hfz40_0
          try clear hfz40_1
          try clear hfz40_2
          try clear hfz40_3
          try clear hfz40_4
          try clear hfz40_5
          try clear hfz47_0
          try clear hfz47_1
          try clear hfz47_2
          try clear hfz47_3
          try clear hfz47_4
          try clear hfz47_5
          try clear hfz9_0
          try clear hfz9_1
          try clear hfz9_2
          try clear hfz9_3
          try clear hfz9_4
          try clear hfz9_5
          try clear hx339_0
          try clear p2
          try clear p339
          try clear q339
          obtain ⟨x44_2,rfl,HA,HK2,HO_7,HO_8,HO_23,BK327,BK335,HB⟩:=hrel
          cases gk with
          | zero=>exact absurd HA.out (by simp [versallaw17_FlatRounds.l1])
          | succ k2 =>
           have H:=HA.out
           clear HA
           simp only [versallaw17_FlatRounds.l1] at H
           by_cases c51 : x44_2 < (t343.length : Int)
           ·rw [if_pos c51] at H
            have c51b0 : decide (x44_2 < (t343.length : Int))=true:=decide_eq_true c51
            clear c51
            by_cases c52 : (t343.length : Int)=0
            ·rw [if_pos c52] at H
             exact absurd H (by simp)
            ·rw [if_neg c52] at H
             have c52b0 : ((t343.length : Int) == 0)=false:=beq_eq_false_iff_ne.mpr c52
             have c52b1 : ((t343.length : Int) != 0)=true:=bne_iff_ne.mpr c52
             have c52b2 : ¬ (t343=[]):=fun h_=>c52 (by rw [h_];rfl)
             obtain ⟨ji53,hji53⟩ : ∃ j_ : Int,(Int.tmod (wrap64 ((wrap64 (x44_2+(t343.length : Int))) - 1)) (t343.length : Int))=j_:=⟨_,rfl⟩
             replace H : (if 0≤(ji53) then (if (ji53) < (t343.length : Int) then (if 0≤x44_2 then (if x44_2 < (t343.length : Int) then (if ((rd_T34 t343 x44_2).f0)=((rd_T34 t343 (ji53)).f2) then (if ((rd_T34 t343 x44_2).f1)=((rd_T34 t343 (ji53)).f3) then (versallaw17_FlatRounds.l1 k2 (rd_L6 t336 x25_1) t343 t336 (t336.length : Int) x25_1 (t343.length : Int) (wrap64 (x44_2+1)) t329 t330 t331 t332 t333 t334) else (some false)) else (some false)) else (none)) else (none)) else (none)) else (none))=some r:=by first|(rw [hji53] at H;exact H)|(simp only [hji53] at H ⊢;exact H)
             by_cases c54 : 0≤(ji53)
             ·rw [if_pos c54] at H
              have c54b0 : decide (0≤(ji53))=true:=decide_eq_true c54
              clear c54
              by_cases c55 : (ji53) < (t343.length : Int)
              ·rw [if_pos c55] at H
               have c55b0 : decide ((ji53) < (t343.length : Int))=true:=decide_eq_true c55
               clear c55
               by_cases c56 : 0≤x44_2
               ·rw [if_pos c56] at H
                have c56b0 : decide (0≤x44_2)=true:=decide_eq_true c56
                clear c56
                by_cases c57 : x44_2 < (t343.length : Int)
                ·rw [if_pos c57] at H
                 have c57b0 : decide (x44_2 < (t343.length : Int))=true:=decide_eq_true c57
                 clear c57
                 by_cases c58 : ((rd_T34 t343 x44_2).f0)=((rd_T34 t343 (ji53)).f2)
                 ·rw [if_pos c58] at H
                  have c58b0 : (((rd_T34 t343 x44_2).f0) == ((rd_T34 t343 (ji53)).f2))=true:=beq_iff_eq.mpr c58
                  have c58b1 : (((rd_T34 t343 x44_2).f0) != ((rd_T34 t343 (ji53)).f2))=false:=bne_eq_false_iff_eq.mpr c58
                  clear c58
                  by_cases c59 : ((rd_T34 t343 x44_2).f1)=((rd_T34 t343 (ji53)).f3)
                  ·rw [if_pos c59] at H
                   have c59b0 : (((rd_T34 t343 x44_2).f1) == ((rd_T34 t343 (ji53)).f3))=true:=beq_iff_eq.mpr c59
                   have c59b1 : (((rd_T34 t343 x44_2).f1) != ((rd_T34 t343 (ji53)).f3))=false:=bne_eq_false_iff_eq.mpr c59
                   clear c59
                   have H':=amk H
                   clear H
                   have p346 : 0≤((ji53) : Int):=of_decide_eq_true (by first|(with_reducible assumption)|assumption)
                   have q346 : (ji53) < (t343.length : Int):=of_decide_eq_true (by first|(with_reducible assumption)|assumption)
                   obtain ⟨ad346,e346,hx346_0,hx346_1,hx346_2,hx346_3⟩:=at_T34 (Kd.R_reads' HO_8.out).2.2 (ji53) p346 q346
                   cases e346
                   replace p346:=eq_true p346
                   replace q346:=eq_true q346
                   try go_wp2_with (first|((with_reducible refine gate_dst (N:=10) rfl ?_);refine box_event ?hg (N:=10) ?hd (cs:=#[.int .i64 0,.int .i64 0,.int .i64 0,.int .i64 0]) (t:=34) ?hr ?_;(case hd=>rfl);(case hg=>rfl);(case hr=>first|(go_simp;done)|(go_simp;rfl));intro gb347 hg w60 hbox hb;have n0_:=amk (Kd.V_below (Kd.V_elderB (by (with_reducible repeat (first|apply Kd.V_alloc|apply Kd.V_drewN|apply Kd.V_drew));exact HO_7.out) gb347 (Nat.le_of_eq hg.symm)) hb);have n1_:=amk (Kd.R_below (Kd.R_elderB (by (with_reducible repeat (first|apply Kd.R_alloc|apply Kd.R_drewN|apply Kd.R_drew));exact HO_8.out) gb347 (Nat.le_of_eq hg.symm)) hb);have n2_:=amk (Kd.N_below (Kd.N_elderB (by (with_reducible repeat (first|apply Kd.N_alloc|apply Kd.N_drewN|apply Kd.N_drew));exact HO_23.out) gb347 (Nat.le_of_eq hg.symm)) hb);have n3_:=amk (blk_below (g:=gb327) (o:=.cells #[.int .i64 a1_0,.int .i64 a1_1,.int .i64 a1_2,.int .i64 a1_3,.int .i64 a1_4,.int .i64 a1_5] 23 (0,0)) (by (with_reducible repeat first|apply kN|apply kD|apply kA);exact BK327.out) hb);have n4_:=amk (blk_below (g:=gb335) (o:=.cells #[.int .i64 t329,.int .i64 t330,.int .i64 t331,.int .i64 t332,.int .i64 t333,.int .i64 t334] 26 (0,0)) (by (with_reducible repeat first|apply kN|apply kD|apply kA);exact BK335.out) hb);have n5_:=amk (below_step (by repeat (first|(with_reducible first|exact HB.out|apply bAl|apply bDN|apply bD1|refine bSe ?_ GE327.out|refine bSe ?_ GE335.out)|exact HB.out)) hb);have n6_:=amk (hbox);have n7_:=amk ((by rw [hg];exact (below_size (by repeat (first|(with_reducible first|exact HB.out|apply bAl|apply bDN|apply bD1|refine bSe ?_ GE327.out|refine bSe ?_ GE335.out)|exact HB.out))) : w.heap.size≤gb347));have n8_:=amk ((by rw [hg];exact (below_size (by repeat (first|(with_reducible first|exact HB.out|apply bAl|apply bDN|apply bD1|refine bSe ?_ GE327.out|refine bSe ?_ GE335.out)|exact HB.out))) : w.heap.size≤gb347));have n9_:=amk ((by rw [hg];exact Nat.ne_of_lt (blk_lt (g:=gb327) (o:=.cells #[.int .i64 a1_0,.int .i64 a1_1,.int .i64 a1_2,.int .i64 a1_3,.int .i64 a1_4,.int .i64 a1_5] 23 (0,0)) (by (with_reducible repeat first|apply kN|apply kD|apply kA);exact BK327.out)) : gb327 ≠ gb347));have n10_:=amk ((by rw [hg];exact Nat.ne_of_gt (blk_lt (g:=gb327) (o:=.cells #[.int .i64 a1_0,.int .i64 a1_1,.int .i64 a1_2,.int .i64 a1_3,.int .i64 a1_4,.int .i64 a1_5] 23 (0,0)) (by (with_reducible repeat first|apply kN|apply kD|apply kA);exact BK327.out)) : gb347 ≠ gb327));have n11_:=amk ((by rw [hg];exact Nat.ne_of_lt (blk_lt (g:=gb335) (o:=.cells #[.int .i64 t329,.int .i64 t330,.int .i64 t331,.int .i64 t332,.int .i64 t333,.int .i64 t334] 26 (0,0)) (by (with_reducible repeat first|apply kN|apply kD|apply kA);exact BK335.out)) : gb335 ≠ gb347));have n12_:=amk ((by rw [hg];exact Nat.ne_of_gt (blk_lt (g:=gb335) (o:=.cells #[.int .i64 t329,.int .i64 t330,.int .i64 t331,.int .i64 t332,.int .i64 t333,.int .i64 t334] 26 (0,0)) (by (with_reducible repeat first|apply kN|apply kD|apply kA);exact BK335.out)) : gb347 ≠ gb335));clear HO_7;clear HO_8;clear HO_23;clear BK327;clear BK335;clear HB;have HO_7:=n0_;have HO_8:=n1_;have HO_23:=n2_;have BK327:=n3_;have BK335:=n4_;have HB:=n5_;have BK347:=n6_;have GW347:=n7_;have GE347:=n8_;have NB327_347:=n9_;have NB347_327:=n10_;have NB335_347:=n11_;have NB347_335:=n12_;clear n0_ n1_ n2_ n3_ n4_ n5_ n6_ n7_ n8_ n9_ n10_ n11_ n12_;clear hb hbox hg;have hnb61:=NB347_327.out;have hnc61:=NB327_347.out;have hnb62:=NB347_335.out;have hnc62:=NB335_347.out;have hcz63_0 : w60.cell? ⟨gb347,0,none⟩=some (.int .i64 0):=(blk_cell BK347.out 0).trans rfl;have hcz63_1 : w60.cell? ⟨gb347,1,none⟩=some (.int .i64 0):=(blk_cell BK347.out 1).trans rfl;have hcz63_2 : w60.cell? ⟨gb347,2,none⟩=some (.int .i64 0):=(blk_cell BK347.out 2).trans rfl;have hcz63_3 : w60.cell? ⟨gb347,3,none⟩=some (.int .i64 0):=(blk_cell BK347.out 3).trans rfl;have hfz63_0:=blk_frozen BK347.out 0;have hfz63_1:=blk_frozen BK347.out 1;have hfz63_2:=blk_frozen BK347.out 2;have hfz63_3:=blk_frozen BK347.out 3))
                   have n0_ : Aside0 (Kd.V k36 36 ((((w60.setCell ⟨gb347,0,none⟩ (.int .i64 ((rd_T34 t343 (ji53)).f0))).setCell ⟨gb347,1,none⟩ (.int .i64 ((rd_T34 t343 (ji53)).f1))).setCell ⟨gb347,2,none⟩ (.int .i64 ((rd_T34 t343 (ji53)).f2))).setCell ⟨gb347,3,none⟩ (.int .i64 ((rd_T34 t343 (ji53)).f3))) w.heap.size (fun k_=>some k_ ≠ (.slice (some ad346) t343.length co50 : Value).ownBlock∧some k_ ≠ (.slice (some ad339) t336.length co15 : Value).ownBlock∧k_ ≠ gb327∧k_ ≠ gb335∧k_ ≠ gb347) (.slice A339_0 (rd_L6 t336 x25_1).length c339_0) (rd_L6 t336 x25_1)):=⟨by (with_reducible repeat (first|apply Kd.V_alloc|apply Kd.V_drewN|apply Kd.V_drew));exact Kd.V_mono (Kd.V_far (p:=⟨gb347,3,none⟩) (Kd.V_far (p:=⟨gb347,2,none⟩) (Kd.V_far (p:=⟨gb347,1,none⟩) (Kd.V_far (p:=⟨gb347,0,none⟩) (Kd.V_mono HO_7.out (fun k_ hk=>(⟨hk,hk.2⟩ : _∧k_ ≠ gb347))) (fun _ hk=>hk.2) (.int .i64 ((rd_T34 t343 (ji53)).f0))) (fun _ hk=>hk.2) (.int .i64 ((rd_T34 t343 (ji53)).f1))) (fun _ hk=>hk.2) (.int .i64 ((rd_T34 t343 (ji53)).f2))) (fun _ hk=>hk.2) (.int .i64 ((rd_T34 t343 (ji53)).f3))) (fun _ hk=>⟨hk.1.1.1,⟨hk.1.1.2.1,⟨hk.1.1.2.2.1,⟨hk.1.1.2.2.2,hk.1.2⟩⟩⟩⟩)⟩
                   have n1_ : Aside0 (Kd.R k34 34 ((((w60.setCell ⟨gb347,0,none⟩ (.int .i64 ((rd_T34 t343 (ji53)).f0))).setCell ⟨gb347,1,none⟩ (.int .i64 ((rd_T34 t343 (ji53)).f1))).setCell ⟨gb347,2,none⟩ (.int .i64 ((rd_T34 t343 (ji53)).f2))).setCell ⟨gb347,3,none⟩ (.int .i64 ((rd_T34 t343 (ji53)).f3))) w.heap.size (fun k_=>k_ ≠ gb347) (.slice (some ad346) t343.length co50) t343):=⟨by (with_reducible repeat (first|apply Kd.R_alloc|apply Kd.R_drewN|apply Kd.R_drew));exact Kd.R_mono (Kd.R_far (p:=⟨gb347,3,none⟩) (Kd.R_far (p:=⟨gb347,2,none⟩) (Kd.R_far (p:=⟨gb347,1,none⟩) (Kd.R_far (p:=⟨gb347,0,none⟩) (Kd.R_mono HO_8.out (fun k_ hk=>(⟨hk,hk.2⟩ : _∧k_ ≠ gb347))) (fun _ hk=>hk.2) (.int .i64 ((rd_T34 t343 (ji53)).f0))) (fun _ hk=>hk.2) (.int .i64 ((rd_T34 t343 (ji53)).f1))) (fun _ hk=>hk.2) (.int .i64 ((rd_T34 t343 (ji53)).f2))) (fun _ hk=>hk.2) (.int .i64 ((rd_T34 t343 (ji53)).f3))) (fun _ hk=>hk.1.2)⟩
                   have n2_ : Aside0 (Kd.N (Kd.slice 36 k36) 30 ((((w60.setCell ⟨gb347,0,none⟩ (.int .i64 ((rd_T34 t343 (ji53)).f0))).setCell ⟨gb347,1,none⟩ (.int .i64 ((rd_T34 t343 (ji53)).f1))).setCell ⟨gb347,2,none⟩ (.int .i64 ((rd_T34 t343 (ji53)).f2))).setCell ⟨gb347,3,none⟩ (.int .i64 ((rd_T34 t343 (ji53)).f3))) w.heap.size (fun k_=>some k_ ≠ (.slice (some ad346) t343.length co50 : Value).ownBlock∧k_ ≠ gb327∧k_ ≠ gb335∧k_ ≠ gb347) (.slice (some ad339) t336.length co15) t336):=⟨by (with_reducible repeat (first|apply Kd.N_alloc|apply Kd.N_drewN|apply Kd.N_drew));exact Kd.N_mono (Kd.N_far (p:=⟨gb347,3,none⟩) (Kd.N_far (p:=⟨gb347,2,none⟩) (Kd.N_far (p:=⟨gb347,1,none⟩) (Kd.N_far (p:=⟨gb347,0,none⟩) (Kd.N_mono HO_23.out (fun k_ hk=>(⟨hk,hk.2⟩ : _∧k_ ≠ gb347))) (fun _ hk=>hk.2) (.int .i64 ((rd_T34 t343 (ji53)).f0))) (fun _ hk=>hk.2) (.int .i64 ((rd_T34 t343 (ji53)).f1))) (fun _ hk=>hk.2) (.int .i64 ((rd_T34 t343 (ji53)).f2))) (fun _ hk=>hk.2) (.int .i64 ((rd_T34 t343 (ji53)).f3))) (fun _ hk=>⟨hk.1.1.1,⟨hk.1.1.2.1,⟨hk.1.1.2.2,hk.1.2⟩⟩⟩)⟩
                   have n3_ : Aside0 (((((w60.setCell ⟨gb347,0,none⟩ (.int .i64 ((rd_T34 t343 (ji53)).f0))).setCell ⟨gb347,1,none⟩ (.int .i64 ((rd_T34 t343 (ji53)).f1))).setCell ⟨gb347,2,none⟩ (.int .i64 ((rd_T34 t343 (ji53)).f2))).setCell ⟨gb347,3,none⟩ (.int .i64 ((rd_T34 t343 (ji53)).f3))).heap[gb327]?=some (.cells #[.int .i64 a1_0,.int .i64 a1_1,.int .i64 a1_2,.int .i64 a1_3,.int .i64 a1_4,.int .i64 a1_5] 23 (0,0))):=⟨by (with_reducible repeat first|apply kN|apply kD|apply kA);refine blk_far ?_ NB327_347.out _;(with_reducible repeat first|apply kN|apply kD|apply kA);refine blk_far ?_ NB327_347.out _;(with_reducible repeat first|apply kN|apply kD|apply kA);refine blk_far ?_ NB327_347.out _;(with_reducible repeat first|apply kN|apply kD|apply kA);refine blk_far ?_ NB327_347.out _;(with_reducible repeat first|apply kN|apply kD|apply kA);exact BK327.out⟩
                   have n4_ : Aside0 (((((w60.setCell ⟨gb347,0,none⟩ (.int .i64 ((rd_T34 t343 (ji53)).f0))).setCell ⟨gb347,1,none⟩ (.int .i64 ((rd_T34 t343 (ji53)).f1))).setCell ⟨gb347,2,none⟩ (.int .i64 ((rd_T34 t343 (ji53)).f2))).setCell ⟨gb347,3,none⟩ (.int .i64 ((rd_T34 t343 (ji53)).f3))).heap[gb335]?=some (.cells #[.int .i64 t329,.int .i64 t330,.int .i64 t331,.int .i64 t332,.int .i64 t333,.int .i64 t334] 26 (0,0))):=⟨by (with_reducible repeat first|apply kN|apply kD|apply kA);refine blk_far ?_ NB335_347.out _;(with_reducible repeat first|apply kN|apply kD|apply kA);refine blk_far ?_ NB335_347.out _;(with_reducible repeat first|apply kN|apply kD|apply kA);refine blk_far ?_ NB335_347.out _;(with_reducible repeat first|apply kN|apply kD|apply kA);refine blk_far ?_ NB335_347.out _;(with_reducible repeat first|apply kN|apply kD|apply kA);exact BK335.out⟩
                   have n5_ : Aside0 (((((w60.setCell ⟨gb347,0,none⟩ (.int .i64 ((rd_T34 t343 (ji53)).f0))).setCell ⟨gb347,1,none⟩ (.int .i64 ((rd_T34 t343 (ji53)).f1))).setCell ⟨gb347,2,none⟩ (.int .i64 ((rd_T34 t343 (ji53)).f2))).setCell ⟨gb347,3,none⟩ (.int .i64 ((rd_T34 t343 (ji53)).f3))).heap[gb347]?=some (.cells #[.int .i64 ((rd_T34 t343 (ji53)).f0),.int .i64 ((rd_T34 t343 (ji53)).f1),.int .i64 ((rd_T34 t343 (ji53)).f2),.int .i64 ((rd_T34 t343 (ji53)).f3)] 34 (0,0))):=⟨by (with_reducible repeat first|apply kN|apply kD|apply kA);refine blk_put (cs:=#[.int .i64 ((rd_T34 t343 (ji53)).f0),.int .i64 ((rd_T34 t343 (ji53)).f1),.int .i64 ((rd_T34 t343 (ji53)).f2),.int .i64 0]) ?_ 3 _ rfl;(with_reducible repeat first|apply kN|apply kD|apply kA);refine blk_put (cs:=#[.int .i64 ((rd_T34 t343 (ji53)).f0),.int .i64 ((rd_T34 t343 (ji53)).f1),.int .i64 0,.int .i64 0]) ?_ 2 _ rfl;(with_reducible repeat first|apply kN|apply kD|apply kA);refine blk_put (cs:=#[.int .i64 ((rd_T34 t343 (ji53)).f0),.int .i64 0,.int .i64 0,.int .i64 0]) ?_ 1 _ rfl;(with_reducible repeat first|apply kN|apply kD|apply kA);refine blk_put (cs:=#[.int .i64 0,.int .i64 0,.int .i64 0,.int .i64 0]) ?_ 0 _ rfl;(with_reducible repeat first|apply kN|apply kD|apply kA);exact BK347.out⟩
                   have n6_ : Aside0 (Below w.heap.size w ((((w60.setCell ⟨gb347,0,none⟩ (.int .i64 ((rd_T34 t343 (ji53)).f0))).setCell ⟨gb347,1,none⟩ (.int .i64 ((rd_T34 t343 (ji53)).f1))).setCell ⟨gb347,2,none⟩ (.int .i64 ((rd_T34 t343 (ji53)).f2))).setCell ⟨gb347,3,none⟩ (.int .i64 ((rd_T34 t343 (ji53)).f3)))):=⟨by repeat (first|(with_reducible first|exact HB.out|apply bAl|apply bDN|apply bD1|refine bSe ?_ GE327.out|refine bSe ?_ GE335.out|refine bSe ?_ GE347.out)|exact HB.out)⟩
                   (try clear HO_7)
                   (try clear HO_8)
                   (try clear HO_23)
                   (try clear BK327)
                   (try clear BK335)
                   (try clear BK347)
                   (try clear HB)
                   generalize ((((w60.setCell ⟨gb347,0,none⟩ (.int .i64 ((rd_T34 t343 (ji53)).f0))).setCell ⟨gb347,1,none⟩ (.int .i64 ((rd_T34 t343 (ji53)).f1))).setCell ⟨gb347,2,none⟩ (.int .i64 ((rd_T34 t343 (ji53)).f2))).setCell ⟨gb347,3,none⟩ (.int .i64 ((rd_T34 t343 (ji53)).f3)))=w64 at n0_ n1_ n2_ n3_ n4_ n5_ n6_ ⊢
                   have HO_7:=n0_
                   have HO_8:=n1_
                   have HO_23:=n2_
                   have BK327:=n3_
                   have BK335:=n4_
                   have BK347:=n5_
                   have HB:=n6_
                   clear n0_ n1_ n2_ n3_ n4_ n5_ n6_
                   have n0_:=amk (Kd.V_drew HO_7.out)
                   have n1_:=amk (Kd.R_drew HO_8.out)
                   have n2_:=amk (Kd.N_drew HO_23.out)
                   have n3_:=amk (blk_drew BK327.out)
                   have n4_:=amk (blk_drew BK335.out)
                   have n5_:=amk (blk_drew BK347.out)
                   have n6_:=amk (bD1 HB.out)
                   clear HO_7
                   clear HO_8
                   clear HO_23
                   clear BK327
                   clear BK335
                   clear BK347
                   clear HB
                   have HO_7:=n0_
                   have HO_8:=n1_
                   have HO_23:=n2_
                   have BK327:=n3_
                   have BK335:=n4_
                   have BK347:=n5_
                   have HB:=n6_
                   clear n0_ n1_ n2_ n3_ n4_ n5_ n6_
                   have p348 : 0≤(x44_2 : Int):=of_decide_eq_true (by first|(with_reducible assumption)|assumption)
                   have q348 : x44_2 < (t343.length : Int):=of_decide_eq_true (by first|(with_reducible assumption)|assumption)
                   obtain ⟨ad348,e348,hx348_0,hx348_1,hx348_2,hx348_3⟩:=at_T34 (Kd.R_reads' HO_8.out).2.2 x44_2 p348 q348
                   obtain rfl : ad346=ad348:=(by injection e348)
                   replace p348:=eq_true p348
                   replace q348:=eq_true q348
                   have p349 : 0≤(x44_2 : Int):=of_decide_eq_true (by first|(with_reducible assumption)|assumption)
                   have q349 : x44_2 < (t343.length : Int):=of_decide_eq_true (by first|(with_reducible assumption)|assumption)
                   obtain ⟨ad349,e349,hx349_0,hx349_1,hx349_2,hx349_3⟩:=at_T34 (Kd.R_reads' HO_8.out).2.2 x44_2 p349 q349
                   obtain rfl : ad346=ad349:=(by injection e349)
                   replace p349:=eq_true p349
                   replace q349:=eq_true q349
                   refine start_ (n:=18) (S:=fun w'=>w'.cell? ⟨gb347,0,none⟩=some (.int .i64 ((rd_T34 t343 (ji53)).f0))∧w'.cell? ⟨gb347,1,none⟩=some (.int .i64 ((rd_T34 t343 (ji53)).f1))∧w'.cell? ⟨gb347,2,none⟩=some (.int .i64 ((rd_T34 t343 (ji53)).f2))∧w'.cell? ⟨gb347,3,none⟩=some (.int .i64 ((rd_T34 t343 (ji53)).f3))∧w'.cell? (ad346.add ((x44_2).toNat * 4))=some (.int .i64 ((rd_T34 t343 x44_2).f0))∧w'.cell? ⟨(ad346.add ((x44_2).toNat * 4)).block,(ad346.add ((x44_2).toNat * 4)).off+1,none⟩=some (.int .i64 ((rd_T34 t343 x44_2).f1))∧w'.cell? ⟨(ad346.add ((x44_2).toNat * 4)).block,(ad346.add ((x44_2).toNat * 4)).off+2,none⟩=some (.int .i64 ((rd_T34 t343 x44_2).f2))∧w'.cell? ⟨(ad346.add ((x44_2).toNat * 4)).block,(ad346.add ((x44_2).toNat * 4)).off+3,none⟩=some (.int .i64 ((rd_T34 t343 x44_2).f3))∧w'.cell? (ad346.add ((x44_2).toNat * 4))=some (.int .i64 ((rd_T34 t343 x44_2).f0))∧w'.cell? ⟨(ad346.add ((x44_2).toNat * 4)).block,(ad346.add ((x44_2).toNat * 4)).off+1,none⟩=some (.int .i64 ((rd_T34 t343 x44_2).f1))∧w'.cell? ⟨(ad346.add ((x44_2).toNat * 4)).block,(ad346.add ((x44_2).toNat * 4)).off+2,none⟩=some (.int .i64 ((rd_T34 t343 x44_2).f2))∧w'.cell? ⟨(ad346.add ((x44_2).toNat * 4)).block,(ad346.add ((x44_2).toNat * 4)).off+3,none⟩=some (.int .i64 ((rd_T34 t343 x44_2).f3))) (ds:=[]) #[false,false,false,false,false,false,false,false,false,false,false,false,false,false,false,false,false,false] (by kernel_rfl) rfl rfl ⟨(blk_cell BK347.out 0).trans rfl,(blk_cell BK347.out 1).trans rfl,(blk_cell BK347.out 2).trans rfl,(blk_cell BK347.out 3).trans rfl,hx348_0,hx348_1,hx348_2,hx348_3,hx349_0,hx349_1,hx349_2,hx349_3⟩ (fun hHeld=>?_);refine with_tabW versallaw17_FlatRounds.tab17 versallaw17_FlatRounds.bits17 (fun HT_ HW_=>?_)
                   generalize w64.drew=w65 at HO_7 HO_8 HO_23 BK327 BK335 BK347 HB hx348_0 hx348_1 hx348_2 hx348_3 hx349_0 hx349_1 hx349_2 hx349_3 hHeld ⊢
                   refine pure_ (i:=0) (N:=some 58) (v:=?_) (a':=?_) #[true,false,false,false,false,false,false,false,false,false,false,false,false,false,false,false,false,false] rfl rfl (any_of HT_.out (by kernel_rfl)) (fun _ _ _ h=>h) (Or.inl ⟨by rfl,?_⟩) ?_ ?_
                   rotate_left
                   ·intro w'
                    go_simp
                    with_reducible rfl
                   rotate_left
                   ·simp only [Act.put,sTA,sCZ,sCS,i64_w,i32_w]
                    rfl
                   refine pure_ (i:=1) (N:=some 59) (v:=?_) (a':=?_) #[true,true,false,false,false,false,false,false,false,false,false,false,false,false,false,false,false,false] rfl rfl (any_of HT_.out (by kernel_rfl)) (fun _ _ _ h=>h) (Or.inl ⟨by rfl,?_⟩) ?_ ?_
                   rotate_left
                   ·intro w'
                    go_simp
                    with_reducible rfl
                   rotate_left
                   ·simp only [Act.put,sTA,sCZ,sCS,i64_w,i32_w]
                    rfl
                   refine pure_ (i:=2) (N:=some 60) (v:=?_) (a':=?_) #[true,true,true,false,false,false,false,false,false,false,false,false,false,false,false,false,false,false] rfl rfl (any_of HT_.out (by kernel_rfl)) (fun _ _ _ h=>h) (Or.inl ⟨by rfl,?_⟩) ?_ ?_
                   rotate_left
                   ·intro w'
                    go_simp
                    with_reducible rfl
                   rotate_left
                   ·simp only [Act.put,sTA,sCZ,sCS,i64_w,i32_w]
                    rfl
                   refine pure_ (i:=3) (N:=some 61) (v:=?_) (a':=?_) #[true,true,true,true,false,false,false,false,false,false,false,false,false,false,false,false,false,false] rfl rfl (any_of HT_.out (by kernel_rfl)) (fun _ _ _ h=>h) (Or.inl ⟨by rfl,?_⟩) ?_ ?_
                   rotate_left
                   ·intro w'
                    go_simp
                    with_reducible rfl
                   rotate_left
                   ·simp only [Act.put,sTA,sCZ,sCS,i64_w,i32_w]
                    rfl
                   refine pure_ (i:=5) (N:=some 63) (v:=?_) (a':=?_) #[true,true,true,true,false,true,false,false,false,false,false,false,false,false,false,false,false,false] rfl rfl (any_of HT_.out (by kernel_rfl)) (fun _ _ _ h=>h) (Or.inl ⟨by rfl,?_⟩) ?_ ?_
                   rotate_left
                   ·intro w'
                    go_simp
                    with_reducible rfl
                   rotate_left
                   ·simp only [Act.put,sTA,sCZ,sCS,i64_w,i32_w]
                    rfl
                   refine take_ (i:=4) (N:=some 62) (v:=?_) (a':=?_) #[true,true,true,true,true,true,false,false,false,false,false,false,false,false,false,false,false,false] rfl rfl (take_ofW HT_.out HW_.out (by kernel_rfl)) (fun _ _ _ h=>h) (Or.inl ⟨by rfl,?_⟩) hHeld ?_ ?_
                   rotate_left
                   ·rintro w' ⟨s0,s1,s2,s3,s4,s5,s6,s7,s8,s9,s10,s11⟩
                    go_simp
                    with_reducible rfl
                   rotate_left
                   ·simp only [Act.put,sTA,sCZ,sCS,i64_w,i32_w]
                    rfl
                   refine take_ (i:=6) (N:=some 64) (v:=?_) (a':=?_) #[true,true,true,true,true,true,true,false,false,false,false,false,false,false,false,false,false,false] rfl rfl (take_ofW HT_.out HW_.out (by kernel_rfl)) (fun _ _ _ h=>h) (Or.inl ⟨by rfl,?_⟩) hHeld ?_ ?_
                   rotate_left
                   ·rintro w' ⟨s0,s1,s2,s3,s4,s5,s6,s7,s8,s9,s10,s11⟩
                    go_simp
                    with_reducible rfl
                   rotate_left
                   ·simp only [Act.put,sTA,sCZ,sCS,i64_w,i32_w]
                    rfl
                   refine pure_ (i:=7) (N:=some 65) (v:=?_) (a':=?_) #[true,true,true,true,true,true,true,true,false,false,false,false,false,false,false,false,false,false] rfl rfl (any_of HT_.out (by kernel_rfl)) (fun _ _ _ h=>h) (Or.inl ⟨by rfl,?_⟩) ?_ ?_
                   rotate_left
                   ·intro w'
                    go_simp
                    with_reducible rfl
                   rotate_left
                   ·simp only [Act.put,sTA,sCZ,sCS,i64_w,i32_w]
                    rfl
                   refine pure_ (i:=8) (N:=some 66) (v:=?_) (a':=?_) #[true,true,true,true,true,true,true,true,true,false,false,false,false,false,false,false,false,false] rfl rfl (any_of HT_.out (by kernel_rfl)) (fun _ _ _ h=>h) (Or.inl ⟨by rfl,?_⟩) ?_ ?_
                   rotate_left
                   ·intro w'
                    go_simp
                    with_reducible rfl
                   rotate_left
                   ·simp only [Act.put,sTA,sCZ,sCS,i64_w,i32_w]
                    rfl
                   refine pure_ (i:=9) (N:=some 67) (v:=?_) (a':=?_) #[true,true,true,true,true,true,true,true,true,true,false,false,false,false,false,false,false,false] rfl rfl (any_of HT_.out (by kernel_rfl)) (fun _ _ _ h=>h) (Or.inl ⟨by rfl,?_⟩) ?_ ?_
                   rotate_left
                   ·intro w'
                    go_simp
                    with_reducible rfl
                   rotate_left
                   ·simp only [Act.put,sTA,sCZ,sCS,i64_w,i32_w]
                    rfl
                   refine pure_ (i:=10) (N:=some 68) (v:=?_) (a':=?_) #[true,true,true,true,true,true,true,true,true,true,true,false,false,false,false,false,false,false] rfl rfl (any_of HT_.out (by kernel_rfl)) (fun _ _ _ h=>h) (Or.inl ⟨by rfl,?_⟩) ?_ ?_
                   rotate_left
                   ·intro w'
                    go_simp
                    with_reducible rfl
                   rotate_left
                   ·simp only [Act.put,sTA,sCZ,sCS,i64_w,i32_w]
                    rfl
                   refine pure_ (i:=11) (N:=some 69) (v:=?_) (a':=?_) #[true,true,true,true,true,true,true,true,true,true,true,true,false,false,false,false,false,false] rfl rfl (any_of HT_.out (by kernel_rfl)) (fun _ _ _ h=>h) (Or.inl ⟨by rfl,?_⟩) ?_ ?_
                   rotate_left
                   ·intro w'
                    go_simp
                    with_reducible rfl
                   rotate_left
                   ·simp only [Act.put,sTA,sCZ,sCS,i64_w,i32_w]
                    rfl
                   refine pure_ (i:=12) (N:=some 70) (v:=?_) (a':=?_) #[true,true,true,true,true,true,true,true,true,true,true,true,true,false,false,false,false,false] rfl rfl (any_of HT_.out (by kernel_rfl)) (fun _ _ _ h=>h) (Or.inl ⟨by rfl,?_⟩) ?_ ?_
                   rotate_left
                   ·intro w'
                    go_simp
                    with_reducible rfl
                   rotate_left
                   ·simp only [Act.put,sTA,sCZ,sCS,i64_w,i32_w]
                    rfl
                   refine pure_ (i:=14) (N:=some 72) (v:=?_) (a':=?_) #[true,true,true,true,true,true,true,true,true,true,true,true,true,false,true,false,false,false] rfl rfl (any_of HT_.out (by kernel_rfl)) (fun _ _ _ h=>h) (Or.inl ⟨by rfl,?_⟩) ?_ ?_
                   rotate_left
                   ·intro w'
                    go_simp
                    with_reducible rfl
                   rotate_left
                   ·simp only [Act.put,sTA,sCZ,sCS,i64_w,i32_w]
                    rfl
                   refine take_ (i:=13) (N:=some 71) (v:=?_) (a':=?_) #[true,true,true,true,true,true,true,true,true,true,true,true,true,true,true,false,false,false] rfl rfl (take_ofW HT_.out HW_.out (by kernel_rfl)) (fun _ _ _ h=>h) (Or.inl ⟨by rfl,?_⟩) hHeld ?_ ?_
                   rotate_left
                   ·rintro w' ⟨s0,s1,s2,s3,s4,s5,s6,s7,s8,s9,s10,s11⟩
                    go_simp
                    with_reducible rfl
                   rotate_left
                   ·simp only [Act.put,sTA,sCZ,sCS,i64_w,i32_w]
                    rfl
                   refine take_ (i:=15) (N:=some 73) (v:=?_) (a':=?_) #[true,true,true,true,true,true,true,true,true,true,true,true,true,true,true,true,false,false] rfl rfl (take_ofW HT_.out HW_.out (by kernel_rfl)) (fun _ _ _ h=>h) (Or.inl ⟨by rfl,?_⟩) hHeld ?_ ?_
                   rotate_left
                   ·rintro w' ⟨s0,s1,s2,s3,s4,s5,s6,s7,s8,s9,s10,s11⟩
                    go_simp
                    with_reducible rfl
                   rotate_left
                   ·simp only [Act.put,sTA,sCZ,sCS,i64_w,i32_w]
                    rfl
                   refine pure_ (i:=16) (N:=some 74) (v:=?_) (a':=?_) #[true,true,true,true,true,true,true,true,true,true,true,true,true,true,true,true,true,false] rfl rfl (any_of HT_.out (by kernel_rfl)) (fun _ _ _ h=>h) (Or.inl ⟨by rfl,?_⟩) ?_ ?_
                   rotate_left
                   ·intro w'
                    go_simp
                    with_reducible rfl
                   rotate_left
                   ·simp only [Act.put,sTA,sCZ,sCS,i64_w,i32_w]
                    rfl
                   refine pure_ (i:=17) (N:=some 75) (v:=?_) (a':=?_) #[true,true,true,true,true,true,true,true,true,true,true,true,true,true,true,true,true,true] rfl rfl (any_of HT_.out (by kernel_rfl)) (fun _ _ _ h=>h) (Or.inl ⟨by rfl,?_⟩) ?_ ?_
                   rotate_left
                   ·intro w'
                    go_simp
                    with_reducible rfl
                   rotate_left
                   ·simp only [Act.put,sTA,sCZ,sCS,i64_w,i32_w]
                    rfl
                   refine done_ (done_of HT_.out (by kernel_rfl)) ?_
                   try go_wp2
                   go_roundg k2
                   case measure=>have:=HK1.out;have:=HK2.out;omega
                   case rel=>exact ⟨(wrap64 (x44_2+1)),(by first|rfl|(simp;done)|(simp [*];done)),H',⟨by have:=HK1.out;have:=HK2.out;omega⟩,⟨by (with_reducible repeat (first|apply Kd.V_alloc|apply Kd.V_drewN|apply Kd.V_drew));exact Kd.V_mono HO_7.out (fun _ hk=>⟨hk.1,⟨hk.2.1,⟨hk.2.2.1,hk.2.2.2.1⟩⟩⟩)⟩,⟨by (with_reducible repeat (first|apply Kd.R_alloc|apply Kd.R_drewN|apply Kd.R_drew));exact Kd.R_mono HO_8.out (fun _ hk=>trivial)⟩,⟨by (with_reducible repeat (first|apply Kd.N_alloc|apply Kd.N_drewN|apply Kd.N_drew));exact Kd.N_mono HO_23.out (fun _ hk=>⟨hk.1,⟨hk.2.1,hk.2.2.1⟩⟩)⟩,⟨by (with_reducible repeat first|apply kN|apply kD|apply kA);exact BK327.out⟩,⟨by (with_reducible repeat first|apply kN|apply kD|apply kA);exact BK335.out⟩,⟨by repeat (first|(with_reducible first|exact HB.out|apply bAl|apply bDN|apply bD1|refine bSe ?_ GE327.out|refine bSe ?_ GE335.out|refine bSe ?_ GE347.out)|exact HB.out)⟩⟩
                  ·rw [if_neg c59] at H
                   have c59b0 : (((rd_T34 t343 x44_2).f1) == ((rd_T34 t343 (ji53)).f3))=false:=beq_eq_false_iff_ne.mpr c59
                   have c59b1 : (((rd_T34 t343 x44_2).f1) != ((rd_T34 t343 (ji53)).f3))=true:=bne_iff_ne.mpr c59
                   obtain rfl:=Option.some.inj H
                   have p346 : 0≤((ji53) : Int):=of_decide_eq_true (by first|(with_reducible assumption)|assumption)
                   have q346 : (ji53) < (t343.length : Int):=of_decide_eq_true (by first|(with_reducible assumption)|assumption)
                   obtain ⟨ad346,e346,hx346_0,hx346_1,hx346_2,hx346_3⟩:=at_T34 (Kd.R_reads' HO_8.out).2.2 (ji53) p346 q346
                   cases e346
                   replace p346:=eq_true p346
                   replace q346:=eq_true q346
                   try go_wp2_with (first|((with_reducible refine gate_dst (N:=10) rfl ?_);refine box_event ?hg (N:=10) ?hd (cs:=#[.int .i64 0,.int .i64 0,.int .i64 0,.int .i64 0]) (t:=34) ?hr ?_;(case hd=>rfl);(case hg=>rfl);(case hr=>first|(go_simp;done)|(go_simp;rfl));intro gb347 hg w66 hbox hb;have n0_:=amk (Kd.V_below (Kd.V_elderB (by (with_reducible repeat (first|apply Kd.V_alloc|apply Kd.V_drewN|apply Kd.V_drew));exact HO_7.out) gb347 (Nat.le_of_eq hg.symm)) hb);have n1_:=amk (Kd.R_below (Kd.R_elderB (by (with_reducible repeat (first|apply Kd.R_alloc|apply Kd.R_drewN|apply Kd.R_drew));exact HO_8.out) gb347 (Nat.le_of_eq hg.symm)) hb);have n2_:=amk (Kd.N_below (Kd.N_elderB (by (with_reducible repeat (first|apply Kd.N_alloc|apply Kd.N_drewN|apply Kd.N_drew));exact HO_23.out) gb347 (Nat.le_of_eq hg.symm)) hb);have n3_:=amk (blk_below (g:=gb327) (o:=.cells #[.int .i64 a1_0,.int .i64 a1_1,.int .i64 a1_2,.int .i64 a1_3,.int .i64 a1_4,.int .i64 a1_5] 23 (0,0)) (by (with_reducible repeat first|apply kN|apply kD|apply kA);exact BK327.out) hb);have n4_:=amk (blk_below (g:=gb335) (o:=.cells #[.int .i64 t329,.int .i64 t330,.int .i64 t331,.int .i64 t332,.int .i64 t333,.int .i64 t334] 26 (0,0)) (by (with_reducible repeat first|apply kN|apply kD|apply kA);exact BK335.out) hb);have n5_:=amk (below_step (by repeat (first|(with_reducible first|exact HB.out|apply bAl|apply bDN|apply bD1|refine bSe ?_ GE327.out|refine bSe ?_ GE335.out)|exact HB.out)) hb);have n6_:=amk (hbox);have n7_:=amk ((by rw [hg];exact (below_size (by repeat (first|(with_reducible first|exact HB.out|apply bAl|apply bDN|apply bD1|refine bSe ?_ GE327.out|refine bSe ?_ GE335.out)|exact HB.out))) : w.heap.size≤gb347));have n8_:=amk ((by rw [hg];exact (below_size (by repeat (first|(with_reducible first|exact HB.out|apply bAl|apply bDN|apply bD1|refine bSe ?_ GE327.out|refine bSe ?_ GE335.out)|exact HB.out))) : w.heap.size≤gb347));have n9_:=amk ((by rw [hg];exact Nat.ne_of_lt (blk_lt (g:=gb327) (o:=.cells #[.int .i64 a1_0,.int .i64 a1_1,.int .i64 a1_2,.int .i64 a1_3,.int .i64 a1_4,.int .i64 a1_5] 23 (0,0)) (by (with_reducible repeat first|apply kN|apply kD|apply kA);exact BK327.out)) : gb327 ≠ gb347));have n10_:=amk ((by rw [hg];exact Nat.ne_of_gt (blk_lt (g:=gb327) (o:=.cells #[.int .i64 a1_0,.int .i64 a1_1,.int .i64 a1_2,.int .i64 a1_3,.int .i64 a1_4,.int .i64 a1_5] 23 (0,0)) (by (with_reducible repeat first|apply kN|apply kD|apply kA);exact BK327.out)) : gb347 ≠ gb327));have n11_:=amk ((by rw [hg];exact Nat.ne_of_lt (blk_lt (g:=gb335) (o:=.cells #[.int .i64 t329,.int .i64 t330,.int .i64 t331,.int .i64 t332,.int .i64 t333,.int .i64 t334] 26 (0,0)) (by (with_reducible repeat first|apply kN|apply kD|apply kA);exact BK335.out)) : gb335 ≠ gb347));have n12_:=amk ((by rw [hg];exact Nat.ne_of_gt (blk_lt (g:=gb335) (o:=.cells #[.int .i64 t329,.int .i64 t330,.int .i64 t331,.int .i64 t332,.int .i64 t333,.int .i64 t334] 26 (0,0)) (by (with_reducible repeat first|apply kN|apply kD|apply kA);exact BK335.out)) : gb347 ≠ gb335));clear HO_7;clear HO_8;clear HO_23;clear BK327;clear BK335;clear HB;have HO_7:=n0_;have HO_8:=n1_;have HO_23:=n2_;have BK327:=n3_;have BK335:=n4_;have HB:=n5_;have BK347:=n6_;have GW347:=n7_;have GE347:=n8_;have NB327_347:=n9_;have NB347_327:=n10_;have NB335_347:=n11_;have NB347_335:=n12_;clear n0_ n1_ n2_ n3_ n4_ n5_ n6_ n7_ n8_ n9_ n10_ n11_ n12_;clear hb hbox hg;have hnb67:=NB347_327.out;have hnc67:=NB327_347.out;have hnb68:=NB347_335.out;have hnc68:=NB335_347.out;have hcz69_0 : w66.cell? ⟨gb347,0,none⟩=some (.int .i64 0):=(blk_cell BK347.out 0).trans rfl;have hcz69_1 : w66.cell? ⟨gb347,1,none⟩=some (.int .i64 0):=(blk_cell BK347.out 1).trans rfl;have hcz69_2 : w66.cell? ⟨gb347,2,none⟩=some (.int .i64 0):=(blk_cell BK347.out 2).trans rfl;have hcz69_3 : w66.cell? ⟨gb347,3,none⟩=some (.int .i64 0):=(blk_cell BK347.out 3).trans rfl;have hfz69_0:=blk_frozen BK347.out 0;have hfz69_1:=blk_frozen BK347.out 1;have hfz69_2:=blk_frozen BK347.out 2;have hfz69_3:=blk_frozen BK347.out 3))
                   have n0_ : Aside0 (Kd.V k36 36 ((((w66.setCell ⟨gb347,0,none⟩ (.int .i64 ((rd_T34 t343 (ji53)).f0))).setCell ⟨gb347,1,none⟩ (.int .i64 ((rd_T34 t343 (ji53)).f1))).setCell ⟨gb347,2,none⟩ (.int .i64 ((rd_T34 t343 (ji53)).f2))).setCell ⟨gb347,3,none⟩ (.int .i64 ((rd_T34 t343 (ji53)).f3))) w.heap.size (fun k_=>some k_ ≠ (.slice (some ad346) t343.length co50 : Value).ownBlock∧some k_ ≠ (.slice (some ad339) t336.length co15 : Value).ownBlock∧k_ ≠ gb327∧k_ ≠ gb335∧k_ ≠ gb347) (.slice A339_0 (rd_L6 t336 x25_1).length c339_0) (rd_L6 t336 x25_1)):=⟨by (with_reducible repeat (first|apply Kd.V_alloc|apply Kd.V_drewN|apply Kd.V_drew));exact Kd.V_mono (Kd.V_far (p:=⟨gb347,3,none⟩) (Kd.V_far (p:=⟨gb347,2,none⟩) (Kd.V_far (p:=⟨gb347,1,none⟩) (Kd.V_far (p:=⟨gb347,0,none⟩) (Kd.V_mono HO_7.out (fun k_ hk=>(⟨hk,hk.2⟩ : _∧k_ ≠ gb347))) (fun _ hk=>hk.2) (.int .i64 ((rd_T34 t343 (ji53)).f0))) (fun _ hk=>hk.2) (.int .i64 ((rd_T34 t343 (ji53)).f1))) (fun _ hk=>hk.2) (.int .i64 ((rd_T34 t343 (ji53)).f2))) (fun _ hk=>hk.2) (.int .i64 ((rd_T34 t343 (ji53)).f3))) (fun _ hk=>⟨hk.1.1.1,⟨hk.1.1.2.1,⟨hk.1.1.2.2.1,⟨hk.1.1.2.2.2,hk.1.2⟩⟩⟩⟩)⟩
                   have n1_ : Aside0 (Kd.R k34 34 ((((w66.setCell ⟨gb347,0,none⟩ (.int .i64 ((rd_T34 t343 (ji53)).f0))).setCell ⟨gb347,1,none⟩ (.int .i64 ((rd_T34 t343 (ji53)).f1))).setCell ⟨gb347,2,none⟩ (.int .i64 ((rd_T34 t343 (ji53)).f2))).setCell ⟨gb347,3,none⟩ (.int .i64 ((rd_T34 t343 (ji53)).f3))) w.heap.size (fun k_=>k_ ≠ gb347) (.slice (some ad346) t343.length co50) t343):=⟨by (with_reducible repeat (first|apply Kd.R_alloc|apply Kd.R_drewN|apply Kd.R_drew));exact Kd.R_mono (Kd.R_far (p:=⟨gb347,3,none⟩) (Kd.R_far (p:=⟨gb347,2,none⟩) (Kd.R_far (p:=⟨gb347,1,none⟩) (Kd.R_far (p:=⟨gb347,0,none⟩) (Kd.R_mono HO_8.out (fun k_ hk=>(⟨hk,hk.2⟩ : _∧k_ ≠ gb347))) (fun _ hk=>hk.2) (.int .i64 ((rd_T34 t343 (ji53)).f0))) (fun _ hk=>hk.2) (.int .i64 ((rd_T34 t343 (ji53)).f1))) (fun _ hk=>hk.2) (.int .i64 ((rd_T34 t343 (ji53)).f2))) (fun _ hk=>hk.2) (.int .i64 ((rd_T34 t343 (ji53)).f3))) (fun _ hk=>hk.1.2)⟩
                   have n2_ : Aside0 (Kd.N (Kd.slice 36 k36) 30 ((((w66.setCell ⟨gb347,0,none⟩ (.int .i64 ((rd_T34 t343 (ji53)).f0))).setCell ⟨gb347,1,none⟩ (.int .i64 ((rd_T34 t343 (ji53)).f1))).setCell ⟨gb347,2,none⟩ (.int .i64 ((rd_T34 t343 (ji53)).f2))).setCell ⟨gb347,3,none⟩ (.int .i64 ((rd_T34 t343 (ji53)).f3))) w.heap.size (fun k_=>some k_ ≠ (.slice (some ad346) t343.length co50 : Value).ownBlock∧k_ ≠ gb327∧k_ ≠ gb335∧k_ ≠ gb347) (.slice (some ad339) t336.length co15) t336):=⟨by (with_reducible repeat (first|apply Kd.N_alloc|apply Kd.N_drewN|apply Kd.N_drew));exact Kd.N_mono (Kd.N_far (p:=⟨gb347,3,none⟩) (Kd.N_far (p:=⟨gb347,2,none⟩) (Kd.N_far (p:=⟨gb347,1,none⟩) (Kd.N_far (p:=⟨gb347,0,none⟩) (Kd.N_mono HO_23.out (fun k_ hk=>(⟨hk,hk.2⟩ : _∧k_ ≠ gb347))) (fun _ hk=>hk.2) (.int .i64 ((rd_T34 t343 (ji53)).f0))) (fun _ hk=>hk.2) (.int .i64 ((rd_T34 t343 (ji53)).f1))) (fun _ hk=>hk.2) (.int .i64 ((rd_T34 t343 (ji53)).f2))) (fun _ hk=>hk.2) (.int .i64 ((rd_T34 t343 (ji53)).f3))) (fun _ hk=>⟨hk.1.1.1,⟨hk.1.1.2.1,⟨hk.1.1.2.2,hk.1.2⟩⟩⟩)⟩
                   have n3_ : Aside0 (((((w66.setCell ⟨gb347,0,none⟩ (.int .i64 ((rd_T34 t343 (ji53)).f0))).setCell ⟨gb347,1,none⟩ (.int .i64 ((rd_T34 t343 (ji53)).f1))).setCell ⟨gb347,2,none⟩ (.int .i64 ((rd_T34 t343 (ji53)).f2))).setCell ⟨gb347,3,none⟩ (.int .i64 ((rd_T34 t343 (ji53)).f3))).heap[gb327]?=some (.cells #[.int .i64 a1_0,.int .i64 a1_1,.int .i64 a1_2,.int .i64 a1_3,.int .i64 a1_4,.int .i64 a1_5] 23 (0,0))):=⟨by (with_reducible repeat first|apply kN|apply kD|apply kA);refine blk_far ?_ NB327_347.out _;(with_reducible repeat first|apply kN|apply kD|apply kA);refine blk_far ?_ NB327_347.out _;(with_reducible repeat first|apply kN|apply kD|apply kA);refine blk_far ?_ NB327_347.out _;(with_reducible repeat first|apply kN|apply kD|apply kA);refine blk_far ?_ NB327_347.out _;(with_reducible repeat first|apply kN|apply kD|apply kA);exact BK327.out⟩
                   have n4_ : Aside0 (((((w66.setCell ⟨gb347,0,none⟩ (.int .i64 ((rd_T34 t343 (ji53)).f0))).setCell ⟨gb347,1,none⟩ (.int .i64 ((rd_T34 t343 (ji53)).f1))).setCell ⟨gb347,2,none⟩ (.int .i64 ((rd_T34 t343 (ji53)).f2))).setCell ⟨gb347,3,none⟩ (.int .i64 ((rd_T34 t343 (ji53)).f3))).heap[gb335]?=some (.cells #[.int .i64 t329,.int .i64 t330,.int .i64 t331,.int .i64 t332,.int .i64 t333,.int .i64 t334] 26 (0,0))):=⟨by (with_reducible repeat first|apply kN|apply kD|apply kA);refine blk_far ?_ NB335_347.out _;(with_reducible repeat first|apply kN|apply kD|apply kA);refine blk_far ?_ NB335_347.out _;(with_reducible repeat first|apply kN|apply kD|apply kA);refine blk_far ?_ NB335_347.out _;(with_reducible repeat first|apply kN|apply kD|apply kA);refine blk_far ?_ NB335_347.out _;(with_reducible repeat first|apply kN|apply kD|apply kA);exact BK335.out⟩
                   have n5_ : Aside0 (((((w66.setCell ⟨gb347,0,none⟩ (.int .i64 ((rd_T34 t343 (ji53)).f0))).setCell ⟨gb347,1,none⟩ (.int .i64 ((rd_T34 t343 (ji53)).f1))).setCell ⟨gb347,2,none⟩ (.int .i64 ((rd_T34 t343 (ji53)).f2))).setCell ⟨gb347,3,none⟩ (.int .i64 ((rd_T34 t343 (ji53)).f3))).heap[gb347]?=some (.cells #[.int .i64 ((rd_T34 t343 (ji53)).f0),.int .i64 ((rd_T34 t343 (ji53)).f1),.int .i64 ((rd_T34 t343 (ji53)).f2),.int .i64 ((rd_T34 t343 (ji53)).f3)] 34 (0,0))):=⟨by (with_reducible repeat first|apply kN|apply kD|apply kA);refine blk_put (cs:=#[.int .i64 ((rd_T34 t343 (ji53)).f0),.int .i64 ((rd_T34 t343 (ji53)).f1),.int .i64 ((rd_T34 t343 (ji53)).f2),.int .i64 0]) ?_ 3 _ rfl;(with_reducible repeat first|apply kN|apply kD|apply kA);refine blk_put (cs:=#[.int .i64 ((rd_T34 t343 (ji53)).f0),.int .i64 ((rd_T34 t343 (ji53)).f1),.int .i64 0,.int .i64 0]) ?_ 2 _ rfl;(with_reducible repeat first|apply kN|apply kD|apply kA);refine blk_put (cs:=#[.int .i64 ((rd_T34 t343 (ji53)).f0),.int .i64 0,.int .i64 0,.int .i64 0]) ?_ 1 _ rfl;(with_reducible repeat first|apply kN|apply kD|apply kA);refine blk_put (cs:=#[.int .i64 0,.int .i64 0,.int .i64 0,.int .i64 0]) ?_ 0 _ rfl;(with_reducible repeat first|apply kN|apply kD|apply kA);exact BK347.out⟩
                   have n6_ : Aside0 (Below w.heap.size w ((((w66.setCell ⟨gb347,0,none⟩ (.int .i64 ((rd_T34 t343 (ji53)).f0))).setCell ⟨gb347,1,none⟩ (.int .i64 ((rd_T34 t343 (ji53)).f1))).setCell ⟨gb347,2,none⟩ (.int .i64 ((rd_T34 t343 (ji53)).f2))).setCell ⟨gb347,3,none⟩ (.int .i64 ((rd_T34 t343 (ji53)).f3)))):=⟨by repeat (first|(with_reducible first|exact HB.out|apply bAl|apply bDN|apply bD1|refine bSe ?_ GE327.out|refine bSe ?_ GE335.out|refine bSe ?_ GE347.out)|exact HB.out)⟩
                   (try clear HO_7)
                   (try clear HO_8)
                   (try clear HO_23)
                   (try clear BK327)
                   (try clear BK335)
                   (try clear BK347)
                   (try clear HB)
                   generalize ((((w66.setCell ⟨gb347,0,none⟩ (.int .i64 ((rd_T34 t343 (ji53)).f0))).setCell ⟨gb347,1,none⟩ (.int .i64 ((rd_T34 t343 (ji53)).f1))).setCell ⟨gb347,2,none⟩ (.int .i64 ((rd_T34 t343 (ji53)).f2))).setCell ⟨gb347,3,none⟩ (.int .i64 ((rd_T34 t343 (ji53)).f3)))=w70 at n0_ n1_ n2_ n3_ n4_ n5_ n6_ ⊢
                   have HO_7:=n0_
                   have HO_8:=n1_
                   have HO_23:=n2_
                   have BK327:=n3_
                   have BK335:=n4_
                   have BK347:=n5_
                   have HB:=n6_
                   clear n0_ n1_ n2_ n3_ n4_ n5_ n6_
                   have n0_:=amk (Kd.V_drew HO_7.out)
                   have n1_:=amk (Kd.R_drew HO_8.out)
                   have n2_:=amk (Kd.N_drew HO_23.out)
                   have n3_:=amk (blk_drew BK327.out)
                   have n4_:=amk (blk_drew BK335.out)
                   have n5_:=amk (blk_drew BK347.out)
                   have n6_:=amk (bD1 HB.out)
                   clear HO_7
                   clear HO_8
                   clear HO_23
                   clear BK327
                   clear BK335
                   clear BK347
                   clear HB
                   have HO_7:=n0_
                   have HO_8:=n1_
                   have HO_23:=n2_
                   have BK327:=n3_
                   have BK335:=n4_
                   have BK347:=n5_
                   have HB:=n6_
                   clear n0_ n1_ n2_ n3_ n4_ n5_ n6_
                   have p348 : 0≤(x44_2 : Int):=of_decide_eq_true (by first|(with_reducible assumption)|assumption)
                   have q348 : x44_2 < (t343.length : Int):=of_decide_eq_true (by first|(with_reducible assumption)|assumption)
                   obtain ⟨ad348,e348,hx348_0,hx348_1,hx348_2,hx348_3⟩:=at_T34 (Kd.R_reads' HO_8.out).2.2 x44_2 p348 q348
                   obtain rfl : ad346=ad348:=(by injection e348)
                   replace p348:=eq_true p348
                   replace q348:=eq_true q348
                   have p349 : 0≤(x44_2 : Int):=of_decide_eq_true (by first|(with_reducible assumption)|assumption)
                   have q349 : x44_2 < (t343.length : Int):=of_decide_eq_true (by first|(with_reducible assumption)|assumption)
                   obtain ⟨ad349,e349,hx349_0,hx349_1,hx349_2,hx349_3⟩:=at_T34 (Kd.R_reads' HO_8.out).2.2 x44_2 p349 q349
                   obtain rfl : ad346=ad349:=(by injection e349)
                   replace p349:=eq_true p349
                   replace q349:=eq_true q349
                   refine start_ (n:=18) (S:=fun w'=>w'.cell? ⟨gb347,0,none⟩=some (.int .i64 ((rd_T34 t343 (ji53)).f0))∧w'.cell? ⟨gb347,1,none⟩=some (.int .i64 ((rd_T34 t343 (ji53)).f1))∧w'.cell? ⟨gb347,2,none⟩=some (.int .i64 ((rd_T34 t343 (ji53)).f2))∧w'.cell? ⟨gb347,3,none⟩=some (.int .i64 ((rd_T34 t343 (ji53)).f3))∧w'.cell? (ad346.add ((x44_2).toNat * 4))=some (.int .i64 ((rd_T34 t343 x44_2).f0))∧w'.cell? ⟨(ad346.add ((x44_2).toNat * 4)).block,(ad346.add ((x44_2).toNat * 4)).off+1,none⟩=some (.int .i64 ((rd_T34 t343 x44_2).f1))∧w'.cell? ⟨(ad346.add ((x44_2).toNat * 4)).block,(ad346.add ((x44_2).toNat * 4)).off+2,none⟩=some (.int .i64 ((rd_T34 t343 x44_2).f2))∧w'.cell? ⟨(ad346.add ((x44_2).toNat * 4)).block,(ad346.add ((x44_2).toNat * 4)).off+3,none⟩=some (.int .i64 ((rd_T34 t343 x44_2).f3))∧w'.cell? (ad346.add ((x44_2).toNat * 4))=some (.int .i64 ((rd_T34 t343 x44_2).f0))∧w'.cell? ⟨(ad346.add ((x44_2).toNat * 4)).block,(ad346.add ((x44_2).toNat * 4)).off+1,none⟩=some (.int .i64 ((rd_T34 t343 x44_2).f1))∧w'.cell? ⟨(ad346.add ((x44_2).toNat * 4)).block,(ad346.add ((x44_2).toNat * 4)).off+2,none⟩=some (.int .i64 ((rd_T34 t343 x44_2).f2))∧w'.cell? ⟨(ad346.add ((x44_2).toNat * 4)).block,(ad346.add ((x44_2).toNat * 4)).off+3,none⟩=some (.int .i64 ((rd_T34 t343 x44_2).f3))) (ds:=[]) #[false,false,false,false,false,false,false,false,false,false,false,false,false,false,false,false,false,false] (by kernel_rfl) rfl rfl ⟨(blk_cell BK347.out 0).trans rfl,(blk_cell BK347.out 1).trans rfl,(blk_cell BK347.out 2).trans rfl,(blk_cell BK347.out 3).trans rfl,hx348_0,hx348_1,hx348_2,hx348_3,hx349_0,hx349_1,hx349_2,hx349_3⟩ (fun hHeld=>?_);refine with_tabW versallaw17_FlatRounds.tab17 versallaw17_FlatRounds.bits17 (fun HT_ HW_=>?_)
                   generalize w70.drew=w71 at HO_7 HO_8 HO_23 BK327 BK335 BK347 HB hx348_0 hx348_1 hx348_2 hx348_3 hx349_0 hx349_1 hx349_2 hx349_3 hHeld ⊢
                   refine pure_ (i:=0) (N:=some 58) (v:=?_) (a':=?_) #[true,false,false,false,false,false,false,false,false,false,false,false,false,false,false,false,false,false] rfl rfl (any_of HT_.out (by kernel_rfl)) (fun _ _ _ h=>h) (Or.inl ⟨by rfl,?_⟩) ?_ ?_
                   rotate_left
                   ·intro w'
                    go_simp
                    with_reducible rfl
                   rotate_left
                   ·simp only [Act.put,sTA,sCZ,sCS,i64_w,i32_w]
                    rfl
                   refine pure_ (i:=1) (N:=some 59) (v:=?_) (a':=?_) #[true,true,false,false,false,false,false,false,false,false,false,false,false,false,false,false,false,false] rfl rfl (any_of HT_.out (by kernel_rfl)) (fun _ _ _ h=>h) (Or.inl ⟨by rfl,?_⟩) ?_ ?_
                   rotate_left
                   ·intro w'
                    go_simp
                    with_reducible rfl
                   rotate_left
                   ·simp only [Act.put,sTA,sCZ,sCS,i64_w,i32_w]
                    rfl
                   refine pure_ (i:=2) (N:=some 60) (v:=?_) (a':=?_) #[true,true,true,false,false,false,false,false,false,false,false,false,false,false,false,false,false,false] rfl rfl (any_of HT_.out (by kernel_rfl)) (fun _ _ _ h=>h) (Or.inl ⟨by rfl,?_⟩) ?_ ?_
                   rotate_left
                   ·intro w'
                    go_simp
                    with_reducible rfl
                   rotate_left
                   ·simp only [Act.put,sTA,sCZ,sCS,i64_w,i32_w]
                    rfl
                   refine pure_ (i:=3) (N:=some 61) (v:=?_) (a':=?_) #[true,true,true,true,false,false,false,false,false,false,false,false,false,false,false,false,false,false] rfl rfl (any_of HT_.out (by kernel_rfl)) (fun _ _ _ h=>h) (Or.inl ⟨by rfl,?_⟩) ?_ ?_
                   rotate_left
                   ·intro w'
                    go_simp
                    with_reducible rfl
                   rotate_left
                   ·simp only [Act.put,sTA,sCZ,sCS,i64_w,i32_w]
                    rfl
                   refine pure_ (i:=5) (N:=some 63) (v:=?_) (a':=?_) #[true,true,true,true,false,true,false,false,false,false,false,false,false,false,false,false,false,false] rfl rfl (any_of HT_.out (by kernel_rfl)) (fun _ _ _ h=>h) (Or.inl ⟨by rfl,?_⟩) ?_ ?_
                   rotate_left
                   ·intro w'
                    go_simp
                    with_reducible rfl
                   rotate_left
                   ·simp only [Act.put,sTA,sCZ,sCS,i64_w,i32_w]
                    rfl
                   refine take_ (i:=4) (N:=some 62) (v:=?_) (a':=?_) #[true,true,true,true,true,true,false,false,false,false,false,false,false,false,false,false,false,false] rfl rfl (take_ofW HT_.out HW_.out (by kernel_rfl)) (fun _ _ _ h=>h) (Or.inl ⟨by rfl,?_⟩) hHeld ?_ ?_
                   rotate_left
                   ·rintro w' ⟨s0,s1,s2,s3,s4,s5,s6,s7,s8,s9,s10,s11⟩
                    go_simp
                    with_reducible rfl
                   rotate_left
                   ·simp only [Act.put,sTA,sCZ,sCS,i64_w,i32_w]
                    rfl
                   refine take_ (i:=6) (N:=some 64) (v:=?_) (a':=?_) #[true,true,true,true,true,true,true,false,false,false,false,false,false,false,false,false,false,false] rfl rfl (take_ofW HT_.out HW_.out (by kernel_rfl)) (fun _ _ _ h=>h) (Or.inl ⟨by rfl,?_⟩) hHeld ?_ ?_
                   rotate_left
                   ·rintro w' ⟨s0,s1,s2,s3,s4,s5,s6,s7,s8,s9,s10,s11⟩
                    go_simp
                    with_reducible rfl
                   rotate_left
                   ·simp only [Act.put,sTA,sCZ,sCS,i64_w,i32_w]
                    rfl
                   refine pure_ (i:=7) (N:=some 65) (v:=?_) (a':=?_) #[true,true,true,true,true,true,true,true,false,false,false,false,false,false,false,false,false,false] rfl rfl (any_of HT_.out (by kernel_rfl)) (fun _ _ _ h=>h) (Or.inl ⟨by rfl,?_⟩) ?_ ?_
                   rotate_left
                   ·intro w'
                    go_simp
                    with_reducible rfl
                   rotate_left
                   ·simp only [Act.put,sTA,sCZ,sCS,i64_w,i32_w]
                    rfl
                   refine pure_ (i:=8) (N:=some 66) (v:=?_) (a':=?_) #[true,true,true,true,true,true,true,true,true,false,false,false,false,false,false,false,false,false] rfl rfl (any_of HT_.out (by kernel_rfl)) (fun _ _ _ h=>h) (Or.inl ⟨by rfl,?_⟩) ?_ ?_
                   rotate_left
                   ·intro w'
                    go_simp
                    with_reducible rfl
                   rotate_left
                   ·simp only [Act.put,sTA,sCZ,sCS,i64_w,i32_w]
                    rfl
                   refine pure_ (i:=9) (N:=some 67) (v:=?_) (a':=?_) #[true,true,true,true,true,true,true,true,true,true,false,false,false,false,false,false,false,false] rfl rfl (any_of HT_.out (by kernel_rfl)) (fun _ _ _ h=>h) (Or.inl ⟨by rfl,?_⟩) ?_ ?_
                   rotate_left
                   ·intro w'
                    go_simp
                    with_reducible rfl
                   rotate_left
                   ·simp only [Act.put,sTA,sCZ,sCS,i64_w,i32_w]
                    rfl
                   refine pure_ (i:=10) (N:=some 68) (v:=?_) (a':=?_) #[true,true,true,true,true,true,true,true,true,true,true,false,false,false,false,false,false,false] rfl rfl (any_of HT_.out (by kernel_rfl)) (fun _ _ _ h=>h) (Or.inl ⟨by rfl,?_⟩) ?_ ?_
                   rotate_left
                   ·intro w'
                    go_simp
                    with_reducible rfl
                   rotate_left
                   ·simp only [Act.put,sTA,sCZ,sCS,i64_w,i32_w]
                    rfl
                   refine pure_ (i:=11) (N:=some 69) (v:=?_) (a':=?_) #[true,true,true,true,true,true,true,true,true,true,true,true,false,false,false,false,false,false] rfl rfl (any_of HT_.out (by kernel_rfl)) (fun _ _ _ h=>h) (Or.inl ⟨by rfl,?_⟩) ?_ ?_
                   rotate_left
                   ·intro w'
                    go_simp
                    with_reducible rfl
                   rotate_left
                   ·simp only [Act.put,sTA,sCZ,sCS,i64_w,i32_w]
                    rfl
                   refine pure_ (i:=12) (N:=some 70) (v:=?_) (a':=?_) #[true,true,true,true,true,true,true,true,true,true,true,true,true,false,false,false,false,false] rfl rfl (any_of HT_.out (by kernel_rfl)) (fun _ _ _ h=>h) (Or.inl ⟨by rfl,?_⟩) ?_ ?_
                   rotate_left
                   ·intro w'
                    go_simp
                    with_reducible rfl
                   rotate_left
                   ·simp only [Act.put,sTA,sCZ,sCS,i64_w,i32_w]
                    rfl
                   refine pure_ (i:=14) (N:=some 72) (v:=?_) (a':=?_) #[true,true,true,true,true,true,true,true,true,true,true,true,true,false,true,false,false,false] rfl rfl (any_of HT_.out (by kernel_rfl)) (fun _ _ _ h=>h) (Or.inl ⟨by rfl,?_⟩) ?_ ?_
                   rotate_left
                   ·intro w'
                    go_simp
                    with_reducible rfl
                   rotate_left
                   ·simp only [Act.put,sTA,sCZ,sCS,i64_w,i32_w]
                    rfl
                   refine take_ (i:=13) (N:=some 71) (v:=?_) (a':=?_) #[true,true,true,true,true,true,true,true,true,true,true,true,true,true,true,false,false,false] rfl rfl (take_ofW HT_.out HW_.out (by kernel_rfl)) (fun _ _ _ h=>h) (Or.inl ⟨by rfl,?_⟩) hHeld ?_ ?_
                   rotate_left
                   ·rintro w' ⟨s0,s1,s2,s3,s4,s5,s6,s7,s8,s9,s10,s11⟩
                    go_simp
                    with_reducible rfl
                   rotate_left
                   ·simp only [Act.put,sTA,sCZ,sCS,i64_w,i32_w]
                    rfl
                   refine take_ (i:=15) (N:=some 73) (v:=?_) (a':=?_) #[true,true,true,true,true,true,true,true,true,true,true,true,true,true,true,true,false,false] rfl rfl (take_ofW HT_.out HW_.out (by kernel_rfl)) (fun _ _ _ h=>h) (Or.inl ⟨by rfl,?_⟩) hHeld ?_ ?_
                   rotate_left
                   ·rintro w' ⟨s0,s1,s2,s3,s4,s5,s6,s7,s8,s9,s10,s11⟩
                    go_simp
                    with_reducible rfl
                   rotate_left
                   ·simp only [Act.put,sTA,sCZ,sCS,i64_w,i32_w]
                    rfl
                   refine pure_ (i:=16) (N:=some 74) (v:=?_) (a':=?_) #[true,true,true,true,true,true,true,true,true,true,true,true,true,true,true,true,true,false] rfl rfl (any_of HT_.out (by kernel_rfl)) (fun _ _ _ h=>h) (Or.inl ⟨by rfl,?_⟩) ?_ ?_
                   rotate_left
                   ·intro w'
                    go_simp
                    with_reducible rfl
                   rotate_left
                   ·simp only [Act.put,sTA,sCZ,sCS,i64_w,i32_w]
                    rfl
                   refine pure_ (i:=17) (N:=some 75) (v:=?_) (a':=?_) #[true,true,true,true,true,true,true,true,true,true,true,true,true,true,true,true,true,true] rfl rfl (any_of HT_.out (by kernel_rfl)) (fun _ _ _ h=>h) (Or.inl ⟨by rfl,?_⟩) ?_ ?_
                   rotate_left
                   ·intro w'
                    go_simp
                    with_reducible rfl
                   rotate_left
                   ·simp only [Act.put,sTA,sCZ,sCS,i64_w,i32_w]
                    rfl
                   refine done_ (done_of HT_.out (by kernel_rfl)) ?_
                   try go_wp2
                   go_ret
                   exact ⟨by first|rfl|(simp [errW_none,errW_some] <;> rfl)|(simp only [← hji53];first|rfl|(simp [errW_none,errW_some] <;> rfl))|(simp [*,errW_none,errW_some] <;> rfl),by repeat (first|(with_reducible first|exact HB.out|apply bAl|apply bDN|apply bD1|refine bSe ?_ GE327.out|refine bSe ?_ GE335.out|refine bSe ?_ GE347.out)|exact HB.out)⟩
                 ·rw [if_neg c58] at H
                  have c58b0 : (((rd_T34 t343 x44_2).f0) == ((rd_T34 t343 (ji53)).f2))=false:=beq_eq_false_iff_ne.mpr c58
                  have c58b1 : (((rd_T34 t343 x44_2).f0) != ((rd_T34 t343 (ji53)).f2))=true:=bne_iff_ne.mpr c58
                  obtain rfl:=Option.some.inj H
                  have p346 : 0≤((ji53) : Int):=of_decide_eq_true (by first|(with_reducible assumption)|assumption)
                  have q346 : (ji53) < (t343.length : Int):=of_decide_eq_true (by first|(with_reducible assumption)|assumption)
                  obtain ⟨ad346,e346,hx346_0,hx346_1,hx346_2,hx346_3⟩:=at_T34 (Kd.R_reads' HO_8.out).2.2 (ji53) p346 q346
                  cases e346
                  replace p346:=eq_true p346
                  replace q346:=eq_true q346
                  try go_wp2_with (first|((with_reducible refine gate_dst (N:=10) rfl ?_);refine box_event ?hg (N:=10) ?hd (cs:=#[.int .i64 0,.int .i64 0,.int .i64 0,.int .i64 0]) (t:=34) ?hr ?_;(case hd=>rfl);(case hg=>rfl);(case hr=>first|(go_simp;done)|(go_simp;rfl));intro gb347 hg w72 hbox hb;have n0_:=amk (Kd.V_below (Kd.V_elderB (by (with_reducible repeat (first|apply Kd.V_alloc|apply Kd.V_drewN|apply Kd.V_drew));exact HO_7.out) gb347 (Nat.le_of_eq hg.symm)) hb);have n1_:=amk (Kd.R_below (Kd.R_elderB (by (with_reducible repeat (first|apply Kd.R_alloc|apply Kd.R_drewN|apply Kd.R_drew));exact HO_8.out) gb347 (Nat.le_of_eq hg.symm)) hb);have n2_:=amk (Kd.N_below (Kd.N_elderB (by (with_reducible repeat (first|apply Kd.N_alloc|apply Kd.N_drewN|apply Kd.N_drew));exact HO_23.out) gb347 (Nat.le_of_eq hg.symm)) hb);have n3_:=amk (blk_below (g:=gb327) (o:=.cells #[.int .i64 a1_0,.int .i64 a1_1,.int .i64 a1_2,.int .i64 a1_3,.int .i64 a1_4,.int .i64 a1_5] 23 (0,0)) (by (with_reducible repeat first|apply kN|apply kD|apply kA);exact BK327.out) hb);have n4_:=amk (blk_below (g:=gb335) (o:=.cells #[.int .i64 t329,.int .i64 t330,.int .i64 t331,.int .i64 t332,.int .i64 t333,.int .i64 t334] 26 (0,0)) (by (with_reducible repeat first|apply kN|apply kD|apply kA);exact BK335.out) hb);have n5_:=amk (below_step (by repeat (first|(with_reducible first|exact HB.out|apply bAl|apply bDN|apply bD1|refine bSe ?_ GE327.out|refine bSe ?_ GE335.out)|exact HB.out)) hb);have n6_:=amk (hbox);have n7_:=amk ((by rw [hg];exact (below_size (by repeat (first|(with_reducible first|exact HB.out|apply bAl|apply bDN|apply bD1|refine bSe ?_ GE327.out|refine bSe ?_ GE335.out)|exact HB.out))) : w.heap.size≤gb347));have n8_:=amk ((by rw [hg];exact (below_size (by repeat (first|(with_reducible first|exact HB.out|apply bAl|apply bDN|apply bD1|refine bSe ?_ GE327.out|refine bSe ?_ GE335.out)|exact HB.out))) : w.heap.size≤gb347));have n9_:=amk ((by rw [hg];exact Nat.ne_of_lt (blk_lt (g:=gb327) (o:=.cells #[.int .i64 a1_0,.int .i64 a1_1,.int .i64 a1_2,.int .i64 a1_3,.int .i64 a1_4,.int .i64 a1_5] 23 (0,0)) (by (with_reducible repeat first|apply kN|apply kD|apply kA);exact BK327.out)) : gb327 ≠ gb347));have n10_:=amk ((by rw [hg];exact Nat.ne_of_gt (blk_lt (g:=gb327) (o:=.cells #[.int .i64 a1_0,.int .i64 a1_1,.int .i64 a1_2,.int .i64 a1_3,.int .i64 a1_4,.int .i64 a1_5] 23 (0,0)) (by (with_reducible repeat first|apply kN|apply kD|apply kA);exact BK327.out)) : gb347 ≠ gb327));have n11_:=amk ((by rw [hg];exact Nat.ne_of_lt (blk_lt (g:=gb335) (o:=.cells #[.int .i64 t329,.int .i64 t330,.int .i64 t331,.int .i64 t332,.int .i64 t333,.int .i64 t334] 26 (0,0)) (by (with_reducible repeat first|apply kN|apply kD|apply kA);exact BK335.out)) : gb335 ≠ gb347));have n12_:=amk ((by rw [hg];exact Nat.ne_of_gt (blk_lt (g:=gb335) (o:=.cells #[.int .i64 t329,.int .i64 t330,.int .i64 t331,.int .i64 t332,.int .i64 t333,.int .i64 t334] 26 (0,0)) (by (with_reducible repeat first|apply kN|apply kD|apply kA);exact BK335.out)) : gb347 ≠ gb335));clear HO_7;clear HO_8;clear HO_23;clear BK327;clear BK335;clear HB;have HO_7:=n0_;have HO_8:=n1_;have HO_23:=n2_;have BK327:=n3_;have BK335:=n4_;have HB:=n5_;have BK347:=n6_;have GW347:=n7_;have GE347:=n8_;have NB327_347:=n9_;have NB347_327:=n10_;have NB335_347:=n11_;have NB347_335:=n12_;clear n0_ n1_ n2_ n3_ n4_ n5_ n6_ n7_ n8_ n9_ n10_ n11_ n12_;clear hb hbox hg;have hnb73:=NB347_327.out;have hnc73:=NB327_347.out;have hnb74:=NB347_335.out;have hnc74:=NB335_347.out;have hcz75_0 : w72.cell? ⟨gb347,0,none⟩=some (.int .i64 0):=(blk_cell BK347.out 0).trans rfl;have hcz75_1 : w72.cell? ⟨gb347,1,none⟩=some (.int .i64 0):=(blk_cell BK347.out 1).trans rfl;have hcz75_2 : w72.cell? ⟨gb347,2,none⟩=some (.int .i64 0):=(blk_cell BK347.out 2).trans rfl;have hcz75_3 : w72.cell? ⟨gb347,3,none⟩=some (.int .i64 0):=(blk_cell BK347.out 3).trans rfl;have hfz75_0:=blk_frozen BK347.out 0;have hfz75_1:=blk_frozen BK347.out 1;have hfz75_2:=blk_frozen BK347.out 2;have hfz75_3:=blk_frozen BK347.out 3))
                  have n0_ : Aside0 (Kd.V k36 36 ((((w72.setCell ⟨gb347,0,none⟩ (.int .i64 ((rd_T34 t343 (ji53)).f0))).setCell ⟨gb347,1,none⟩ (.int .i64 ((rd_T34 t343 (ji53)).f1))).setCell ⟨gb347,2,none⟩ (.int .i64 ((rd_T34 t343 (ji53)).f2))).setCell ⟨gb347,3,none⟩ (.int .i64 ((rd_T34 t343 (ji53)).f3))) w.heap.size (fun k_=>some k_ ≠ (.slice (some ad346) t343.length co50 : Value).ownBlock∧some k_ ≠ (.slice (some ad339) t336.length co15 : Value).ownBlock∧k_ ≠ gb327∧k_ ≠ gb335∧k_ ≠ gb347) (.slice A339_0 (rd_L6 t336 x25_1).length c339_0) (rd_L6 t336 x25_1)):=⟨by (with_reducible repeat (first|apply Kd.V_alloc|apply Kd.V_drewN|apply Kd.V_drew));exact Kd.V_mono (Kd.V_far (p:=⟨gb347,3,none⟩) (Kd.V_far (p:=⟨gb347,2,none⟩) (Kd.V_far (p:=⟨gb347,1,none⟩) (Kd.V_far (p:=⟨gb347,0,none⟩) (Kd.V_mono HO_7.out (fun k_ hk=>(⟨hk,hk.2⟩ : _∧k_ ≠ gb347))) (fun _ hk=>hk.2) (.int .i64 ((rd_T34 t343 (ji53)).f0))) (fun _ hk=>hk.2) (.int .i64 ((rd_T34 t343 (ji53)).f1))) (fun _ hk=>hk.2) (.int .i64 ((rd_T34 t343 (ji53)).f2))) (fun _ hk=>hk.2) (.int .i64 ((rd_T34 t343 (ji53)).f3))) (fun _ hk=>⟨hk.1.1.1,⟨hk.1.1.2.1,⟨hk.1.1.2.2.1,⟨hk.1.1.2.2.2,hk.1.2⟩⟩⟩⟩)⟩
                  have n1_ : Aside0 (Kd.R k34 34 ((((w72.setCell ⟨gb347,0,none⟩ (.int .i64 ((rd_T34 t343 (ji53)).f0))).setCell ⟨gb347,1,none⟩ (.int .i64 ((rd_T34 t343 (ji53)).f1))).setCell ⟨gb347,2,none⟩ (.int .i64 ((rd_T34 t343 (ji53)).f2))).setCell ⟨gb347,3,none⟩ (.int .i64 ((rd_T34 t343 (ji53)).f3))) w.heap.size (fun k_=>k_ ≠ gb347) (.slice (some ad346) t343.length co50) t343):=⟨by (with_reducible repeat (first|apply Kd.R_alloc|apply Kd.R_drewN|apply Kd.R_drew));exact Kd.R_mono (Kd.R_far (p:=⟨gb347,3,none⟩) (Kd.R_far (p:=⟨gb347,2,none⟩) (Kd.R_far (p:=⟨gb347,1,none⟩) (Kd.R_far (p:=⟨gb347,0,none⟩) (Kd.R_mono HO_8.out (fun k_ hk=>(⟨hk,hk.2⟩ : _∧k_ ≠ gb347))) (fun _ hk=>hk.2) (.int .i64 ((rd_T34 t343 (ji53)).f0))) (fun _ hk=>hk.2) (.int .i64 ((rd_T34 t343 (ji53)).f1))) (fun _ hk=>hk.2) (.int .i64 ((rd_T34 t343 (ji53)).f2))) (fun _ hk=>hk.2) (.int .i64 ((rd_T34 t343 (ji53)).f3))) (fun _ hk=>hk.1.2)⟩
                  have n2_ : Aside0 (Kd.N (Kd.slice 36 k36) 30 ((((w72.setCell ⟨gb347,0,none⟩ (.int .i64 ((rd_T34 t343 (ji53)).f0))).setCell ⟨gb347,1,none⟩ (.int .i64 ((rd_T34 t343 (ji53)).f1))).setCell ⟨gb347,2,none⟩ (.int .i64 ((rd_T34 t343 (ji53)).f2))).setCell ⟨gb347,3,none⟩ (.int .i64 ((rd_T34 t343 (ji53)).f3))) w.heap.size (fun k_=>some k_ ≠ (.slice (some ad346) t343.length co50 : Value).ownBlock∧k_ ≠ gb327∧k_ ≠ gb335∧k_ ≠ gb347) (.slice (some ad339) t336.length co15) t336):=⟨by (with_reducible repeat (first|apply Kd.N_alloc|apply Kd.N_drewN|apply Kd.N_drew));exact Kd.N_mono (Kd.N_far (p:=⟨gb347,3,none⟩) (Kd.N_far (p:=⟨gb347,2,none⟩) (Kd.N_far (p:=⟨gb347,1,none⟩) (Kd.N_far (p:=⟨gb347,0,none⟩) (Kd.N_mono HO_23.out (fun k_ hk=>(⟨hk,hk.2⟩ : _∧k_ ≠ gb347))) (fun _ hk=>hk.2) (.int .i64 ((rd_T34 t343 (ji53)).f0))) (fun _ hk=>hk.2) (.int .i64 ((rd_T34 t343 (ji53)).f1))) (fun _ hk=>hk.2) (.int .i64 ((rd_T34 t343 (ji53)).f2))) (fun _ hk=>hk.2) (.int .i64 ((rd_T34 t343 (ji53)).f3))) (fun _ hk=>⟨hk.1.1.1,⟨hk.1.1.2.1,⟨hk.1.1.2.2,hk.1.2⟩⟩⟩)⟩
                  have n3_ : Aside0 (((((w72.setCell ⟨gb347,0,none⟩ (.int .i64 ((rd_T34 t343 (ji53)).f0))).setCell ⟨gb347,1,none⟩ (.int .i64 ((rd_T34 t343 (ji53)).f1))).setCell ⟨gb347,2,none⟩ (.int .i64 ((rd_T34 t343 (ji53)).f2))).setCell ⟨gb347,3,none⟩ (.int .i64 ((rd_T34 t343 (ji53)).f3))).heap[gb327]?=some (.cells #[.int .i64 a1_0,.int .i64 a1_1,.int .i64 a1_2,.int .i64 a1_3,.int .i64 a1_4,.int .i64 a1_5] 23 (0,0))):=⟨by (with_reducible repeat first|apply kN|apply kD|apply kA);refine blk_far ?_ NB327_347.out _;(with_reducible repeat first|apply kN|apply kD|apply kA);refine blk_far ?_ NB327_347.out _;(with_reducible repeat first|apply kN|apply kD|apply kA);refine blk_far ?_ NB327_347.out _;(with_reducible repeat first|apply kN|apply kD|apply kA);refine blk_far ?_ NB327_347.out _;(with_reducible repeat first|apply kN|apply kD|apply kA);exact BK327.out⟩
                  have n4_ : Aside0 (((((w72.setCell ⟨gb347,0,none⟩ (.int .i64 ((rd_T34 t343 (ji53)).f0))).setCell ⟨gb347,1,none⟩ (.int .i64 ((rd_T34 t343 (ji53)).f1))).setCell ⟨gb347,2,none⟩ (.int .i64 ((rd_T34 t343 (ji53)).f2))).setCell ⟨gb347,3,none⟩ (.int .i64 ((rd_T34 t343 (ji53)).f3))).heap[gb335]?=some (.cells #[.int .i64 t329,.int .i64 t330,.int .i64 t331,.int .i64 t332,.int .i64 t333,.int .i64 t334] 26 (0,0))):=⟨by (with_reducible repeat first|apply kN|apply kD|apply kA);refine blk_far ?_ NB335_347.out _;(with_reducible repeat first|apply kN|apply kD|apply kA);refine blk_far ?_ NB335_347.out _;(with_reducible repeat first|apply kN|apply kD|apply kA);refine blk_far ?_ NB335_347.out _;(with_reducible repeat first|apply kN|apply kD|apply kA);refine blk_far ?_ NB335_347.out _;(with_reducible repeat first|apply kN|apply kD|apply kA);exact BK335.out⟩
                  have n5_ : Aside0 (((((w72.setCell ⟨gb347,0,none⟩ (.int .i64 ((rd_T34 t343 (ji53)).f0))).setCell ⟨gb347,1,none⟩ (.int .i64 ((rd_T34 t343 (ji53)).f1))).setCell ⟨gb347,2,none⟩ (.int .i64 ((rd_T34 t343 (ji53)).f2))).setCell ⟨gb347,3,none⟩ (.int .i64 ((rd_T34 t343 (ji53)).f3))).heap[gb347]?=some (.cells #[.int .i64 ((rd_T34 t343 (ji53)).f0),.int .i64 ((rd_T34 t343 (ji53)).f1),.int .i64 ((rd_T34 t343 (ji53)).f2),.int .i64 ((rd_T34 t343 (ji53)).f3)] 34 (0,0))):=⟨by (with_reducible repeat first|apply kN|apply kD|apply kA);refine blk_put (cs:=#[.int .i64 ((rd_T34 t343 (ji53)).f0),.int .i64 ((rd_T34 t343 (ji53)).f1),.int .i64 ((rd_T34 t343 (ji53)).f2),.int .i64 0]) ?_ 3 _ rfl;(with_reducible repeat first|apply kN|apply kD|apply kA);refine blk_put (cs:=#[.int .i64 ((rd_T34 t343 (ji53)).f0),.int .i64 ((rd_T34 t343 (ji53)).f1),.int .i64 0,.int .i64 0]) ?_ 2 _ rfl;(with_reducible repeat first|apply kN|apply kD|apply kA);refine blk_put (cs:=#[.int .i64 ((rd_T34 t343 (ji53)).f0),.int .i64 0,.int .i64 0,.int .i64 0]) ?_ 1 _ rfl;(with_reducible repeat first|apply kN|apply kD|apply kA);refine blk_put (cs:=#[.int .i64 0,.int .i64 0,.int .i64 0,.int .i64 0]) ?_ 0 _ rfl;(with_reducible repeat first|apply kN|apply kD|apply kA);exact BK347.out⟩
                  have n6_ : Aside0 (Below w.heap.size w ((((w72.setCell ⟨gb347,0,none⟩ (.int .i64 ((rd_T34 t343 (ji53)).f0))).setCell ⟨gb347,1,none⟩ (.int .i64 ((rd_T34 t343 (ji53)).f1))).setCell ⟨gb347,2,none⟩ (.int .i64 ((rd_T34 t343 (ji53)).f2))).setCell ⟨gb347,3,none⟩ (.int .i64 ((rd_T34 t343 (ji53)).f3)))):=⟨by repeat (first|(with_reducible first|exact HB.out|apply bAl|apply bDN|apply bD1|refine bSe ?_ GE327.out|refine bSe ?_ GE335.out|refine bSe ?_ GE347.out)|exact HB.out)⟩
                  (try clear HO_7)
                  (try clear HO_8)
                  (try clear HO_23)
                  (try clear BK327)
                  (try clear BK335)
                  (try clear BK347)
                  (try clear HB)
                  generalize ((((w72.setCell ⟨gb347,0,none⟩ (.int .i64 ((rd_T34 t343 (ji53)).f0))).setCell ⟨gb347,1,none⟩ (.int .i64 ((rd_T34 t343 (ji53)).f1))).setCell ⟨gb347,2,none⟩ (.int .i64 ((rd_T34 t343 (ji53)).f2))).setCell ⟨gb347,3,none⟩ (.int .i64 ((rd_T34 t343 (ji53)).f3)))=w76 at n0_ n1_ n2_ n3_ n4_ n5_ n6_ ⊢
                  have HO_7:=n0_
                  have HO_8:=n1_
                  have HO_23:=n2_
                  have BK327:=n3_
                  have BK335:=n4_
                  have BK347:=n5_
                  have HB:=n6_
                  clear n0_ n1_ n2_ n3_ n4_ n5_ n6_
                  have n0_:=amk (Kd.V_drew HO_7.out)
                  have n1_:=amk (Kd.R_drew HO_8.out)
                  have n2_:=amk (Kd.N_drew HO_23.out)
                  have n3_:=amk (blk_drew BK327.out)
                  have n4_:=amk (blk_drew BK335.out)
                  have n5_:=amk (blk_drew BK347.out)
                  have n6_:=amk (bD1 HB.out)
                  clear HO_7
                  clear HO_8
                  clear HO_23
                  clear BK327
                  clear BK335
                  clear BK347
                  clear HB
                  have HO_7:=n0_
                  have HO_8:=n1_
                  have HO_23:=n2_
                  have BK327:=n3_
                  have BK335:=n4_
                  have BK347:=n5_
                  have HB:=n6_
                  clear n0_ n1_ n2_ n3_ n4_ n5_ n6_
                  have p348 : 0≤(x44_2 : Int):=of_decide_eq_true (by first|(with_reducible assumption)|assumption)
                  have q348 : x44_2 < (t343.length : Int):=of_decide_eq_true (by first|(with_reducible assumption)|assumption)
                  obtain ⟨ad348,e348,hx348_0,hx348_1,hx348_2,hx348_3⟩:=at_T34 (Kd.R_reads' HO_8.out).2.2 x44_2 p348 q348
                  obtain rfl : ad346=ad348:=(by injection e348)
                  replace p348:=eq_true p348
                  replace q348:=eq_true q348
                  refine start_ (n:=18) (S:=fun w'=>w'.cell? ⟨gb347,0,none⟩=some (.int .i64 ((rd_T34 t343 (ji53)).f0))∧w'.cell? ⟨gb347,1,none⟩=some (.int .i64 ((rd_T34 t343 (ji53)).f1))∧w'.cell? ⟨gb347,2,none⟩=some (.int .i64 ((rd_T34 t343 (ji53)).f2))∧w'.cell? ⟨gb347,3,none⟩=some (.int .i64 ((rd_T34 t343 (ji53)).f3))∧w'.cell? (ad346.add ((x44_2).toNat * 4))=some (.int .i64 ((rd_T34 t343 x44_2).f0))∧w'.cell? ⟨(ad346.add ((x44_2).toNat * 4)).block,(ad346.add ((x44_2).toNat * 4)).off+1,none⟩=some (.int .i64 ((rd_T34 t343 x44_2).f1))∧w'.cell? ⟨(ad346.add ((x44_2).toNat * 4)).block,(ad346.add ((x44_2).toNat * 4)).off+2,none⟩=some (.int .i64 ((rd_T34 t343 x44_2).f2))∧w'.cell? ⟨(ad346.add ((x44_2).toNat * 4)).block,(ad346.add ((x44_2).toNat * 4)).off+3,none⟩=some (.int .i64 ((rd_T34 t343 x44_2).f3))) (ds:=[]) #[false,false,false,false,false,false,false,false,false,false,false,false,false,false,false,false,false,false] (by kernel_rfl) rfl rfl ⟨(blk_cell BK347.out 0).trans rfl,(blk_cell BK347.out 1).trans rfl,(blk_cell BK347.out 2).trans rfl,(blk_cell BK347.out 3).trans rfl,hx348_0,hx348_1,hx348_2,hx348_3⟩ (fun hHeld=>?_);refine with_tabW versallaw17_FlatRounds.tab17 versallaw17_FlatRounds.bits17 (fun HT_ HW_=>?_)
                  generalize w76.drew=w77 at HO_7 HO_8 HO_23 BK327 BK335 BK347 HB hx348_0 hx348_1 hx348_2 hx348_3 hHeld ⊢
                  refine pure_ (i:=0) (N:=some 58) (v:=?_) (a':=?_) #[true,false,false,false,false,false,false,false,false,false,false,false,false,false,false,false,false,false] rfl rfl (any_of HT_.out (by kernel_rfl)) (fun _ _ _ h=>h) (Or.inl ⟨by rfl,?_⟩) ?_ ?_
                  rotate_left
                  ·intro w'
                   go_simp
                   with_reducible rfl
                  rotate_left
                  ·simp only [Act.put,sTA,sCZ,sCS,i64_w,i32_w]
                   rfl
                  refine pure_ (i:=1) (N:=some 59) (v:=?_) (a':=?_) #[true,true,false,false,false,false,false,false,false,false,false,false,false,false,false,false,false,false] rfl rfl (any_of HT_.out (by kernel_rfl)) (fun _ _ _ h=>h) (Or.inl ⟨by rfl,?_⟩) ?_ ?_
                  rotate_left
                  ·intro w'
                   go_simp
                   with_reducible rfl
                  rotate_left
                  ·simp only [Act.put,sTA,sCZ,sCS,i64_w,i32_w]
                   rfl
                  refine pure_ (i:=2) (N:=some 60) (v:=?_) (a':=?_) #[true,true,true,false,false,false,false,false,false,false,false,false,false,false,false,false,false,false] rfl rfl (any_of HT_.out (by kernel_rfl)) (fun _ _ _ h=>h) (Or.inl ⟨by rfl,?_⟩) ?_ ?_
                  rotate_left
                  ·intro w'
                   go_simp
                   with_reducible rfl
                  rotate_left
                  ·simp only [Act.put,sTA,sCZ,sCS,i64_w,i32_w]
                   rfl
                  refine pure_ (i:=3) (N:=some 61) (v:=?_) (a':=?_) #[true,true,true,true,false,false,false,false,false,false,false,false,false,false,false,false,false,false] rfl rfl (any_of HT_.out (by kernel_rfl)) (fun _ _ _ h=>h) (Or.inl ⟨by rfl,?_⟩) ?_ ?_
                  rotate_left
                  ·intro w'
                   go_simp
                   with_reducible rfl
                  rotate_left
                  ·simp only [Act.put,sTA,sCZ,sCS,i64_w,i32_w]
                   rfl
                  refine pure_ (i:=5) (N:=some 63) (v:=?_) (a':=?_) #[true,true,true,true,false,true,false,false,false,false,false,false,false,false,false,false,false,false] rfl rfl (any_of HT_.out (by kernel_rfl)) (fun _ _ _ h=>h) (Or.inl ⟨by rfl,?_⟩) ?_ ?_
                  rotate_left
                  ·intro w'
                   go_simp
                   with_reducible rfl
                  rotate_left
                  ·simp only [Act.put,sTA,sCZ,sCS,i64_w,i32_w]
                   rfl
                  refine take_ (i:=4) (N:=some 62) (v:=?_) (a':=?_) #[true,true,true,true,true,true,false,false,false,false,false,false,false,false,false,false,false,false] rfl rfl (take_ofW HT_.out HW_.out (by kernel_rfl)) (fun _ _ _ h=>h) (Or.inl ⟨by rfl,?_⟩) hHeld ?_ ?_
                  rotate_left
                  ·rintro w' ⟨s0,s1,s2,s3,s4,s5,s6,s7⟩
                   go_simp
                   with_reducible rfl
                  rotate_left
                  ·simp only [Act.put,sTA,sCZ,sCS,i64_w,i32_w]
                   rfl
                  refine take_ (i:=6) (N:=some 64) (v:=?_) (a':=?_) #[true,true,true,true,true,true,true,false,false,false,false,false,false,false,false,false,false,false] rfl rfl (take_ofW HT_.out HW_.out (by kernel_rfl)) (fun _ _ _ h=>h) (Or.inl ⟨by rfl,?_⟩) hHeld ?_ ?_
                  rotate_left
                  ·rintro w' ⟨s0,s1,s2,s3,s4,s5,s6,s7⟩
                   go_simp
                   with_reducible rfl
                  rotate_left
                  ·simp only [Act.put,sTA,sCZ,sCS,i64_w,i32_w]
                   rfl
                  refine pure_ (i:=7) (N:=some 65) (v:=?_) (a':=?_) #[true,true,true,true,true,true,true,true,false,false,false,false,false,false,false,false,false,false] rfl rfl (any_of HT_.out (by kernel_rfl)) (fun _ _ _ h=>h) (Or.inl ⟨by rfl,?_⟩) ?_ ?_
                  rotate_left
                  ·intro w'
                   go_simp
                   with_reducible rfl
                  rotate_left
                  ·simp only [Act.put,sTA,sCZ,sCS,i64_w,i32_w]
                   rfl
                  refine pure_ (i:=8) (N:=some 66) (v:=?_) (a':=?_) #[true,true,true,true,true,true,true,true,true,false,false,false,false,false,false,false,false,false] rfl rfl (any_of HT_.out (by kernel_rfl)) (fun _ _ _ h=>h) (Or.inl ⟨by rfl,?_⟩) ?_ ?_
                  rotate_left
                  ·intro w'
                   go_simp
                   with_reducible rfl
                  rotate_left
                  ·simp only [Act.put,sTA,sCZ,sCS,i64_w,i32_w]
                   rfl
                  refine pure_ (i:=9) (N:=some 67) (v:=undef) (a':=?_) #[true,true,true,true,true,true,true,true,true,true,false,false,false,false,false,false,false,false] rfl rfl (any_of HT_.out (by kernel_rfl)) (fun _ _ _ h=>h) (Or.inr ⟨by rfl,rfl⟩) ?_ ?_
                  rotate_left
                  ·simp only [Act.put,sTA,sCZ,sCS,i64_w,i32_w]
                   rfl
                  refine pure_ (i:=10) (N:=some 68) (v:=undef) (a':=?_) #[true,true,true,true,true,true,true,true,true,true,true,false,false,false,false,false,false,false] rfl rfl (any_of HT_.out (by kernel_rfl)) (fun _ _ _ h=>h) (Or.inr ⟨by rfl,rfl⟩) ?_ ?_
                  rotate_left
                  ·simp only [Act.put,sTA,sCZ,sCS,i64_w,i32_w]
                   rfl
                  refine pure_ (i:=11) (N:=some 69) (v:=undef) (a':=?_) #[true,true,true,true,true,true,true,true,true,true,true,true,false,false,false,false,false,false] rfl rfl (any_of HT_.out (by kernel_rfl)) (fun _ _ _ h=>h) (Or.inr ⟨by rfl,rfl⟩) ?_ ?_
                  rotate_left
                  ·simp only [Act.put,sTA,sCZ,sCS,i64_w,i32_w]
                   rfl
                  refine pure_ (i:=12) (N:=some 70) (v:=undef) (a':=?_) #[true,true,true,true,true,true,true,true,true,true,true,true,true,false,false,false,false,false] rfl rfl (any_of HT_.out (by kernel_rfl)) (fun _ _ _ h=>h) (Or.inr ⟨by rfl,rfl⟩) ?_ ?_
                  rotate_left
                  ·simp only [Act.put,sTA,sCZ,sCS,i64_w,i32_w]
                   rfl
                  refine pure_ (i:=13) (N:=some 71) (v:=undef) (a':=?_) #[true,true,true,true,true,true,true,true,true,true,true,true,true,true,false,false,false,false] rfl rfl (any_of HT_.out (by kernel_rfl)) (fun _ _ _ h=>h) (Or.inr ⟨by rfl,rfl⟩) ?_ ?_
                  rotate_left
                  ·simp only [Act.put,sTA,sCZ,sCS,i64_w,i32_w]
                   rfl
                  refine pure_ (i:=14) (N:=some 72) (v:=undef) (a':=?_) #[true,true,true,true,true,true,true,true,true,true,true,true,true,true,true,false,false,false] rfl rfl (any_of HT_.out (by kernel_rfl)) (fun _ _ _ h=>h) (Or.inr ⟨by rfl,rfl⟩) ?_ ?_
                  rotate_left
                  ·simp only [Act.put,sTA,sCZ,sCS,i64_w,i32_w]
                   rfl
                  refine pure_ (i:=15) (N:=some 73) (v:=undef) (a':=?_) #[true,true,true,true,true,true,true,true,true,true,true,true,true,true,true,true,false,false] rfl rfl (any_of HT_.out (by kernel_rfl)) (fun _ _ _ h=>h) (Or.inr ⟨by rfl,rfl⟩) ?_ ?_
                  rotate_left
                  ·simp only [Act.put,sTA,sCZ,sCS,i64_w,i32_w]
                   rfl
                  refine pure_ (i:=16) (N:=some 74) (v:=undef) (a':=?_) #[true,true,true,true,true,true,true,true,true,true,true,true,true,true,true,true,true,false] rfl rfl (any_of HT_.out (by kernel_rfl)) (fun _ _ _ h=>h) (Or.inr ⟨by rfl,rfl⟩) ?_ ?_
                  rotate_left
                  ·simp only [Act.put,sTA,sCZ,sCS,i64_w,i32_w]
                   rfl
                  refine pure_ (i:=17) (N:=some 75) (v:=?_) (a':=?_) #[true,true,true,true,true,true,true,true,true,true,true,true,true,true,true,true,true,true] rfl rfl (any_of HT_.out (by kernel_rfl)) (fun _ _ _ h=>h) (Or.inl ⟨by rfl,?_⟩) ?_ ?_
                  rotate_left
                  ·intro w'
                   go_simp
                   with_reducible rfl
                  rotate_left
                  ·simp only [Act.put,sTA,sCZ,sCS,i64_w,i32_w]
                   rfl
                  refine done_ (done_of HT_.out (by kernel_rfl)) ?_
                  try go_wp2
                  go_ret
                  exact ⟨by first|rfl|(simp [errW_none,errW_some] <;> rfl)|(simp only [← hji53];first|rfl|(simp [errW_none,errW_some] <;> rfl))|(simp [*,errW_none,errW_some] <;> rfl),by repeat (first|(with_reducible first|exact HB.out|apply bAl|apply bDN|apply bD1|refine bSe ?_ GE327.out|refine bSe ?_ GE335.out|refine bSe ?_ GE347.out)|exact HB.out)⟩
                ·rw [if_neg c57] at H
                 exact absurd H (by simp)
               ·rw [if_neg c56] at H
                exact absurd H (by simp)
              ·rw [if_neg c55] at H
               exact absurd H (by simp)
             ·rw [if_neg c54] at H
              exact absurd H (by simp)
           ·rw [if_neg c51] at H
            have c51b0 : decide (x44_2 < (t343.length : Int))=false:=decide_eq_false c51
            clear c51
            have H':=amk H
            clear H
            go_wp2
            go_loopg [79] k2 (fun kq v79 w'=>∃ (x79_3 : Int),v79=.int .i64 x79_3∧Aside0 (versallaw17_FlatRounds.l2 kq t343 t336 (t336.length : Int) x25_1 (rd_L6 t336 x25_1) ((rd_L6 t336 x25_1).length : Int) x79_3 t329 t330 t331 t332 t333 t334=some r)∧Aside0 (kq≤k2)∧Aside0 (Kd.R k34 34 w' w.heap.size (fun _=>True) (.slice Ao50 t343.length co50) t343)∧Aside0 (Kd.N (Kd.slice 36 k36) 30 w' w.heap.size (fun k_=>some k_ ≠ ((.slice Ao50 t343.length co50) : Value).ownBlock∧k_ ≠ gb327∧k_ ≠ gb335) (.slice (some ad339) t336.length co15) t336)∧Aside0 (Kd.V k36 36 w' w.heap.size (fun k_=>some k_ ≠ ((.slice Ao50 t343.length co50) : Value).ownBlock∧some k_ ≠ ((.slice (some ad339) t336.length co15) : Value).ownBlock∧k_ ≠ gb327∧k_ ≠ gb335) (.slice A339_0 (rd_L6 t336 x25_1).length c339_0) (rd_L6 t336 x25_1))∧Aside0 (w'.heap[gb327]?=some (.cells #[.int .i64 a1_0,.int .i64 a1_1,.int .i64 a1_2,.int .i64 a1_3,.int .i64 a1_4,.int .i64 a1_5] 23 (0,0)))∧Aside0 (w'.heap[gb335]?=some (.cells #[.int .i64 t329,.int .i64 t330,.int .i64 t331,.int .i64 t332,.int .i64 t333,.int .i64 t334] 26 (0,0)))∧Aside0 (Below w.heap.size w w'))
            case atStart=>exact ⟨(0),(by first|rfl|(simp;done)|(simp [*];done)),H',⟨Nat.le_refl _⟩,⟨by (with_reducible repeat (first|apply Kd.R_alloc|apply Kd.R_drewN|apply Kd.R_drew));exact HO_8.out⟩,⟨by (with_reducible repeat (first|apply Kd.N_alloc|apply Kd.N_drewN|apply Kd.N_drew));exact HO_23.out⟩,⟨by (with_reducible repeat (first|apply Kd.V_alloc|apply Kd.V_drewN|apply Kd.V_drew));exact HO_7.out⟩,⟨by (with_reducible repeat first|apply kN|apply kD|apply kA);exact BK327.out⟩,⟨by (with_reducible repeat first|apply kN|apply kD|apply kA);exact BK335.out⟩,⟨by repeat (first|(with_reducible first|exact HB.out|apply bAl|apply bDN|apply bD1|refine bSe ?_ GE327.out|refine bSe ?_ GE335.out)|exact HB.out)⟩⟩
            case round =>
             clear H'
             try clear p2
             try clear c3
             try clear p3
             try clear q3
             try clear hx3
             try clear c5
             try clear c6
             try clear p6
             try clear c7
             try clear c33
             try clear p34
             try clear q34
             try clear hx34
             try clear c51
             try clear c51b0
             try clear c54
             try clear c55
             try clear c56
             try clear c57
             try clear c58
             try clear c58b0
             try clear c58b1
             try clear c59
             try clear c59b0
             try clear c59b1
             try clear p64
             try clear c67
             try clear c68
             try clear c73
             try clear c74
             try clear hcz69_0
             try clear hcz69_1
             try clear hcz69_2
             try clear hcz69_3
             try clear hcz75_0
             try clear hcz75_1
             try clear hcz75_2
             try clear hcz75_3
             try clear hfz69_0
             try clear hfz69_1
             try clear hfz69_2
             try clear hfz69_3
             try clear hfz75_0
             try clear hfz75_1
             try clear hfz75_2
             try clear hfz75_3
             try clear hx346_0
             try clear hx346_1
             try clear hx346_2
             try clear hx346_3
             try clear hx348_0
             try clear hx348_1
             try clear hx348_2
             try clear hx348_3
             try clear hx349_0
             try clear hx349_1
             try clear hx349_2
             try clear hx349_3
             try clear p346
             try clear p348
             try clear p349
             try clear q346
             try clear q348
             try clear q349
             obtain ⟨x79_3,rfl,HA,HK3,HO_8,HO_23,HO_77,BK327,BK335,HB⟩:=hrel
             cases gk with
             | zero=>exact absurd HA.out (by simp [versallaw17_FlatRounds.l2])
             | succ k3 =>
              have H:=HA.out
              clear HA
              simp only [versallaw17_FlatRounds.l2] at H
              by_cases c78 : x79_3 < ((rd_L6 t336 x25_1).length : Int)
              ·rw [if_pos c78] at H
               have c78b0 : decide (x79_3 < ((rd_L6 t336 x25_1).length : Int))=true:=decide_eq_true c78
               clear c78
               by_cases c79 : 0≤x79_3
               ·rw [if_pos c79] at H
                have c79b0 : decide (0≤x79_3)=true:=decide_eq_true c79
                clear c79
                by_cases c80 : x79_3 < ((rd_L6 t336 x25_1).length : Int)
                ·rw [if_pos c80] at H
                 have c80b0 : decide (x79_3 < ((rd_L6 t336 x25_1).length : Int))=true:=decide_eq_true c80
                 clear c80
                 obtain ⟨bq81,hbq81⟩ : ∃ b_ : Bool,b_=((rd_T36 (rd_L6 t336 x25_1) x79_3).f2):=⟨_,rfl⟩
                 replace H : (if (bq81=true) then ((versalref2_Whole.f ((rd_T36 (rd_L6 t336 x25_1) x79_3).f0)).bind fun t352=>((versalref2_Whole.f ((rd_T36 (rd_L6 t336 x25_1) x79_3).f1)).bind fun t353=>((versalref2_Apply.f t329 t330 t331 t332 t333 t334 t352 t353).bind fun bt354=>(versallaw17_FlatRounds.l3 k3 t343 bt354.1 bt354.2 false t336 (t336.length : Int) x25_1 (rd_L6 t336 x25_1) ((rd_L6 t336 x25_1).length : Int) x79_3 t343 (t343.length : Int) 0 t329 t330 t331 t332 t333 t334)))) else (versallaw17_FlatRounds.l2 k3 t343 t336 (t336.length : Int) x25_1 (rd_L6 t336 x25_1) ((rd_L6 t336 x25_1).length : Int) (wrap64 (x79_3+1)) t329 t330 t331 t332 t333 t334))=some r:=by rw [← hbq81] at H;exact H
                 have Nbq81:=amk hbq81
                 clear hbq81
                 by_cases c82 : (bq81=true)
                 ·subst c82
                  have H1 : ((versalref2_Whole.f ((rd_T36 (rd_L6 t336 x25_1) x79_3).f0)).bind fun t352=>((versalref2_Whole.f ((rd_T36 (rd_L6 t336 x25_1) x79_3).f1)).bind fun t353=>((versalref2_Apply.f t329 t330 t331 t332 t333 t334 t352 t353).bind fun bt354=>(versallaw17_FlatRounds.l3 k3 t343 bt354.1 bt354.2 false t336 (t336.length : Int) x25_1 (rd_L6 t336 x25_1) ((rd_L6 t336 x25_1).length : Int) x79_3 t343 (t343.length : Int) 0 t329 t330 t331 t332 t333 t334))))=some r:=by rw [if_pos rfl] at H;exact H
                  clear H
                  have H:=H1
                  clear H1
                  replace H:=Option.bind_eq_some_iff.mp H
                  obtain ⟨t352,A830,H⟩:=H
                  replace H : ((versalref2_Whole.f ((rd_T36 (rd_L6 t336 x25_1) x79_3).f1)).bind fun t353=>((versalref2_Apply.f t329 t330 t331 t332 t333 t334 t352 t353).bind fun bt354=>(versallaw17_FlatRounds.l3 k3 t343 bt354.1 bt354.2 false t336 (t336.length : Int) x25_1 (rd_L6 t336 x25_1) ((rd_L6 t336 x25_1).length : Int) x79_3 t343 (t343.length : Int) 0 t329 t330 t331 t332 t333 t334)))=some r:=H
                  have A83:=amk A830
                  clear A830
                  replace H:=Option.bind_eq_some_iff.mp H
                  obtain ⟨t353,A840,H⟩:=H
                  replace H : ((versalref2_Apply.f t329 t330 t331 t332 t333 t334 t352 t353).bind fun bt354=>(versallaw17_FlatRounds.l3 k3 t343 bt354.1 bt354.2 false t336 (t336.length : Int) x25_1 (rd_L6 t336 x25_1) ((rd_L6 t336 x25_1).length : Int) x79_3 t343 (t343.length : Int) 0 t329 t330 t331 t332 t333 t334))=some r:=H
                  have A84:=amk A840
                  clear A840
                  replace H:=Option.bind_eq_some_iff.mp H
                  obtain ⟨⟨t354,t355⟩,A850,H⟩:=H
                  replace H : (versallaw17_FlatRounds.l3 k3 t343 t354 t355 false t336 (t336.length : Int) x25_1 (rd_L6 t336 x25_1) ((rd_L6 t336 x25_1).length : Int) x79_3 t343 (t343.length : Int) 0 t329 t330 t331 t332 t333 t334)=some r:=H
                  have A85:=amk A850
                  clear A850
                  have H':=amk H
                  clear H
                  have p350 : 0≤(x79_3 : Int):=of_decide_eq_true (by first|(with_reducible assumption)|assumption)
                  have q350 : x79_3 < ((rd_L6 t336 x25_1).length : Int):=of_decide_eq_true (by first|(with_reducible assumption)|assumption)
                  obtain ⟨ad350,e350,hx350_0,hx350_1,hx350_2⟩:=at_T36 (Kd.V_reads' HO_77.out).2.2 x79_3 p350 q350
                  (try rw [← Nbq81.out] at hx350_2)
                  cases e350
                  replace p350:=eq_true p350
                  replace q350:=eq_true q350
                  try go_wp2_with (first|((with_reducible refine gate_dst (N:=12) rfl ?_);refine box_event ?hg (N:=12) ?hd (cs:=#[.int .i64 0,.int .i64 0,.bool false]) (t:=36) ?hr ?_;(case hd=>rfl);(case hg=>rfl);(case hr=>first|(go_simp;done)|(go_simp;rfl));intro gb351 hg w86 hbox hb;have n0_:=amk (Kd.R_below (by (with_reducible repeat (first|apply Kd.R_alloc|apply Kd.R_drewN|apply Kd.R_drew));exact HO_8.out) hb);have n1_:=amk (Kd.N_below (Kd.N_elderB (by (with_reducible repeat (first|apply Kd.N_alloc|apply Kd.N_drewN|apply Kd.N_drew));exact HO_23.out) gb351 (Nat.le_of_eq hg.symm)) hb);have n2_:=amk (Kd.V_below (Kd.V_elderB (by (with_reducible repeat (first|apply Kd.V_alloc|apply Kd.V_drewN|apply Kd.V_drew));exact HO_77.out) gb351 (Nat.le_of_eq hg.symm)) hb);have n3_:=amk (blk_below (g:=gb327) (o:=.cells #[.int .i64 a1_0,.int .i64 a1_1,.int .i64 a1_2,.int .i64 a1_3,.int .i64 a1_4,.int .i64 a1_5] 23 (0,0)) (by (with_reducible repeat first|apply kN|apply kD|apply kA);exact BK327.out) hb);have n4_:=amk (blk_below (g:=gb335) (o:=.cells #[.int .i64 t329,.int .i64 t330,.int .i64 t331,.int .i64 t332,.int .i64 t333,.int .i64 t334] 26 (0,0)) (by (with_reducible repeat first|apply kN|apply kD|apply kA);exact BK335.out) hb);have n5_:=amk (below_step (by repeat (first|(with_reducible first|exact HB.out|apply bAl|apply bDN|apply bD1|refine bSe ?_ GE327.out|refine bSe ?_ GE335.out)|exact HB.out)) hb);have n6_:=amk (hbox);have n7_:=amk ((by rw [hg];exact (below_size (by repeat (first|(with_reducible first|exact HB.out|apply bAl|apply bDN|apply bD1|refine bSe ?_ GE327.out|refine bSe ?_ GE335.out)|exact HB.out))) : w.heap.size≤gb351));have n8_:=amk ((by rw [hg];exact (below_size (by repeat (first|(with_reducible first|exact HB.out|apply bAl|apply bDN|apply bD1|refine bSe ?_ GE327.out|refine bSe ?_ GE335.out)|exact HB.out))) : w.heap.size≤gb351));have n9_:=amk ((by rw [hg];exact Nat.ne_of_lt (blk_lt (g:=gb327) (o:=.cells #[.int .i64 a1_0,.int .i64 a1_1,.int .i64 a1_2,.int .i64 a1_3,.int .i64 a1_4,.int .i64 a1_5] 23 (0,0)) (by (with_reducible repeat first|apply kN|apply kD|apply kA);exact BK327.out)) : gb327 ≠ gb351));have n10_:=amk ((by rw [hg];exact Nat.ne_of_gt (blk_lt (g:=gb327) (o:=.cells #[.int .i64 a1_0,.int .i64 a1_1,.int .i64 a1_2,.int .i64 a1_3,.int .i64 a1_4,.int .i64 a1_5] 23 (0,0)) (by (with_reducible repeat first|apply kN|apply kD|apply kA);exact BK327.out)) : gb351 ≠ gb327));have n11_:=amk ((by rw [hg];exact Nat.ne_of_lt (blk_lt (g:=gb335) (o:=.cells #[.int .i64 t329,.int .i64 t330,.int .i64 t331,.int .i64 t332,.int .i64 t333,.int .i64 t334] 26 (0,0)) (by (with_reducible repeat first|apply kN|apply kD|apply kA);exact BK335.out)) : gb335 ≠ gb351));have n12_:=amk ((by rw [hg];exact Nat.ne_of_gt (blk_lt (g:=gb335) (o:=.cells #[.int .i64 t329,.int .i64 t330,.int .i64 t331,.int .i64 t332,.int .i64 t333,.int .i64 t334] 26 (0,0)) (by (with_reducible repeat first|apply kN|apply kD|apply kA);exact BK335.out)) : gb351 ≠ gb335));clear HO_8;clear HO_23;clear HO_77;clear BK327;clear BK335;clear HB;have HO_8:=n0_;have HO_23:=n1_;have HO_77:=n2_;have BK327:=n3_;have BK335:=n4_;have HB:=n5_;have BK351:=n6_;have GW351:=n7_;have GE351:=n8_;have NB327_351:=n9_;have NB351_327:=n10_;have NB335_351:=n11_;have NB351_335:=n12_;clear n0_ n1_ n2_ n3_ n4_ n5_ n6_ n7_ n8_ n9_ n10_ n11_ n12_;clear hb hbox hg;have hnb87:=NB351_327.out;have hnc87:=NB327_351.out;have hnb88:=NB351_335.out;have hnc88:=NB335_351.out;have hcz89_0 : w86.cell? ⟨gb351,0,none⟩=some (.int .i64 0):=(blk_cell BK351.out 0).trans rfl;have hcz89_1 : w86.cell? ⟨gb351,1,none⟩=some (.int .i64 0):=(blk_cell BK351.out 1).trans rfl;have hcz89_2 : w86.cell? ⟨gb351,2,none⟩=some (.bool false):=(blk_cell BK351.out 2).trans rfl;have hfz89_0:=blk_frozen BK351.out 0;have hfz89_1:=blk_frozen BK351.out 1;have hfz89_2:=blk_frozen BK351.out 2))
                  have n0_ : Aside0 (Kd.R k34 34 (((w86.setCell ⟨gb351,0,none⟩ (.int .i64 ((rd_T36 (rd_L6 t336 x25_1) x79_3).f0))).setCell ⟨gb351,1,none⟩ (.int .i64 ((rd_T36 (rd_L6 t336 x25_1) x79_3).f1))).setCell ⟨gb351,2,none⟩ (.bool true)) w.heap.size (fun _=>True) (.slice Ao50 t343.length co50) t343):=⟨by (with_reducible repeat (first|apply Kd.R_alloc|apply Kd.R_drewN|apply Kd.R_drew));exact Kd.R_mono (Kd.R_far (p:=⟨gb351,2,none⟩) (Kd.R_far (p:=⟨gb351,1,none⟩) (Kd.R_far (p:=⟨gb351,0,none⟩) (Kd.R_types HO_8.out BK351.out (by decide)) (fun _ hk=>hk.2) (.int .i64 ((rd_T36 (rd_L6 t336 x25_1) x79_3).f0))) (fun _ hk=>hk.2) (.int .i64 ((rd_T36 (rd_L6 t336 x25_1) x79_3).f1))) (fun _ hk=>hk.2) (.bool true)) (fun _ hk=>trivial)⟩
                  have n1_ : Aside0 (Kd.N (Kd.slice 36 k36) 30 (((w86.setCell ⟨gb351,0,none⟩ (.int .i64 ((rd_T36 (rd_L6 t336 x25_1) x79_3).f0))).setCell ⟨gb351,1,none⟩ (.int .i64 ((rd_T36 (rd_L6 t336 x25_1) x79_3).f1))).setCell ⟨gb351,2,none⟩ (.bool true)) w.heap.size (fun k_=>some k_ ≠ (.slice Ao50 t343.length co50 : Value).ownBlock∧k_ ≠ gb327∧k_ ≠ gb335∧k_ ≠ gb351) (.slice (some ad339) t336.length co15) t336):=⟨by (with_reducible repeat (first|apply Kd.N_alloc|apply Kd.N_drewN|apply Kd.N_drew));exact Kd.N_mono (Kd.N_far (p:=⟨gb351,2,none⟩) (Kd.N_far (p:=⟨gb351,1,none⟩) (Kd.N_far (p:=⟨gb351,0,none⟩) (Kd.N_mono HO_23.out (fun k_ hk=>(⟨hk,hk.2⟩ : _∧k_ ≠ gb351))) (fun _ hk=>hk.2) (.int .i64 ((rd_T36 (rd_L6 t336 x25_1) x79_3).f0))) (fun _ hk=>hk.2) (.int .i64 ((rd_T36 (rd_L6 t336 x25_1) x79_3).f1))) (fun _ hk=>hk.2) (.bool true)) (fun _ hk=>⟨hk.1.1.1,⟨hk.1.1.2.1,⟨hk.1.1.2.2,hk.1.2⟩⟩⟩)⟩
                  have n2_ : Aside0 (Kd.V k36 36 (((w86.setCell ⟨gb351,0,none⟩ (.int .i64 ((rd_T36 (rd_L6 t336 x25_1) x79_3).f0))).setCell ⟨gb351,1,none⟩ (.int .i64 ((rd_T36 (rd_L6 t336 x25_1) x79_3).f1))).setCell ⟨gb351,2,none⟩ (.bool true)) w.heap.size (fun k_=>some k_ ≠ (.slice Ao50 t343.length co50 : Value).ownBlock∧some k_ ≠ (.slice (some ad339) t336.length co15 : Value).ownBlock∧k_ ≠ gb327∧k_ ≠ gb335∧k_ ≠ gb351) (.slice (some ad350) (rd_L6 t336 x25_1).length c339_0) (rd_L6 t336 x25_1)):=⟨by (with_reducible repeat (first|apply Kd.V_alloc|apply Kd.V_drewN|apply Kd.V_drew));exact Kd.V_mono (Kd.V_far (p:=⟨gb351,2,none⟩) (Kd.V_far (p:=⟨gb351,1,none⟩) (Kd.V_far (p:=⟨gb351,0,none⟩) (Kd.V_mono HO_77.out (fun k_ hk=>(⟨hk,hk.2⟩ : _∧k_ ≠ gb351))) (fun _ hk=>hk.2) (.int .i64 ((rd_T36 (rd_L6 t336 x25_1) x79_3).f0))) (fun _ hk=>hk.2) (.int .i64 ((rd_T36 (rd_L6 t336 x25_1) x79_3).f1))) (fun _ hk=>hk.2) (.bool true)) (fun _ hk=>⟨hk.1.1.1,⟨hk.1.1.2.1,⟨hk.1.1.2.2.1,⟨hk.1.1.2.2.2,hk.1.2⟩⟩⟩⟩)⟩
                  have n3_ : Aside0 ((((w86.setCell ⟨gb351,0,none⟩ (.int .i64 ((rd_T36 (rd_L6 t336 x25_1) x79_3).f0))).setCell ⟨gb351,1,none⟩ (.int .i64 ((rd_T36 (rd_L6 t336 x25_1) x79_3).f1))).setCell ⟨gb351,2,none⟩ (.bool true)).heap[gb327]?=some (.cells #[.int .i64 a1_0,.int .i64 a1_1,.int .i64 a1_2,.int .i64 a1_3,.int .i64 a1_4,.int .i64 a1_5] 23 (0,0))):=⟨by (with_reducible repeat first|apply kN|apply kD|apply kA);refine blk_far ?_ NB327_351.out _;(with_reducible repeat first|apply kN|apply kD|apply kA);refine blk_far ?_ NB327_351.out _;(with_reducible repeat first|apply kN|apply kD|apply kA);refine blk_far ?_ NB327_351.out _;(with_reducible repeat first|apply kN|apply kD|apply kA);exact BK327.out⟩
                  have n4_ : Aside0 ((((w86.setCell ⟨gb351,0,none⟩ (.int .i64 ((rd_T36 (rd_L6 t336 x25_1) x79_3).f0))).setCell ⟨gb351,1,none⟩ (.int .i64 ((rd_T36 (rd_L6 t336 x25_1) x79_3).f1))).setCell ⟨gb351,2,none⟩ (.bool true)).heap[gb335]?=some (.cells #[.int .i64 t329,.int .i64 t330,.int .i64 t331,.int .i64 t332,.int .i64 t333,.int .i64 t334] 26 (0,0))):=⟨by (with_reducible repeat first|apply kN|apply kD|apply kA);refine blk_far ?_ NB335_351.out _;(with_reducible repeat first|apply kN|apply kD|apply kA);refine blk_far ?_ NB335_351.out _;(with_reducible repeat first|apply kN|apply kD|apply kA);refine blk_far ?_ NB335_351.out _;(with_reducible repeat first|apply kN|apply kD|apply kA);exact BK335.out⟩
                  have n5_ : Aside0 ((((w86.setCell ⟨gb351,0,none⟩ (.int .i64 ((rd_T36 (rd_L6 t336 x25_1) x79_3).f0))).setCell ⟨gb351,1,none⟩ (.int .i64 ((rd_T36 (rd_L6 t336 x25_1) x79_3).f1))).setCell ⟨gb351,2,none⟩ (.bool true)).heap[gb351]?=some (.cells #[.int .i64 ((rd_T36 (rd_L6 t336 x25_1) x79_3).f0),.int .i64 ((rd_T36 (rd_L6 t336 x25_1) x79_3).f1),.bool true] 36 (0,0))):=⟨by (with_reducible repeat first|apply kN|apply kD|apply kA);refine blk_put (cs:=#[.int .i64 ((rd_T36 (rd_L6 t336 x25_1) x79_3).f0),.int .i64 ((rd_T36 (rd_L6 t336 x25_1) x79_3).f1),.bool false]) ?_ 2 _ rfl;(with_reducible repeat first|apply kN|apply kD|apply kA);refine blk_put (cs:=#[.int .i64 ((rd_T36 (rd_L6 t336 x25_1) x79_3).f0),.int .i64 0,.bool false]) ?_ 1 _ rfl;(with_reducible repeat first|apply kN|apply kD|apply kA);refine blk_put (cs:=#[.int .i64 0,.int .i64 0,.bool false]) ?_ 0 _ rfl;(with_reducible repeat first|apply kN|apply kD|apply kA);exact BK351.out⟩
                  have n6_ : Aside0 (Below w.heap.size w (((w86.setCell ⟨gb351,0,none⟩ (.int .i64 ((rd_T36 (rd_L6 t336 x25_1) x79_3).f0))).setCell ⟨gb351,1,none⟩ (.int .i64 ((rd_T36 (rd_L6 t336 x25_1) x79_3).f1))).setCell ⟨gb351,2,none⟩ (.bool true))):=⟨by repeat (first|(with_reducible first|exact HB.out|apply bAl|apply bDN|apply bD1|refine bSe ?_ GE327.out|refine bSe ?_ GE335.out|refine bSe ?_ GE351.out)|exact HB.out)⟩
                  (try clear HO_8)
                  (try clear HO_23)
                  (try clear HO_77)
                  (try clear BK327)
                  (try clear BK335)
                  (try clear BK351)
                  (try clear HB)
                  generalize (((w86.setCell ⟨gb351,0,none⟩ (.int .i64 ((rd_T36 (rd_L6 t336 x25_1) x79_3).f0))).setCell ⟨gb351,1,none⟩ (.int .i64 ((rd_T36 (rd_L6 t336 x25_1) x79_3).f1))).setCell ⟨gb351,2,none⟩ (.bool true))=w90 at n0_ n1_ n2_ n3_ n4_ n5_ n6_ ⊢
                  have HO_8:=n0_
                  have HO_23:=n1_
                  have HO_77:=n2_
                  have BK327:=n3_
                  have BK335:=n4_
                  have BK351:=n5_
                  have HB:=n6_
                  clear n0_ n1_ n2_ n3_ n4_ n5_ n6_
                  have n0_:=amk (Kd.R_drew HO_8.out)
                  have n1_:=amk (Kd.N_drew HO_23.out)
                  have n2_:=amk (Kd.V_drew HO_77.out)
                  have n3_:=amk (blk_drew BK327.out)
                  have n4_:=amk (blk_drew BK335.out)
                  have n5_:=amk (blk_drew BK351.out)
                  have n6_:=amk (bD1 HB.out)
                  clear HO_8
                  clear HO_23
                  clear HO_77
                  clear BK327
                  clear BK335
                  clear BK351
                  clear HB
                  have HO_8:=n0_
                  have HO_23:=n1_
                  have HO_77:=n2_
                  have BK327:=n3_
                  have BK335:=n4_
                  have BK351:=n5_
                  have HB:=n6_
                  clear n0_ n1_ n2_ n3_ n4_ n5_ n6_
                  refine start_ (n:=13) (S:=fun w'=>w'.cell? ⟨gb335,0,none⟩=some (.int .i64 t329)∧w'.cell? ⟨gb335,1,none⟩=some (.int .i64 t330)∧w'.cell? ⟨gb335,2,none⟩=some (.int .i64 t331)∧w'.cell? ⟨gb335,3,none⟩=some (.int .i64 t332)∧w'.cell? ⟨gb335,4,none⟩=some (.int .i64 t333)∧w'.cell? ⟨gb335,5,none⟩=some (.int .i64 t334)∧w'.cell? ⟨gb351,0,none⟩=some (.int .i64 ((rd_T36 (rd_L6 t336 x25_1) x79_3).f0))∧w'.cell? ⟨gb351,1,none⟩=some (.int .i64 ((rd_T36 (rd_L6 t336 x25_1) x79_3).f1))∧w'.cell? ⟨gb351,2,none⟩=some (.bool true)) (ds:=[]) #[false,false,false,false,false,false,false,false,false,false,false,false,false] (by kernel_rfl) rfl rfl ⟨(blk_cell BK335.out 0).trans rfl,(blk_cell BK335.out 1).trans rfl,(blk_cell BK335.out 2).trans rfl,(blk_cell BK335.out 3).trans rfl,(blk_cell BK335.out 4).trans rfl,(blk_cell BK335.out 5).trans rfl,(blk_cell BK351.out 0).trans rfl,(blk_cell BK351.out 1).trans rfl,(blk_cell BK351.out 2).trans rfl⟩ (fun hHeld=>?_);refine with_tabW versallaw17_FlatRounds.tab24 versallaw17_FlatRounds.bits24 (fun HT_ HW_=>?_)
                  generalize w90.drew=w91 at HO_8 HO_23 HO_77 BK327 BK335 BK351 HB hHeld ⊢
                  refine pure_ (i:=1) (N:=some 88) (v:=?_) (a':=?_) #[false,true,false,false,false,false,false,false,false,false,false,false,false] rfl rfl (any_of HT_.out (by kernel_rfl)) (fun _ _ _ h=>h) (Or.inl ⟨by rfl,?_⟩) ?_ ?_
                  rotate_left
                  ·intro w'
                   go_simp
                   with_reducible rfl
                  rotate_left
                  ·simp only [Act.put,sTA,sCZ,sCS,i64_w,i32_w]
                   rfl
                  refine pure_ (i:=4) (N:=some 91) (v:=?_) (a':=?_) #[false,true,false,false,true,false,false,false,false,false,false,false,false] rfl rfl (any_of HT_.out (by kernel_rfl)) (fun _ _ _ h=>h) (Or.inl ⟨by rfl,?_⟩) ?_ ?_
                  rotate_left
                  ·intro w'
                   go_simp
                   with_reducible rfl
                  rotate_left
                  ·simp only [Act.put,sTA,sCZ,sCS,i64_w,i32_w]
                   rfl
                  refine take_ (i:=0) (N:=some 87) (v:=?_) (a':=?_) #[true,true,false,false,true,false,false,false,false,false,false,false,false] rfl rfl (take_ofW HT_.out HW_.out (by kernel_rfl)) (fun _ _ _ h=>h) (Or.inl ⟨by rfl,?_⟩) hHeld ?_ ?_
                  rotate_left
                  ·rintro w' ⟨s0,s1,s2,s3,s4,s5,s6,s7,s8⟩
                   go_simp
                   with_reducible rfl
                  rotate_left
                  ·simp only [Act.put,sTA,sCZ,sCS,i64_w,i32_w]
                   rfl
                  refine take_ (i:=2) (N:=some 89) (v:=?_) (a':=?_) #[true,true,true,false,true,false,false,false,false,false,false,false,false] rfl rfl (take_ofW HT_.out HW_.out (by kernel_rfl)) (fun _ _ _ h=>h) (Or.inl ⟨by rfl,?_⟩) hHeld ?_ ?_
                  rotate_left
                  ·rintro w' ⟨s0,s1,s2,s3,s4,s5,s6,s7,s8⟩
                   go_simp
                   with_reducible rfl
                  rotate_left
                  ·simp only [Act.put,sTA,sCZ,sCS,i64_w,i32_w]
                   rfl
                  refine take_ (i:=5) (N:=some 92) (v:=?_) (a':=?_) #[true,true,true,false,true,true,false,false,false,false,false,false,false] rfl rfl (take_ofW HT_.out HW_.out (by kernel_rfl)) (fun _ _ _ h=>h) (Or.inl ⟨by rfl,?_⟩) hHeld ?_ ?_
                  rotate_left
                  ·rintro w' ⟨s0,s1,s2,s3,s4,s5,s6,s7,s8⟩
                   go_simp
                   with_reducible rfl
                  rotate_left
                  ·simp only [Act.put,sTA,sCZ,sCS,i64_w,i32_w]
                   rfl
                  refine one_ (i:=3) (N:=some 90) #[true,true,true,true,true,true,false,false,false,false,false,false,false] rfl rfl (one_of HT_.out (by kernel_rfl)) (by decide) (fun K hK=>?_)
                  refine goes_ Try.func12 (by kernel_rfl) rfl #[.int .i64 ((rd_T36 (rd_L6 t336 x25_1) x79_3).f0)] (by rfl) rfl rfl (by (try simp only [List.map_toArray,List.map_cons,List.map_nil]);first|done|rfl|(simp only [List.length_drop,List.length_take];rfl)) ?_
                  with_reducible refine (versalref2_Whole.calls ((rd_T36 (rd_L6 t336 x25_1) x79_3).f0) t352 _ A83.out).mono ?_
                  rintro e w92 ⟨rfl,hb⟩
                  refine ⟨_,rfl,?_⟩
                  have n0_:=amk (Kd.R_below (by (with_reducible repeat (first|apply Kd.R_alloc|apply Kd.R_drewN|apply Kd.R_drew));exact HO_8.out) hb)
                  have n1_:=amk (Kd.N_below (by (with_reducible repeat (first|apply Kd.N_alloc|apply Kd.N_drewN|apply Kd.N_drew));exact HO_23.out) hb)
                  have n2_:=amk (Kd.V_below (by (with_reducible repeat (first|apply Kd.V_alloc|apply Kd.V_drewN|apply Kd.V_drew));exact HO_77.out) hb)
                  have n3_:=amk (blk_below (g:=gb327) (o:=.cells #[.int .i64 a1_0,.int .i64 a1_1,.int .i64 a1_2,.int .i64 a1_3,.int .i64 a1_4,.int .i64 a1_5] 23 (0,0)) (by (with_reducible repeat first|apply kN|apply kD|apply kA);exact BK327.out) hb)
                  have n4_:=amk (blk_below (g:=gb335) (o:=.cells #[.int .i64 t329,.int .i64 t330,.int .i64 t331,.int .i64 t332,.int .i64 t333,.int .i64 t334] 26 (0,0)) (by (with_reducible repeat first|apply kN|apply kD|apply kA);exact BK335.out) hb)
                  have n5_:=amk (blk_below (g:=gb351) (o:=.cells #[.int .i64 ((rd_T36 (rd_L6 t336 x25_1) x79_3).f0),.int .i64 ((rd_T36 (rd_L6 t336 x25_1) x79_3).f1),.bool true] 36 (0,0)) (by (with_reducible repeat first|apply kN|apply kD|apply kA);exact BK351.out) hb)
                  have n6_:=amk (below_step (by repeat (first|(with_reducible first|exact HB.out|apply bAl|apply bDN|apply bD1|refine bSe ?_ GE327.out|refine bSe ?_ GE335.out|refine bSe ?_ GE351.out)|exact HB.out)) hb)
                  clear HO_8
                  clear HO_23
                  clear HO_77
                  clear BK327
                  clear BK335
                  clear BK351
                  clear HB
                  have HO_8:=n0_
                  have HO_23:=n1_
                  have HO_77:=n2_
                  have BK327:=n3_
                  have BK335:=n4_
                  have BK351:=n5_
                  have HB:=n6_
                  clear n0_ n1_ n2_ n3_ n4_ n5_ n6_
                  (try clear hb)
                  (try clear hb2)
                  (try clear hk)
                  (try clear hi)
                  refine hK.out _ _ ⟨(blk_cell BK335.out 0).trans rfl,(blk_cell BK335.out 1).trans rfl,(blk_cell BK335.out 2).trans rfl,(blk_cell BK335.out 3).trans rfl,(blk_cell BK335.out 4).trans rfl,(blk_cell BK335.out 5).trans rfl,(blk_cell BK351.out 0).trans rfl,(blk_cell BK351.out 1).trans rfl,(blk_cell BK351.out 2).trans rfl⟩ (fun hHeld=>?_)
                  clear hK K
                  refine norm_ (a':=?_) ?_ ?_
                  rotate_left
                  ·show Act.put _ (some 90) _=_
                   simp only [Act.put,sTA,sCZ,sCS,i64_w,i32_w]
                   rfl
                  refine one_ (i:=6) (N:=some 93) #[true,true,true,true,true,true,true,false,false,false,false,false,false] rfl rfl (one_of HT_.out (by kernel_rfl)) (by decide) (fun K hK=>?_)
                  refine goes_ Try.func12 (by kernel_rfl) rfl #[.int .i64 ((rd_T36 (rd_L6 t336 x25_1) x79_3).f1)] (by rfl) rfl rfl (by (try simp only [List.map_toArray,List.map_cons,List.map_nil]);first|done|rfl|(simp only [List.length_drop,List.length_take];rfl)) ?_
                  with_reducible refine (versalref2_Whole.calls ((rd_T36 (rd_L6 t336 x25_1) x79_3).f1) t353 _ A84.out).mono ?_
                  rintro e w93 ⟨rfl,hb⟩
                  refine ⟨_,rfl,?_⟩
                  have n0_:=amk (Kd.R_below (by (with_reducible repeat (first|apply Kd.R_alloc|apply Kd.R_drewN|apply Kd.R_drew));exact HO_8.out) hb)
                  have n1_:=amk (Kd.N_below (by (with_reducible repeat (first|apply Kd.N_alloc|apply Kd.N_drewN|apply Kd.N_drew));exact HO_23.out) hb)
                  have n2_:=amk (Kd.V_below (by (with_reducible repeat (first|apply Kd.V_alloc|apply Kd.V_drewN|apply Kd.V_drew));exact HO_77.out) hb)
                  have n3_:=amk (blk_below (g:=gb327) (o:=.cells #[.int .i64 a1_0,.int .i64 a1_1,.int .i64 a1_2,.int .i64 a1_3,.int .i64 a1_4,.int .i64 a1_5] 23 (0,0)) (by (with_reducible repeat first|apply kN|apply kD|apply kA);exact BK327.out) hb)
                  have n4_:=amk (blk_below (g:=gb335) (o:=.cells #[.int .i64 t329,.int .i64 t330,.int .i64 t331,.int .i64 t332,.int .i64 t333,.int .i64 t334] 26 (0,0)) (by (with_reducible repeat first|apply kN|apply kD|apply kA);exact BK335.out) hb)
                  have n5_:=amk (blk_below (g:=gb351) (o:=.cells #[.int .i64 ((rd_T36 (rd_L6 t336 x25_1) x79_3).f0),.int .i64 ((rd_T36 (rd_L6 t336 x25_1) x79_3).f1),.bool true] 36 (0,0)) (by (with_reducible repeat first|apply kN|apply kD|apply kA);exact BK351.out) hb)
                  have n6_:=amk (below_step (by repeat (first|(with_reducible first|exact HB.out|apply bAl|apply bDN|apply bD1|refine bSe ?_ GE327.out|refine bSe ?_ GE335.out|refine bSe ?_ GE351.out)|exact HB.out)) hb)
                  clear HO_8
                  clear HO_23
                  clear HO_77
                  clear BK327
                  clear BK335
                  clear BK351
                  clear HB
                  have HO_8:=n0_
                  have HO_23:=n1_
                  have HO_77:=n2_
                  have BK327:=n3_
                  have BK335:=n4_
                  have BK351:=n5_
                  have HB:=n6_
                  clear n0_ n1_ n2_ n3_ n4_ n5_ n6_
                  (try clear hb)
                  (try clear hb2)
                  (try clear hk)
                  (try clear hi)
                  refine hK.out _ _ ⟨(blk_cell BK335.out 0).trans rfl,(blk_cell BK335.out 1).trans rfl,(blk_cell BK335.out 2).trans rfl,(blk_cell BK335.out 3).trans rfl,(blk_cell BK335.out 4).trans rfl,(blk_cell BK335.out 5).trans rfl,(blk_cell BK351.out 0).trans rfl,(blk_cell BK351.out 1).trans rfl,(blk_cell BK351.out 2).trans rfl⟩ (fun hHeld=>?_)
                  clear hK K
                  refine norm_ (a':=?_) ?_ ?_
                  rotate_left
                  ·show Act.put _ (some 93) _=_
                   simp only [Act.put,sTA,sCZ,sCS,i64_w,i32_w]
                   rfl
                  refine one_ (i:=7) (N:=some 94) #[true,true,true,true,true,true,true,true,false,false,false,false,false] rfl rfl (one_of HT_.out (by kernel_rfl)) (by decide) (fun K hK=>?_)
                  refine goes_ Try.func11 (by kernel_rfl) rfl #[.agg #[.int .i64 t329,.int .i64 t330,.int .i64 t331,.int .i64 t332,.int .i64 t333,.int .i64 t334],.int .i64 t352,.int .i64 t353] (by rfl) rfl rfl (by (try simp only [List.map_toArray,List.map_cons,List.map_nil]);first|done|rfl|(simp only [List.length_drop,List.length_take];rfl)) ?_
                  with_reducible refine (versalref2_Apply.calls t329 t330 t331 t332 t333 t334 t352 t353 t354 t355 _ A85.out).mono ?_
                  rintro e w94 ⟨rfl,hb⟩
                  refine ⟨_,rfl,?_⟩
                  have n0_:=amk (Kd.R_below (by (with_reducible repeat (first|apply Kd.R_alloc|apply Kd.R_drewN|apply Kd.R_drew));exact HO_8.out) hb)
                  have n1_:=amk (Kd.N_below (by (with_reducible repeat (first|apply Kd.N_alloc|apply Kd.N_drewN|apply Kd.N_drew));exact HO_23.out) hb)
                  have n2_:=amk (Kd.V_below (by (with_reducible repeat (first|apply Kd.V_alloc|apply Kd.V_drewN|apply Kd.V_drew));exact HO_77.out) hb)
                  have n3_:=amk (blk_below (g:=gb327) (o:=.cells #[.int .i64 a1_0,.int .i64 a1_1,.int .i64 a1_2,.int .i64 a1_3,.int .i64 a1_4,.int .i64 a1_5] 23 (0,0)) (by (with_reducible repeat first|apply kN|apply kD|apply kA);exact BK327.out) hb)
                  have n4_:=amk (blk_below (g:=gb335) (o:=.cells #[.int .i64 t329,.int .i64 t330,.int .i64 t331,.int .i64 t332,.int .i64 t333,.int .i64 t334] 26 (0,0)) (by (with_reducible repeat first|apply kN|apply kD|apply kA);exact BK335.out) hb)
                  have n5_:=amk (blk_below (g:=gb351) (o:=.cells #[.int .i64 ((rd_T36 (rd_L6 t336 x25_1) x79_3).f0),.int .i64 ((rd_T36 (rd_L6 t336 x25_1) x79_3).f1),.bool true] 36 (0,0)) (by (with_reducible repeat first|apply kN|apply kD|apply kA);exact BK351.out) hb)
                  have n6_:=amk (below_step (by repeat (first|(with_reducible first|exact HB.out|apply bAl|apply bDN|apply bD1|refine bSe ?_ GE327.out|refine bSe ?_ GE335.out|refine bSe ?_ GE351.out)|exact HB.out)) hb)
                  clear HO_8
                  clear HO_23
                  clear HO_77
                  clear BK327
                  clear BK335
                  clear BK351
                  clear HB
                  have HO_8:=n0_
                  have HO_23:=n1_
                  have HO_77:=n2_
                  have BK327:=n3_
                  have BK335:=n4_
                  have BK351:=n5_
                  have HB:=n6_
                  clear n0_ n1_ n2_ n3_ n4_ n5_ n6_
                  (try clear hb)
                  (try clear hb2)
                  (try clear hk)
                  (try clear hi)
                  refine hK.out _ _ ⟨(blk_cell BK335.out 0).trans rfl,(blk_cell BK335.out 1).trans rfl,(blk_cell BK335.out 2).trans rfl,(blk_cell BK335.out 3).trans rfl,(blk_cell BK335.out 4).trans rfl,(blk_cell BK335.out 5).trans rfl,(blk_cell BK351.out 0).trans rfl,(blk_cell BK351.out 1).trans rfl,(blk_cell BK351.out 2).trans rfl⟩ (fun hHeld=>?_)
                  clear hK K
                  refine norm_ (a':=?_) ?_ ?_
                  rotate_left
                  ·show Act.put _ (some 94) _=_
                   simp only [Act.put,sTA,sCZ,sCS,i64_w,i32_w]
                   rfl
                  refine pure_ (i:=8) (N:=some 86) (v:=?_) (a':=?_) #[true,true,true,true,true,true,true,true,true,false,false,false,false] rfl rfl (any_of HT_.out (by kernel_rfl)) (fun _ _ _ h=>h) (Or.inl ⟨by rfl,?_⟩) ?_ ?_
                  rotate_left
                  ·intro w'
                   go_simp
                   with_reducible rfl
                  rotate_left
                  ·simp only [Act.put,sTA,sCZ,sCS,i64_w,i32_w]
                   rfl
                  refine pure_ (i:=9) (N:=some 95) (v:=?_) (a':=?_) #[true,true,true,true,true,true,true,true,true,true,false,false,false] rfl rfl (any_of HT_.out (by kernel_rfl)) (fun _ _ _ h=>h) (Or.inl ⟨by rfl,?_⟩) ?_ ?_
                  rotate_left
                  ·intro w'
                   go_simp
                   with_reducible rfl
                  rotate_left
                  ·simp only [Act.put,sTA,sCZ,sCS,i64_w,i32_w]
                   rfl
                  refine pure_ (i:=10) (N:=some 96) (v:=?_) (a':=?_) #[true,true,true,true,true,true,true,true,true,true,true,false,false] rfl rfl (any_of HT_.out (by kernel_rfl)) (fun _ _ _ h=>h) (Or.inl ⟨by rfl,?_⟩) ?_ ?_
                  rotate_left
                  ·intro w'
                   go_simp
                   with_reducible rfl
                  rotate_left
                  ·simp only [Act.put,sTA,sCZ,sCS,i64_w,i32_w]
                   rfl
                  refine pure_ (i:=11) (N:=some 13) (v:=?_) (a':=?_) #[true,true,true,true,true,true,true,true,true,true,true,true,false] rfl rfl (any_of HT_.out (by kernel_rfl)) (fun _ _ _ h=>h) (Or.inl ⟨by rfl,?_⟩) ?_ ?_
                  rotate_left
                  ·intro w'
                   go_simp
                   with_reducible rfl
                  rotate_left
                  ·simp only [Act.put,sTA,sCZ,sCS,i64_w,i32_w]
                   rfl
                  refine pure_ (i:=12) (N:=some 14) (v:=?_) (a':=?_) #[true,true,true,true,true,true,true,true,true,true,true,true,true] rfl rfl (any_of HT_.out (by kernel_rfl)) (fun _ _ _ h=>h) (Or.inl ⟨by rfl,?_⟩) ?_ ?_
                  rotate_left
                  ·intro w'
                   go_simp
                   with_reducible rfl
                  rotate_left
                  ·simp only [Act.put,sTA,sCZ,sCS,i64_w,i32_w]
                   rfl
                  refine done_ (done_of HT_.out (by kernel_rfl)) ?_
                  try go_wp2
                  go_loopg [15,99] k3 (fun kq v15 v99 w'=>∃ (x15_4 : Bool) (x99_4 : Int),v15=.bool x15_4∧v99=.int .i64 x99_4∧Aside0 (versallaw17_FlatRounds.l3 kq t343 t354 t355 x15_4 t336 (t336.length : Int) x25_1 (rd_L6 t336 x25_1) ((rd_L6 t336 x25_1).length : Int) x79_3 t343 (t343.length : Int) x99_4 t329 t330 t331 t332 t333 t334=some r)∧Aside0 (kq≤k3)∧Aside0 (Kd.R k34 34 w' w.heap.size (fun _=>True) (.slice Ao50 t343.length co50) t343)∧Aside0 (Kd.N (Kd.slice 36 k36) 30 w' w.heap.size (fun k_=>some k_ ≠ ((.slice Ao50 t343.length co50) : Value).ownBlock∧some k_ ≠ ((.slice Ao50 t343.length co50) : Value).ownBlock∧k_ ≠ gb327∧k_ ≠ gb335∧k_ ≠ gb351) (.slice (some ad339) t336.length co15) t336)∧Aside0 (Kd.V k36 36 w' w.heap.size (fun k_=>some k_ ≠ ((.slice Ao50 t343.length co50) : Value).ownBlock∧some k_ ≠ ((.slice (some ad339) t336.length co15) : Value).ownBlock∧some k_ ≠ ((.slice Ao50 t343.length co50) : Value).ownBlock∧k_ ≠ gb327∧k_ ≠ gb335∧k_ ≠ gb351) (.slice (some ad350) (rd_L6 t336 x25_1).length c339_0) (rd_L6 t336 x25_1))∧Aside0 (Kd.R k34 34 w' w.heap.size (fun _=>True) (.slice Ao50 t343.length co50) t343)∧Aside0 (w'.heap[gb327]?=some (.cells #[.int .i64 a1_0,.int .i64 a1_1,.int .i64 a1_2,.int .i64 a1_3,.int .i64 a1_4,.int .i64 a1_5] 23 (0,0)))∧Aside0 (w'.heap[gb335]?=some (.cells #[.int .i64 t329,.int .i64 t330,.int .i64 t331,.int .i64 t332,.int .i64 t333,.int .i64 t334] 26 (0,0)))∧Aside0 (w'.heap[gb351]?=some (.cells #[.int .i64 ((rd_T36 (rd_L6 t336 x25_1) x79_3).f0),.int .i64 ((rd_T36 (rd_L6 t336 x25_1) x79_3).f1),.bool true] 36 (0,0)))∧Aside0 (Below w.heap.size w w'))
                  case atStart=>exact ⟨(false),(0),(by first|rfl|(simp;done)|(simp [*];done)),(by first|rfl|(simp;done)|(simp [*];done)),H',⟨Nat.le_refl _⟩,⟨by (with_reducible repeat (first|apply Kd.R_alloc|apply Kd.R_drewN|apply Kd.R_drew));exact HO_8.out⟩,⟨by (with_reducible repeat (first|apply Kd.N_alloc|apply Kd.N_drewN|apply Kd.N_drew));exact Kd.N_mono HO_23.out (fun _ hk=>⟨hk.1,⟨hk.1,⟨hk.2.1,⟨hk.2.2.1,hk.2.2.2⟩⟩⟩⟩)⟩,⟨by (with_reducible repeat (first|apply Kd.V_alloc|apply Kd.V_drewN|apply Kd.V_drew));exact Kd.V_mono HO_77.out (fun _ hk=>⟨hk.1,⟨hk.2.1,⟨hk.1,⟨hk.2.2.1,⟨hk.2.2.2.1,hk.2.2.2.2⟩⟩⟩⟩⟩)⟩,⟨by (with_reducible repeat (first|apply Kd.R_alloc|apply Kd.R_drewN|apply Kd.R_drew));exact HO_8.out⟩,⟨by (with_reducible repeat first|apply kN|apply kD|apply kA);exact BK327.out⟩,⟨by (with_reducible repeat first|apply kN|apply kD|apply kA);exact BK335.out⟩,⟨by (with_reducible repeat first|apply kN|apply kD|apply kA);exact BK351.out⟩,⟨by repeat (first|(with_reducible first|exact HB.out|apply bAl|apply bDN|apply bD1|refine bSe ?_ GE327.out|refine bSe ?_ GE335.out|refine bSe ?_ GE351.out)|exact HB.out)⟩⟩
                  case round =>
                   clear H'
                   try clear c1
                   try clear p2
                   try clear c3
                   try clear p3
                   try clear q3
                   try clear hx3
                   try clear c5
                   try clear c6
                   try clear p6
                   try clear c7
                   try clear c8
                   try clear q8
                   try clear c11
                   try clear c12
                   try clear c33
                   try clear p34
                   try clear q34
                   try clear hx34
                   try clear p35
                   try clear q35
                   try clear hx35
                   try clear c51
                   try clear c51b0
                   try clear c54
                   try clear c55
                   try clear c56
                   try clear c57
                   try clear c58
                   try clear c58b0
                   try clear c58b1
                   try clear c59
                   try clear c59b0
                   try clear c59b1
                   try clear p64
                   try clear c67
                   try clear c68
                   try clear c73
                   try clear c74
                   try clear c78
                   try clear c78b0
                   try clear c79
                   try clear c79b0
                   try clear c80
                   try clear c80b0
                   try clear q81
                   try clear c82
                   try clear c87
                   try clear c88
                   try clear hcz69_0
                   try clear hcz69_1
                   try clear hcz69_2
                   try clear hcz69_3
                   try clear hcz75_0
                   try clear hcz75_1
                   try clear hcz75_2
                   try clear hcz75_3
                   try clear hcz89_0
                   try clear hcz89_1
                   try clear hcz89_2
                   try clear hfz69_0
                   try clear hfz69_1
                   try clear hfz69_2
                   try clear hfz69_3
                   try clear hfz75_0
                   try clear hfz75_1
                   try clear hfz75_2
                   try clear hfz75_3
                   try clear hfz89_0
                   try clear hfz89_1
                   try clear hfz89_2
                   try clear hx346_0
                   try clear hx346_1
                   try clear hx346_2
                   try clear hx346_3
                   try clear hx348_0
                   try clear hx348_1
                   try clear hx348_2
                   try clear hx348_3
                   try clear hx349_0
                   try clear hx349_1
                   try clear hx349_2
                   try clear hx349_3
                   try clear hx350_0
                   try clear hx350_1
                   try clear hx350_2
                   try clear p2
                   try clear p3
                   try clear p34
                   try clear p346
                   try clear p348
                   try clear p349
                   try clear p350
                   try clear p6
                   try clear p64
                   try clear q3
                   try clear q34
                   try clear q346
                   try clear q348
                   try clear q349
                   try clear q350
                   obtain ⟨x15_4,x99_4,rfl,rfl,HA,HK4,HO_8,HO_23,HO_77,HO_97,BK327,BK335,BK351,HB⟩:=hrel
                   cases gk with
                   | zero=>exact absurd HA.out (by simp [versallaw17_FlatRounds.l3])
                   | succ k4 =>
                    have H:=HA.out
                    clear HA
                    simp only [versallaw17_FlatRounds.l3] at H
                    by_cases c95 : x99_4 < (t343.length : Int)
                    ·rw [if_pos c95] at H
                     have c95b0 : decide (x99_4 < (t343.length : Int))=true:=decide_eq_true c95
                     clear c95
                     by_cases c96 : 0≤x99_4
                     ·rw [if_pos c96] at H
                      have c96b0 : decide (0≤x99_4)=true:=decide_eq_true c96
                      clear c96
                      by_cases c97 : x99_4 < (t343.length : Int)
                      ·rw [if_pos c97] at H
                       have c97b0 : decide (x99_4 < (t343.length : Int))=true:=decide_eq_true c97
                       clear c97
                       by_cases c98 : x15_4=true
                       ·subst c98
                        have H1 : (versallaw17_FlatRounds.l3 k4 t343 t354 t355 true t336 (t336.length : Int) x25_1 (rd_L6 t336 x25_1) ((rd_L6 t336 x25_1).length : Int) x79_3 t343 (t343.length : Int) (wrap64 (x99_4+1)) t329 t330 t331 t332 t333 t334)=some r:=by rw [if_pos rfl] at H;exact H
                        clear H
                        have H:=H1
                        clear H1
                        have H':=amk H
                        clear H
                        have p356 : 0≤(x99_4 : Int):=of_decide_eq_true (by first|(with_reducible assumption)|assumption)
                        have q356 : x99_4 < (t343.length : Int):=of_decide_eq_true (by first|(with_reducible assumption)|assumption)
                        obtain ⟨ad356,e356,hx356_0,hx356_1,hx356_2,hx356_3⟩:=at_T34 (Kd.R_reads' HO_97.out).2.2 x99_4 p356 q356
                        cases e356
                        replace p356:=eq_true p356
                        replace q356:=eq_true q356
                        go_wp2_with (first|((with_reducible refine gate_dst (N:=17) rfl ?_);refine box_event ?hg (N:=17) ?hd (cs:=#[.int .i64 0,.int .i64 0,.int .i64 0,.int .i64 0]) (t:=34) ?hr ?_;(case hd=>rfl);(case hg=>rfl);(case hr=>first|(go_simp;done)|(go_simp;rfl));intro gb357 hg w99 hbox hb;have n0_:=amk (Kd.R_below (Kd.R_elderB (by (with_reducible repeat (first|apply Kd.R_alloc|apply Kd.R_drewN|apply Kd.R_drew));exact HO_8.out) gb357 (Nat.le_of_eq hg.symm)) hb);have n1_:=amk (Kd.N_below (Kd.N_elderB (by (with_reducible repeat (first|apply Kd.N_alloc|apply Kd.N_drewN|apply Kd.N_drew));exact HO_23.out) gb357 (Nat.le_of_eq hg.symm)) hb);have n2_:=amk (Kd.V_below (Kd.V_elderB (by (with_reducible repeat (first|apply Kd.V_alloc|apply Kd.V_drewN|apply Kd.V_drew));exact HO_77.out) gb357 (Nat.le_of_eq hg.symm)) hb);have n3_:=amk (Kd.R_below (Kd.R_elderB (by (with_reducible repeat (first|apply Kd.R_alloc|apply Kd.R_drewN|apply Kd.R_drew));exact HO_97.out) gb357 (Nat.le_of_eq hg.symm)) hb);have n4_:=amk (blk_below (g:=gb327) (o:=.cells #[.int .i64 a1_0,.int .i64 a1_1,.int .i64 a1_2,.int .i64 a1_3,.int .i64 a1_4,.int .i64 a1_5] 23 (0,0)) (by (with_reducible repeat first|apply kN|apply kD|apply kA);exact BK327.out) hb);have n5_:=amk (blk_below (g:=gb335) (o:=.cells #[.int .i64 t329,.int .i64 t330,.int .i64 t331,.int .i64 t332,.int .i64 t333,.int .i64 t334] 26 (0,0)) (by (with_reducible repeat first|apply kN|apply kD|apply kA);exact BK335.out) hb);have n6_:=amk (blk_below (g:=gb351) (o:=.cells #[.int .i64 ((rd_T36 (rd_L6 t336 x25_1) x79_3).f0),.int .i64 ((rd_T36 (rd_L6 t336 x25_1) x79_3).f1),.bool true] 36 (0,0)) (by (with_reducible repeat first|apply kN|apply kD|apply kA);exact BK351.out) hb);have n7_:=amk (below_step (by repeat (first|(with_reducible first|exact HB.out|apply bAl|apply bDN|apply bD1|refine bSe ?_ GE327.out|refine bSe ?_ GE335.out|refine bSe ?_ GE351.out)|exact HB.out)) hb);have n8_:=amk (hbox);have n9_:=amk ((by rw [hg];exact (below_size (by repeat (first|(with_reducible first|exact HB.out|apply bAl|apply bDN|apply bD1|refine bSe ?_ GE327.out|refine bSe ?_ GE335.out|refine bSe ?_ GE351.out)|exact HB.out))) : w.heap.size≤gb357));have n10_:=amk ((by rw [hg];exact (below_size (by repeat (first|(with_reducible first|exact HB.out|apply bAl|apply bDN|apply bD1|refine bSe ?_ GE327.out|refine bSe ?_ GE335.out|refine bSe ?_ GE351.out)|exact HB.out))) : w.heap.size≤gb357));have n11_:=amk ((by rw [hg];exact Nat.ne_of_lt (blk_lt (g:=gb327) (o:=.cells #[.int .i64 a1_0,.int .i64 a1_1,.int .i64 a1_2,.int .i64 a1_3,.int .i64 a1_4,.int .i64 a1_5] 23 (0,0)) (by (with_reducible repeat first|apply kN|apply kD|apply kA);exact BK327.out)) : gb327 ≠ gb357));have n12_:=amk ((by rw [hg];exact Nat.ne_of_gt (blk_lt (g:=gb327) (o:=.cells #[.int .i64 a1_0,.int .i64 a1_1,.int .i64 a1_2,.int .i64 a1_3,.int .i64 a1_4,.int .i64 a1_5] 23 (0,0)) (by (with_reducible repeat first|apply kN|apply kD|apply kA);exact BK327.out)) : gb357 ≠ gb327));have n13_:=amk ((by rw [hg];exact Nat.ne_of_lt (blk_lt (g:=gb335) (o:=.cells #[.int .i64 t329,.int .i64 t330,.int .i64 t331,.int .i64 t332,.int .i64 t333,.int .i64 t334] 26 (0,0)) (by (with_reducible repeat first|apply kN|apply kD|apply kA);exact BK335.out)) : gb335 ≠ gb357));have n14_:=amk ((by rw [hg];exact Nat.ne_of_gt (blk_lt (g:=gb335) (o:=.cells #[.int .i64 t329,.int .i64 t330,.int .i64 t331,.int .i64 t332,.int .i64 t333,.int .i64 t334] 26 (0,0)) (by (with_reducible repeat first|apply kN|apply kD|apply kA);exact BK335.out)) : gb357 ≠ gb335));have n15_:=amk ((by rw [hg];exact Nat.ne_of_lt (blk_lt (g:=gb351) (o:=.cells #[.int .i64 ((rd_T36 (rd_L6 t336 x25_1) x79_3).f0),.int .i64 ((rd_T36 (rd_L6 t336 x25_1) x79_3).f1),.bool true] 36 (0,0)) (by (with_reducible repeat first|apply kN|apply kD|apply kA);exact BK351.out)) : gb351 ≠ gb357));have n16_:=amk ((by rw [hg];exact Nat.ne_of_gt (blk_lt (g:=gb351) (o:=.cells #[.int .i64 ((rd_T36 (rd_L6 t336 x25_1) x79_3).f0),.int .i64 ((rd_T36 (rd_L6 t336 x25_1) x79_3).f1),.bool true] 36 (0,0)) (by (with_reducible repeat first|apply kN|apply kD|apply kA);exact BK351.out)) : gb357 ≠ gb351));clear HO_8;clear HO_23;clear HO_77;clear HO_97;clear BK327;clear BK335;clear BK351;clear HB;have HO_8:=n0_;have HO_23:=n1_;have HO_77:=n2_;have HO_97:=n3_;have BK327:=n4_;have BK335:=n5_;have BK351:=n6_;have HB:=n7_;have BK357:=n8_;have GW357:=n9_;have GE357:=n10_;have NB327_357:=n11_;have NB357_327:=n12_;have NB335_357:=n13_;have NB357_335:=n14_;have NB351_357:=n15_;have NB357_351:=n16_;clear n0_ n1_ n2_ n3_ n4_ n5_ n6_ n7_ n8_ n9_ n10_ n11_ n12_ n13_ n14_ n15_ n16_;clear hb hbox hg;have hnb100:=NB357_327.out;have hnc100:=NB327_357.out;have hnb101:=NB357_335.out;have hnc101:=NB335_357.out;have hnb102:=NB357_351.out;have hnc102:=NB351_357.out;have hcz103_0 : w99.cell? ⟨gb357,0,none⟩=some (.int .i64 0):=(blk_cell BK357.out 0).trans rfl;have hcz103_1 : w99.cell? ⟨gb357,1,none⟩=some (.int .i64 0):=(blk_cell BK357.out 1).trans rfl;have hcz103_2 : w99.cell? ⟨gb357,2,none⟩=some (.int .i64 0):=(blk_cell BK357.out 2).trans rfl;have hcz103_3 : w99.cell? ⟨gb357,3,none⟩=some (.int .i64 0):=(blk_cell BK357.out 3).trans rfl;have hfz103_0:=blk_frozen BK357.out 0;have hfz103_1:=blk_frozen BK357.out 1;have hfz103_2:=blk_frozen BK357.out 2;have hfz103_3:=blk_frozen BK357.out 3))
                        go_roundg k4
                        case measure=>have:=HK1.out;have:=HK2.out;have:=HK3.out;have:=HK4.out;omega
                        case rel=>exact ⟨(true),(wrap64 (x99_4+1)),(by first|rfl|(simp;done)|(simp [*];done)),(by first|rfl|(simp;done)|(simp [*];done)),H',⟨by have:=HK1.out;have:=HK2.out;have:=HK3.out;have:=HK4.out;omega⟩,⟨by (with_reducible repeat (first|apply Kd.R_alloc|apply Kd.R_drewN|apply Kd.R_drew));exact Kd.R_mono (Kd.R_far (p:=⟨gb357,3,none⟩) (Kd.R_far (p:=⟨gb357,2,none⟩) (Kd.R_far (p:=⟨gb357,1,none⟩) (Kd.R_far (p:=⟨gb357,0,none⟩) (Kd.R_mono HO_8.out (fun k_ hk=>(⟨hk,hk.2⟩ : _∧k_ ≠ gb357))) (fun _ hk=>hk.2) (.int .i64 ((rd_T34 t343 x99_4).f0))) (fun _ hk=>hk.2) (.int .i64 ((rd_T34 t343 x99_4).f1))) (fun _ hk=>hk.2) (.int .i64 ((rd_T34 t343 x99_4).f2))) (fun _ hk=>hk.2) (.int .i64 ((rd_T34 t343 x99_4).f3))) (fun _ hk=>trivial)⟩,⟨by (with_reducible repeat (first|apply Kd.N_alloc|apply Kd.N_drewN|apply Kd.N_drew));exact Kd.N_mono (Kd.N_far (p:=⟨gb357,3,none⟩) (Kd.N_far (p:=⟨gb357,2,none⟩) (Kd.N_far (p:=⟨gb357,1,none⟩) (Kd.N_far (p:=⟨gb357,0,none⟩) (Kd.N_mono HO_23.out (fun k_ hk=>(⟨hk,hk.2⟩ : _∧k_ ≠ gb357))) (fun _ hk=>hk.2) (.int .i64 ((rd_T34 t343 x99_4).f0))) (fun _ hk=>hk.2) (.int .i64 ((rd_T34 t343 x99_4).f1))) (fun _ hk=>hk.2) (.int .i64 ((rd_T34 t343 x99_4).f2))) (fun _ hk=>hk.2) (.int .i64 ((rd_T34 t343 x99_4).f3))) (fun _ hk=>⟨hk.1.1.1,⟨hk.1.1.2.1,⟨hk.1.1.2.2.1,⟨hk.1.1.2.2.2.1,hk.1.1.2.2.2.2⟩⟩⟩⟩)⟩,⟨by (with_reducible repeat (first|apply Kd.V_alloc|apply Kd.V_drewN|apply Kd.V_drew));exact Kd.V_mono (Kd.V_far (p:=⟨gb357,3,none⟩) (Kd.V_far (p:=⟨gb357,2,none⟩) (Kd.V_far (p:=⟨gb357,1,none⟩) (Kd.V_far (p:=⟨gb357,0,none⟩) (Kd.V_mono HO_77.out (fun k_ hk=>(⟨hk,hk.2⟩ : _∧k_ ≠ gb357))) (fun _ hk=>hk.2) (.int .i64 ((rd_T34 t343 x99_4).f0))) (fun _ hk=>hk.2) (.int .i64 ((rd_T34 t343 x99_4).f1))) (fun _ hk=>hk.2) (.int .i64 ((rd_T34 t343 x99_4).f2))) (fun _ hk=>hk.2) (.int .i64 ((rd_T34 t343 x99_4).f3))) (fun _ hk=>⟨hk.1.1.1,⟨hk.1.1.2.1,⟨hk.1.1.2.2.1,⟨hk.1.1.2.2.2.1,⟨hk.1.1.2.2.2.2.1,hk.1.1.2.2.2.2.2⟩⟩⟩⟩⟩)⟩,⟨by (with_reducible repeat (first|apply Kd.R_alloc|apply Kd.R_drewN|apply Kd.R_drew));exact Kd.R_mono (Kd.R_far (p:=⟨gb357,3,none⟩) (Kd.R_far (p:=⟨gb357,2,none⟩) (Kd.R_far (p:=⟨gb357,1,none⟩) (Kd.R_far (p:=⟨gb357,0,none⟩) (Kd.R_mono HO_97.out (fun k_ hk=>(⟨hk,hk.2⟩ : _∧k_ ≠ gb357))) (fun _ hk=>hk.2) (.int .i64 ((rd_T34 t343 x99_4).f0))) (fun _ hk=>hk.2) (.int .i64 ((rd_T34 t343 x99_4).f1))) (fun _ hk=>hk.2) (.int .i64 ((rd_T34 t343 x99_4).f2))) (fun _ hk=>hk.2) (.int .i64 ((rd_T34 t343 x99_4).f3))) (fun _ hk=>trivial)⟩,⟨by (with_reducible repeat first|apply kN|apply kD|apply kA);refine blk_far ?_ NB327_357.out _;(with_reducible repeat first|apply kN|apply kD|apply kA);refine blk_far ?_ NB327_357.out _;(with_reducible repeat first|apply kN|apply kD|apply kA);refine blk_far ?_ NB327_357.out _;(with_reducible repeat first|apply kN|apply kD|apply kA);refine blk_far ?_ NB327_357.out _;(with_reducible repeat first|apply kN|apply kD|apply kA);exact BK327.out⟩,⟨by (with_reducible repeat first|apply kN|apply kD|apply kA);refine blk_far ?_ NB335_357.out _;(with_reducible repeat first|apply kN|apply kD|apply kA);refine blk_far ?_ NB335_357.out _;(with_reducible repeat first|apply kN|apply kD|apply kA);refine blk_far ?_ NB335_357.out _;(with_reducible repeat first|apply kN|apply kD|apply kA);refine blk_far ?_ NB335_357.out _;(with_reducible repeat first|apply kN|apply kD|apply kA);exact BK335.out⟩,⟨by (with_reducible repeat first|apply kN|apply kD|apply kA);refine blk_far ?_ NB351_357.out _;(with_reducible repeat first|apply kN|apply kD|apply kA);refine blk_far ?_ NB351_357.out _;(with_reducible repeat first|apply kN|apply kD|apply kA);refine blk_far ?_ NB351_357.out _;(with_reducible repeat first|apply kN|apply kD|apply kA);refine blk_far ?_ NB351_357.out _;(with_reducible repeat first|apply kN|apply kD|apply kA);exact BK351.out⟩,⟨by repeat (first|(with_reducible first|exact HB.out|apply bAl|apply bDN|apply bD1|refine bSe ?_ GE327.out|refine bSe ?_ GE335.out|refine bSe ?_ GE351.out|refine bSe ?_ GE357.out)|exact HB.out)⟩⟩
                       ·replace c98:=Bool.eq_false_iff.mpr c98
                        subst c98
                        have H1 : (if ((rd_T34 t343 x99_4).f0)=t354 then (versallaw17_FlatRounds.l3 k4 t343 t354 t355 (((rd_T34 t343 x99_4).f1) == t355) t336 (t336.length : Int) x25_1 (rd_L6 t336 x25_1) ((rd_L6 t336 x25_1).length : Int) x79_3 t343 (t343.length : Int) (wrap64 (x99_4+1)) t329 t330 t331 t332 t333 t334) else (versallaw17_FlatRounds.l3 k4 t343 t354 t355 false t336 (t336.length : Int) x25_1 (rd_L6 t336 x25_1) ((rd_L6 t336 x25_1).length : Int) x79_3 t343 (t343.length : Int) (wrap64 (x99_4+1)) t329 t330 t331 t332 t333 t334))=some r:=by rw [if_neg (show ¬ (false=true) by decide)] at H;exact H
                        clear H
                        have H:=H1
                        clear H1
                        by_cases c104 : ((rd_T34 t343 x99_4).f0)=t354
                        ·rw [if_pos c104] at H
                         have c104b0 : (((rd_T34 t343 x99_4).f0) == t354)=true:=beq_iff_eq.mpr c104
                         have c104b1 : (((rd_T34 t343 x99_4).f0) != t354)=false:=bne_eq_false_iff_eq.mpr c104
                         clear c104
                         have H':=amk H
                         clear H
                         have p356 : 0≤(x99_4 : Int):=of_decide_eq_true (by first|(with_reducible assumption)|assumption)
                         have q356 : x99_4 < (t343.length : Int):=of_decide_eq_true (by first|(with_reducible assumption)|assumption)
                         obtain ⟨ad356,e356,hx356_0,hx356_1,hx356_2,hx356_3⟩:=at_T34 (Kd.R_reads' HO_97.out).2.2 x99_4 p356 q356
                         cases e356
                         replace p356:=eq_true p356
                         replace q356:=eq_true q356
                         go_wp2_with (first|((with_reducible refine gate_dst (N:=17) rfl ?_);refine box_event ?hg (N:=17) ?hd (cs:=#[.int .i64 0,.int .i64 0,.int .i64 0,.int .i64 0]) (t:=34) ?hr ?_;(case hd=>rfl);(case hg=>rfl);(case hr=>first|(go_simp;done)|(go_simp;rfl));intro gb357 hg w105 hbox hb;have n0_:=amk (Kd.R_below (Kd.R_elderB (by (with_reducible repeat (first|apply Kd.R_alloc|apply Kd.R_drewN|apply Kd.R_drew));exact HO_8.out) gb357 (Nat.le_of_eq hg.symm)) hb);have n1_:=amk (Kd.N_below (Kd.N_elderB (by (with_reducible repeat (first|apply Kd.N_alloc|apply Kd.N_drewN|apply Kd.N_drew));exact HO_23.out) gb357 (Nat.le_of_eq hg.symm)) hb);have n2_:=amk (Kd.V_below (Kd.V_elderB (by (with_reducible repeat (first|apply Kd.V_alloc|apply Kd.V_drewN|apply Kd.V_drew));exact HO_77.out) gb357 (Nat.le_of_eq hg.symm)) hb);have n3_:=amk (Kd.R_below (Kd.R_elderB (by (with_reducible repeat (first|apply Kd.R_alloc|apply Kd.R_drewN|apply Kd.R_drew));exact HO_97.out) gb357 (Nat.le_of_eq hg.symm)) hb);have n4_:=amk (blk_below (g:=gb327) (o:=.cells #[.int .i64 a1_0,.int .i64 a1_1,.int .i64 a1_2,.int .i64 a1_3,.int .i64 a1_4,.int .i64 a1_5] 23 (0,0)) (by (with_reducible repeat first|apply kN|apply kD|apply kA);exact BK327.out) hb);have n5_:=amk (blk_below (g:=gb335) (o:=.cells #[.int .i64 t329,.int .i64 t330,.int .i64 t331,.int .i64 t332,.int .i64 t333,.int .i64 t334] 26 (0,0)) (by (with_reducible repeat first|apply kN|apply kD|apply kA);exact BK335.out) hb);have n6_:=amk (blk_below (g:=gb351) (o:=.cells #[.int .i64 ((rd_T36 (rd_L6 t336 x25_1) x79_3).f0),.int .i64 ((rd_T36 (rd_L6 t336 x25_1) x79_3).f1),.bool true] 36 (0,0)) (by (with_reducible repeat first|apply kN|apply kD|apply kA);exact BK351.out) hb);have n7_:=amk (below_step (by repeat (first|(with_reducible first|exact HB.out|apply bAl|apply bDN|apply bD1|refine bSe ?_ GE327.out|refine bSe ?_ GE335.out|refine bSe ?_ GE351.out)|exact HB.out)) hb);have n8_:=amk (hbox);have n9_:=amk ((by rw [hg];exact (below_size (by repeat (first|(with_reducible first|exact HB.out|apply bAl|apply bDN|apply bD1|refine bSe ?_ GE327.out|refine bSe ?_ GE335.out|refine bSe ?_ GE351.out)|exact HB.out))) : w.heap.size≤gb357));have n10_:=amk ((by rw [hg];exact (below_size (by repeat (first|(with_reducible first|exact HB.out|apply bAl|apply bDN|apply bD1|refine bSe ?_ GE327.out|refine bSe ?_ GE335.out|refine bSe ?_ GE351.out)|exact HB.out))) : w.heap.size≤gb357));have n11_:=amk ((by rw [hg];exact Nat.ne_of_lt (blk_lt (g:=gb327) (o:=.cells #[.int .i64 a1_0,.int .i64 a1_1,.int .i64 a1_2,.int .i64 a1_3,.int .i64 a1_4,.int .i64 a1_5] 23 (0,0)) (by (with_reducible repeat first|apply kN|apply kD|apply kA);exact BK327.out)) : gb327 ≠ gb357));have n12_:=amk ((by rw [hg];exact Nat.ne_of_gt (blk_lt (g:=gb327) (o:=.cells #[.int .i64 a1_0,.int .i64 a1_1,.int .i64 a1_2,.int .i64 a1_3,.int .i64 a1_4,.int .i64 a1_5] 23 (0,0)) (by (with_reducible repeat first|apply kN|apply kD|apply kA);exact BK327.out)) : gb357 ≠ gb327));have n13_:=amk ((by rw [hg];exact Nat.ne_of_lt (blk_lt (g:=gb335) (o:=.cells #[.int .i64 t329,.int .i64 t330,.int .i64 t331,.int .i64 t332,.int .i64 t333,.int .i64 t334] 26 (0,0)) (by (with_reducible repeat first|apply kN|apply kD|apply kA);exact BK335.out)) : gb335 ≠ gb357));have n14_:=amk ((by rw [hg];exact Nat.ne_of_gt (blk_lt (g:=gb335) (o:=.cells #[.int .i64 t329,.int .i64 t330,.int .i64 t331,.int .i64 t332,.int .i64 t333,.int .i64 t334] 26 (0,0)) (by (with_reducible repeat first|apply kN|apply kD|apply kA);exact BK335.out)) : gb357 ≠ gb335));have n15_:=amk ((by rw [hg];exact Nat.ne_of_lt (blk_lt (g:=gb351) (o:=.cells #[.int .i64 ((rd_T36 (rd_L6 t336 x25_1) x79_3).f0),.int .i64 ((rd_T36 (rd_L6 t336 x25_1) x79_3).f1),.bool true] 36 (0,0)) (by (with_reducible repeat first|apply kN|apply kD|apply kA);exact BK351.out)) : gb351 ≠ gb357));have n16_:=amk ((by rw [hg];exact Nat.ne_of_gt (blk_lt (g:=gb351) (o:=.cells #[.int .i64 ((rd_T36 (rd_L6 t336 x25_1) x79_3).f0),.int .i64 ((rd_T36 (rd_L6 t336 x25_1) x79_3).f1),.bool true] 36 (0,0)) (by (with_reducible repeat first|apply kN|apply kD|apply kA);exact BK351.out)) : gb357 ≠ gb351));clear HO_8;clear HO_23;clear HO_77;clear HO_97;clear BK327;clear BK335;clear BK351;clear HB;have HO_8:=n0_;have HO_23:=n1_;have HO_77:=n2_;have HO_97:=n3_;have BK327:=n4_;have BK335:=n5_;have BK351:=n6_;have HB:=n7_;have BK357:=n8_;have GW357:=n9_;have GE357:=n10_;have NB327_357:=n11_;have NB357_327:=n12_;have NB335_357:=n13_;have NB357_335:=n14_;have NB351_357:=n15_;have NB357_351:=n16_;clear n0_ n1_ n2_ n3_ n4_ n5_ n6_ n7_ n8_ n9_ n10_ n11_ n12_ n13_ n14_ n15_ n16_;clear hb hbox hg;have hnb106:=NB357_327.out;have hnc106:=NB327_357.out;have hnb107:=NB357_335.out;have hnc107:=NB335_357.out;have hnb108:=NB357_351.out;have hnc108:=NB351_357.out;have hcz109_0 : w105.cell? ⟨gb357,0,none⟩=some (.int .i64 0):=(blk_cell BK357.out 0).trans rfl;have hcz109_1 : w105.cell? ⟨gb357,1,none⟩=some (.int .i64 0):=(blk_cell BK357.out 1).trans rfl;have hcz109_2 : w105.cell? ⟨gb357,2,none⟩=some (.int .i64 0):=(blk_cell BK357.out 2).trans rfl;have hcz109_3 : w105.cell? ⟨gb357,3,none⟩=some (.int .i64 0):=(blk_cell BK357.out 3).trans rfl;have hfz109_0:=blk_frozen BK357.out 0;have hfz109_1:=blk_frozen BK357.out 1;have hfz109_2:=blk_frozen BK357.out 2;have hfz109_3:=blk_frozen BK357.out 3))
                         go_roundg k4
                         case measure=>have:=HK1.out;have:=HK2.out;have:=HK3.out;have:=HK4.out;omega
                         case rel=>exact ⟨((((rd_T34 t343 x99_4).f1) == t355)),(wrap64 (x99_4+1)),(by first|rfl|(simp;done)|(simp [*];done)),(by first|rfl|(simp;done)|(simp [*];done)),H',⟨by have:=HK1.out;have:=HK2.out;have:=HK3.out;have:=HK4.out;omega⟩,⟨by (with_reducible repeat (first|apply Kd.R_alloc|apply Kd.R_drewN|apply Kd.R_drew));exact Kd.R_mono (Kd.R_far (p:=⟨gb357,3,none⟩) (Kd.R_far (p:=⟨gb357,2,none⟩) (Kd.R_far (p:=⟨gb357,1,none⟩) (Kd.R_far (p:=⟨gb357,0,none⟩) (Kd.R_mono HO_8.out (fun k_ hk=>(⟨hk,hk.2⟩ : _∧k_ ≠ gb357))) (fun _ hk=>hk.2) (.int .i64 ((rd_T34 t343 x99_4).f0))) (fun _ hk=>hk.2) (.int .i64 ((rd_T34 t343 x99_4).f1))) (fun _ hk=>hk.2) (.int .i64 ((rd_T34 t343 x99_4).f2))) (fun _ hk=>hk.2) (.int .i64 ((rd_T34 t343 x99_4).f3))) (fun _ hk=>trivial)⟩,⟨by (with_reducible repeat (first|apply Kd.N_alloc|apply Kd.N_drewN|apply Kd.N_drew));exact Kd.N_mono (Kd.N_far (p:=⟨gb357,3,none⟩) (Kd.N_far (p:=⟨gb357,2,none⟩) (Kd.N_far (p:=⟨gb357,1,none⟩) (Kd.N_far (p:=⟨gb357,0,none⟩) (Kd.N_mono HO_23.out (fun k_ hk=>(⟨hk,hk.2⟩ : _∧k_ ≠ gb357))) (fun _ hk=>hk.2) (.int .i64 ((rd_T34 t343 x99_4).f0))) (fun _ hk=>hk.2) (.int .i64 ((rd_T34 t343 x99_4).f1))) (fun _ hk=>hk.2) (.int .i64 ((rd_T34 t343 x99_4).f2))) (fun _ hk=>hk.2) (.int .i64 ((rd_T34 t343 x99_4).f3))) (fun _ hk=>⟨hk.1.1.1,⟨hk.1.1.2.1,⟨hk.1.1.2.2.1,⟨hk.1.1.2.2.2.1,hk.1.1.2.2.2.2⟩⟩⟩⟩)⟩,⟨by (with_reducible repeat (first|apply Kd.V_alloc|apply Kd.V_drewN|apply Kd.V_drew));exact Kd.V_mono (Kd.V_far (p:=⟨gb357,3,none⟩) (Kd.V_far (p:=⟨gb357,2,none⟩) (Kd.V_far (p:=⟨gb357,1,none⟩) (Kd.V_far (p:=⟨gb357,0,none⟩) (Kd.V_mono HO_77.out (fun k_ hk=>(⟨hk,hk.2⟩ : _∧k_ ≠ gb357))) (fun _ hk=>hk.2) (.int .i64 ((rd_T34 t343 x99_4).f0))) (fun _ hk=>hk.2) (.int .i64 ((rd_T34 t343 x99_4).f1))) (fun _ hk=>hk.2) (.int .i64 ((rd_T34 t343 x99_4).f2))) (fun _ hk=>hk.2) (.int .i64 ((rd_T34 t343 x99_4).f3))) (fun _ hk=>⟨hk.1.1.1,⟨hk.1.1.2.1,⟨hk.1.1.2.2.1,⟨hk.1.1.2.2.2.1,⟨hk.1.1.2.2.2.2.1,hk.1.1.2.2.2.2.2⟩⟩⟩⟩⟩)⟩,⟨by (with_reducible repeat (first|apply Kd.R_alloc|apply Kd.R_drewN|apply Kd.R_drew));exact Kd.R_mono (Kd.R_far (p:=⟨gb357,3,none⟩) (Kd.R_far (p:=⟨gb357,2,none⟩) (Kd.R_far (p:=⟨gb357,1,none⟩) (Kd.R_far (p:=⟨gb357,0,none⟩) (Kd.R_mono HO_97.out (fun k_ hk=>(⟨hk,hk.2⟩ : _∧k_ ≠ gb357))) (fun _ hk=>hk.2) (.int .i64 ((rd_T34 t343 x99_4).f0))) (fun _ hk=>hk.2) (.int .i64 ((rd_T34 t343 x99_4).f1))) (fun _ hk=>hk.2) (.int .i64 ((rd_T34 t343 x99_4).f2))) (fun _ hk=>hk.2) (.int .i64 ((rd_T34 t343 x99_4).f3))) (fun _ hk=>trivial)⟩,⟨by (with_reducible repeat first|apply kN|apply kD|apply kA);refine blk_far ?_ NB327_357.out _;(with_reducible repeat first|apply kN|apply kD|apply kA);refine blk_far ?_ NB327_357.out _;(with_reducible repeat first|apply kN|apply kD|apply kA);refine blk_far ?_ NB327_357.out _;(with_reducible repeat first|apply kN|apply kD|apply kA);refine blk_far ?_ NB327_357.out _;(with_reducible repeat first|apply kN|apply kD|apply kA);exact BK327.out⟩,⟨by (with_reducible repeat first|apply kN|apply kD|apply kA);refine blk_far ?_ NB335_357.out _;(with_reducible repeat first|apply kN|apply kD|apply kA);refine blk_far ?_ NB335_357.out _;(with_reducible repeat first|apply kN|apply kD|apply kA);refine blk_far ?_ NB335_357.out _;(with_reducible repeat first|apply kN|apply kD|apply kA);refine blk_far ?_ NB335_357.out _;(with_reducible repeat first|apply kN|apply kD|apply kA);exact BK335.out⟩,⟨by (with_reducible repeat first|apply kN|apply kD|apply kA);refine blk_far ?_ NB351_357.out _;(with_reducible repeat first|apply kN|apply kD|apply kA);refine blk_far ?_ NB351_357.out _;(with_reducible repeat first|apply kN|apply kD|apply kA);refine blk_far ?_ NB351_357.out _;(with_reducible repeat first|apply kN|apply kD|apply kA);refine blk_far ?_ NB351_357.out _;(with_reducible repeat first|apply kN|apply kD|apply kA);exact BK351.out⟩,⟨by repeat (first|(with_reducible first|exact HB.out|apply bAl|apply bDN|apply bD1|refine bSe ?_ GE327.out|refine bSe ?_ GE335.out|refine bSe ?_ GE351.out|refine bSe ?_ GE357.out)|exact HB.out)⟩⟩
                        ·rw [if_neg c104] at H
                         have c104b0 : (((rd_T34 t343 x99_4).f0) == t354)=false:=beq_eq_false_iff_ne.mpr c104
                         have c104b1 : (((rd_T34 t343 x99_4).f0) != t354)=true:=bne_iff_ne.mpr c104
                         have H':=amk H
                         clear H
                         have p356 : 0≤(x99_4 : Int):=of_decide_eq_true (by first|(with_reducible assumption)|assumption)
                         have q356 : x99_4 < (t343.length : Int):=of_decide_eq_true (by first|(with_reducible assumption)|assumption)
                         obtain ⟨ad356,e356,hx356_0,hx356_1,hx356_2,hx356_3⟩:=at_T34 (Kd.R_reads' HO_97.out).2.2 x99_4 p356 q356
                         cases e356
                         replace p356:=eq_true p356
                         replace q356:=eq_true q356
                         go_wp2_with (first|((with_reducible refine gate_dst (N:=17) rfl ?_);refine box_event ?hg (N:=17) ?hd (cs:=#[.int .i64 0,.int .i64 0,.int .i64 0,.int .i64 0]) (t:=34) ?hr ?_;(case hd=>rfl);(case hg=>rfl);(case hr=>first|(go_simp;done)|(go_simp;rfl));intro gb357 hg w110 hbox hb;have n0_:=amk (Kd.R_below (Kd.R_elderB (by (with_reducible repeat (first|apply Kd.R_alloc|apply Kd.R_drewN|apply Kd.R_drew));exact HO_8.out) gb357 (Nat.le_of_eq hg.symm)) hb);have n1_:=amk (Kd.N_below (Kd.N_elderB (by (with_reducible repeat (first|apply Kd.N_alloc|apply Kd.N_drewN|apply Kd.N_drew));exact HO_23.out) gb357 (Nat.le_of_eq hg.symm)) hb);have n2_:=amk (Kd.V_below (Kd.V_elderB (by (with_reducible repeat (first|apply Kd.V_alloc|apply Kd.V_drewN|apply Kd.V_drew));exact HO_77.out) gb357 (Nat.le_of_eq hg.symm)) hb);have n3_:=amk (Kd.R_below (Kd.R_elderB (by (with_reducible repeat (first|apply Kd.R_alloc|apply Kd.R_drewN|apply Kd.R_drew));exact HO_97.out) gb357 (Nat.le_of_eq hg.symm)) hb);have n4_:=amk (blk_below (g:=gb327) (o:=.cells #[.int .i64 a1_0,.int .i64 a1_1,.int .i64 a1_2,.int .i64 a1_3,.int .i64 a1_4,.int .i64 a1_5] 23 (0,0)) (by (with_reducible repeat first|apply kN|apply kD|apply kA);exact BK327.out) hb);have n5_:=amk (blk_below (g:=gb335) (o:=.cells #[.int .i64 t329,.int .i64 t330,.int .i64 t331,.int .i64 t332,.int .i64 t333,.int .i64 t334] 26 (0,0)) (by (with_reducible repeat first|apply kN|apply kD|apply kA);exact BK335.out) hb);have n6_:=amk (blk_below (g:=gb351) (o:=.cells #[.int .i64 ((rd_T36 (rd_L6 t336 x25_1) x79_3).f0),.int .i64 ((rd_T36 (rd_L6 t336 x25_1) x79_3).f1),.bool true] 36 (0,0)) (by (with_reducible repeat first|apply kN|apply kD|apply kA);exact BK351.out) hb);have n7_:=amk (below_step (by repeat (first|(with_reducible first|exact HB.out|apply bAl|apply bDN|apply bD1|refine bSe ?_ GE327.out|refine bSe ?_ GE335.out|refine bSe ?_ GE351.out)|exact HB.out)) hb);have n8_:=amk (hbox);have n9_:=amk ((by rw [hg];exact (below_size (by repeat (first|(with_reducible first|exact HB.out|apply bAl|apply bDN|apply bD1|refine bSe ?_ GE327.out|refine bSe ?_ GE335.out|refine bSe ?_ GE351.out)|exact HB.out))) : w.heap.size≤gb357));have n10_:=amk ((by rw [hg];exact (below_size (by repeat (first|(with_reducible first|exact HB.out|apply bAl|apply bDN|apply bD1|refine bSe ?_ GE327.out|refine bSe ?_ GE335.out|refine bSe ?_ GE351.out)|exact HB.out))) : w.heap.size≤gb357));have n11_:=amk ((by rw [hg];exact Nat.ne_of_lt (blk_lt (g:=gb327) (o:=.cells #[.int .i64 a1_0,.int .i64 a1_1,.int .i64 a1_2,.int .i64 a1_3,.int .i64 a1_4,.int .i64 a1_5] 23 (0,0)) (by (with_reducible repeat first|apply kN|apply kD|apply kA);exact BK327.out)) : gb327 ≠ gb357));have n12_:=amk ((by rw [hg];exact Nat.ne_of_gt (blk_lt (g:=gb327) (o:=.cells #[.int .i64 a1_0,.int .i64 a1_1,.int .i64 a1_2,.int .i64 a1_3,.int .i64 a1_4,.int .i64 a1_5] 23 (0,0)) (by (with_reducible repeat first|apply kN|apply kD|apply kA);exact BK327.out)) : gb357 ≠ gb327));have n13_:=amk ((by rw [hg];exact Nat.ne_of_lt (blk_lt (g:=gb335) (o:=.cells #[.int .i64 t329,.int .i64 t330,.int .i64 t331,.int .i64 t332,.int .i64 t333,.int .i64 t334] 26 (0,0)) (by (with_reducible repeat first|apply kN|apply kD|apply kA);exact BK335.out)) : gb335 ≠ gb357));have n14_:=amk ((by rw [hg];exact Nat.ne_of_gt (blk_lt (g:=gb335) (o:=.cells #[.int .i64 t329,.int .i64 t330,.int .i64 t331,.int .i64 t332,.int .i64 t333,.int .i64 t334] 26 (0,0)) (by (with_reducible repeat first|apply kN|apply kD|apply kA);exact BK335.out)) : gb357 ≠ gb335));have n15_:=amk ((by rw [hg];exact Nat.ne_of_lt (blk_lt (g:=gb351) (o:=.cells #[.int .i64 ((rd_T36 (rd_L6 t336 x25_1) x79_3).f0),.int .i64 ((rd_T36 (rd_L6 t336 x25_1) x79_3).f1),.bool true] 36 (0,0)) (by (with_reducible repeat first|apply kN|apply kD|apply kA);exact BK351.out)) : gb351 ≠ gb357));have n16_:=amk ((by rw [hg];exact Nat.ne_of_gt (blk_lt (g:=gb351) (o:=.cells #[.int .i64 ((rd_T36 (rd_L6 t336 x25_1) x79_3).f0),.int .i64 ((rd_T36 (rd_L6 t336 x25_1) x79_3).f1),.bool true] 36 (0,0)) (by (with_reducible repeat first|apply kN|apply kD|apply kA);exact BK351.out)) : gb357 ≠ gb351));clear HO_8;clear HO_23;clear HO_77;clear HO_97;clear BK327;clear BK335;clear BK351;clear HB;have HO_8:=n0_;have HO_23:=n1_;have HO_77:=n2_;have HO_97:=n3_;have BK327:=n4_;have BK335:=n5_;have BK351:=n6_;have HB:=n7_;have BK357:=n8_;have GW357:=n9_;have GE357:=n10_;have NB327_357:=n11_;have NB357_327:=n12_;have NB335_357:=n13_;have NB357_335:=n14_;have NB351_357:=n15_;have NB357_351:=n16_;clear n0_ n1_ n2_ n3_ n4_ n5_ n6_ n7_ n8_ n9_ n10_ n11_ n12_ n13_ n14_ n15_ n16_;clear hb hbox hg;have hnb111:=NB357_327.out;have hnc111:=NB327_357.out;have hnb112:=NB357_335.out;have hnc112:=NB335_357.out;have hnb113:=NB357_351.out;have hnc113:=NB351_357.out;have hcz114_0 : w110.cell? ⟨gb357,0,none⟩=some (.int .i64 0):=(blk_cell BK357.out 0).trans rfl;have hcz114_1 : w110.cell? ⟨gb357,1,none⟩=some (.int .i64 0):=(blk_cell BK357.out 1).trans rfl;have hcz114_2 : w110.cell? ⟨gb357,2,none⟩=some (.int .i64 0):=(blk_cell BK357.out 2).trans rfl;have hcz114_3 : w110.cell? ⟨gb357,3,none⟩=some (.int .i64 0):=(blk_cell BK357.out 3).trans rfl;have hfz114_0:=blk_frozen BK357.out 0;have hfz114_1:=blk_frozen BK357.out 1;have hfz114_2:=blk_frozen BK357.out 2;have hfz114_3:=blk_frozen BK357.out 3))
                         go_roundg k4
                         case measure=>have:=HK1.out;have:=HK2.out;have:=HK3.out;have:=HK4.out;omega
                         case rel=>exact ⟨(false),(wrap64 (x99_4+1)),(by first|rfl|(simp;done)|(simp [*];done)),(by first|rfl|(simp;done)|(simp [*];done)),H',⟨by have:=HK1.out;have:=HK2.out;have:=HK3.out;have:=HK4.out;omega⟩,⟨by (with_reducible repeat (first|apply Kd.R_alloc|apply Kd.R_drewN|apply Kd.R_drew));exact Kd.R_mono (Kd.R_far (p:=⟨gb357,3,none⟩) (Kd.R_far (p:=⟨gb357,2,none⟩) (Kd.R_far (p:=⟨gb357,1,none⟩) (Kd.R_far (p:=⟨gb357,0,none⟩) (Kd.R_mono HO_8.out (fun k_ hk=>(⟨hk,hk.2⟩ : _∧k_ ≠ gb357))) (fun _ hk=>hk.2) (.int .i64 ((rd_T34 t343 x99_4).f0))) (fun _ hk=>hk.2) (.int .i64 ((rd_T34 t343 x99_4).f1))) (fun _ hk=>hk.2) (.int .i64 ((rd_T34 t343 x99_4).f2))) (fun _ hk=>hk.2) (.int .i64 ((rd_T34 t343 x99_4).f3))) (fun _ hk=>trivial)⟩,⟨by (with_reducible repeat (first|apply Kd.N_alloc|apply Kd.N_drewN|apply Kd.N_drew));exact Kd.N_mono (Kd.N_far (p:=⟨gb357,3,none⟩) (Kd.N_far (p:=⟨gb357,2,none⟩) (Kd.N_far (p:=⟨gb357,1,none⟩) (Kd.N_far (p:=⟨gb357,0,none⟩) (Kd.N_mono HO_23.out (fun k_ hk=>(⟨hk,hk.2⟩ : _∧k_ ≠ gb357))) (fun _ hk=>hk.2) (.int .i64 ((rd_T34 t343 x99_4).f0))) (fun _ hk=>hk.2) (.int .i64 ((rd_T34 t343 x99_4).f1))) (fun _ hk=>hk.2) (.int .i64 ((rd_T34 t343 x99_4).f2))) (fun _ hk=>hk.2) (.int .i64 ((rd_T34 t343 x99_4).f3))) (fun _ hk=>⟨hk.1.1.1,⟨hk.1.1.2.1,⟨hk.1.1.2.2.1,⟨hk.1.1.2.2.2.1,hk.1.1.2.2.2.2⟩⟩⟩⟩)⟩,⟨by (with_reducible repeat (first|apply Kd.V_alloc|apply Kd.V_drewN|apply Kd.V_drew));exact Kd.V_mono (Kd.V_far (p:=⟨gb357,3,none⟩) (Kd.V_far (p:=⟨gb357,2,none⟩) (Kd.V_far (p:=⟨gb357,1,none⟩) (Kd.V_far (p:=⟨gb357,0,none⟩) (Kd.V_mono HO_77.out (fun k_ hk=>(⟨hk,hk.2⟩ : _∧k_ ≠ gb357))) (fun _ hk=>hk.2) (.int .i64 ((rd_T34 t343 x99_4).f0))) (fun _ hk=>hk.2) (.int .i64 ((rd_T34 t343 x99_4).f1))) (fun _ hk=>hk.2) (.int .i64 ((rd_T34 t343 x99_4).f2))) (fun _ hk=>hk.2) (.int .i64 ((rd_T34 t343 x99_4).f3))) (fun _ hk=>⟨hk.1.1.1,⟨hk.1.1.2.1,⟨hk.1.1.2.2.1,⟨hk.1.1.2.2.2.1,⟨hk.1.1.2.2.2.2.1,hk.1.1.2.2.2.2.2⟩⟩⟩⟩⟩)⟩,⟨by (with_reducible repeat (first|apply Kd.R_alloc|apply Kd.R_drewN|apply Kd.R_drew));exact Kd.R_mono (Kd.R_far (p:=⟨gb357,3,none⟩) (Kd.R_far (p:=⟨gb357,2,none⟩) (Kd.R_far (p:=⟨gb357,1,none⟩) (Kd.R_far (p:=⟨gb357,0,none⟩) (Kd.R_mono HO_97.out (fun k_ hk=>(⟨hk,hk.2⟩ : _∧k_ ≠ gb357))) (fun _ hk=>hk.2) (.int .i64 ((rd_T34 t343 x99_4).f0))) (fun _ hk=>hk.2) (.int .i64 ((rd_T34 t343 x99_4).f1))) (fun _ hk=>hk.2) (.int .i64 ((rd_T34 t343 x99_4).f2))) (fun _ hk=>hk.2) (.int .i64 ((rd_T34 t343 x99_4).f3))) (fun _ hk=>trivial)⟩,⟨by (with_reducible repeat first|apply kN|apply kD|apply kA);refine blk_far ?_ NB327_357.out _;(with_reducible repeat first|apply kN|apply kD|apply kA);refine blk_far ?_ NB327_357.out _;(with_reducible repeat first|apply kN|apply kD|apply kA);refine blk_far ?_ NB327_357.out _;(with_reducible repeat first|apply kN|apply kD|apply kA);refine blk_far ?_ NB327_357.out _;(with_reducible repeat first|apply kN|apply kD|apply kA);exact BK327.out⟩,⟨by (with_reducible repeat first|apply kN|apply kD|apply kA);refine blk_far ?_ NB335_357.out _;(with_reducible repeat first|apply kN|apply kD|apply kA);refine blk_far ?_ NB335_357.out _;(with_reducible repeat first|apply kN|apply kD|apply kA);refine blk_far ?_ NB335_357.out _;(with_reducible repeat first|apply kN|apply kD|apply kA);refine blk_far ?_ NB335_357.out _;(with_reducible repeat first|apply kN|apply kD|apply kA);exact BK335.out⟩,⟨by (with_reducible repeat first|apply kN|apply kD|apply kA);refine blk_far ?_ NB351_357.out _;(with_reducible repeat first|apply kN|apply kD|apply kA);refine blk_far ?_ NB351_357.out _;(with_reducible repeat first|apply kN|apply kD|apply kA);refine blk_far ?_ NB351_357.out _;(with_reducible repeat first|apply kN|apply kD|apply kA);refine blk_far ?_ NB351_357.out _;(with_reducible repeat first|apply kN|apply kD|apply kA);exact BK351.out⟩,⟨by repeat (first|(with_reducible first|exact HB.out|apply bAl|apply bDN|apply bD1|refine bSe ?_ GE327.out|refine bSe ?_ GE335.out|refine bSe ?_ GE351.out|refine bSe ?_ GE357.out)|exact HB.out)⟩⟩
                      ·rw [if_neg c97] at H
                       exact absurd H (by simp)
                     ·rw [if_neg c96] at H
                      exact absurd H (by simp)
                    ·rw [if_neg c95] at H
                     have c95b0 : decide (x99_4 < (t343.length : Int))=false:=decide_eq_false c95
                     clear c95
                     by_cases c115 : x15_4=true
                     ·subst c115
                      have H1 : (versallaw17_FlatRounds.l2 k4 t343 t336 (t336.length : Int) x25_1 (rd_L6 t336 x25_1) ((rd_L6 t336 x25_1).length : Int) (wrap64 (x79_3+1)) t329 t330 t331 t332 t333 t334)=some r:=by rw [if_pos rfl] at H;exact H
                      clear H
                      have H:=H1
                      clear H1
                      have H':=amk H
                      clear H
                      go_wp2
                      go_roundg k4
                      case measure=>have:=HK1.out;have:=HK2.out;have:=HK3.out;have:=HK4.out;omega
                      case rel=>exact ⟨(wrap64 (x79_3+1)),(by first|rfl|(simp;done)|(simp [*];done)),H',⟨by have:=HK1.out;have:=HK2.out;have:=HK3.out;have:=HK4.out;omega⟩,⟨by (with_reducible repeat (first|apply Kd.R_alloc|apply Kd.R_drewN|apply Kd.R_drew));exact HO_8.out⟩,⟨by (with_reducible repeat (first|apply Kd.N_alloc|apply Kd.N_drewN|apply Kd.N_drew));exact Kd.N_mono HO_23.out (fun _ hk=>⟨hk.1,⟨hk.2.2.1,hk.2.2.2.1⟩⟩)⟩,⟨by (with_reducible repeat (first|apply Kd.V_alloc|apply Kd.V_drewN|apply Kd.V_drew));exact Kd.V_mono HO_77.out (fun _ hk=>⟨hk.1,⟨hk.2.1,⟨hk.2.2.2.1,hk.2.2.2.2.1⟩⟩⟩)⟩,⟨by (with_reducible repeat first|apply kN|apply kD|apply kA);exact BK327.out⟩,⟨by (with_reducible repeat first|apply kN|apply kD|apply kA);exact BK335.out⟩,⟨by repeat (first|(with_reducible first|exact HB.out|apply bAl|apply bDN|apply bD1|refine bSe ?_ GE327.out|refine bSe ?_ GE335.out|refine bSe ?_ GE351.out)|exact HB.out)⟩⟩
                     ·replace c115:=Bool.eq_false_iff.mpr c115
                      subst c115
                      have H1 : (some false)=some r:=by rw [if_neg (show ¬ (false=true) by decide)] at H;exact H
                      clear H
                      have H:=H1
                      clear H1
                      obtain rfl:=Option.some.inj H
                      go_wp2
                      go_ret
                      exact ⟨by first|rfl|(simp [errW_none,errW_some] <;> rfl)|(simp [*,errW_none,errW_some] <;> rfl),by repeat (first|(with_reducible first|exact HB.out|apply bAl|apply bDN|apply bD1|refine bSe ?_ GE327.out|refine bSe ?_ GE335.out|refine bSe ?_ GE351.out)|exact HB.out)⟩
                 ·replace c82:=Bool.eq_false_iff.mpr c82
                  subst c82
                  have H1 : (versallaw17_FlatRounds.l2 k3 t343 t336 (t336.length : Int) x25_1 (rd_L6 t336 x25_1) ((rd_L6 t336 x25_1).length : Int) (wrap64 (x79_3+1)) t329 t330 t331 t332 t333 t334)=some r:=by rw [if_neg (show ¬ (false=true) by decide)] at H;exact H
                  clear H
                  have H:=H1
                  clear H1
                  have H':=amk H
                  clear H
                  have p350 : 0≤(x79_3 : Int):=of_decide_eq_true (by first|(with_reducible assumption)|assumption)
                  have q350 : x79_3 < ((rd_L6 t336 x25_1).length : Int):=of_decide_eq_true (by first|(with_reducible assumption)|assumption)
                  obtain ⟨ad350,e350,hx350_0,hx350_1,hx350_2⟩:=at_T36 (Kd.V_reads' HO_77.out).2.2 x79_3 p350 q350
                  (try rw [← Nbq81.out] at hx350_2)
                  cases e350
                  replace p350:=eq_true p350
                  replace q350:=eq_true q350
                  go_wp2_with (first|((with_reducible refine gate_dst (N:=12) rfl ?_);refine box_event ?hg (N:=12) ?hd (cs:=#[.int .i64 0,.int .i64 0,.bool false]) (t:=36) ?hr ?_;(case hd=>rfl);(case hg=>rfl);(case hr=>first|(go_simp;done)|(go_simp;rfl));intro gb351 hg w116 hbox hb;have n0_:=amk (Kd.R_below (by (with_reducible repeat (first|apply Kd.R_alloc|apply Kd.R_drewN|apply Kd.R_drew));exact HO_8.out) hb);have n1_:=amk (Kd.N_below (Kd.N_elderB (by (with_reducible repeat (first|apply Kd.N_alloc|apply Kd.N_drewN|apply Kd.N_drew));exact HO_23.out) gb351 (Nat.le_of_eq hg.symm)) hb);have n2_:=amk (Kd.V_below (Kd.V_elderB (by (with_reducible repeat (first|apply Kd.V_alloc|apply Kd.V_drewN|apply Kd.V_drew));exact HO_77.out) gb351 (Nat.le_of_eq hg.symm)) hb);have n3_:=amk (blk_below (g:=gb327) (o:=.cells #[.int .i64 a1_0,.int .i64 a1_1,.int .i64 a1_2,.int .i64 a1_3,.int .i64 a1_4,.int .i64 a1_5] 23 (0,0)) (by (with_reducible repeat first|apply kN|apply kD|apply kA);exact BK327.out) hb);have n4_:=amk (blk_below (g:=gb335) (o:=.cells #[.int .i64 t329,.int .i64 t330,.int .i64 t331,.int .i64 t332,.int .i64 t333,.int .i64 t334] 26 (0,0)) (by (with_reducible repeat first|apply kN|apply kD|apply kA);exact BK335.out) hb);have n5_:=amk (below_step (by repeat (first|(with_reducible first|exact HB.out|apply bAl|apply bDN|apply bD1|refine bSe ?_ GE327.out|refine bSe ?_ GE335.out)|exact HB.out)) hb);have n6_:=amk (hbox);have n7_:=amk ((by rw [hg];exact (below_size (by repeat (first|(with_reducible first|exact HB.out|apply bAl|apply bDN|apply bD1|refine bSe ?_ GE327.out|refine bSe ?_ GE335.out)|exact HB.out))) : w.heap.size≤gb351));have n8_:=amk ((by rw [hg];exact (below_size (by repeat (first|(with_reducible first|exact HB.out|apply bAl|apply bDN|apply bD1|refine bSe ?_ GE327.out|refine bSe ?_ GE335.out)|exact HB.out))) : w.heap.size≤gb351));have n9_:=amk ((by rw [hg];exact Nat.ne_of_lt (blk_lt (g:=gb327) (o:=.cells #[.int .i64 a1_0,.int .i64 a1_1,.int .i64 a1_2,.int .i64 a1_3,.int .i64 a1_4,.int .i64 a1_5] 23 (0,0)) (by (with_reducible repeat first|apply kN|apply kD|apply kA);exact BK327.out)) : gb327 ≠ gb351));have n10_:=amk ((by rw [hg];exact Nat.ne_of_gt (blk_lt (g:=gb327) (o:=.cells #[.int .i64 a1_0,.int .i64 a1_1,.int .i64 a1_2,.int .i64 a1_3,.int .i64 a1_4,.int .i64 a1_5] 23 (0,0)) (by (with_reducible repeat first|apply kN|apply kD|apply kA);exact BK327.out)) : gb351 ≠ gb327));have n11_:=amk ((by rw [hg];exact Nat.ne_of_lt (blk_lt (g:=gb335) (o:=.cells #[.int .i64 t329,.int .i64 t330,.int .i64 t331,.int .i64 t332,.int .i64 t333,.int .i64 t334] 26 (0,0)) (by (with_reducible repeat first|apply kN|apply kD|apply kA);exact BK335.out)) : gb335 ≠ gb351));have n12_:=amk ((by rw [hg];exact Nat.ne_of_gt (blk_lt (g:=gb335) (o:=.cells #[.int .i64 t329,.int .i64 t330,.int .i64 t331,.int .i64 t332,.int .i64 t333,.int .i64 t334] 26 (0,0)) (by (with_reducible repeat first|apply kN|apply kD|apply kA);exact BK335.out)) : gb351 ≠ gb335));clear HO_8;clear HO_23;clear HO_77;clear BK327;clear BK335;clear HB;have HO_8:=n0_;have HO_23:=n1_;have HO_77:=n2_;have BK327:=n3_;have BK335:=n4_;have HB:=n5_;have BK351:=n6_;have GW351:=n7_;have GE351:=n8_;have NB327_351:=n9_;have NB351_327:=n10_;have NB335_351:=n11_;have NB351_335:=n12_;clear n0_ n1_ n2_ n3_ n4_ n5_ n6_ n7_ n8_ n9_ n10_ n11_ n12_;clear hb hbox hg;have hnb117:=NB351_327.out;have hnc117:=NB327_351.out;have hnb118:=NB351_335.out;have hnc118:=NB335_351.out;have hcz119_0 : w116.cell? ⟨gb351,0,none⟩=some (.int .i64 0):=(blk_cell BK351.out 0).trans rfl;have hcz119_1 : w116.cell? ⟨gb351,1,none⟩=some (.int .i64 0):=(blk_cell BK351.out 1).trans rfl;have hcz119_2 : w116.cell? ⟨gb351,2,none⟩=some (.bool false):=(blk_cell BK351.out 2).trans rfl;have hfz119_0:=blk_frozen BK351.out 0;have hfz119_1:=blk_frozen BK351.out 1;have hfz119_2:=blk_frozen BK351.out 2))
                  go_roundg k3
                  case measure=>have:=HK1.out;have:=HK2.out;have:=HK3.out;omega
                  case rel=>exact ⟨(wrap64 (x79_3+1)),(by first|rfl|(simp;done)|(simp [*];done)),H',⟨by have:=HK1.out;have:=HK2.out;have:=HK3.out;omega⟩,⟨by (with_reducible repeat (first|apply Kd.R_alloc|apply Kd.R_drewN|apply Kd.R_drew));exact Kd.R_mono (Kd.R_far (p:=⟨gb351,2,none⟩) (Kd.R_far (p:=⟨gb351,1,none⟩) (Kd.R_far (p:=⟨gb351,0,none⟩) (Kd.R_types HO_8.out BK351.out (by decide)) (fun _ hk=>hk.2) (.int .i64 ((rd_T36 (rd_L6 t336 x25_1) x79_3).f0))) (fun _ hk=>hk.2) (.int .i64 ((rd_T36 (rd_L6 t336 x25_1) x79_3).f1))) (fun _ hk=>hk.2) (.bool false)) (fun _ hk=>trivial)⟩,⟨by (with_reducible repeat (first|apply Kd.N_alloc|apply Kd.N_drewN|apply Kd.N_drew));exact Kd.N_mono (Kd.N_far (p:=⟨gb351,2,none⟩) (Kd.N_far (p:=⟨gb351,1,none⟩) (Kd.N_far (p:=⟨gb351,0,none⟩) (Kd.N_mono HO_23.out (fun k_ hk=>(⟨hk,hk.2⟩ : _∧k_ ≠ gb351))) (fun _ hk=>hk.2) (.int .i64 ((rd_T36 (rd_L6 t336 x25_1) x79_3).f0))) (fun _ hk=>hk.2) (.int .i64 ((rd_T36 (rd_L6 t336 x25_1) x79_3).f1))) (fun _ hk=>hk.2) (.bool false)) (fun _ hk=>⟨hk.1.1.1,⟨hk.1.1.2.1,hk.1.1.2.2⟩⟩)⟩,⟨by (with_reducible repeat (first|apply Kd.V_alloc|apply Kd.V_drewN|apply Kd.V_drew));exact Kd.V_mono (Kd.V_far (p:=⟨gb351,2,none⟩) (Kd.V_far (p:=⟨gb351,1,none⟩) (Kd.V_far (p:=⟨gb351,0,none⟩) (Kd.V_mono HO_77.out (fun k_ hk=>(⟨hk,hk.2⟩ : _∧k_ ≠ gb351))) (fun _ hk=>hk.2) (.int .i64 ((rd_T36 (rd_L6 t336 x25_1) x79_3).f0))) (fun _ hk=>hk.2) (.int .i64 ((rd_T36 (rd_L6 t336 x25_1) x79_3).f1))) (fun _ hk=>hk.2) (.bool false)) (fun _ hk=>⟨hk.1.1.1,⟨hk.1.1.2.1,⟨hk.1.1.2.2.1,hk.1.1.2.2.2⟩⟩⟩)⟩,⟨by (with_reducible repeat first|apply kN|apply kD|apply kA);refine blk_far ?_ NB327_351.out _;(with_reducible repeat first|apply kN|apply kD|apply kA);refine blk_far ?_ NB327_351.out _;(with_reducible repeat first|apply kN|apply kD|apply kA);refine blk_far ?_ NB327_351.out _;(with_reducible repeat first|apply kN|apply kD|apply kA);exact BK327.out⟩,⟨by (with_reducible repeat first|apply kN|apply kD|apply kA);refine blk_far ?_ NB335_351.out _;(with_reducible repeat first|apply kN|apply kD|apply kA);refine blk_far ?_ NB335_351.out _;(with_reducible repeat first|apply kN|apply kD|apply kA);refine blk_far ?_ NB335_351.out _;(with_reducible repeat first|apply kN|apply kD|apply kA);exact BK335.out⟩,⟨by repeat (first|(with_reducible first|exact HB.out|apply bAl|apply bDN|apply bD1|refine bSe ?_ GE327.out|refine bSe ?_ GE335.out|refine bSe ?_ GE351.out)|exact HB.out)⟩⟩
                ·rw [if_neg c80] at H
                 exact absurd H (by simp)
               ·rw [if_neg c79] at H
                exact absurd H (by simp)
              ·rw [if_neg c78] at H
               have c78b0 : decide (x79_3 < ((rd_L6 t336 x25_1).length : Int))=false:=decide_eq_false c78
               clear c78
               have H':=amk H
               clear H
               go_wp2
               go_roundg k3
               case measure=>have:=HK1.out;have:=HK2.out;have:=HK3.out;omega
               case rel=>exact ⟨(wrap64 (x25_1+1)),(by first|rfl|(simp;done)|(simp [*];done)),H',⟨by have:=HK1.out;have:=HK2.out;have:=HK3.out;omega⟩,⟨by (with_reducible repeat (first|apply Kd.N_alloc|apply Kd.N_drewN|apply Kd.N_drew));exact Kd.N_mono HO_23.out (fun _ hk=>⟨hk.2.1,hk.2.2⟩)⟩,⟨by (with_reducible repeat first|apply kN|apply kD|apply kA);exact BK327.out⟩,⟨by (with_reducible repeat first|apply kN|apply kD|apply kA);exact BK335.out⟩,⟨by repeat (first|(with_reducible first|exact HB.out|apply bAl|apply bDN|apply bD1|refine bSe ?_ GE327.out|refine bSe ?_ GE335.out)|exact HB.out)⟩⟩
      ·rw [if_neg c18] at H
       exact absurd H (by simp)
     ·rw [if_neg c17] at H
      exact absurd H (by simp)
    ·rw [if_neg c16] at H
     have c16b0 : decide (x25_1 < (t336.length : Int))=false:=decide_eq_false c16
     clear c16
     obtain rfl:=Option.some.inj H
     go_wp2
     go_ret
     exact ⟨by first|rfl|(simp [errW_none,errW_some] <;> rfl)|(simp [*,errW_none,errW_some] <;> rfl),by repeat (first|(with_reducible first|exact HB.out|apply bAl|apply bDN|apply bD1|refine bSe ?_ GE327.out|refine bSe ?_ GE335.out)|exact HB.out)⟩
 ·replace c4:=Bool.eq_false_iff.mpr c4
  subst c4
  have H1 : (some false)=some r:=by rw [if_neg (show ¬ (false=true) by decide)] at H;exact H
  clear H
  have H:=H1
  clear H1
  obtain rfl:=Option.some.inj H
  go_enter Try.func3,Try.ntmps3
  go_wp2_with (first|((with_reducible refine gate_dst (N:=3) rfl ?_);refine box_event ?hg (N:=3) ?hd (cs:=#[.int .i64 a1_0,.int .i64 a1_1,.int .i64 a1_2,.int .i64 a1_3,.int .i64 a1_4,.int .i64 a1_5]) (t:=23) ?hr ?_;(case hd=>rfl);(case hg=>rfl);(case hr=>first|(go_simp;done)|(go_simp;rfl));intro gb327 hg w120 hbox hb;have n0_:=amk (below_step (by repeat (first|(with_reducible first|exact HB.out|apply bAl|apply bDN|apply bD1)|exact HB.out)) hb);have n1_:=amk (hbox);have n2_:=amk ((by rw [hg];exact (below_size (by repeat (first|(with_reducible first|exact HB.out|apply bAl|apply bDN|apply bD1)|exact HB.out))) : w.heap.size≤gb327));have n3_:=amk ((by rw [hg];exact (below_size (by repeat (first|(with_reducible first|exact HB.out|apply bAl|apply bDN|apply bD1)|exact HB.out))) : w.heap.size≤gb327));clear HB;have HB:=n0_;have BK327:=n1_;have GW327:=n2_;have GE327:=n3_;clear n0_ n1_ n2_ n3_;clear hb hbox hg)|((with_reducible refine gate_callee (f:=7) rfl ?_);refine goesL_ (some 18) rfl rfl Try.func7 (by kernel_rfl) rfl #[] rfl (by (try simp only [List.map_toArray,List.map_cons,List.map_nil]);first|done|rfl|(simp only [List.length_drop,List.length_take];rfl)) ?_;(with_reducible refine (versallaw17_known.calls k  false _ A3.out).mono ?_);rintro e w121 ⟨rfl,hb⟩;refine ⟨_,rfl,?_⟩;have n0_:=amk (blk_below (g:=gb327) (o:=.cells #[.int .i64 a1_0,.int .i64 a1_1,.int .i64 a1_2,.int .i64 a1_3,.int .i64 a1_4,.int .i64 a1_5] 23 (0,0)) (by (with_reducible repeat first|apply kN|apply kD|apply kA);exact BK327.out) hb);have n1_:=amk (below_step (by repeat (first|(with_reducible first|exact HB.out|apply bAl|apply bDN|apply bD1|refine bSe ?_ GE327.out)|exact HB.out)) hb);clear BK327;clear HB;have BK327:=n0_;have HB:=n1_;clear n0_ n1_;(try clear hb);(try clear hb2);(try clear hk);(try clear hi)))
  go_ret
  exact ⟨by first|rfl|(simp [errW_none,errW_some] <;> rfl)|(simp [*,errW_none,errW_some] <;> rfl),by repeat (first|(with_reducible first|exact HB.out|apply bAl|apply bDN|apply bD1|refine bSe ?_ GE327.out)|exact HB.out)⟩

/-- THE ONE PURE STATEMENT of versallaw17_FlatRounds: yours. -/
def versallaw17_FlatRounds.Pure : Prop:=∀ (l0 : List Int) (a1_0 : Int) (a1_1 : Int) (a1_2 : Int) (a1_3 : Int) (a1_4 : Int) (a1_5 : Int),l0.length≤maxLen → l0.length * 8≤140737488351232 → (∀ x ∈ l0,(Lit.int .i64 x).wf=true) → (Lit.int .i64 a1_0).wf=true → (Lit.int .i64 a1_1).wf=true → (Lit.int .i64 a1_2).wf=true → (Lit.int .i64 a1_3).wf=true → (Lit.int .i64 a1_4).wf=true → (Lit.int .i64 a1_5).wf=true → ∃ k,versallaw17_FlatRounds.f k l0 a1_0 a1_1 a1_2 a1_3 a1_4 a1_5=some true
theorem versallaw17_FlatRounds.walk (P : versallaw17_FlatRounds.Pure) (a0 : Option Addr) (len0 cap0 : Nat) (z0 : List Int) (a1_0 : Int) (a1_1 : Int) (a1_2 : Int) (a1_3 : Int) (a1_4 : Int) (a1_5 : Int) (w : World) (w0 : (a0=none∧len0=0∧cap0=0∧z0=[]) ∨ ∃ x,a0=some x∧len0≤cap0∧cap0≤maxLen∧z0.length=cap0∧(∀ i,i < z0.length → w.cell? (x.add i)=some (.int .i64 (z0.getD i 0)))∧∀ n ∈ z0,(Lit.int .i64 n).wf=true) (y0 : len0 * 8≤140737488351232) (w1_0 : (Lit.int .i64 a1_0).wf=true) (w1_1 : (Lit.int .i64 a1_1).wf=true) (w1_2 : (Lit.int .i64 a1_2).wf=true) (w1_3 : (Lit.int .i64 a1_3).wf=true) (w1_4 : (Lit.int .i64 a1_4).wf=true) (w1_5 : (Lit.int .i64 a1_5).wf=true) :
  Calls Try.prog 3 #[.slice a0 len0 cap0,.agg #[.int .i64 a1_0,.int .i64 a1_1,.int .i64 a1_2,.int .i64 a1_3,.int .i64 a1_4,.int .i64 a1_5]] w fun e w'=>e=.returned (.bool true)∧Below w.heap.size w w':=by
 obtain ⟨l0,rfl,hr0,hm0,hw0,hc0⟩:=ReadsInt.ofRowC w0
 obtain ⟨k,h⟩:=P l0 a1_0 a1_1 a1_2 a1_3 a1_4 a1_5 hm0 y0 hw0 w1_0 w1_1 w1_2 w1_3 w1_4 w1_5
 refine (versallaw17_FlatRounds.calls k _ _ l0 a1_0 a1_1 a1_2 a1_3 a1_4 a1_5 true w (Kd.C_of_reads (d:=(0 : Int)) (h1:=fun _=>rfl) hr0) hc0 h).mono ?_
 rintro e w' ⟨rfl,hd⟩
 exact ⟨rfl,hd⟩

end Go.Proofs.Ytjmflccbddjlhaa.PFm
