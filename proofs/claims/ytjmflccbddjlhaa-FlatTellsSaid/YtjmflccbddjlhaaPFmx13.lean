-- WRITTEN BY A PROGRAM OF THIS SESSION (wip/xprint) out of the translation. Not trusted: Lean checks it.
import Derived.Test.YtjmflccbddjlhaaPFmx0
import Derived.Test.YtjmflccbddjlhaaPFmx10
import Derived.Test.YtjmflccbddjlhaaPFmx12
namespace Go.Proofs.Ytjmflccbddjlhaa.PFm
open Go.RowKit Go.Proofs.YtjmflccbddjlhaaW.PrintWords Go.Proofs.YtjmflccbddjlhaaW.PrintLast Go.Proofs.YtjmflccbddjlhaaW.PrintMore
attribute [local go_sem] max2_int min2_int max_two min_two max_three min_three max_four min_four   -- for this text's walks alone
set_option linter.unusedVariables false
set_option linter.unusedSimpArgs false

/-! ### versalref14_contour: function 36 -/
mutual
def versalref14_contour.l0 : Nat → List (S36) → Int → List (S100) → Int → Int → Int → Int → Int → Int → Int → Option ((List (S34)))
 | 0,_,_,_,_,_,_,_,_,_,_=>none
 | k+1,x0,x5,x6,x7,x380000,x380001,x380002,x380003,x380004,x380005=>if x7 < x5 then (if 0≤x7 then (if x7 < (x0.length : Int) then ((versalref2_Whole.f ((rd_T36 x0 x7).f0)).bind fun t383=>((versalref2_Whole.f ((rd_T36 x0 x7).f1)).bind fun t385=>((versalref2_Apply.f x380000 x380001 x380002 x380003 x380004 x380005 t383 t385).bind fun bt386=>(if x6.length < 5864062014805 then (versalref14_contour.l0 k x0 x5 (x6 ++ [(⟨(⟨bt386.1,bt386.2⟩ : S41),(rd_T36 x0 x7).f2,true⟩ : S100)]) (wrap64 (x7+1)) x380000 x380001 x380002 x380003 x380004 x380005) else (none))))) else (none)) else (none)) else (versalref14_contour.l1 k x5 x6 ([] : List (S100)) 0)
def versalref14_contour.l1 : Nat → Int → List (S100) → List (S100) → Int → Option ((List (S34)))
 | 0,_,_,_,_=>none
 | k+1,x5,x6,x9,x10=>if x10 < x5 then (if x5=0 then (none) else (if 0≤(Int.tmod (wrap64 ((wrap64 (x10+x5)) - 1)) x5) then (if (Int.tmod (wrap64 ((wrap64 (x10+x5)) - 1)) x5) < (x6.length : Int) then (if ((rd_T100 x6 (Int.tmod (wrap64 ((wrap64 (x10+x5)) - 1)) x5)).f1=true) then (if 0≤x10 then (if x10 < (x6.length : Int) then (if x9.length < 5864062014805 then (versalref14_contour.l1 k x5 x6 (x9 ++ [(⟨(⟨(rd_T100 x6 x10).f0.f0,(rd_T100 x6 x10).f0.f1⟩ : S41),(rd_T100 x6 x10).f1,(rd_T100 x6 x10).f2⟩ : S100)]) (wrap64 (x10+1))) else (none)) else (none)) else (none)) else (if 0≤x10 then (if x10 < (x6.length : Int) then (if ((rd_T100 x6 x10).f1=true) then (if x9.length < 5864062014805 then (versalref14_contour.l1 k x5 x6 (x9 ++ [(⟨(⟨(rd_T100 x6 x10).f0.f0,(rd_T100 x6 x10).f0.f1⟩ : S41),(rd_T100 x6 x10).f1,(rd_T100 x6 x10).f2⟩ : S100)]) (wrap64 (x10+1))) else (none)) else ((versalref14_middle.f ((rd_T100 x6 (Int.tmod (wrap64 ((wrap64 (x10+x5)) - 1)) x5)).f0.f0) ((rd_T100 x6 (Int.tmod (wrap64 ((wrap64 (x10+x5)) - 1)) x5)).f0.f1) ((rd_T100 x6 x10).f0.f0) ((rd_T100 x6 x10).f0.f1)).bind fun bt403=>(if x9.length < 5864062014805 then ((some (x9 ++ [(⟨(⟨bt403.1,bt403.2⟩ : S41),true,false⟩ : S100)] : List (S100))).bind fun y405=>(if y405.length < 5864062014805 then (versalref14_contour.l1 k x5 x6 (y405 ++ [(⟨(⟨(rd_T100 x6 x10).f0.f0,(rd_T100 x6 x10).f0.f1⟩ : S41),(rd_T100 x6 x10).f1,(rd_T100 x6 x10).f2⟩ : S100)]) (wrap64 (x10+1))) else (none))) else (none)))) else (none)) else (none))) else (none)) else (none))) else (versalref14_contour.l2 k x9 0 (wrap64 ((x9.length : Int) - 1)))
def versalref14_contour.l2 : Nat → List (S100) → Int → Int → Option ((List (S34)))
 | 0,_,_,_=>none
 | k+1,x9,x12,x13=>if x13 ≥ 0 then (if 0≤x13 then (if x13 < (x9.length : Int) then (if (rd_T100 x9 x13).f1=true then (if (rd_T100 x9 x13).f2=true then (versalref14_contour.l2 k x9 x13 (wrap64 (x13 - 1))) else (versalref14_contour.l2 k x9 x12 (wrap64 (x13 - 1)))) else (versalref14_contour.l2 k x9 x12 (wrap64 (x13 - 1)))) else (none)) else (none)) else (versalref14_contour.l3 k x9 x12 ([] : List (S34)) 0)
def versalref14_contour.l3 : Nat → List (S100) → Int → List (S34) → Int → Option ((List (S34)))
 | 0,_,_,_,_=>none
 | k+1,x9,x12,x14,x15=>if x15 < (x9.length : Int) then (if (x9.length : Int)=0 then (none) else (if 0≤(Int.tmod (wrap64 (x12+x15)) (x9.length : Int)) then (if (Int.tmod (wrap64 (x12+x15)) (x9.length : Int)) < (x9.length : Int) then (if 0≤(Int.tmod (wrap64 ((wrap64 (x12+x15))+1)) (x9.length : Int)) then (if (Int.tmod (wrap64 ((wrap64 (x12+x15))+1)) (x9.length : Int)) < (x9.length : Int) then (if (rd_T100 x9 (Int.tmod (wrap64 ((wrap64 (x12+x15))+1)) (x9.length : Int))).f1=true then (if x14.length < 4398046511104 then (versalref14_contour.l3 k x9 x12 (x14 ++ [(⟨(rd_T100 x9 (Int.tmod (wrap64 (x12+x15)) (x9.length : Int))).f0.f0,(rd_T100 x9 (Int.tmod (wrap64 (x12+x15)) (x9.length : Int))).f0.f1,(rd_T100 x9 (Int.tmod (wrap64 ((wrap64 (x12+x15))+1)) (x9.length : Int))).f0.f0,(rd_T100 x9 (Int.tmod (wrap64 ((wrap64 (x12+x15))+1)) (x9.length : Int))).f0.f1⟩ : S34)]) (wrap64 (x15+1))) else (none)) else (if 0≤(Int.tmod (wrap64 ((wrap64 (x12+x15))+2)) (x9.length : Int)) then (if (Int.tmod (wrap64 ((wrap64 (x12+x15))+2)) (x9.length : Int)) < (x9.length : Int) then ((versalref14_Curve.f k ((rd_T100 x9 (Int.tmod (wrap64 (x12+x15)) (x9.length : Int))).f0.f0) ((rd_T100 x9 (Int.tmod (wrap64 (x12+x15)) (x9.length : Int))).f0.f1) ((rd_T100 x9 (Int.tmod (wrap64 ((wrap64 (x12+x15))+1)) (x9.length : Int))).f0.f0) ((rd_T100 x9 (Int.tmod (wrap64 ((wrap64 (x12+x15))+1)) (x9.length : Int))).f0.f1) ((rd_T100 x9 (Int.tmod (wrap64 ((wrap64 (x12+x15))+2)) (x9.length : Int))).f0.f0) ((rd_T100 x9 (Int.tmod (wrap64 ((wrap64 (x12+x15))+2)) (x9.length : Int))).f0.f1)).bind fun t422=>(if x14.length+t422.length < 4398046511104 then (versalref14_contour.l3 k x9 x12 (x14 ++ t422) (wrap64 (x15+2))) else (none))) else (none)) else (none))) else (none)) else (none)) else (none)) else (none))) else (some x14)
end
def versalref14_contour.f (k : Nat) (l0 : List (S36)) (a1_0 : Int) (a1_1 : Int) (a1_2 : Int) (a1_3 : Int) (a1_4 : Int) (a1_5 : Int) : Option ((List (S34))):=if (l0.length : Int) < 2 then (some ([] : List (S34))) else (versalref14_contour.l0 k l0 (l0.length : Int) ([] : List (S100)) 0 a1_0 a1_1 a1_2 a1_3 a1_4 a1_5)
theorem versalref14_contour.mono_l : ∀ k,(∀ y0 y1 y2 y3 y4 y5 y6 y7 y8 y9,LeO (versalref14_contour.l0 k y0 y1 y2 y3 y4 y5 y6 y7 y8 y9) (versalref14_contour.l0 (k+1) y0 y1 y2 y3 y4 y5 y6 y7 y8 y9))∧(∀ y0 y1 y2 y3,LeO (versalref14_contour.l1 k y0 y1 y2 y3) (versalref14_contour.l1 (k+1) y0 y1 y2 y3))∧(∀ y0 y1 y2,LeO (versalref14_contour.l2 k y0 y1 y2) (versalref14_contour.l2 (k+1) y0 y1 y2))∧(∀ y0 y1 y2 y3,LeO (versalref14_contour.l3 k y0 y1 y2 y3) (versalref14_contour.l3 (k+1) y0 y1 y2 y3))
 | 0=>⟨fun _ _ _ _ _ _ _ _ _ _ r h=>by simp [versalref14_contour.l0] at h,fun _ _ _ _ r h=>by simp [versalref14_contour.l1] at h,fun _ _ _ r h=>by simp [versalref14_contour.l2] at h,fun _ _ _ _ r h=>by simp [versalref14_contour.l3] at h⟩
 | k+1=>by
  obtain ⟨ih0,ih1,ih2,ih3⟩:=versalref14_contour.mono_l k
  refine ⟨?_,?_,?_,?_⟩
  ·intro y0 y1 y2 y3 y4 y5 y6 y7 y8 y9
   unfold versalref14_contour.l0
   repeat' first
   | (with_reducible exact ih0 _ _ _ _ _ _ _ _ _ _)
   | (with_reducible exact ih1 _ _ _ _)
   | (with_reducible exact ih2 _ _ _)
   | (with_reducible exact ih3 _ _ _ _)
   | (with_reducible exact versalref14_Curve.mono _ _ _ _ _ _ _)
   | (with_reducible exact LeO.refl _)
   | (with_reducible exact LeO.none _)
   | (with_reducible refine LeO.ite ?_ ?_)
   | (with_reducible refine LeO.bind ?_ (fun _=>?_))
   | exact ih0 _ _ _ _ _ _ _ _ _ _
   | exact ih1 _ _ _ _
   | exact ih2 _ _ _
   | exact ih3 _ _ _ _
   | exact versalref14_Curve.mono _ _ _ _ _ _ _
   | exact LeO.none _
   | refine LeO.ite ?_ ?_
   | refine LeO.bind ?_ (fun _=>?_)
  ·intro y0 y1 y2 y3
   unfold versalref14_contour.l1
   repeat' first
   | (with_reducible exact ih0 _ _ _ _ _ _ _ _ _ _)
   | (with_reducible exact ih1 _ _ _ _)
   | (with_reducible exact ih2 _ _ _)
   | (with_reducible exact ih3 _ _ _ _)
   | (with_reducible exact versalref14_Curve.mono _ _ _ _ _ _ _)
   | (with_reducible exact LeO.refl _)
   | (with_reducible exact LeO.none _)
   | (with_reducible refine LeO.ite ?_ ?_)
   | (with_reducible refine LeO.bind ?_ (fun _=>?_))
   | exact ih0 _ _ _ _ _ _ _ _ _ _
   | exact ih1 _ _ _ _
   | exact ih2 _ _ _
   | exact ih3 _ _ _ _
   | exact versalref14_Curve.mono _ _ _ _ _ _ _
   | exact LeO.none _
   | refine LeO.ite ?_ ?_
   | refine LeO.bind ?_ (fun _=>?_)
  ·intro y0 y1 y2
   unfold versalref14_contour.l2
   repeat' first
   | (with_reducible exact ih0 _ _ _ _ _ _ _ _ _ _)
   | (with_reducible exact ih1 _ _ _ _)
   | (with_reducible exact ih2 _ _ _)
   | (with_reducible exact ih3 _ _ _ _)
   | (with_reducible exact versalref14_Curve.mono _ _ _ _ _ _ _)
   | (with_reducible exact LeO.refl _)
   | (with_reducible exact LeO.none _)
   | (with_reducible refine LeO.ite ?_ ?_)
   | (with_reducible refine LeO.bind ?_ (fun _=>?_))
   | exact ih0 _ _ _ _ _ _ _ _ _ _
   | exact ih1 _ _ _ _
   | exact ih2 _ _ _
   | exact ih3 _ _ _ _
   | exact versalref14_Curve.mono _ _ _ _ _ _ _
   | exact LeO.none _
   | refine LeO.ite ?_ ?_
   | refine LeO.bind ?_ (fun _=>?_)
  ·intro y0 y1 y2 y3
   unfold versalref14_contour.l3
   repeat' first
   | (with_reducible exact ih0 _ _ _ _ _ _ _ _ _ _)
   | (with_reducible exact ih1 _ _ _ _)
   | (with_reducible exact ih2 _ _ _)
   | (with_reducible exact ih3 _ _ _ _)
   | (with_reducible exact versalref14_Curve.mono _ _ _ _ _ _ _)
   | (with_reducible exact LeO.refl _)
   | (with_reducible exact LeO.none _)
   | (with_reducible refine LeO.ite ?_ ?_)
   | (with_reducible refine LeO.bind ?_ (fun _=>?_))
   | exact ih0 _ _ _ _ _ _ _ _ _ _
   | exact ih1 _ _ _ _
   | exact ih2 _ _ _
   | exact ih3 _ _ _ _
   | exact versalref14_Curve.mono _ _ _ _ _ _ _
   | exact LeO.none _
   | refine LeO.ite ?_ ?_
   | refine LeO.bind ?_ (fun _=>?_)
theorem versalref14_contour.mono : ∀ a0 a1 a2 a3 a4 a5 a6 k,LeO (versalref14_contour.f k a0 a1 a2 a3 a4 a5 a6) (versalref14_contour.f (k+1) a0 a1 a2 a3 a4 a5 a6):=by
 intro a0 a1 a2 a3 a4 a5 a6 k
 obtain ⟨ih0,ih1,ih2,ih3⟩:=versalref14_contour.mono_l k
 unfold versalref14_contour.f
 repeat' first
   | (with_reducible exact ih0 _ _ _ _ _ _ _ _ _ _)
   | (with_reducible exact ih1 _ _ _ _)
   | (with_reducible exact ih2 _ _ _)
   | (with_reducible exact ih3 _ _ _ _)
   | (with_reducible exact versalref14_Curve.mono _ _ _ _ _ _ _)
   | (with_reducible exact LeO.refl _)
   | (with_reducible exact LeO.none _)
   | (with_reducible refine LeO.ite ?_ ?_)
   | (with_reducible refine LeO.bind ?_ (fun _=>?_))
   | exact ih0 _ _ _ _ _ _ _ _ _ _
   | exact ih1 _ _ _ _
   | exact ih2 _ _ _
   | exact ih3 _ _ _ _
   | exact versalref14_Curve.mono _ _ _ _ _ _ _
   | exact LeO.none _
   | refine LeO.ite ?_ ?_
   | refine LeO.bind ?_ (fun _=>?_)
def versalref14_contour.T9 : Bool × List (List Nat × List Nat):=(true,[([],[]),([],[]),([],[]),([1,2],[1,2]),([3],[3]),([4],[4]),([5],[5]),([],[]),([],[]),([7,8],[7,8]),([9],[9]),([10],[10]),([11,6],[11]),([0,6,12,12],[0,6,12]),([13],[13]),([14],[14]),([14],[14]),([],[]),([17,0,1,2,3,4,5,6,7,8,9,10,11,12,13,14,15],[17]),([18,15,13,0,1,2,3,4,5,6,7,8,9,10,11,12,13,14,15],[15,18]),([],[]),([20,0,1,2,3,4,5,6,7,8,9,10,11,12,13,14,15,16,17,18,19],[20]),([21,16,19,0,1,2,3,4,5,6,7,8,9,10,11,12,13,14,15,16,17,18,19],[16,21])])
def versalref14_contour.B9 : List Nat:=[0,0,0,6,14,30,62,0,0,384,896,1920,4094,8191,16383,32767,32767,0,196607,458751,0,2097151,4194303]
theorem versalref14_contour.tab9 : rtab .any (opsOf Try.f36 9)=versalref14_contour.T9:=by kernel_rfl
theorem versalref14_contour.bits9 : waitsOk versalref14_contour.T9.2 versalref14_contour.B9=true:=by kernel_rfl
def versalref14_contour.T17 : Bool × List (List Nat × List Nat):=(true,[([],[]),([],[]),([1],[1]),([],[]),([],[]),([3,4],[3,4]),([5],[5]),([6],[6]),([2,7],[2,7]),([8],[8]),([9],[9]),([0,10,8],[0,10]),([11,11,0,1,2,3,4,5,6,7,8,9,10,11],[0,11])])
def versalref14_contour.B17 : List Nat:=[0,0,2,0,0,24,56,120,254,510,1022,2047,4095]
theorem versalref14_contour.tab17 : rtab .any (opsOf Try.f36 17)=versalref14_contour.T17:=by kernel_rfl
theorem versalref14_contour.bits17 : waitsOk versalref14_contour.T17.2 versalref14_contour.B17=true:=by kernel_rfl
def versalref14_contour.T33 : Bool × List (List Nat × List Nat):=(true,[([],[]),([],[]),([1],[1]),([],[]),([3],[3]),([],[]),([],[]),([],[]),([6,7],[6,7]),([8],[8]),([],[]),([10],[10]),([9,11],[9,11]),([5,12],[5,12]),([13],[13]),([14],[14]),([2,4,15],[2,4,15]),([0,16,16],[0,16]),([17,17,0,1,2,3,4,5,6,7,8,9,10,11,12,13,14,15,16,17],[0,17])])
def versalref14_contour.B33 : List Nat:=[0,0,2,0,8,0,0,0,192,448,0,1024,4032,8160,16352,32736,65534,131071,262143]
theorem versalref14_contour.tab33 : rtab .any (opsOf Try.f36 33)=versalref14_contour.T33:=by kernel_rfl
theorem versalref14_contour.bits33 : waitsOk versalref14_contour.T33.2 versalref14_contour.B33=true:=by kernel_rfl
set_option maxHeartbeats 8000000 in
set_option maxRecDepth 100000 in
theorem versalref14_contour.calls (k : Nat) (A0 : Option Addr) (c0 : Nat) (l0 : List (S36)) (a1_0 : Int) (a1_1 : Int) (a1_2 : Int) (a1_3 : Int) (a1_4 : Int) (a1_5 : Int) (r : List (S34)) (w : World) (hr0 : Kd.C k36 w A0 l0.length l0) (hc0 : l0.length≤c0) (h : versalref14_contour.f k l0 a1_0 a1_1 a1_2 a1_3 a1_4 a1_5=some r) :
  Calls Try.prog 36 #[.slice A0 l0.length c0,.agg #[.int .i64 a1_0,.int .i64 a1_1,.int .i64 a1_2,.int .i64 a1_3,.int .i64 a1_4,.int .i64 a1_5]] w fun e w'=>∃ v0_ : Value,e=.returned (v0_)∧Kd.R k34 34 w' w.heap.size (fun _=>True) v0_ r∧Below w.heap.size w w':=by
 have hu26:=Try.underlying26
 have hu100:=Try.underlying100
 have hu41:=Try.underlying41
 have hu34:=Try.underlying34
 have HR0:=amk hr0
 have HC0:=amk hc0
 clear hr0 hc0
 have HB:=amk (Below.refl w.heap.size w)
 have H : (if (l0.length : Int) < 2 then (some ([] : List (S34))) else (versalref14_contour.l0 k l0 (l0.length : Int) ([] : List (S100)) 0 a1_0 a1_1 a1_2 a1_3 a1_4 a1_5))=some r:=h
 clear h
 by_cases c3 : (l0.length : Int) < 2
 ·rw [if_pos c3] at H
  have c3b0 : decide ((l0.length : Int) < 2)=true:=decide_eq_true c3
  have c3b1 : decide (l0.length < 2)=true:=decide_eq_true (by omega)
  clear c3
  obtain rfl:=Option.some.inj H
  go_enter Try.func36,Try.ntmps36
  go_wp2_with (first|((with_reducible refine gate_dst (N:=3) rfl ?_);refine box_event ?hg (N:=3) ?hd (cs:=#[.int .i64 a1_0,.int .i64 a1_1,.int .i64 a1_2,.int .i64 a1_3,.int .i64 a1_4,.int .i64 a1_5]) (t:=26) ?hr ?_;(case hd=>rfl);(case hg=>rfl);(case hr=>first|(go_simp;done)|(go_simp;rfl));intro gb379 hg w4 hbox hb;have n0_:=amk (below_step (by repeat (first|(with_reducible first|exact HB.out|apply bAl|apply bDN|apply bD1)|exact HB.out)) hb);have n1_:=amk (hbox);have n2_:=amk ((by rw [hg];exact (below_size (by repeat (first|(with_reducible first|exact HB.out|apply bAl|apply bDN|apply bD1)|exact HB.out))) : w.heap.size≤gb379));have n3_:=amk ((by rw [hg];exact (below_size (by repeat (first|(with_reducible first|exact HB.out|apply bAl|apply bDN|apply bD1)|exact HB.out))) : w.heap.size≤gb379));clear HB;have HB:=n0_;have BK379:=n1_;have GW379:=n2_;have GE379:=n3_;clear n0_ n1_ n2_ n3_;clear hb hbox hg))
  go_ret
  exact ⟨_,by first|rfl|(simp [errW_none,errW_some] <;> rfl)|(simp [*,errW_none,errW_some] <;> rfl),by first|exact Kd.R_nil _ _ _ _ _|exact Kd.N_nil _ _ _ _ _|exact Kd.V_nil _ _ _ _ _|exact Kd.Q_nil _ _ _ _ _|exact Kd.S_nil _ _ _ _ _,by repeat (first|(with_reducible first|exact HB.out|apply bAl|apply bDN|apply bD1|refine bSe ?_ GE379.out)|exact HB.out)⟩
 ·rw [if_neg c3] at H
  have c3b0 : decide ((l0.length : Int) < 2)=false:=decide_eq_false c3
  have c3b1 : decide (l0.length < 2)=false:=decide_eq_false (by omega)
  clear c3
  have H':=amk H
  clear H
  go_enter Try.func36,Try.ntmps36
  go_wp2_with (first|((with_reducible refine gate_dst (N:=3) rfl ?_);refine box_event ?hg (N:=3) ?hd (cs:=#[.int .i64 a1_0,.int .i64 a1_1,.int .i64 a1_2,.int .i64 a1_3,.int .i64 a1_4,.int .i64 a1_5]) (t:=26) ?hr ?_;(case hd=>rfl);(case hg=>rfl);(case hr=>first|(go_simp;done)|(go_simp;rfl));intro gb379 hg w5 hbox hb;have n0_:=amk (below_step (by repeat (first|(with_reducible first|exact HB.out|apply bAl|apply bDN|apply bD1)|exact HB.out)) hb);have n1_:=amk (hbox);have n2_:=amk ((by rw [hg];exact (below_size (by repeat (first|(with_reducible first|exact HB.out|apply bAl|apply bDN|apply bD1)|exact HB.out))) : w.heap.size≤gb379));have n3_:=amk ((by rw [hg];exact (below_size (by repeat (first|(with_reducible first|exact HB.out|apply bAl|apply bDN|apply bD1)|exact HB.out))) : w.heap.size≤gb379));clear HB;have HB:=n0_;have BK379:=n1_;have GW379:=n2_;have GE379:=n3_;clear n0_ n1_ n2_ n3_;clear hb hbox hg))
  go_loopg [6,7] k (fun kq v6 v7 w'=>∃ (x6_1 : List (S100)) (x7_1 : Int),v7=.int .i64 x7_1∧Aside0 (versalref14_contour.l0 kq l0 (l0.length : Int) x6_1 x7_1 a1_0 a1_1 a1_2 a1_3 a1_4 a1_5=some r)∧Aside0 (kq≤k)∧Aside0 (Kd.R k100 100 w' w.heap.size (fun _=>True) v6 x6_1)∧Aside0 (w'.heap[gb379]?=some (.cells #[.int .i64 a1_0,.int .i64 a1_1,.int .i64 a1_2,.int .i64 a1_3,.int .i64 a1_4,.int .i64 a1_5] 26 (0,0)))∧Aside0 (Below w.heap.size w w'))
  case atStart=>exact ⟨(([] : List (S100))),(0),(by first|rfl|(simp;done)|(simp [*];done)),H',⟨Nat.le_refl _⟩,⟨by first|exact Kd.R_nil _ _ _ _ _|exact Kd.N_nil _ _ _ _ _|exact Kd.V_nil _ _ _ _ _|exact Kd.Q_nil _ _ _ _ _|exact Kd.S_nil _ _ _ _ _⟩,⟨by (with_reducible repeat first|apply kN|apply kD|apply kA);exact BK379.out⟩,⟨by repeat (first|(with_reducible first|exact HB.out|apply bAl|apply bDN|apply bD1|refine bSe ?_ GE379.out)|exact HB.out)⟩⟩
  case round =>
   clear H'
   try clear p2
   try clear c3
   try clear c3b0
   try clear c3b1
   obtain ⟨x6_1,x7_1,rfl,HA,HK1,HO_6,BK379,HB⟩:=hrel
   cases gk with
   | zero=>exact absurd HA.out (by simp [versalref14_contour.l0])
   | succ k1 =>
    have H:=HA.out
    clear HA
    simp only [versalref14_contour.l0] at H
    by_cases c6 : x7_1 < (l0.length : Int)
    ·rw [if_pos c6] at H
     have c6b0 : decide (x7_1 < (l0.length : Int))=true:=decide_eq_true c6
     clear c6
     by_cases c7 : 0≤x7_1
     ·rw [if_pos c7] at H
      have c7b0 : decide (0≤x7_1)=true:=decide_eq_true c7
      clear c7
      by_cases c8 : x7_1 < (l0.length : Int)
      ·rw [if_pos c8] at H
       have c8b0 : decide (x7_1 < (l0.length : Int))=true:=decide_eq_true c8
       clear c8
       replace H:=Option.bind_eq_some_iff.mp H
       obtain ⟨t383,A90,H⟩:=H
       replace H : ((versalref2_Whole.f ((rd_T36 l0 x7_1).f1)).bind fun t385=>((versalref2_Apply.f a1_0 a1_1 a1_2 a1_3 a1_4 a1_5 t383 t385).bind fun bt386=>(if x6_1.length < 5864062014805 then (versalref14_contour.l0 k1 l0 (l0.length : Int) (x6_1 ++ [(⟨(⟨bt386.1,bt386.2⟩ : S41),(rd_T36 l0 x7_1).f2,true⟩ : S100)]) (wrap64 (x7_1+1)) a1_0 a1_1 a1_2 a1_3 a1_4 a1_5) else (none))))=some r:=H
       have A9:=amk A90
       clear A90
       replace H:=Option.bind_eq_some_iff.mp H
       obtain ⟨t385,A100,H⟩:=H
       replace H : ((versalref2_Apply.f a1_0 a1_1 a1_2 a1_3 a1_4 a1_5 t383 t385).bind fun bt386=>(if x6_1.length < 5864062014805 then (versalref14_contour.l0 k1 l0 (l0.length : Int) (x6_1 ++ [(⟨(⟨bt386.1,bt386.2⟩ : S41),(rd_T36 l0 x7_1).f2,true⟩ : S100)]) (wrap64 (x7_1+1)) a1_0 a1_1 a1_2 a1_3 a1_4 a1_5) else (none)))=some r:=H
       have A10:=amk A100
       clear A100
       replace H:=Option.bind_eq_some_iff.mp H
       obtain ⟨⟨t386,t387⟩,A110,H⟩:=H
       replace H : (if x6_1.length < 5864062014805 then (versalref14_contour.l0 k1 l0 (l0.length : Int) (x6_1 ++ [(⟨(⟨t386,t387⟩ : S41),(rd_T36 l0 x7_1).f2,true⟩ : S100)]) (wrap64 (x7_1+1)) a1_0 a1_1 a1_2 a1_3 a1_4 a1_5) else (none))=some r:=H
       have A11:=amk A110
       clear A110
       by_cases c12 : x6_1.length < 5864062014805
       ·rw [if_pos c12] at H
        have LMc12:=amk c12
        clear c12
        obtain ⟨y388,hy388⟩ : ∃ y_ : List (S100),y_=(x6_1 ++ [(⟨(⟨t386,t387⟩ : S41),(rd_T36 l0 x7_1).f2,true⟩ : S100)]):=⟨_,rfl⟩
        replace H : (versalref14_contour.l0 k1 l0 (l0.length : Int) y388 (wrap64 (x7_1+1)) a1_0 a1_1 a1_2 a1_3 a1_4 a1_5)=some r:=by first|(rw [hy388];with_reducible exact H)|(have H2_:=(Option.bind_some _ _).symm.trans H;rw [hy388];with_reducible exact H2_)|(have H2_:=(Option.bind_some _ _).symm.trans H;with_reducible exact H2_)|with_reducible exact H|(rw [hy388];exact H)|exact H
        have Ny388:=amk hy388
        clear hy388
        have H':=amk H
        clear H
        have p380 : 0≤(x7_1 : Int):=of_decide_eq_true (by first|(with_reducible assumption)|assumption)
        have q380 : x7_1 < (l0.length : Int):=of_decide_eq_true (by first|(with_reducible assumption)|assumption)
        obtain ⟨ad380,e380,hx380_0,hx380_1,hx380_2⟩:=at_T36 HR0.out x7_1 p380 q380
        cases e380
        replace hx380_0:=(HB.out.cell (cLt w _ hx380_0)).trans hx380_0
        replace hx380_1:=(HB.out.cell (cLt w _ hx380_1)).trans hx380_1
        replace hx380_2:=(HB.out.cell (cLt w _ hx380_2)).trans hx380_2
        replace p380:=eq_true p380
        replace q380:=eq_true q380
        try go_wp2_with (first|((with_reducible refine gate_dst (N:=8) rfl ?_);refine box_event ?hg (N:=8) ?hd (cs:=#[.int .i64 0,.int .i64 0,.bool false,.bool false]) (t:=100) ?hr ?_;(case hd=>rfl);(case hg=>rfl);(case hr=>first|(go_simp;done)|(go_simp;rfl));intro gb381 hg w13 hbox hb;have n0_:=amk (Kd.R_below (Kd.R_elderB (by (with_reducible repeat (first|apply Kd.R_alloc|apply Kd.R_drewN|apply Kd.R_drew));exact HO_6.out) gb381 (Nat.le_of_eq hg.symm)) hb);have n1_:=amk (blk_below (g:=gb379) (o:=.cells #[.int .i64 a1_0,.int .i64 a1_1,.int .i64 a1_2,.int .i64 a1_3,.int .i64 a1_4,.int .i64 a1_5] 26 (0,0)) (by (with_reducible repeat first|apply kN|apply kD|apply kA);exact BK379.out) hb);have n2_:=amk (below_step (by repeat (first|(with_reducible first|exact HB.out|apply bAl|apply bDN|apply bD1|refine bSe ?_ GE379.out)|exact HB.out)) hb);have n3_:=amk (hbox);have n4_:=amk ((by rw [hg];exact (below_size (by repeat (first|(with_reducible first|exact HB.out|apply bAl|apply bDN|apply bD1|refine bSe ?_ GE379.out)|exact HB.out))) : w.heap.size≤gb381));have n5_:=amk ((by rw [hg];exact (below_size (by repeat (first|(with_reducible first|exact HB.out|apply bAl|apply bDN|apply bD1|refine bSe ?_ GE379.out)|exact HB.out))) : w.heap.size≤gb381));have n6_:=amk ((by rw [hg];exact Nat.ne_of_lt (blk_lt (g:=gb379) (o:=.cells #[.int .i64 a1_0,.int .i64 a1_1,.int .i64 a1_2,.int .i64 a1_3,.int .i64 a1_4,.int .i64 a1_5] 26 (0,0)) (by (with_reducible repeat first|apply kN|apply kD|apply kA);exact BK379.out)) : gb379 ≠ gb381));have n7_:=amk ((by rw [hg];exact Nat.ne_of_gt (blk_lt (g:=gb379) (o:=.cells #[.int .i64 a1_0,.int .i64 a1_1,.int .i64 a1_2,.int .i64 a1_3,.int .i64 a1_4,.int .i64 a1_5] 26 (0,0)) (by (with_reducible repeat first|apply kN|apply kD|apply kA);exact BK379.out)) : gb381 ≠ gb379));clear HO_6;clear BK379;clear HB;have HO_6:=n0_;have BK379:=n1_;have HB:=n2_;have BK381:=n3_;have GW381:=n4_;have GE381:=n5_;have NB379_381:=n6_;have NB381_379:=n7_;clear n0_ n1_ n2_ n3_ n4_ n5_ n6_ n7_;clear hb hbox hg;have hnb14:=NB381_379.out;have hnc14:=NB379_381.out;have hcz15_0 : w13.cell? ⟨gb381,0,none⟩=some (.int .i64 0):=(blk_cell BK381.out 0).trans rfl;have hcz15_1 : w13.cell? ⟨gb381,1,none⟩=some (.int .i64 0):=(blk_cell BK381.out 1).trans rfl;have hcz15_2 : w13.cell? ⟨gb381,2,none⟩=some (.bool false):=(blk_cell BK381.out 2).trans rfl;have hcz15_3 : w13.cell? ⟨gb381,3,none⟩=some (.bool false):=(blk_cell BK381.out 3).trans rfl;have hfz15_0:=blk_frozen BK381.out 0;have hfz15_1:=blk_frozen BK381.out 1;have hfz15_2:=blk_frozen BK381.out 2;have hfz15_3:=blk_frozen BK381.out 3))
        have n0_ : Aside0 (Kd.R k100 100 ((((w13.setCell ⟨gb381,0,none⟩ (.int .i64 0)).setCell ⟨gb381,1,none⟩ (.int .i64 0)).setCell ⟨gb381,2,none⟩ (.bool ((rd_T36 l0 x7_1).f2))).setCell ⟨gb381,3,none⟩ (.bool true)) w.heap.size (fun k_=>k_ ≠ gb381) u6 x6_1):=⟨by (with_reducible repeat (first|apply Kd.R_alloc|apply Kd.R_drewN|apply Kd.R_drew));exact Kd.R_mono (Kd.R_far (p:=⟨gb381,3,none⟩) (Kd.R_far (p:=⟨gb381,2,none⟩) (Kd.R_far (p:=⟨gb381,1,none⟩) (Kd.R_far (p:=⟨gb381,0,none⟩) (Kd.R_mono HO_6.out (fun k_ hk=>(⟨hk,hk.2⟩ : _∧k_ ≠ gb381))) (fun _ hk=>hk.2) (.int .i64 0)) (fun _ hk=>hk.2) (.int .i64 0)) (fun _ hk=>hk.2) (.bool ((rd_T36 l0 x7_1).f2))) (fun _ hk=>hk.2) (.bool true)) (fun _ hk=>hk.1.2)⟩
        have n1_ : Aside0 (((((w13.setCell ⟨gb381,0,none⟩ (.int .i64 0)).setCell ⟨gb381,1,none⟩ (.int .i64 0)).setCell ⟨gb381,2,none⟩ (.bool ((rd_T36 l0 x7_1).f2))).setCell ⟨gb381,3,none⟩ (.bool true)).heap[gb379]?=some (.cells #[.int .i64 a1_0,.int .i64 a1_1,.int .i64 a1_2,.int .i64 a1_3,.int .i64 a1_4,.int .i64 a1_5] 26 (0,0))):=⟨by (with_reducible repeat first|apply kN|apply kD|apply kA);refine blk_far ?_ NB379_381.out _;(with_reducible repeat first|apply kN|apply kD|apply kA);refine blk_far ?_ NB379_381.out _;(with_reducible repeat first|apply kN|apply kD|apply kA);refine blk_far ?_ NB379_381.out _;(with_reducible repeat first|apply kN|apply kD|apply kA);refine blk_far ?_ NB379_381.out _;(with_reducible repeat first|apply kN|apply kD|apply kA);exact BK379.out⟩
        have n2_ : Aside0 (((((w13.setCell ⟨gb381,0,none⟩ (.int .i64 0)).setCell ⟨gb381,1,none⟩ (.int .i64 0)).setCell ⟨gb381,2,none⟩ (.bool ((rd_T36 l0 x7_1).f2))).setCell ⟨gb381,3,none⟩ (.bool true)).heap[gb381]?=some (.cells #[.int .i64 0,.int .i64 0,.bool ((rd_T36 l0 x7_1).f2),.bool true] 100 (0,0))):=⟨by (with_reducible repeat first|apply kN|apply kD|apply kA);refine blk_put (cs:=#[.int .i64 0,.int .i64 0,.bool ((rd_T36 l0 x7_1).f2),.bool false]) ?_ 3 _ rfl;(with_reducible repeat first|apply kN|apply kD|apply kA);refine blk_put (cs:=#[.int .i64 0,.int .i64 0,.bool false,.bool false]) ?_ 2 _ rfl;(with_reducible repeat first|apply kN|apply kD|apply kA);refine blk_put (cs:=#[.int .i64 0,.int .i64 0,.bool false,.bool false]) ?_ 1 _ rfl;(with_reducible repeat first|apply kN|apply kD|apply kA);refine blk_put (cs:=#[.int .i64 0,.int .i64 0,.bool false,.bool false]) ?_ 0 _ rfl;(with_reducible repeat first|apply kN|apply kD|apply kA);exact BK381.out⟩
        have n3_ : Aside0 (Below w.heap.size w ((((w13.setCell ⟨gb381,0,none⟩ (.int .i64 0)).setCell ⟨gb381,1,none⟩ (.int .i64 0)).setCell ⟨gb381,2,none⟩ (.bool ((rd_T36 l0 x7_1).f2))).setCell ⟨gb381,3,none⟩ (.bool true))):=⟨by repeat (first|(with_reducible first|exact HB.out|apply bAl|apply bDN|apply bD1|refine bSe ?_ GE379.out|refine bSe ?_ GE381.out)|exact HB.out)⟩
        (try clear HO_6)
        (try clear BK379)
        (try clear BK381)
        (try clear HB)
        generalize ((((w13.setCell ⟨gb381,0,none⟩ (.int .i64 0)).setCell ⟨gb381,1,none⟩ (.int .i64 0)).setCell ⟨gb381,2,none⟩ (.bool ((rd_T36 l0 x7_1).f2))).setCell ⟨gb381,3,none⟩ (.bool true))=w16 at n0_ n1_ n2_ n3_ ⊢
        have HO_6:=n0_
        have BK379:=n1_
        have BK381:=n2_
        have HB:=n3_
        clear n0_ n1_ n2_ n3_
        have n0_:=amk (Kd.R_drew HO_6.out)
        have n1_:=amk (blk_drew BK379.out)
        have n2_:=amk (blk_drew BK381.out)
        have n3_:=amk (bD1 HB.out)
        clear HO_6
        clear BK379
        clear BK381
        clear HB
        have HO_6:=n0_
        have BK379:=n1_
        have BK381:=n2_
        have HB:=n3_
        clear n0_ n1_ n2_ n3_
        have p382 : 0≤(x7_1 : Int):=of_decide_eq_true (by first|(with_reducible assumption)|assumption)
        have q382 : x7_1 < (l0.length : Int):=of_decide_eq_true (by first|(with_reducible assumption)|assumption)
        obtain ⟨ad382,e382,hx382_0,hx382_1,hx382_2⟩:=at_T36 HR0.out x7_1 p382 q382
        have hw382_2:=hx382_2
        have hw382_1:=hx382_1
        have hw382_0:=hx382_0
        obtain rfl : ad380=ad382:=(by injection e382)
        replace hx382_0:=(HB.out.cell (cLt w _ hx382_0)).trans hx382_0
        replace hx382_1:=(HB.out.cell (cLt w _ hx382_1)).trans hx382_1
        replace hx382_2:=(HB.out.cell (cLt w _ hx382_2)).trans hx382_2
        replace p382:=eq_true p382
        replace q382:=eq_true q382
        have p384 : 0≤(x7_1 : Int):=of_decide_eq_true (by first|(with_reducible assumption)|assumption)
        have q384 : x7_1 < (l0.length : Int):=of_decide_eq_true (by first|(with_reducible assumption)|assumption)
        obtain ⟨ad384,e384,hx384_0,hx384_1,hx384_2⟩:=at_T36 HR0.out x7_1 p384 q384
        have hw384_2:=hx384_2
        have hw384_1:=hx384_1
        have hw384_0:=hx384_0
        obtain rfl : ad380=ad384:=(by injection e384)
        replace hx384_0:=(HB.out.cell (cLt w _ hx384_0)).trans hx384_0
        replace hx384_1:=(HB.out.cell (cLt w _ hx384_1)).trans hx384_1
        replace hx384_2:=(HB.out.cell (cLt w _ hx384_2)).trans hx384_2
        replace p384:=eq_true p384
        replace q384:=eq_true q384
        refine start_ (n:=23) (S:=fun w'=>w'.cell? ⟨gb379,0,none⟩=some (.int .i64 a1_0)∧w'.cell? ⟨gb379,1,none⟩=some (.int .i64 a1_1)∧w'.cell? ⟨gb379,2,none⟩=some (.int .i64 a1_2)∧w'.cell? ⟨gb379,3,none⟩=some (.int .i64 a1_3)∧w'.cell? ⟨gb379,4,none⟩=some (.int .i64 a1_4)∧w'.cell? ⟨gb379,5,none⟩=some (.int .i64 a1_5)∧w'.cell? (ad380.add ((x7_1).toNat * 3))=some (.int .i64 ((rd_T36 l0 x7_1).f0))∧w'.cell? ⟨(ad380.add ((x7_1).toNat * 3)).block,(ad380.add ((x7_1).toNat * 3)).off+1,none⟩=some (.int .i64 ((rd_T36 l0 x7_1).f1))∧w'.cell? ⟨(ad380.add ((x7_1).toNat * 3)).block,(ad380.add ((x7_1).toNat * 3)).off+2,none⟩=some (.bool ((rd_T36 l0 x7_1).f2))∧w'.cell? (ad380.add ((x7_1).toNat * 3))=some (.int .i64 ((rd_T36 l0 x7_1).f0))∧w'.cell? ⟨(ad380.add ((x7_1).toNat * 3)).block,(ad380.add ((x7_1).toNat * 3)).off+1,none⟩=some (.int .i64 ((rd_T36 l0 x7_1).f1))∧w'.cell? ⟨(ad380.add ((x7_1).toNat * 3)).block,(ad380.add ((x7_1).toNat * 3)).off+2,none⟩=some (.bool ((rd_T36 l0 x7_1).f2))) (ds:=[]) #[false,false,false,false,false,false,false,false,false,false,false,false,false,false,false,false,false,false,false,false,false,false,false] (by kernel_rfl) rfl rfl ⟨(blk_cell BK379.out 0).trans rfl,(blk_cell BK379.out 1).trans rfl,(blk_cell BK379.out 2).trans rfl,(blk_cell BK379.out 3).trans rfl,(blk_cell BK379.out 4).trans rfl,(blk_cell BK379.out 5).trans rfl,((HB.out.cell (cLt w _ hw382_0)).trans hw382_0),((HB.out.cell (cLt w _ hw382_1)).trans hw382_1),((HB.out.cell (cLt w _ hw382_2)).trans hw382_2),((HB.out.cell (cLt w _ hw384_0)).trans hw384_0),((HB.out.cell (cLt w _ hw384_1)).trans hw384_1),((HB.out.cell (cLt w _ hw384_2)).trans hw384_2)⟩ (fun hHeld=>?_);refine with_tabW versalref14_contour.tab9 versalref14_contour.bits9 (fun HT_ HW_=>?_)
        generalize w16.drew=w17 at HO_6 BK379 BK381 HB hx382_0 hx382_1 hx382_2 hx384_0 hx384_1 hx384_2 hHeld ⊢
        refine pure_ (i:=1) (N:=some 35) (v:=?_) (a':=?_) #[false,true,false,false,false,false,false,false,false,false,false,false,false,false,false,false,false,false,false,false,false,false,false] rfl rfl (any_of HT_.out (by kernel_rfl)) (fun _ _ _ h=>h) (Or.inl ⟨by rfl,?_⟩) ?_ ?_
        rotate_left
        ·intro w'
         go_simp
         with_reducible rfl
        rotate_left
        ·simp only [Act.put,sTA,sCZ,sCS,i64_w,i32_w]
         rfl
        refine pure_ (i:=2) (N:=some 36) (v:=?_) (a':=?_) #[false,true,true,false,false,false,false,false,false,false,false,false,false,false,false,false,false,false,false,false,false,false,false] rfl rfl (any_of HT_.out (by kernel_rfl)) (fun _ _ _ h=>h) (Or.inl ⟨by rfl,?_⟩) ?_ ?_
        rotate_left
        ·intro w'
         go_simp
         with_reducible rfl
        rotate_left
        ·simp only [Act.put,sTA,sCZ,sCS,i64_w,i32_w]
         rfl
        refine pure_ (i:=3) (N:=some 37) (v:=?_) (a':=?_) #[false,true,true,true,false,false,false,false,false,false,false,false,false,false,false,false,false,false,false,false,false,false,false] rfl rfl (any_of HT_.out (by kernel_rfl)) (fun _ _ _ h=>h) (Or.inl ⟨by rfl,?_⟩) ?_ ?_
        rotate_left
        ·intro w'
         go_simp
         with_reducible rfl
        rotate_left
        ·simp only [Act.put,sTA,sCZ,sCS,i64_w,i32_w]
         rfl
        refine pure_ (i:=4) (N:=some 38) (v:=?_) (a':=?_) #[false,true,true,true,true,false,false,false,false,false,false,false,false,false,false,false,false,false,false,false,false,false,false] rfl rfl (any_of HT_.out (by kernel_rfl)) (fun _ _ _ h=>h) (Or.inl ⟨by rfl,?_⟩) ?_ ?_
        rotate_left
        ·intro w'
         go_simp
         with_reducible rfl
        rotate_left
        ·simp only [Act.put,sTA,sCZ,sCS,i64_w,i32_w]
         rfl
        refine pure_ (i:=7) (N:=some 41) (v:=?_) (a':=?_) #[false,true,true,true,true,false,false,true,false,false,false,false,false,false,false,false,false,false,false,false,false,false,false] rfl rfl (any_of HT_.out (by kernel_rfl)) (fun _ _ _ h=>h) (Or.inl ⟨by rfl,?_⟩) ?_ ?_
        rotate_left
        ·intro w'
         go_simp
         with_reducible rfl
        rotate_left
        ·simp only [Act.put,sTA,sCZ,sCS,i64_w,i32_w]
         rfl
        refine pure_ (i:=8) (N:=some 42) (v:=?_) (a':=?_) #[false,true,true,true,true,false,false,true,true,false,false,false,false,false,false,false,false,false,false,false,false,false,false] rfl rfl (any_of HT_.out (by kernel_rfl)) (fun _ _ _ h=>h) (Or.inl ⟨by rfl,?_⟩) ?_ ?_
        rotate_left
        ·intro w'
         go_simp
         with_reducible rfl
        rotate_left
        ·simp only [Act.put,sTA,sCZ,sCS,i64_w,i32_w]
         rfl
        refine pure_ (i:=9) (N:=some 43) (v:=?_) (a':=?_) #[false,true,true,true,true,false,false,true,true,true,false,false,false,false,false,false,false,false,false,false,false,false,false] rfl rfl (any_of HT_.out (by kernel_rfl)) (fun _ _ _ h=>h) (Or.inl ⟨by rfl,?_⟩) ?_ ?_
        rotate_left
        ·intro w'
         go_simp
         with_reducible rfl
        rotate_left
        ·simp only [Act.put,sTA,sCZ,sCS,i64_w,i32_w]
         rfl
        refine pure_ (i:=10) (N:=some 44) (v:=?_) (a':=?_) #[false,true,true,true,true,false,false,true,true,true,true,false,false,false,false,false,false,false,false,false,false,false,false] rfl rfl (any_of HT_.out (by kernel_rfl)) (fun _ _ _ h=>h) (Or.inl ⟨by rfl,?_⟩) ?_ ?_
        rotate_left
        ·intro w'
         go_simp
         with_reducible rfl
        rotate_left
        ·simp only [Act.put,sTA,sCZ,sCS,i64_w,i32_w]
         rfl
        refine pure_ (i:=17) (N:=some 50) (v:=?_) (a':=?_) #[false,true,true,true,true,false,false,true,true,true,true,false,false,false,false,false,false,true,false,false,false,false,false] rfl rfl (any_of HT_.out (by kernel_rfl)) (fun _ _ _ h=>h) (Or.inl ⟨by rfl,?_⟩) ?_ ?_
        rotate_left
        ·intro w'
         go_simp
         with_reducible rfl
        rotate_left
        ·simp only [Act.put,sTA,sCZ,sCS,i64_w,i32_w]
         rfl
        refine pure_ (i:=20) (N:=some 52) (v:=?_) (a':=?_) #[false,true,true,true,true,false,false,true,true,true,true,false,false,false,false,false,false,true,false,false,true,false,false] rfl rfl (any_of HT_.out (by kernel_rfl)) (fun _ _ _ h=>h) (Or.inl ⟨by rfl,?_⟩) ?_ ?_
        rotate_left
        ·intro w'
         go_simp
         with_reducible rfl
        rotate_left
        ·simp only [Act.put,sTA,sCZ,sCS,i64_w,i32_w]
         rfl
        refine take_ (i:=0) (N:=some 34) (v:=?_) (a':=?_) #[true,true,true,true,true,false,false,true,true,true,true,false,false,false,false,false,false,true,false,false,true,false,false] rfl rfl (take_ofW HT_.out HW_.out (by kernel_rfl)) (fun _ _ _ h=>h) (Or.inl ⟨by rfl,?_⟩) hHeld ?_ ?_
        rotate_left
        ·rintro w' ⟨s0,s1,s2,s3,s4,s5,s6,s7,s8,s9,s10,s11⟩
         go_simp
         with_reducible rfl
        rotate_left
        ·simp only [Act.put,sTA,sCZ,sCS,i64_w,i32_w]
         rfl
        refine take_ (i:=5) (N:=some 39) (v:=?_) (a':=?_) #[true,true,true,true,true,true,false,true,true,true,true,false,false,false,false,false,false,true,false,false,true,false,false] rfl rfl (take_ofW HT_.out HW_.out (by kernel_rfl)) (fun _ _ _ h=>h) (Or.inl ⟨by rfl,?_⟩) hHeld ?_ ?_
        rotate_left
        ·rintro w' ⟨s0,s1,s2,s3,s4,s5,s6,s7,s8,s9,s10,s11⟩
         go_simp
         with_reducible rfl
        rotate_left
        ·simp only [Act.put,sTA,sCZ,sCS,i64_w,i32_w]
         rfl
        refine take_ (i:=11) (N:=some 45) (v:=?_) (a':=?_) #[true,true,true,true,true,true,false,true,true,true,true,true,false,false,false,false,false,true,false,false,true,false,false] rfl rfl (take_ofW HT_.out HW_.out (by kernel_rfl)) (fun _ _ _ h=>h) (Or.inl ⟨by rfl,?_⟩) hHeld ?_ ?_
        rotate_left
        ·rintro w' ⟨s0,s1,s2,s3,s4,s5,s6,s7,s8,s9,s10,s11⟩
         go_simp
         with_reducible rfl
        rotate_left
        ·simp only [Act.put,sTA,sCZ,sCS,i64_w,i32_w]
         rfl
        refine one_ (i:=6) (N:=some 40) #[true,true,true,true,true,true,true,true,true,true,true,true,false,false,false,false,false,true,false,false,true,false,false] rfl rfl (one_of HT_.out (by kernel_rfl)) (by decide) (fun K hK=>?_)
        refine goes_ Try.func12 (by kernel_rfl) rfl #[.int .i64 ((rd_T36 l0 x7_1).f0)] (by rfl) rfl rfl (by (try simp only [List.map_toArray,List.map_cons,List.map_nil]);first|done|rfl|(simp only [List.length_drop,List.length_take];rfl)) ?_
        with_reducible refine (versalref2_Whole.calls ((rd_T36 l0 x7_1).f0) t383 _ A9.out).mono ?_
        rintro e w18 ⟨rfl,hb⟩
        refine ⟨_,rfl,?_⟩
        have n0_:=amk (Kd.R_below (by (with_reducible repeat (first|apply Kd.R_alloc|apply Kd.R_drewN|apply Kd.R_drew));exact HO_6.out) hb)
        have n1_:=amk (blk_below (g:=gb379) (o:=.cells #[.int .i64 a1_0,.int .i64 a1_1,.int .i64 a1_2,.int .i64 a1_3,.int .i64 a1_4,.int .i64 a1_5] 26 (0,0)) (by (with_reducible repeat first|apply kN|apply kD|apply kA);exact BK379.out) hb)
        have n2_:=amk (blk_below (g:=gb381) (o:=.cells #[.int .i64 0,.int .i64 0,.bool ((rd_T36 l0 x7_1).f2),.bool true] 100 (0,0)) (by (with_reducible repeat first|apply kN|apply kD|apply kA);exact BK381.out) hb)
        have n3_:=amk (below_step (by repeat (first|(with_reducible first|exact HB.out|apply bAl|apply bDN|apply bD1|refine bSe ?_ GE379.out|refine bSe ?_ GE381.out)|exact HB.out)) hb)
        clear HO_6
        clear BK379
        clear BK381
        clear HB
        have HO_6:=n0_
        have BK379:=n1_
        have BK381:=n2_
        have HB:=n3_
        clear n0_ n1_ n2_ n3_
        (try clear hb)
        (try clear hb2)
        (try clear hk)
        (try clear hi)
        refine hK.out _ _ ⟨(blk_cell BK379.out 0).trans rfl,(blk_cell BK379.out 1).trans rfl,(blk_cell BK379.out 2).trans rfl,(blk_cell BK379.out 3).trans rfl,(blk_cell BK379.out 4).trans rfl,(blk_cell BK379.out 5).trans rfl,((HB.out.cell (cLt w _ hw382_0)).trans hw382_0),((HB.out.cell (cLt w _ hw382_1)).trans hw382_1),((HB.out.cell (cLt w _ hw382_2)).trans hw382_2),((HB.out.cell (cLt w _ hw384_0)).trans hw384_0),((HB.out.cell (cLt w _ hw384_1)).trans hw384_1),((HB.out.cell (cLt w _ hw384_2)).trans hw384_2)⟩ (fun hHeld=>?_)
        clear hK K
        refine norm_ (a':=?_) ?_ ?_
        rotate_left
        ·show Act.put _ (some 40) _=_
         simp only [Act.put,sTA,sCZ,sCS,i64_w,i32_w]
         rfl
        refine one_ (i:=12) (N:=some 46) #[true,true,true,true,true,true,true,true,true,true,true,true,true,false,false,false,false,true,false,false,true,false,false] rfl rfl (one_of HT_.out (by kernel_rfl)) (by decide) (fun K hK=>?_)
        refine goes_ Try.func12 (by kernel_rfl) rfl #[.int .i64 ((rd_T36 l0 x7_1).f1)] (by rfl) rfl rfl (by (try simp only [List.map_toArray,List.map_cons,List.map_nil]);first|done|rfl|(simp only [List.length_drop,List.length_take];rfl)) ?_
        with_reducible refine (versalref2_Whole.calls ((rd_T36 l0 x7_1).f1) t385 _ A10.out).mono ?_
        rintro e w19 ⟨rfl,hb⟩
        refine ⟨_,rfl,?_⟩
        have n0_:=amk (Kd.R_below (by (with_reducible repeat (first|apply Kd.R_alloc|apply Kd.R_drewN|apply Kd.R_drew));exact HO_6.out) hb)
        have n1_:=amk (blk_below (g:=gb379) (o:=.cells #[.int .i64 a1_0,.int .i64 a1_1,.int .i64 a1_2,.int .i64 a1_3,.int .i64 a1_4,.int .i64 a1_5] 26 (0,0)) (by (with_reducible repeat first|apply kN|apply kD|apply kA);exact BK379.out) hb)
        have n2_:=amk (blk_below (g:=gb381) (o:=.cells #[.int .i64 0,.int .i64 0,.bool ((rd_T36 l0 x7_1).f2),.bool true] 100 (0,0)) (by (with_reducible repeat first|apply kN|apply kD|apply kA);exact BK381.out) hb)
        have n3_:=amk (below_step (by repeat (first|(with_reducible first|exact HB.out|apply bAl|apply bDN|apply bD1|refine bSe ?_ GE379.out|refine bSe ?_ GE381.out)|exact HB.out)) hb)
        clear HO_6
        clear BK379
        clear BK381
        clear HB
        have HO_6:=n0_
        have BK379:=n1_
        have BK381:=n2_
        have HB:=n3_
        clear n0_ n1_ n2_ n3_
        (try clear hb)
        (try clear hb2)
        (try clear hk)
        (try clear hi)
        refine hK.out _ _ ⟨(blk_cell BK379.out 0).trans rfl,(blk_cell BK379.out 1).trans rfl,(blk_cell BK379.out 2).trans rfl,(blk_cell BK379.out 3).trans rfl,(blk_cell BK379.out 4).trans rfl,(blk_cell BK379.out 5).trans rfl,((HB.out.cell (cLt w _ hw382_0)).trans hw382_0),((HB.out.cell (cLt w _ hw382_1)).trans hw382_1),((HB.out.cell (cLt w _ hw382_2)).trans hw382_2),((HB.out.cell (cLt w _ hw384_0)).trans hw384_0),((HB.out.cell (cLt w _ hw384_1)).trans hw384_1),((HB.out.cell (cLt w _ hw384_2)).trans hw384_2)⟩ (fun hHeld=>?_)
        clear hK K
        refine norm_ (a':=?_) ?_ ?_
        rotate_left
        ·show Act.put _ (some 46) _=_
         simp only [Act.put,sTA,sCZ,sCS,i64_w,i32_w]
         rfl
        refine one_ (i:=13) (N:=some 47) #[true,true,true,true,true,true,true,true,true,true,true,true,true,true,false,false,false,true,false,false,true,false,false] rfl rfl (one_of HT_.out (by kernel_rfl)) (by decide) (fun K hK=>?_)
        refine goes_ Try.func11 (by kernel_rfl) rfl #[.agg #[.int .i64 a1_0,.int .i64 a1_1,.int .i64 a1_2,.int .i64 a1_3,.int .i64 a1_4,.int .i64 a1_5],.int .i64 t383,.int .i64 t385] (by rfl) rfl rfl (by (try simp only [List.map_toArray,List.map_cons,List.map_nil]);first|done|rfl|(simp only [List.length_drop,List.length_take];rfl)) ?_
        with_reducible refine (versalref2_Apply.calls a1_0 a1_1 a1_2 a1_3 a1_4 a1_5 t383 t385 t386 t387 _ A11.out).mono ?_
        rintro e w20 ⟨rfl,hb⟩
        refine ⟨_,rfl,?_⟩
        have n0_:=amk (Kd.R_below (by (with_reducible repeat (first|apply Kd.R_alloc|apply Kd.R_drewN|apply Kd.R_drew));exact HO_6.out) hb)
        have n1_:=amk (blk_below (g:=gb379) (o:=.cells #[.int .i64 a1_0,.int .i64 a1_1,.int .i64 a1_2,.int .i64 a1_3,.int .i64 a1_4,.int .i64 a1_5] 26 (0,0)) (by (with_reducible repeat first|apply kN|apply kD|apply kA);exact BK379.out) hb)
        have n2_:=amk (blk_below (g:=gb381) (o:=.cells #[.int .i64 0,.int .i64 0,.bool ((rd_T36 l0 x7_1).f2),.bool true] 100 (0,0)) (by (with_reducible repeat first|apply kN|apply kD|apply kA);exact BK381.out) hb)
        have n3_:=amk (below_step (by repeat (first|(with_reducible first|exact HB.out|apply bAl|apply bDN|apply bD1|refine bSe ?_ GE379.out|refine bSe ?_ GE381.out)|exact HB.out)) hb)
        clear HO_6
        clear BK379
        clear BK381
        clear HB
        have HO_6:=n0_
        have BK379:=n1_
        have BK381:=n2_
        have HB:=n3_
        clear n0_ n1_ n2_ n3_
        (try clear hb)
        (try clear hb2)
        (try clear hk)
        (try clear hi)
        refine hK.out _ _ ⟨(blk_cell BK379.out 0).trans rfl,(blk_cell BK379.out 1).trans rfl,(blk_cell BK379.out 2).trans rfl,(blk_cell BK379.out 3).trans rfl,(blk_cell BK379.out 4).trans rfl,(blk_cell BK379.out 5).trans rfl,((HB.out.cell (cLt w _ hw382_0)).trans hw382_0),((HB.out.cell (cLt w _ hw382_1)).trans hw382_1),((HB.out.cell (cLt w _ hw382_2)).trans hw382_2),((HB.out.cell (cLt w _ hw384_0)).trans hw384_0),((HB.out.cell (cLt w _ hw384_1)).trans hw384_1),((HB.out.cell (cLt w _ hw384_2)).trans hw384_2)⟩ (fun hHeld=>?_)
        clear hK K
        refine norm_ (a':=?_) ?_ ?_
        rotate_left
        ·show Act.put _ (some 47) _=_
         simp only [Act.put,sTA,sCZ,sCS,i64_w,i32_w]
         rfl
        refine pure_ (i:=14) (N:=some 33) (v:=?_) (a':=?_) #[true,true,true,true,true,true,true,true,true,true,true,true,true,true,true,false,false,true,false,false,true,false,false] rfl rfl (any_of HT_.out (by kernel_rfl)) (fun _ _ _ h=>h) (Or.inl ⟨by rfl,?_⟩) ?_ ?_
        rotate_left
        ·intro w'
         go_simp
         with_reducible rfl
        rotate_left
        ·simp only [Act.put,sTA,sCZ,sCS,i64_w,i32_w]
         rfl
        refine pure_ (i:=15) (N:=some 48) (v:=?_) (a':=?_) #[true,true,true,true,true,true,true,true,true,true,true,true,true,true,true,true,false,true,false,false,true,false,false] rfl rfl (any_of HT_.out (by kernel_rfl)) (fun _ _ _ h=>h) (Or.inl ⟨by rfl,?_⟩) ?_ ?_
        rotate_left
        ·intro w'
         go_simp
         with_reducible rfl
        rotate_left
        ·simp only [Act.put,sTA,sCZ,sCS,i64_w,i32_w]
         rfl
        refine pure_ (i:=16) (N:=some 49) (v:=?_) (a':=?_) #[true,true,true,true,true,true,true,true,true,true,true,true,true,true,true,true,true,true,false,false,true,false,false] rfl rfl (any_of HT_.out (by kernel_rfl)) (fun _ _ _ h=>h) (Or.inl ⟨by rfl,?_⟩) ?_ ?_
        rotate_left
        ·intro w'
         go_simp
         with_reducible rfl
        rotate_left
        ·simp only [Act.put,sTA,sCZ,sCS,i64_w,i32_w]
         rfl
        refine pure_ (i:=18) (N:=some 51) (v:=?_) (a':=?_) #[true,true,true,true,true,true,true,true,true,true,true,true,true,true,true,true,true,true,true,false,true,false,false] rfl rfl (any_of HT_.out (by kernel_rfl)) (fun _ _ _ h=>h) (Or.inl ⟨by rfl,?_⟩) ?_ ?_
        rotate_left
        ·intro w'
         go_simp
         with_reducible rfl
        rotate_left
        ·simp only [Act.put,sTA,sCZ,sCS,i64_w,i32_w]
         rfl
        refine one_ (i:=19) (N:=none) #[true,true,true,true,true,true,true,true,true,true,true,true,true,true,true,true,true,true,true,true,true,false,false] rfl rfl (one_of HT_.out (by kernel_rfl)) (by decide) (fun K hK=>?_)
        have hs21 : w20.cell? ⟨gb381,0,none⟩=some (.int .i64 0):=(blk_cell BK381.out 0).trans rfl
        have hfs21:=blk_frozen BK381.out 0
        have hns21_0:=NB379_381.out
        have hms21_0:=NB381_379.out
        refine skip_ (w1:=?_) (by rfl) rfl ?_ ?_
        rotate_left
        ·go_simp
         rfl
        refine hK.out _ _ ⟨((cell_far (p:=⟨gb381,_,none⟩) NB379_381.out _).trans (hHeld.1)),((cell_far (p:=⟨gb381,_,none⟩) NB379_381.out _).trans (hHeld.2.1)),((cell_far (p:=⟨gb381,_,none⟩) NB379_381.out _).trans (hHeld.2.2.1)),((cell_far (p:=⟨gb381,_,none⟩) NB379_381.out _).trans (hHeld.2.2.2.1)),((cell_far (p:=⟨gb381,_,none⟩) NB379_381.out _).trans (hHeld.2.2.2.2.1)),((cell_far (p:=⟨gb381,_,none⟩) NB379_381.out _).trans (hHeld.2.2.2.2.2.1)),((cell_far (p:=⟨gb381,_,none⟩) (by first|exact Nat.ne_of_lt (Nat.lt_of_lt_of_le (by have:=cLt _ _ hw382_0;first|rwa [add_block] at this|exact this) GW381.out)|(rw [add_block];exact Nat.ne_of_lt (Nat.lt_of_lt_of_le (by have:=cLt _ _ hw382_0;first|rwa [add_block] at this|exact this) GW381.out))|(show (Addr.add _ _).block ≠ _;rw [add_block];exact Nat.ne_of_lt (Nat.lt_of_lt_of_le (by have:=cLt _ _ hw382_0;first|rwa [add_block] at this|exact this) GW381.out))|(dsimp only;exact Nat.ne_of_lt (Nat.lt_of_lt_of_le (by have:=cLt _ _ hw382_0;first|rwa [add_block] at this|exact this) GW381.out))) _).trans (hHeld.2.2.2.2.2.2.1)),((cell_far (p:=⟨gb381,_,none⟩) (by first|exact Nat.ne_of_lt (Nat.lt_of_lt_of_le (by have:=cLt _ _ hw382_1;first|rwa [add_block] at this|exact this) GW381.out)|(rw [add_block];exact Nat.ne_of_lt (Nat.lt_of_lt_of_le (by have:=cLt _ _ hw382_1;first|rwa [add_block] at this|exact this) GW381.out))|(show (Addr.add _ _).block ≠ _;rw [add_block];exact Nat.ne_of_lt (Nat.lt_of_lt_of_le (by have:=cLt _ _ hw382_1;first|rwa [add_block] at this|exact this) GW381.out))|(dsimp only;exact Nat.ne_of_lt (Nat.lt_of_lt_of_le (by have:=cLt _ _ hw382_1;first|rwa [add_block] at this|exact this) GW381.out))) _).trans (hHeld.2.2.2.2.2.2.2.1)),((cell_far (p:=⟨gb381,_,none⟩) (by first|exact Nat.ne_of_lt (Nat.lt_of_lt_of_le (by have:=cLt _ _ hw382_2;first|rwa [add_block] at this|exact this) GW381.out)|(rw [add_block];exact Nat.ne_of_lt (Nat.lt_of_lt_of_le (by have:=cLt _ _ hw382_2;first|rwa [add_block] at this|exact this) GW381.out))|(show (Addr.add _ _).block ≠ _;rw [add_block];exact Nat.ne_of_lt (Nat.lt_of_lt_of_le (by have:=cLt _ _ hw382_2;first|rwa [add_block] at this|exact this) GW381.out))|(dsimp only;exact Nat.ne_of_lt (Nat.lt_of_lt_of_le (by have:=cLt _ _ hw382_2;first|rwa [add_block] at this|exact this) GW381.out))) _).trans (hHeld.2.2.2.2.2.2.2.2.1)),((cell_far (p:=⟨gb381,_,none⟩) (by first|exact Nat.ne_of_lt (Nat.lt_of_lt_of_le (by have:=cLt _ _ hw384_0;first|rwa [add_block] at this|exact this) GW381.out)|(rw [add_block];exact Nat.ne_of_lt (Nat.lt_of_lt_of_le (by have:=cLt _ _ hw384_0;first|rwa [add_block] at this|exact this) GW381.out))|(show (Addr.add _ _).block ≠ _;rw [add_block];exact Nat.ne_of_lt (Nat.lt_of_lt_of_le (by have:=cLt _ _ hw384_0;first|rwa [add_block] at this|exact this) GW381.out))|(dsimp only;exact Nat.ne_of_lt (Nat.lt_of_lt_of_le (by have:=cLt _ _ hw384_0;first|rwa [add_block] at this|exact this) GW381.out))) _).trans (hHeld.2.2.2.2.2.2.2.2.2.1)),((cell_far (p:=⟨gb381,_,none⟩) (by first|exact Nat.ne_of_lt (Nat.lt_of_lt_of_le (by have:=cLt _ _ hw384_1;first|rwa [add_block] at this|exact this) GW381.out)|(rw [add_block];exact Nat.ne_of_lt (Nat.lt_of_lt_of_le (by have:=cLt _ _ hw384_1;first|rwa [add_block] at this|exact this) GW381.out))|(show (Addr.add _ _).block ≠ _;rw [add_block];exact Nat.ne_of_lt (Nat.lt_of_lt_of_le (by have:=cLt _ _ hw384_1;first|rwa [add_block] at this|exact this) GW381.out))|(dsimp only;exact Nat.ne_of_lt (Nat.lt_of_lt_of_le (by have:=cLt _ _ hw384_1;first|rwa [add_block] at this|exact this) GW381.out))) _).trans (hHeld.2.2.2.2.2.2.2.2.2.2.1)),((cell_far (p:=⟨gb381,_,none⟩) (by first|exact Nat.ne_of_lt (Nat.lt_of_lt_of_le (by have:=cLt _ _ hw384_2;first|rwa [add_block] at this|exact this) GW381.out)|(rw [add_block];exact Nat.ne_of_lt (Nat.lt_of_lt_of_le (by have:=cLt _ _ hw384_2;first|rwa [add_block] at this|exact this) GW381.out))|(show (Addr.add _ _).block ≠ _;rw [add_block];exact Nat.ne_of_lt (Nat.lt_of_lt_of_le (by have:=cLt _ _ hw384_2;first|rwa [add_block] at this|exact this) GW381.out))|(dsimp only;exact Nat.ne_of_lt (Nat.lt_of_lt_of_le (by have:=cLt _ _ hw384_2;first|rwa [add_block] at this|exact this) GW381.out))) _).trans (hHeld.2.2.2.2.2.2.2.2.2.2.2))⟩ (fun hHeld=>?_)
        clear hK K
        refine pure_ (i:=21) (N:=some 53) (v:=?_) (a':=?_) #[true,true,true,true,true,true,true,true,true,true,true,true,true,true,true,true,true,true,true,true,true,true,false] rfl rfl (any_of HT_.out (by kernel_rfl)) (fun _ _ _ h=>h) (Or.inl ⟨by rfl,?_⟩) ?_ ?_
        rotate_left
        ·intro w'
         go_simp
         with_reducible rfl
        rotate_left
        ·simp only [Act.put,sTA,sCZ,sCS,i64_w,i32_w]
         rfl
        refine one_ (i:=22) (N:=none) #[true,true,true,true,true,true,true,true,true,true,true,true,true,true,true,true,true,true,true,true,true,true,true] rfl rfl (one_of HT_.out (by kernel_rfl)) (by decide) (fun K hK=>?_)
        have hs22 : w20.cell? ⟨gb381,1,none⟩=some (.int .i64 0):=(blk_cell BK381.out 1).trans rfl
        have hfs22:=blk_frozen BK381.out 1
        have hns22_0:=NB379_381.out
        have hms22_0:=NB381_379.out
        refine skip_ (w1:=?_) (by rfl) rfl ?_ ?_
        rotate_left
        ·go_simp
         rfl
        refine hK.out _ _ ⟨((cell_far (p:=⟨gb381,_,none⟩) NB379_381.out _).trans (hHeld.1)),((cell_far (p:=⟨gb381,_,none⟩) NB379_381.out _).trans (hHeld.2.1)),((cell_far (p:=⟨gb381,_,none⟩) NB379_381.out _).trans (hHeld.2.2.1)),((cell_far (p:=⟨gb381,_,none⟩) NB379_381.out _).trans (hHeld.2.2.2.1)),((cell_far (p:=⟨gb381,_,none⟩) NB379_381.out _).trans (hHeld.2.2.2.2.1)),((cell_far (p:=⟨gb381,_,none⟩) NB379_381.out _).trans (hHeld.2.2.2.2.2.1)),((cell_far (p:=⟨gb381,_,none⟩) (by first|exact Nat.ne_of_lt (Nat.lt_of_lt_of_le (by have:=cLt _ _ hw382_0;first|rwa [add_block] at this|exact this) GW381.out)|(rw [add_block];exact Nat.ne_of_lt (Nat.lt_of_lt_of_le (by have:=cLt _ _ hw382_0;first|rwa [add_block] at this|exact this) GW381.out))|(show (Addr.add _ _).block ≠ _;rw [add_block];exact Nat.ne_of_lt (Nat.lt_of_lt_of_le (by have:=cLt _ _ hw382_0;first|rwa [add_block] at this|exact this) GW381.out))|(dsimp only;exact Nat.ne_of_lt (Nat.lt_of_lt_of_le (by have:=cLt _ _ hw382_0;first|rwa [add_block] at this|exact this) GW381.out))) _).trans (hHeld.2.2.2.2.2.2.1)),((cell_far (p:=⟨gb381,_,none⟩) (by first|exact Nat.ne_of_lt (Nat.lt_of_lt_of_le (by have:=cLt _ _ hw382_1;first|rwa [add_block] at this|exact this) GW381.out)|(rw [add_block];exact Nat.ne_of_lt (Nat.lt_of_lt_of_le (by have:=cLt _ _ hw382_1;first|rwa [add_block] at this|exact this) GW381.out))|(show (Addr.add _ _).block ≠ _;rw [add_block];exact Nat.ne_of_lt (Nat.lt_of_lt_of_le (by have:=cLt _ _ hw382_1;first|rwa [add_block] at this|exact this) GW381.out))|(dsimp only;exact Nat.ne_of_lt (Nat.lt_of_lt_of_le (by have:=cLt _ _ hw382_1;first|rwa [add_block] at this|exact this) GW381.out))) _).trans (hHeld.2.2.2.2.2.2.2.1)),((cell_far (p:=⟨gb381,_,none⟩) (by first|exact Nat.ne_of_lt (Nat.lt_of_lt_of_le (by have:=cLt _ _ hw382_2;first|rwa [add_block] at this|exact this) GW381.out)|(rw [add_block];exact Nat.ne_of_lt (Nat.lt_of_lt_of_le (by have:=cLt _ _ hw382_2;first|rwa [add_block] at this|exact this) GW381.out))|(show (Addr.add _ _).block ≠ _;rw [add_block];exact Nat.ne_of_lt (Nat.lt_of_lt_of_le (by have:=cLt _ _ hw382_2;first|rwa [add_block] at this|exact this) GW381.out))|(dsimp only;exact Nat.ne_of_lt (Nat.lt_of_lt_of_le (by have:=cLt _ _ hw382_2;first|rwa [add_block] at this|exact this) GW381.out))) _).trans (hHeld.2.2.2.2.2.2.2.2.1)),((cell_far (p:=⟨gb381,_,none⟩) (by first|exact Nat.ne_of_lt (Nat.lt_of_lt_of_le (by have:=cLt _ _ hw384_0;first|rwa [add_block] at this|exact this) GW381.out)|(rw [add_block];exact Nat.ne_of_lt (Nat.lt_of_lt_of_le (by have:=cLt _ _ hw384_0;first|rwa [add_block] at this|exact this) GW381.out))|(show (Addr.add _ _).block ≠ _;rw [add_block];exact Nat.ne_of_lt (Nat.lt_of_lt_of_le (by have:=cLt _ _ hw384_0;first|rwa [add_block] at this|exact this) GW381.out))|(dsimp only;exact Nat.ne_of_lt (Nat.lt_of_lt_of_le (by have:=cLt _ _ hw384_0;first|rwa [add_block] at this|exact this) GW381.out))) _).trans (hHeld.2.2.2.2.2.2.2.2.2.1)),((cell_far (p:=⟨gb381,_,none⟩) (by first|exact Nat.ne_of_lt (Nat.lt_of_lt_of_le (by have:=cLt _ _ hw384_1;first|rwa [add_block] at this|exact this) GW381.out)|(rw [add_block];exact Nat.ne_of_lt (Nat.lt_of_lt_of_le (by have:=cLt _ _ hw384_1;first|rwa [add_block] at this|exact this) GW381.out))|(show (Addr.add _ _).block ≠ _;rw [add_block];exact Nat.ne_of_lt (Nat.lt_of_lt_of_le (by have:=cLt _ _ hw384_1;first|rwa [add_block] at this|exact this) GW381.out))|(dsimp only;exact Nat.ne_of_lt (Nat.lt_of_lt_of_le (by have:=cLt _ _ hw384_1;first|rwa [add_block] at this|exact this) GW381.out))) _).trans (hHeld.2.2.2.2.2.2.2.2.2.2.1)),((cell_far (p:=⟨gb381,_,none⟩) (by first|exact Nat.ne_of_lt (Nat.lt_of_lt_of_le (by have:=cLt _ _ hw384_2;first|rwa [add_block] at this|exact this) GW381.out)|(rw [add_block];exact Nat.ne_of_lt (Nat.lt_of_lt_of_le (by have:=cLt _ _ hw384_2;first|rwa [add_block] at this|exact this) GW381.out))|(show (Addr.add _ _).block ≠ _;rw [add_block];exact Nat.ne_of_lt (Nat.lt_of_lt_of_le (by have:=cLt _ _ hw384_2;first|rwa [add_block] at this|exact this) GW381.out))|(dsimp only;exact Nat.ne_of_lt (Nat.lt_of_lt_of_le (by have:=cLt _ _ hw384_2;first|rwa [add_block] at this|exact this) GW381.out))) _).trans (hHeld.2.2.2.2.2.2.2.2.2.2.2))⟩ (fun hHeld=>?_)
        clear hK K
        refine done_ (done_of HT_.out (by kernel_rfl)) ?_
        have hcz23_0 : w20.cell? ⟨gb381,0,none⟩=some (.int .i64 0):=(blk_cell BK381.out 0).trans rfl
        have hcz23_1 : w20.cell? ⟨gb381,1,none⟩=some (.int .i64 0):=(blk_cell BK381.out 1).trans rfl
        have hcz23_2 : w20.cell? ⟨gb381,2,none⟩=some (.bool ((rd_T36 l0 x7_1).f2)):=(blk_cell BK381.out 2).trans rfl
        have hcz23_3 : w20.cell? ⟨gb381,3,none⟩=some (.bool true):=(blk_cell BK381.out 3).trans rfl
        have hfz23_0:=blk_frozen BK381.out 0
        have hfz23_1:=blk_frozen BK381.out 1
        have hfz23_2:=blk_frozen BK381.out 2
        have hfz23_3:=blk_frozen BK381.out 3
        try go_wp2_with (first|((with_reducible refine gate_builtin (b:=.append) (xs:=#[.tmp 54,.tmp 56]) rfl ?_);at_builtin;refine Kd.R_append k100 (w0:=w) w.heap.size rfl (.tmp 54) (.tmp 56) 98 100 (.agg #[(.int .i64 0),(.int .i64 0),(.bool false),(.bool false)]) 24 rfl Try.underlying98 info100 rfl (by decide) (by omega) u6 x6_1 (⟨(⟨t386,t387⟩ : S41),(rd_T36 l0 x7_1).f2,true⟩ : S100) [.int .i64 t386,.int .i64 t387,.bool ((rd_T36 l0 x7_1).f2),.bool true] (fun k_=>k_ ≠ gb381) (fun _=>False) rfl (by first|(go_simp;done)|(go_simp;rfl)) ?aP (fun _ hk=>hk.elim) ?aF ?aO ?aB ?aS ?aL ?_;(case aP=>exact k100_mkM _ _ _ (⟨(⟨t386,t387⟩ : S41),(rd_T36 l0 x7_1).f2,true⟩ : S100));(case aB=>exact (by repeat (first|(with_reducible first|exact HB.out|apply bAl|apply bDN|apply bD1|refine bSe ?_ GE379.out|refine bSe ?_ GE381.out)|exact HB.out)));(case aF=>exact (fun k_ hk=>Kd.freshB (g:=gb381) (o:=.cells #[.int .i64 t386,.int .i64 t387,.bool ((rd_T36 l0 x7_1).f2),.bool true] 100 (0,0)) (by (with_reducible repeat first|apply kN|apply kD|apply kA);refine blk_put (cs:=#[.int .i64 t386,.int .i64 0,.bool ((rd_T36 l0 x7_1).f2),.bool true]) ?_ 1 _ rfl;(with_reducible repeat first|apply kN|apply kD|apply kA);refine blk_put (cs:=#[.int .i64 0,.int .i64 0,.bool ((rd_T36 l0 x7_1).f2),.bool true]) ?_ 0 _ rfl;(with_reducible repeat first|apply kN|apply kD|apply kA);exact BK381.out) k_ hk));(case aO=>exact (by (with_reducible repeat (first|apply Kd.R_alloc|apply Kd.R_drewN|apply Kd.R_drew));exact Kd.R_mono (Kd.R_far (p:=⟨gb381,1,none⟩) (Kd.R_far (p:=⟨gb381,0,none⟩) (Kd.R_mono HO_6.out (fun k_ hk=>(⟨hk,hk⟩ : _∧k_ ≠ gb381))) (fun _ hk=>hk.2) (.int .i64 t386)) (fun _ hk=>hk.2) (.int .i64 t387)) (fun _ hk=>hk.1)));(case aS=>exact (below_size (by repeat (first|(with_reducible first|exact HB.out|apply bAl|apply bDN|apply bD1|refine bSe ?_ GE379.out|refine bSe ?_ GE381.out)|exact HB.out))));(case aL=>have:=LMc12.out;omega);intro v389 w24 ho hb hg hat;rw [← Ny388.out] at ho;have n0_:=amk (blk_grown (g:=gb379) (o:=.cells #[.int .i64 a1_0,.int .i64 a1_1,.int .i64 a1_2,.int .i64 a1_3,.int .i64 a1_4,.int .i64 a1_5] 26 (0,0)) (by (with_reducible repeat first|apply kN|apply kD|apply kA);refine blk_far ?_ NB379_381.out _;(with_reducible repeat first|apply kN|apply kD|apply kA);refine blk_far ?_ NB379_381.out _;(with_reducible repeat first|apply kN|apply kD|apply kA);exact BK379.out) hg (Kd.R_ne HO_6.out BK379.out (by decide)));have n1_:=amk (blk_grown (g:=gb381) (o:=.cells #[.int .i64 t386,.int .i64 t387,.bool ((rd_T36 l0 x7_1).f2),.bool true] 100 (0,0)) (by (with_reducible repeat first|apply kN|apply kD|apply kA);refine blk_put (cs:=#[.int .i64 t386,.int .i64 0,.bool ((rd_T36 l0 x7_1).f2),.bool true]) ?_ 1 _ rfl;(with_reducible repeat first|apply kN|apply kD|apply kA);refine blk_put (cs:=#[.int .i64 0,.int .i64 0,.bool ((rd_T36 l0 x7_1).f2),.bool true]) ?_ 0 _ rfl;(with_reducible repeat first|apply kN|apply kD|apply kA);exact BK381.out) hg (Kd.R_away HO_6.out (fun _ hk=>hk)));have n2_:=amk (hb);have n3_:=amk (ho);clear BK379;clear BK381;clear HB;clear HO_6;have BK379:=n0_;have BK381:=n1_;have HB:=n2_;have HO390:=n3_;clear n0_ n1_ n2_ n3_;clear ho hb hg hat))
        go_roundg k1
        case measure=>have:=HK1.out;omega
        case rel=>exact ⟨(y388),(wrap64 (x7_1+1)),(by first|rfl|(simp;done)|(simp [*];done)),H',⟨by have:=HK1.out;omega⟩,⟨by (with_reducible repeat (first|apply Kd.R_alloc|apply Kd.R_drewN|apply Kd.R_drew));exact Kd.R_mono HO390.out (fun _ hk=>trivial)⟩,⟨by (with_reducible repeat first|apply kN|apply kD|apply kA);exact BK379.out⟩,⟨by repeat (first|(with_reducible first|exact HB.out|apply bAl|apply bDN|apply bD1|refine bSe ?_ GE379.out|refine bSe ?_ GE381.out)|exact HB.out)⟩⟩
       ·rw [if_neg c12] at H
        exact absurd H (by simp)
      ·rw [if_neg c8] at H
       exact absurd H (by simp)
     ·rw [if_neg c7] at H
      exact absurd H (by simp)
    ·rw [if_neg c6] at H
     have c6b0 : decide (x7_1 < (l0.length : Int))=false:=decide_eq_false c6
     clear c6
     have H':=amk H
     clear H
     go_wp2
     go_loopg [9,10] k1 (fun kq v9 v10 w'=>∃ (x9_2 : List (S100)) (x10_2 : Int),v10=.int .i64 x10_2∧Aside0 (versalref14_contour.l1 kq (l0.length : Int) x6_1 x9_2 x10_2=some r)∧Aside0 (kq≤k1)∧Aside0 (Kd.R k100 100 w' w.heap.size (fun k_=>some k_ ≠ (v9 : Value).ownBlock) u6 x6_1)∧Aside0 (Kd.R k100 100 w' w.heap.size (fun k_=>some k_ ≠ (u6 : Value).ownBlock) v9 x9_2)∧Aside0 (w'.heap[gb379]?=some (.cells #[.int .i64 a1_0,.int .i64 a1_1,.int .i64 a1_2,.int .i64 a1_3,.int .i64 a1_4,.int .i64 a1_5] 26 (0,0)))∧Aside0 (Below w.heap.size w w'))
     case atStart=>exact ⟨(([] : List (S100))),(0),(by first|rfl|(simp;done)|(simp [*];done)),H',⟨Nat.le_refl _⟩,⟨by (with_reducible repeat (first|apply Kd.R_alloc|apply Kd.R_drewN|apply Kd.R_drew));exact Kd.R_mono HO_6.out (fun _ hk=>(by simp [Value.ownBlock]))⟩,⟨by first|exact Kd.R_nil _ _ _ _ _|exact Kd.N_nil _ _ _ _ _|exact Kd.V_nil _ _ _ _ _|exact Kd.Q_nil _ _ _ _ _|exact Kd.S_nil _ _ _ _ _⟩,⟨by (with_reducible repeat first|apply kN|apply kD|apply kA);exact BK379.out⟩,⟨by repeat (first|(with_reducible first|exact HB.out|apply bAl|apply bDN|apply bD1|refine bSe ?_ GE379.out)|exact HB.out)⟩⟩
     case round =>
      clear H'
      try clear c1
      try clear p2
      try clear c3
      try clear c3b0
      try clear c3b1
      try clear p3
      try clear q3
      try clear hx3
      try clear c6
      try clear c6b0
      try clear p6
      try clear c7
      try clear c7b0
      try clear c8
      try clear c8b0
      try clear c11
      try clear c12
      try clear c14
      try clear hcz15_0
      try clear hcz15_1
      try clear hcz15_2
      try clear hcz15_3
      try clear hcz23_0
      try clear hcz23_1
      try clear hcz23_2
      try clear hcz23_3
      try clear hfz15_0
      try clear hfz15_1
      try clear hfz15_2
      try clear hfz15_3
      try clear hfz23_0
      try clear hfz23_1
      try clear hfz23_2
      try clear hfz23_3
      try clear hx380_0
      try clear hx380_1
      try clear hx380_2
      try clear hx382_0
      try clear hx382_1
      try clear hx382_2
      try clear hx384_0
      try clear hx384_1
      try clear hx384_2
      try clear p2
      try clear p380
      try clear p382
      try clear p384
      try clear q380
      try clear q382
      try clear q384
      obtain ⟨x9_2,x10_2,rfl,HA,HK2,HO_6,HO_9,BK379,HB⟩:=hrel
      cases gk with
      | zero=>exact absurd HA.out (by simp [versalref14_contour.l1])
      | succ k2 =>
       have H:=HA.out
       clear HA
       simp only [versalref14_contour.l1] at H
       by_cases c25 : x10_2 < (l0.length : Int)
       ·rw [if_pos c25] at H
        have c25b0 : decide (x10_2 < (l0.length : Int))=true:=decide_eq_true c25
        clear c25
        by_cases c26 : (l0.length : Int)=0
        ·rw [if_pos c26] at H
         exact absurd H (by simp)
        ·rw [if_neg c26] at H
         have c26b0 : ((l0.length : Int) == 0)=false:=beq_eq_false_iff_ne.mpr c26
         have c26b1 : ((l0.length : Int) != 0)=true:=bne_iff_ne.mpr c26
         have c26b2 : ¬ (l0=[]):=fun h_=>c26 (by rw [h_];rfl)
         obtain ⟨ji27,hji27⟩ : ∃ j_ : Int,(Int.tmod (wrap64 ((wrap64 (x10_2+(l0.length : Int))) - 1)) (l0.length : Int))=j_:=⟨_,rfl⟩
         replace H : (if 0≤(ji27) then (if (ji27) < (x6_1.length : Int) then (if ((rd_T100 x6_1 (ji27)).f1=true) then (if 0≤x10_2 then (if x10_2 < (x6_1.length : Int) then (if x9_2.length < 5864062014805 then (versalref14_contour.l1 k2 (l0.length : Int) x6_1 (x9_2 ++ [(⟨(⟨(rd_T100 x6_1 x10_2).f0.f0,(rd_T100 x6_1 x10_2).f0.f1⟩ : S41),(rd_T100 x6_1 x10_2).f1,(rd_T100 x6_1 x10_2).f2⟩ : S100)]) (wrap64 (x10_2+1))) else (none)) else (none)) else (none)) else (if 0≤x10_2 then (if x10_2 < (x6_1.length : Int) then (if ((rd_T100 x6_1 x10_2).f1=true) then (if x9_2.length < 5864062014805 then (versalref14_contour.l1 k2 (l0.length : Int) x6_1 (x9_2 ++ [(⟨(⟨(rd_T100 x6_1 x10_2).f0.f0,(rd_T100 x6_1 x10_2).f0.f1⟩ : S41),(rd_T100 x6_1 x10_2).f1,(rd_T100 x6_1 x10_2).f2⟩ : S100)]) (wrap64 (x10_2+1))) else (none)) else ((versalref14_middle.f ((rd_T100 x6_1 (ji27)).f0.f0) ((rd_T100 x6_1 (ji27)).f0.f1) ((rd_T100 x6_1 x10_2).f0.f0) ((rd_T100 x6_1 x10_2).f0.f1)).bind fun bt403=>(if x9_2.length < 5864062014805 then ((some (x9_2 ++ [(⟨(⟨bt403.1,bt403.2⟩ : S41),true,false⟩ : S100)] : List (S100))).bind fun y405=>(if y405.length < 5864062014805 then (versalref14_contour.l1 k2 (l0.length : Int) x6_1 (y405 ++ [(⟨(⟨(rd_T100 x6_1 x10_2).f0.f0,(rd_T100 x6_1 x10_2).f0.f1⟩ : S41),(rd_T100 x6_1 x10_2).f1,(rd_T100 x6_1 x10_2).f2⟩ : S100)]) (wrap64 (x10_2+1))) else (none))) else (none)))) else (none)) else (none))) else (none)) else (none))=some r:=by first|(rw [hji27] at H;exact H)|(simp only [hji27] at H ⊢;exact H)
         by_cases c28 : 0≤(ji27)
         ·rw [if_pos c28] at H
          have c28b0 : decide (0≤(ji27))=true:=decide_eq_true c28
          clear c28
          by_cases c29 : (ji27) < (x6_1.length : Int)
          ·rw [if_pos c29] at H
           have c29b0 : decide ((ji27) < (x6_1.length : Int))=true:=decide_eq_true c29
           clear c29
           obtain ⟨bq30,hbq30⟩ : ∃ b_ : Bool,b_=((rd_T100 x6_1 (ji27)).f1):=⟨_,rfl⟩
           replace H : (if (bq30=true) then (if 0≤x10_2 then (if x10_2 < (x6_1.length : Int) then (if x9_2.length < 5864062014805 then (versalref14_contour.l1 k2 (l0.length : Int) x6_1 (x9_2 ++ [(⟨(⟨(rd_T100 x6_1 x10_2).f0.f0,(rd_T100 x6_1 x10_2).f0.f1⟩ : S41),(rd_T100 x6_1 x10_2).f1,(rd_T100 x6_1 x10_2).f2⟩ : S100)]) (wrap64 (x10_2+1))) else (none)) else (none)) else (none)) else (if 0≤x10_2 then (if x10_2 < (x6_1.length : Int) then (if ((rd_T100 x6_1 x10_2).f1=true) then (if x9_2.length < 5864062014805 then (versalref14_contour.l1 k2 (l0.length : Int) x6_1 (x9_2 ++ [(⟨(⟨(rd_T100 x6_1 x10_2).f0.f0,(rd_T100 x6_1 x10_2).f0.f1⟩ : S41),(rd_T100 x6_1 x10_2).f1,(rd_T100 x6_1 x10_2).f2⟩ : S100)]) (wrap64 (x10_2+1))) else (none)) else ((versalref14_middle.f ((rd_T100 x6_1 (ji27)).f0.f0) ((rd_T100 x6_1 (ji27)).f0.f1) ((rd_T100 x6_1 x10_2).f0.f0) ((rd_T100 x6_1 x10_2).f0.f1)).bind fun bt403=>(if x9_2.length < 5864062014805 then ((some (x9_2 ++ [(⟨(⟨bt403.1,bt403.2⟩ : S41),true,false⟩ : S100)] : List (S100))).bind fun y405=>(if y405.length < 5864062014805 then (versalref14_contour.l1 k2 (l0.length : Int) x6_1 (y405 ++ [(⟨(⟨(rd_T100 x6_1 x10_2).f0.f0,(rd_T100 x6_1 x10_2).f0.f1⟩ : S41),(rd_T100 x6_1 x10_2).f1,(rd_T100 x6_1 x10_2).f2⟩ : S100)]) (wrap64 (x10_2+1))) else (none))) else (none)))) else (none)) else (none)))=some r:=by rw [← hbq30] at H;exact H
           have Nbq30:=amk hbq30
           clear hbq30
           by_cases c31 : (bq30=true)
           ·subst c31
            have H1 : (if 0≤x10_2 then (if x10_2 < (x6_1.length : Int) then (if x9_2.length < 5864062014805 then (versalref14_contour.l1 k2 (l0.length : Int) x6_1 (x9_2 ++ [(⟨(⟨(rd_T100 x6_1 x10_2).f0.f0,(rd_T100 x6_1 x10_2).f0.f1⟩ : S41),(rd_T100 x6_1 x10_2).f1,(rd_T100 x6_1 x10_2).f2⟩ : S100)]) (wrap64 (x10_2+1))) else (none)) else (none)) else (none))=some r:=by rw [if_pos rfl] at H;exact H
            clear H
            have H:=H1
            clear H1
            by_cases c32 : 0≤x10_2
            ·rw [if_pos c32] at H
             have c32b0 : decide (0≤x10_2)=true:=decide_eq_true c32
             clear c32
             by_cases c33 : x10_2 < (x6_1.length : Int)
             ·rw [if_pos c33] at H
              have c33b0 : decide (x10_2 < (x6_1.length : Int))=true:=decide_eq_true c33
              clear c33
              by_cases c34 : x9_2.length < 5864062014805
              ·rw [if_pos c34] at H
               have LMc34:=amk c34
               clear c34
               obtain ⟨y394,hy394⟩ : ∃ y_ : List (S100),y_=(x9_2 ++ [(⟨(⟨(rd_T100 x6_1 x10_2).f0.f0,(rd_T100 x6_1 x10_2).f0.f1⟩ : S41),(rd_T100 x6_1 x10_2).f1,(rd_T100 x6_1 x10_2).f2⟩ : S100)]):=⟨_,rfl⟩
               replace H : (versalref14_contour.l1 k2 (l0.length : Int) x6_1 y394 (wrap64 (x10_2+1)))=some r:=by first|(rw [hy394];with_reducible exact H)|(have H2_:=(Option.bind_some _ _).symm.trans H;rw [hy394];with_reducible exact H2_)|(have H2_:=(Option.bind_some _ _).symm.trans H;with_reducible exact H2_)|with_reducible exact H|(rw [hy394];exact H)|exact H
               have Ny394:=amk hy394
               clear hy394
               have H':=amk H
               clear H
               obtain ⟨Ao35,co35,eo35⟩:=Kd.R_slice HO_6.out
               subst eo35
               have p391 : 0≤((ji27) : Int):=of_decide_eq_true (by first|(with_reducible assumption)|assumption)
               have q391 : (ji27) < (x6_1.length : Int):=of_decide_eq_true (by first|(with_reducible assumption)|assumption)
               obtain ⟨ad391,e391,hx391_0,hx391_1,hx391_2,hx391_3⟩:=at_T100 (Kd.R_reads' HO_6.out).2.2 (ji27) p391 q391
               (try rw [← Nbq30.out] at hx391_2)
               (try rw [← Nbq30.out] at hx391_3)
               cases e391
               replace p391:=eq_true p391
               replace q391:=eq_true q391
               go_wp2_with (first|((with_reducible refine gate_dst (N:=11) rfl ?_);refine box_event ?hg (N:=11) ?hd (cs:=#[.int .i64 0,.int .i64 0,.bool false,.bool false]) (t:=100) ?hr ?_;(case hd=>rfl);(case hg=>rfl);(case hr=>first|(go_simp;done)|(go_simp;rfl));intro gb392 hg w36 hbox hb;have n0_:=amk (Kd.R_below (Kd.R_elderB (by (with_reducible repeat (first|apply Kd.R_alloc|apply Kd.R_drewN|apply Kd.R_drew));exact HO_6.out) gb392 (Nat.le_of_eq hg.symm)) hb);have n1_:=amk (Kd.R_below (Kd.R_elderB (by (with_reducible repeat (first|apply Kd.R_alloc|apply Kd.R_drewN|apply Kd.R_drew));exact HO_9.out) gb392 (Nat.le_of_eq hg.symm)) hb);have n2_:=amk (blk_below (g:=gb379) (o:=.cells #[.int .i64 a1_0,.int .i64 a1_1,.int .i64 a1_2,.int .i64 a1_3,.int .i64 a1_4,.int .i64 a1_5] 26 (0,0)) (by (with_reducible repeat first|apply kN|apply kD|apply kA);exact BK379.out) hb);have n3_:=amk (below_step (by repeat (first|(with_reducible first|exact HB.out|apply bAl|apply bDN|apply bD1|refine bSe ?_ GE379.out)|exact HB.out)) hb);have n4_:=amk (hbox);have n5_:=amk ((by rw [hg];exact (below_size (by repeat (first|(with_reducible first|exact HB.out|apply bAl|apply bDN|apply bD1|refine bSe ?_ GE379.out)|exact HB.out))) : w.heap.size≤gb392));have n6_:=amk ((by rw [hg];exact (below_size (by repeat (first|(with_reducible first|exact HB.out|apply bAl|apply bDN|apply bD1|refine bSe ?_ GE379.out)|exact HB.out))) : w.heap.size≤gb392));have n7_:=amk ((by rw [hg];exact Nat.ne_of_lt (blk_lt (g:=gb379) (o:=.cells #[.int .i64 a1_0,.int .i64 a1_1,.int .i64 a1_2,.int .i64 a1_3,.int .i64 a1_4,.int .i64 a1_5] 26 (0,0)) (by (with_reducible repeat first|apply kN|apply kD|apply kA);exact BK379.out)) : gb379 ≠ gb392));have n8_:=amk ((by rw [hg];exact Nat.ne_of_gt (blk_lt (g:=gb379) (o:=.cells #[.int .i64 a1_0,.int .i64 a1_1,.int .i64 a1_2,.int .i64 a1_3,.int .i64 a1_4,.int .i64 a1_5] 26 (0,0)) (by (with_reducible repeat first|apply kN|apply kD|apply kA);exact BK379.out)) : gb392 ≠ gb379));clear HO_6;clear HO_9;clear BK379;clear HB;have HO_6:=n0_;have HO_9:=n1_;have BK379:=n2_;have HB:=n3_;have BK392:=n4_;have GW392:=n5_;have GE392:=n6_;have NB379_392:=n7_;have NB392_379:=n8_;clear n0_ n1_ n2_ n3_ n4_ n5_ n6_ n7_ n8_;clear hb hbox hg;have hnb37:=NB392_379.out;have hnc37:=NB379_392.out;have hcz38_0 : w36.cell? ⟨gb392,0,none⟩=some (.int .i64 0):=(blk_cell BK392.out 0).trans rfl;have hcz38_1 : w36.cell? ⟨gb392,1,none⟩=some (.int .i64 0):=(blk_cell BK392.out 1).trans rfl;have hcz38_2 : w36.cell? ⟨gb392,2,none⟩=some (.bool false):=(blk_cell BK392.out 2).trans rfl;have hcz38_3 : w36.cell? ⟨gb392,3,none⟩=some (.bool false):=(blk_cell BK392.out 3).trans rfl;have hfz38_0:=blk_frozen BK392.out 0;have hfz38_1:=blk_frozen BK392.out 1;have hfz38_2:=blk_frozen BK392.out 2;have hfz38_3:=blk_frozen BK392.out 3;have p393 : 0≤(x10_2 : Int):=of_decide_eq_true (by first|(with_reducible assumption)|assumption);have q393 : x10_2 < (x6_1.length : Int):=of_decide_eq_true (by first|(with_reducible assumption)|assumption);obtain ⟨ad393,e393,hx393_0,hx393_1,hx393_2,hx393_3⟩:=at_T100 (Kd.R_reads' HO_6.out).2.2 x10_2 p393 q393;(try rw [← Nbq30.out] at hx393_2);(try rw [← Nbq30.out] at hx393_3);obtain rfl : ad391=ad393:=(by injection e393);have hn393_0 : ad391.block ≠ gb392:=Kd.own_blk (Kd.R_away HO_6.out (fun _ hk=>hk.2));have hn393_1 : ad391.block ≠ gb392:=Kd.own_blk (Kd.R_away HO_6.out (fun _ hk=>hk.2));have hn393_2 : ad391.block ≠ gb392:=Kd.own_blk (Kd.R_away HO_6.out (fun _ hk=>hk.2));have hn393_3 : ad391.block ≠ gb392:=Kd.own_blk (Kd.R_away HO_6.out (fun _ hk=>hk.2));replace hx393_0:=(cell_far (p:=⟨gb392,0,none⟩) (by first|(rw [add_block];exact hn393_0)|(show (Addr.add _ _).block ≠ _;rw [add_block];exact hn393_0)|exact hn393_0) (.int .i64 ((rd_T100 x6_1 (ji27)).f0.f0))).trans hx393_0;replace hx393_1:=(cell_far (p:=⟨gb392,0,none⟩) (by first|(rw [add_block];exact hn393_0)|(show (Addr.add _ _).block ≠ _;rw [add_block];exact hn393_0)|exact hn393_0) (.int .i64 ((rd_T100 x6_1 (ji27)).f0.f0))).trans hx393_1;replace hx393_2:=(cell_far (p:=⟨gb392,0,none⟩) (by first|(rw [add_block];exact hn393_0)|(show (Addr.add _ _).block ≠ _;rw [add_block];exact hn393_0)|exact hn393_0) (.int .i64 ((rd_T100 x6_1 (ji27)).f0.f0))).trans hx393_2;replace hx393_3:=(cell_far (p:=⟨gb392,0,none⟩) (by first|(rw [add_block];exact hn393_0)|(show (Addr.add _ _).block ≠ _;rw [add_block];exact hn393_0)|exact hn393_0) (.int .i64 ((rd_T100 x6_1 (ji27)).f0.f0))).trans hx393_3;replace hx393_0:=(cell_far (p:=⟨gb392,1,none⟩) (by first|(rw [add_block];exact hn393_1)|(show (Addr.add _ _).block ≠ _;rw [add_block];exact hn393_1)|exact hn393_1) (.int .i64 ((rd_T100 x6_1 (ji27)).f0.f1))).trans hx393_0;replace hx393_1:=(cell_far (p:=⟨gb392,1,none⟩) (by first|(rw [add_block];exact hn393_1)|(show (Addr.add _ _).block ≠ _;rw [add_block];exact hn393_1)|exact hn393_1) (.int .i64 ((rd_T100 x6_1 (ji27)).f0.f1))).trans hx393_1;replace hx393_2:=(cell_far (p:=⟨gb392,1,none⟩) (by first|(rw [add_block];exact hn393_1)|(show (Addr.add _ _).block ≠ _;rw [add_block];exact hn393_1)|exact hn393_1) (.int .i64 ((rd_T100 x6_1 (ji27)).f0.f1))).trans hx393_2;replace hx393_3:=(cell_far (p:=⟨gb392,1,none⟩) (by first|(rw [add_block];exact hn393_1)|(show (Addr.add _ _).block ≠ _;rw [add_block];exact hn393_1)|exact hn393_1) (.int .i64 ((rd_T100 x6_1 (ji27)).f0.f1))).trans hx393_3;replace hx393_0:=(cell_far (p:=⟨gb392,2,none⟩) (by first|(rw [add_block];exact hn393_2)|(show (Addr.add _ _).block ≠ _;rw [add_block];exact hn393_2)|exact hn393_2) (.bool true)).trans hx393_0;replace hx393_1:=(cell_far (p:=⟨gb392,2,none⟩) (by first|(rw [add_block];exact hn393_2)|(show (Addr.add _ _).block ≠ _;rw [add_block];exact hn393_2)|exact hn393_2) (.bool true)).trans hx393_1;replace hx393_2:=(cell_far (p:=⟨gb392,2,none⟩) (by first|(rw [add_block];exact hn393_2)|(show (Addr.add _ _).block ≠ _;rw [add_block];exact hn393_2)|exact hn393_2) (.bool true)).trans hx393_2;replace hx393_3:=(cell_far (p:=⟨gb392,2,none⟩) (by first|(rw [add_block];exact hn393_2)|(show (Addr.add _ _).block ≠ _;rw [add_block];exact hn393_2)|exact hn393_2) (.bool true)).trans hx393_3;replace hx393_0:=(cell_far (p:=⟨gb392,3,none⟩) (by first|(rw [add_block];exact hn393_3)|(show (Addr.add _ _).block ≠ _;rw [add_block];exact hn393_3)|exact hn393_3) (.bool ((rd_T100 x6_1 (ji27)).f2))).trans hx393_0;replace hx393_1:=(cell_far (p:=⟨gb392,3,none⟩) (by first|(rw [add_block];exact hn393_3)|(show (Addr.add _ _).block ≠ _;rw [add_block];exact hn393_3)|exact hn393_3) (.bool ((rd_T100 x6_1 (ji27)).f2))).trans hx393_1;replace hx393_2:=(cell_far (p:=⟨gb392,3,none⟩) (by first|(rw [add_block];exact hn393_3)|(show (Addr.add _ _).block ≠ _;rw [add_block];exact hn393_3)|exact hn393_3) (.bool ((rd_T100 x6_1 (ji27)).f2))).trans hx393_2;replace hx393_3:=(cell_far (p:=⟨gb392,3,none⟩) (by first|(rw [add_block];exact hn393_3)|(show (Addr.add _ _).block ≠ _;rw [add_block];exact hn393_3)|exact hn393_3) (.bool ((rd_T100 x6_1 (ji27)).f2))).trans hx393_3;clear hn393_0;clear hn393_1;clear hn393_2;clear hn393_3;replace p393:=eq_true p393;replace q393:=eq_true q393)|((with_reducible refine gate_builtin (b:=.append) (xs:=#[.tmp 95,.tmp 100]) rfl ?_);at_builtin;refine Kd.R_append k100 (w0:=w) w.heap.size rfl (.tmp 95) (.tmp 100) 98 100 (.agg #[(.int .i64 0),(.int .i64 0),(.bool false),(.bool false)]) 24 rfl Try.underlying98 info100 rfl (by decide) (by omega) u9 x9_2 (⟨(⟨(rd_T100 x6_1 x10_2).f0.f0,(rd_T100 x6_1 x10_2).f0.f1⟩ : S41),(rd_T100 x6_1 x10_2).f1,(rd_T100 x6_1 x10_2).f2⟩ : S100) [.int .i64 ((rd_T100 x6_1 x10_2).f0.f0),.int .i64 ((rd_T100 x6_1 x10_2).f0.f1),.bool ((rd_T100 x6_1 x10_2).f1),.bool ((rd_T100 x6_1 x10_2).f2)] (fun k_=>some k_ ≠ (.slice (some ad391) x6_1.length co35 : Value).ownBlock∧k_ ≠ gb392) (fun _=>False) rfl (by first|(go_simp;done)|(go_simp;rfl)) ?aP (fun _ hk=>hk.elim) ?aF ?aO ?aB ?aS ?aL ?_;(case aP=>exact k100_mkM _ _ _ (⟨(⟨(rd_T100 x6_1 x10_2).f0.f0,(rd_T100 x6_1 x10_2).f0.f1⟩ : S41),(rd_T100 x6_1 x10_2).f1,(rd_T100 x6_1 x10_2).f2⟩ : S100));(case aB=>exact (by repeat (first|(with_reducible first|exact HB.out|apply bAl|apply bDN|apply bD1|refine bSe ?_ GE379.out|refine bSe ?_ GE392.out)|exact HB.out)));(case aF=>exact (fun k_ hk=>⟨Kd.fresh' (Kd.R_lt (by (with_reducible repeat (first|apply Kd.R_alloc|apply Kd.R_drewN|apply Kd.R_drew));exact (Kd.R_mono (Kd.R_far (p:=⟨gb392,3,none⟩) (Kd.R_far (p:=⟨gb392,2,none⟩) (Kd.R_far (p:=⟨gb392,1,none⟩) (Kd.R_far (p:=⟨gb392,0,none⟩) (Kd.R_mono HO_6.out (fun k_ hk=>(⟨hk,hk.2⟩ : _∧k_ ≠ gb392))) (fun _ hk=>hk.2) (.int .i64 ((rd_T100 x6_1 (ji27)).f0.f0))) (fun _ hk=>hk.2) (.int .i64 ((rd_T100 x6_1 (ji27)).f0.f1))) (fun _ hk=>hk.2) (.bool true)) (fun _ hk=>hk.2) (.bool ((rd_T100 x6_1 (ji27)).f2))) (fun _ h_=>h_.1)))) k_ hk,Kd.freshB (g:=gb392) (o:=.cells #[.int .i64 ((rd_T100 x6_1 (ji27)).f0.f0),.int .i64 ((rd_T100 x6_1 (ji27)).f0.f1),.bool true,.bool ((rd_T100 x6_1 (ji27)).f2)] 100 (0,0)) (by (with_reducible repeat first|apply kN|apply kD|apply kA);refine blk_put (cs:=#[.int .i64 ((rd_T100 x6_1 (ji27)).f0.f0),.int .i64 ((rd_T100 x6_1 (ji27)).f0.f1),.bool true,.bool false]) ?_ 3 _ rfl;(with_reducible repeat first|apply kN|apply kD|apply kA);refine blk_put (cs:=#[.int .i64 ((rd_T100 x6_1 (ji27)).f0.f0),.int .i64 ((rd_T100 x6_1 (ji27)).f0.f1),.bool false,.bool false]) ?_ 2 _ rfl;(with_reducible repeat first|apply kN|apply kD|apply kA);refine blk_put (cs:=#[.int .i64 ((rd_T100 x6_1 (ji27)).f0.f0),.int .i64 0,.bool false,.bool false]) ?_ 1 _ rfl;(with_reducible repeat first|apply kN|apply kD|apply kA);refine blk_put (cs:=#[.int .i64 0,.int .i64 0,.bool false,.bool false]) ?_ 0 _ rfl;(with_reducible repeat first|apply kN|apply kD|apply kA);exact BK392.out) k_ hk⟩));(case aO=>exact (by (with_reducible repeat (first|apply Kd.R_alloc|apply Kd.R_drewN|apply Kd.R_drew));exact Kd.R_mono (Kd.R_far (p:=⟨gb392,3,none⟩) (Kd.R_far (p:=⟨gb392,2,none⟩) (Kd.R_far (p:=⟨gb392,1,none⟩) (Kd.R_far (p:=⟨gb392,0,none⟩) (Kd.R_mono HO_9.out (fun k_ hk=>(⟨hk,hk.2⟩ : _∧k_ ≠ gb392))) (fun _ hk=>hk.2) (.int .i64 ((rd_T100 x6_1 (ji27)).f0.f0))) (fun _ hk=>hk.2) (.int .i64 ((rd_T100 x6_1 (ji27)).f0.f1))) (fun _ hk=>hk.2) (.bool true)) (fun _ hk=>hk.2) (.bool ((rd_T100 x6_1 (ji27)).f2))) (fun _ hk=>⟨hk.1.1,hk.1.2⟩)));(case aS=>exact (below_size (by repeat (first|(with_reducible first|exact HB.out|apply bAl|apply bDN|apply bD1|refine bSe ?_ GE379.out|refine bSe ?_ GE392.out)|exact HB.out))));(case aL=>have:=LMc34.out;omega);intro v395 w39 ho hb hg hat;rw [← Ny394.out] at ho;have n0_:=amk (Kd.R_after (ok:=(fun k_=>k_ ≠ gb392)) (by (with_reducible repeat (first|apply Kd.R_alloc|apply Kd.R_drewN|apply Kd.R_drew));exact Kd.R_mono (Kd.R_far (p:=⟨gb392,3,none⟩) (Kd.R_far (p:=⟨gb392,2,none⟩) (Kd.R_far (p:=⟨gb392,1,none⟩) (Kd.R_far (p:=⟨gb392,0,none⟩) (Kd.R_mono HO_6.out (fun k_ hk=>(⟨hk,hk.2⟩ : _∧k_ ≠ gb392))) (fun _ hk=>hk.2) (.int .i64 ((rd_T100 x6_1 (ji27)).f0.f0))) (fun _ hk=>hk.2) (.int .i64 ((rd_T100 x6_1 (ji27)).f0.f1))) (fun _ hk=>hk.2) (.bool true)) (fun _ hk=>hk.2) (.bool ((rd_T100 x6_1 (ji27)).f2))) (fun _ hk=>⟨hk.1.2,hk.1.1⟩)) hg hat);have n1_:=amk (blk_grown (g:=gb379) (o:=.cells #[.int .i64 a1_0,.int .i64 a1_1,.int .i64 a1_2,.int .i64 a1_3,.int .i64 a1_4,.int .i64 a1_5] 26 (0,0)) (by (with_reducible repeat first|apply kN|apply kD|apply kA);refine blk_far ?_ NB379_392.out _;(with_reducible repeat first|apply kN|apply kD|apply kA);refine blk_far ?_ NB379_392.out _;(with_reducible repeat first|apply kN|apply kD|apply kA);refine blk_far ?_ NB379_392.out _;(with_reducible repeat first|apply kN|apply kD|apply kA);refine blk_far ?_ NB379_392.out _;(with_reducible repeat first|apply kN|apply kD|apply kA);exact BK379.out) hg (Kd.R_ne HO_9.out BK379.out (by decide)));have n2_:=amk (blk_grown (g:=gb392) (o:=.cells #[.int .i64 ((rd_T100 x6_1 (ji27)).f0.f0),.int .i64 ((rd_T100 x6_1 (ji27)).f0.f1),.bool true,.bool ((rd_T100 x6_1 (ji27)).f2)] 100 (0,0)) (by (with_reducible repeat first|apply kN|apply kD|apply kA);refine blk_put (cs:=#[.int .i64 ((rd_T100 x6_1 (ji27)).f0.f0),.int .i64 ((rd_T100 x6_1 (ji27)).f0.f1),.bool true,.bool false]) ?_ 3 _ rfl;(with_reducible repeat first|apply kN|apply kD|apply kA);refine blk_put (cs:=#[.int .i64 ((rd_T100 x6_1 (ji27)).f0.f0),.int .i64 ((rd_T100 x6_1 (ji27)).f0.f1),.bool false,.bool false]) ?_ 2 _ rfl;(with_reducible repeat first|apply kN|apply kD|apply kA);refine blk_put (cs:=#[.int .i64 ((rd_T100 x6_1 (ji27)).f0.f0),.int .i64 0,.bool false,.bool false]) ?_ 1 _ rfl;(with_reducible repeat first|apply kN|apply kD|apply kA);refine blk_put (cs:=#[.int .i64 0,.int .i64 0,.bool false,.bool false]) ?_ 0 _ rfl;(with_reducible repeat first|apply kN|apply kD|apply kA);exact BK392.out) hg (Kd.R_away HO_9.out (fun _ hk=>hk.2)));have n3_:=amk (hb);have n4_:=amk (ho);clear HO_6;clear BK379;clear BK392;clear HB;clear HO_9;have HO_6:=n0_;have BK379:=n1_;have BK392:=n2_;have HB:=n3_;have HO396:=n4_;clear n0_ n1_ n2_ n3_ n4_;clear ho hb hg hat))
               go_roundg k2
               case measure=>have:=HK1.out;have:=HK2.out;omega
               case rel=>exact ⟨(y394),(wrap64 (x10_2+1)),(by first|rfl|(simp;done)|(simp [*];done)),H',⟨by have:=HK1.out;have:=HK2.out;omega⟩,⟨by (with_reducible repeat (first|apply Kd.R_alloc|apply Kd.R_drewN|apply Kd.R_drew));exact Kd.R_mono HO_6.out (fun _ hk=>hk.2)⟩,⟨by (with_reducible repeat (first|apply Kd.R_alloc|apply Kd.R_drewN|apply Kd.R_drew));exact Kd.R_mono HO396.out (fun _ hk=>hk.1)⟩,⟨by (with_reducible repeat first|apply kN|apply kD|apply kA);exact BK379.out⟩,⟨by repeat (first|(with_reducible first|exact HB.out|apply bAl|apply bDN|apply bD1|refine bSe ?_ GE379.out|refine bSe ?_ GE392.out)|exact HB.out)⟩⟩
              ·rw [if_neg c34] at H
               exact absurd H (by simp)
             ·rw [if_neg c33] at H
              exact absurd H (by simp)
            ·rw [if_neg c32] at H
             exact absurd H (by simp)
           ·replace c31:=Bool.eq_false_iff.mpr c31
            subst c31
            have H1 : (if 0≤x10_2 then (if x10_2 < (x6_1.length : Int) then (if ((rd_T100 x6_1 x10_2).f1=true) then (if x9_2.length < 5864062014805 then (versalref14_contour.l1 k2 (l0.length : Int) x6_1 (x9_2 ++ [(⟨(⟨(rd_T100 x6_1 x10_2).f0.f0,(rd_T100 x6_1 x10_2).f0.f1⟩ : S41),(rd_T100 x6_1 x10_2).f1,(rd_T100 x6_1 x10_2).f2⟩ : S100)]) (wrap64 (x10_2+1))) else (none)) else ((versalref14_middle.f ((rd_T100 x6_1 (ji27)).f0.f0) ((rd_T100 x6_1 (ji27)).f0.f1) ((rd_T100 x6_1 x10_2).f0.f0) ((rd_T100 x6_1 x10_2).f0.f1)).bind fun bt403=>(if x9_2.length < 5864062014805 then ((some (x9_2 ++ [(⟨(⟨bt403.1,bt403.2⟩ : S41),true,false⟩ : S100)] : List (S100))).bind fun y405=>(if y405.length < 5864062014805 then (versalref14_contour.l1 k2 (l0.length : Int) x6_1 (y405 ++ [(⟨(⟨(rd_T100 x6_1 x10_2).f0.f0,(rd_T100 x6_1 x10_2).f0.f1⟩ : S41),(rd_T100 x6_1 x10_2).f1,(rd_T100 x6_1 x10_2).f2⟩ : S100)]) (wrap64 (x10_2+1))) else (none))) else (none)))) else (none)) else (none))=some r:=by rw [if_neg (show ¬ (false=true) by decide)] at H;exact H
            clear H
            have H:=H1
            clear H1
            by_cases c40 : 0≤x10_2
            ·rw [if_pos c40] at H
             have c40b0 : decide (0≤x10_2)=true:=decide_eq_true c40
             clear c40
             by_cases c41 : x10_2 < (x6_1.length : Int)
             ·rw [if_pos c41] at H
              have c41b0 : decide (x10_2 < (x6_1.length : Int))=true:=decide_eq_true c41
              clear c41
              obtain ⟨bq42,hbq42⟩ : ∃ b_ : Bool,b_=((rd_T100 x6_1 x10_2).f1):=⟨_,rfl⟩
              replace H : (if (bq42=true) then (if x9_2.length < 5864062014805 then (versalref14_contour.l1 k2 (l0.length : Int) x6_1 (x9_2 ++ [(⟨(⟨(rd_T100 x6_1 x10_2).f0.f0,(rd_T100 x6_1 x10_2).f0.f1⟩ : S41),bq42,(rd_T100 x6_1 x10_2).f2⟩ : S100)]) (wrap64 (x10_2+1))) else (none)) else ((versalref14_middle.f ((rd_T100 x6_1 (ji27)).f0.f0) ((rd_T100 x6_1 (ji27)).f0.f1) ((rd_T100 x6_1 x10_2).f0.f0) ((rd_T100 x6_1 x10_2).f0.f1)).bind fun bt403=>(if x9_2.length < 5864062014805 then ((some (x9_2 ++ [(⟨(⟨bt403.1,bt403.2⟩ : S41),true,false⟩ : S100)] : List (S100))).bind fun y405=>(if y405.length < 5864062014805 then (versalref14_contour.l1 k2 (l0.length : Int) x6_1 (y405 ++ [(⟨(⟨(rd_T100 x6_1 x10_2).f0.f0,(rd_T100 x6_1 x10_2).f0.f1⟩ : S41),bq42,(rd_T100 x6_1 x10_2).f2⟩ : S100)]) (wrap64 (x10_2+1))) else (none))) else (none))))=some r:=by rw [← hbq42] at H;exact H
              have Nbq42:=amk hbq42
              clear hbq42
              by_cases c43 : (bq42=true)
              ·subst c43
               have H1 : (if x9_2.length < 5864062014805 then (versalref14_contour.l1 k2 (l0.length : Int) x6_1 (x9_2 ++ [(⟨(⟨(rd_T100 x6_1 x10_2).f0.f0,(rd_T100 x6_1 x10_2).f0.f1⟩ : S41),true,(rd_T100 x6_1 x10_2).f2⟩ : S100)]) (wrap64 (x10_2+1))) else (none))=some r:=by rw [if_pos rfl] at H;exact H
               clear H
               have H:=H1
               clear H1
               by_cases c44 : x9_2.length < 5864062014805
               ·rw [if_pos c44] at H
                have LMc44:=amk c44
                clear c44
                obtain ⟨y399,hy399⟩ : ∃ y_ : List (S100),y_=(x9_2 ++ [(⟨(⟨(rd_T100 x6_1 x10_2).f0.f0,(rd_T100 x6_1 x10_2).f0.f1⟩ : S41),true,(rd_T100 x6_1 x10_2).f2⟩ : S100)]):=⟨_,rfl⟩
                replace H : (versalref14_contour.l1 k2 (l0.length : Int) x6_1 y399 (wrap64 (x10_2+1)))=some r:=by first|(rw [hy399];with_reducible exact H)|(have H2_:=(Option.bind_some _ _).symm.trans H;rw [hy399];with_reducible exact H2_)|(have H2_:=(Option.bind_some _ _).symm.trans H;with_reducible exact H2_)|with_reducible exact H|(rw [hy399];exact H)|exact H
                have Ny399:=amk hy399
                clear hy399
                have H':=amk H
                clear H
                obtain ⟨Ao45,co45,eo45⟩:=Kd.R_slice HO_6.out
                subst eo45
                have p391 : 0≤((ji27) : Int):=of_decide_eq_true (by first|(with_reducible assumption)|assumption)
                have q391 : (ji27) < (x6_1.length : Int):=of_decide_eq_true (by first|(with_reducible assumption)|assumption)
                obtain ⟨ad391,e391,hx391_0,hx391_1,hx391_2,hx391_3⟩:=at_T100 (Kd.R_reads' HO_6.out).2.2 (ji27) p391 q391
                (try rw [← Nbq30.out] at hx391_2)
                (try rw [← Nbq42.out] at hx391_2)
                (try rw [← Nbq30.out] at hx391_3)
                (try rw [← Nbq42.out] at hx391_3)
                cases e391
                replace p391:=eq_true p391
                replace q391:=eq_true q391
                go_wp2_with (first|((with_reducible refine gate_dst (N:=11) rfl ?_);refine box_event ?hg (N:=11) ?hd (cs:=#[.int .i64 0,.int .i64 0,.bool false,.bool false]) (t:=100) ?hr ?_;(case hd=>rfl);(case hg=>rfl);(case hr=>first|(go_simp;done)|(go_simp;rfl));intro gb392 hg w46 hbox hb;have n0_:=amk (Kd.R_below (Kd.R_elderB (by (with_reducible repeat (first|apply Kd.R_alloc|apply Kd.R_drewN|apply Kd.R_drew));exact HO_6.out) gb392 (Nat.le_of_eq hg.symm)) hb);have n1_:=amk (Kd.R_below (Kd.R_elderB (by (with_reducible repeat (first|apply Kd.R_alloc|apply Kd.R_drewN|apply Kd.R_drew));exact HO_9.out) gb392 (Nat.le_of_eq hg.symm)) hb);have n2_:=amk (blk_below (g:=gb379) (o:=.cells #[.int .i64 a1_0,.int .i64 a1_1,.int .i64 a1_2,.int .i64 a1_3,.int .i64 a1_4,.int .i64 a1_5] 26 (0,0)) (by (with_reducible repeat first|apply kN|apply kD|apply kA);exact BK379.out) hb);have n3_:=amk (below_step (by repeat (first|(with_reducible first|exact HB.out|apply bAl|apply bDN|apply bD1|refine bSe ?_ GE379.out)|exact HB.out)) hb);have n4_:=amk (hbox);have n5_:=amk ((by rw [hg];exact (below_size (by repeat (first|(with_reducible first|exact HB.out|apply bAl|apply bDN|apply bD1|refine bSe ?_ GE379.out)|exact HB.out))) : w.heap.size≤gb392));have n6_:=amk ((by rw [hg];exact (below_size (by repeat (first|(with_reducible first|exact HB.out|apply bAl|apply bDN|apply bD1|refine bSe ?_ GE379.out)|exact HB.out))) : w.heap.size≤gb392));have n7_:=amk ((by rw [hg];exact Nat.ne_of_lt (blk_lt (g:=gb379) (o:=.cells #[.int .i64 a1_0,.int .i64 a1_1,.int .i64 a1_2,.int .i64 a1_3,.int .i64 a1_4,.int .i64 a1_5] 26 (0,0)) (by (with_reducible repeat first|apply kN|apply kD|apply kA);exact BK379.out)) : gb379 ≠ gb392));have n8_:=amk ((by rw [hg];exact Nat.ne_of_gt (blk_lt (g:=gb379) (o:=.cells #[.int .i64 a1_0,.int .i64 a1_1,.int .i64 a1_2,.int .i64 a1_3,.int .i64 a1_4,.int .i64 a1_5] 26 (0,0)) (by (with_reducible repeat first|apply kN|apply kD|apply kA);exact BK379.out)) : gb392 ≠ gb379));clear HO_6;clear HO_9;clear BK379;clear HB;have HO_6:=n0_;have HO_9:=n1_;have BK379:=n2_;have HB:=n3_;have BK392:=n4_;have GW392:=n5_;have GE392:=n6_;have NB379_392:=n7_;have NB392_379:=n8_;clear n0_ n1_ n2_ n3_ n4_ n5_ n6_ n7_ n8_;clear hb hbox hg;have hnb47:=NB392_379.out;have hnc47:=NB379_392.out;have hcz48_0 : w46.cell? ⟨gb392,0,none⟩=some (.int .i64 0):=(blk_cell BK392.out 0).trans rfl;have hcz48_1 : w46.cell? ⟨gb392,1,none⟩=some (.int .i64 0):=(blk_cell BK392.out 1).trans rfl;have hcz48_2 : w46.cell? ⟨gb392,2,none⟩=some (.bool false):=(blk_cell BK392.out 2).trans rfl;have hcz48_3 : w46.cell? ⟨gb392,3,none⟩=some (.bool false):=(blk_cell BK392.out 3).trans rfl;have hfz48_0:=blk_frozen BK392.out 0;have hfz48_1:=blk_frozen BK392.out 1;have hfz48_2:=blk_frozen BK392.out 2;have hfz48_3:=blk_frozen BK392.out 3;have p397 : 0≤(x10_2 : Int):=of_decide_eq_true (by first|(with_reducible assumption)|assumption);have q397 : x10_2 < (x6_1.length : Int):=of_decide_eq_true (by first|(with_reducible assumption)|assumption);obtain ⟨ad397,e397,hx397_0,hx397_1,hx397_2,hx397_3⟩:=at_T100 (Kd.R_reads' HO_6.out).2.2 x10_2 p397 q397;(try rw [← Nbq30.out] at hx397_2);(try rw [← Nbq42.out] at hx397_2);(try rw [← Nbq30.out] at hx397_3);(try rw [← Nbq42.out] at hx397_3);obtain rfl : ad391=ad397:=(by injection e397);have hn397_0 : ad391.block ≠ gb392:=Kd.own_blk (Kd.R_away HO_6.out (fun _ hk=>hk.2));have hn397_1 : ad391.block ≠ gb392:=Kd.own_blk (Kd.R_away HO_6.out (fun _ hk=>hk.2));have hn397_2 : ad391.block ≠ gb392:=Kd.own_blk (Kd.R_away HO_6.out (fun _ hk=>hk.2));have hn397_3 : ad391.block ≠ gb392:=Kd.own_blk (Kd.R_away HO_6.out (fun _ hk=>hk.2));replace hx397_0:=(cell_far (p:=⟨gb392,0,none⟩) (by first|(rw [add_block];exact hn397_0)|(show (Addr.add _ _).block ≠ _;rw [add_block];exact hn397_0)|exact hn397_0) (.int .i64 ((rd_T100 x6_1 (ji27)).f0.f0))).trans hx397_0;replace hx397_1:=(cell_far (p:=⟨gb392,0,none⟩) (by first|(rw [add_block];exact hn397_0)|(show (Addr.add _ _).block ≠ _;rw [add_block];exact hn397_0)|exact hn397_0) (.int .i64 ((rd_T100 x6_1 (ji27)).f0.f0))).trans hx397_1;replace hx397_2:=(cell_far (p:=⟨gb392,0,none⟩) (by first|(rw [add_block];exact hn397_0)|(show (Addr.add _ _).block ≠ _;rw [add_block];exact hn397_0)|exact hn397_0) (.int .i64 ((rd_T100 x6_1 (ji27)).f0.f0))).trans hx397_2;replace hx397_3:=(cell_far (p:=⟨gb392,0,none⟩) (by first|(rw [add_block];exact hn397_0)|(show (Addr.add _ _).block ≠ _;rw [add_block];exact hn397_0)|exact hn397_0) (.int .i64 ((rd_T100 x6_1 (ji27)).f0.f0))).trans hx397_3;replace hx397_0:=(cell_far (p:=⟨gb392,1,none⟩) (by first|(rw [add_block];exact hn397_1)|(show (Addr.add _ _).block ≠ _;rw [add_block];exact hn397_1)|exact hn397_1) (.int .i64 ((rd_T100 x6_1 (ji27)).f0.f1))).trans hx397_0;replace hx397_1:=(cell_far (p:=⟨gb392,1,none⟩) (by first|(rw [add_block];exact hn397_1)|(show (Addr.add _ _).block ≠ _;rw [add_block];exact hn397_1)|exact hn397_1) (.int .i64 ((rd_T100 x6_1 (ji27)).f0.f1))).trans hx397_1;replace hx397_2:=(cell_far (p:=⟨gb392,1,none⟩) (by first|(rw [add_block];exact hn397_1)|(show (Addr.add _ _).block ≠ _;rw [add_block];exact hn397_1)|exact hn397_1) (.int .i64 ((rd_T100 x6_1 (ji27)).f0.f1))).trans hx397_2;replace hx397_3:=(cell_far (p:=⟨gb392,1,none⟩) (by first|(rw [add_block];exact hn397_1)|(show (Addr.add _ _).block ≠ _;rw [add_block];exact hn397_1)|exact hn397_1) (.int .i64 ((rd_T100 x6_1 (ji27)).f0.f1))).trans hx397_3;replace hx397_0:=(cell_far (p:=⟨gb392,2,none⟩) (by first|(rw [add_block];exact hn397_2)|(show (Addr.add _ _).block ≠ _;rw [add_block];exact hn397_2)|exact hn397_2) (.bool false)).trans hx397_0;replace hx397_1:=(cell_far (p:=⟨gb392,2,none⟩) (by first|(rw [add_block];exact hn397_2)|(show (Addr.add _ _).block ≠ _;rw [add_block];exact hn397_2)|exact hn397_2) (.bool false)).trans hx397_1;replace hx397_2:=(cell_far (p:=⟨gb392,2,none⟩) (by first|(rw [add_block];exact hn397_2)|(show (Addr.add _ _).block ≠ _;rw [add_block];exact hn397_2)|exact hn397_2) (.bool false)).trans hx397_2;replace hx397_3:=(cell_far (p:=⟨gb392,2,none⟩) (by first|(rw [add_block];exact hn397_2)|(show (Addr.add _ _).block ≠ _;rw [add_block];exact hn397_2)|exact hn397_2) (.bool false)).trans hx397_3;replace hx397_0:=(cell_far (p:=⟨gb392,3,none⟩) (by first|(rw [add_block];exact hn397_3)|(show (Addr.add _ _).block ≠ _;rw [add_block];exact hn397_3)|exact hn397_3) (.bool ((rd_T100 x6_1 (ji27)).f2))).trans hx397_0;replace hx397_1:=(cell_far (p:=⟨gb392,3,none⟩) (by first|(rw [add_block];exact hn397_3)|(show (Addr.add _ _).block ≠ _;rw [add_block];exact hn397_3)|exact hn397_3) (.bool ((rd_T100 x6_1 (ji27)).f2))).trans hx397_1;replace hx397_2:=(cell_far (p:=⟨gb392,3,none⟩) (by first|(rw [add_block];exact hn397_3)|(show (Addr.add _ _).block ≠ _;rw [add_block];exact hn397_3)|exact hn397_3) (.bool ((rd_T100 x6_1 (ji27)).f2))).trans hx397_2;replace hx397_3:=(cell_far (p:=⟨gb392,3,none⟩) (by first|(rw [add_block];exact hn397_3)|(show (Addr.add _ _).block ≠ _;rw [add_block];exact hn397_3)|exact hn397_3) (.bool ((rd_T100 x6_1 (ji27)).f2))).trans hx397_3;clear hn397_0;clear hn397_1;clear hn397_2;clear hn397_3;replace p397:=eq_true p397;replace q397:=eq_true q397;have p398 : 0≤(x10_2 : Int):=of_decide_eq_true (by first|(with_reducible assumption)|assumption);have q398 : x10_2 < (x6_1.length : Int):=of_decide_eq_true (by first|(with_reducible assumption)|assumption);obtain ⟨ad398,e398,hx398_0,hx398_1,hx398_2,hx398_3⟩:=at_T100 (Kd.R_reads' HO_6.out).2.2 x10_2 p398 q398;(try rw [← Nbq30.out] at hx398_2);(try rw [← Nbq42.out] at hx398_2);(try rw [← Nbq30.out] at hx398_3);(try rw [← Nbq42.out] at hx398_3);obtain rfl : ad391=ad398:=(by injection e398);have hn398_0 : ad391.block ≠ gb392:=Kd.own_blk (Kd.R_away HO_6.out (fun _ hk=>hk.2));have hn398_1 : ad391.block ≠ gb392:=Kd.own_blk (Kd.R_away HO_6.out (fun _ hk=>hk.2));have hn398_2 : ad391.block ≠ gb392:=Kd.own_blk (Kd.R_away HO_6.out (fun _ hk=>hk.2));have hn398_3 : ad391.block ≠ gb392:=Kd.own_blk (Kd.R_away HO_6.out (fun _ hk=>hk.2));replace hx398_0:=(cell_far (p:=⟨gb392,0,none⟩) (by first|(rw [add_block];exact hn398_0)|(show (Addr.add _ _).block ≠ _;rw [add_block];exact hn398_0)|exact hn398_0) (.int .i64 ((rd_T100 x6_1 (ji27)).f0.f0))).trans hx398_0;replace hx398_1:=(cell_far (p:=⟨gb392,0,none⟩) (by first|(rw [add_block];exact hn398_0)|(show (Addr.add _ _).block ≠ _;rw [add_block];exact hn398_0)|exact hn398_0) (.int .i64 ((rd_T100 x6_1 (ji27)).f0.f0))).trans hx398_1;replace hx398_2:=(cell_far (p:=⟨gb392,0,none⟩) (by first|(rw [add_block];exact hn398_0)|(show (Addr.add _ _).block ≠ _;rw [add_block];exact hn398_0)|exact hn398_0) (.int .i64 ((rd_T100 x6_1 (ji27)).f0.f0))).trans hx398_2;replace hx398_3:=(cell_far (p:=⟨gb392,0,none⟩) (by first|(rw [add_block];exact hn398_0)|(show (Addr.add _ _).block ≠ _;rw [add_block];exact hn398_0)|exact hn398_0) (.int .i64 ((rd_T100 x6_1 (ji27)).f0.f0))).trans hx398_3;replace hx398_0:=(cell_far (p:=⟨gb392,1,none⟩) (by first|(rw [add_block];exact hn398_1)|(show (Addr.add _ _).block ≠ _;rw [add_block];exact hn398_1)|exact hn398_1) (.int .i64 ((rd_T100 x6_1 (ji27)).f0.f1))).trans hx398_0;replace hx398_1:=(cell_far (p:=⟨gb392,1,none⟩) (by first|(rw [add_block];exact hn398_1)|(show (Addr.add _ _).block ≠ _;rw [add_block];exact hn398_1)|exact hn398_1) (.int .i64 ((rd_T100 x6_1 (ji27)).f0.f1))).trans hx398_1;replace hx398_2:=(cell_far (p:=⟨gb392,1,none⟩) (by first|(rw [add_block];exact hn398_1)|(show (Addr.add _ _).block ≠ _;rw [add_block];exact hn398_1)|exact hn398_1) (.int .i64 ((rd_T100 x6_1 (ji27)).f0.f1))).trans hx398_2;replace hx398_3:=(cell_far (p:=⟨gb392,1,none⟩) (by first|(rw [add_block];exact hn398_1)|(show (Addr.add _ _).block ≠ _;rw [add_block];exact hn398_1)|exact hn398_1) (.int .i64 ((rd_T100 x6_1 (ji27)).f0.f1))).trans hx398_3;replace hx398_0:=(cell_far (p:=⟨gb392,2,none⟩) (by first|(rw [add_block];exact hn398_2)|(show (Addr.add _ _).block ≠ _;rw [add_block];exact hn398_2)|exact hn398_2) (.bool false)).trans hx398_0;replace hx398_1:=(cell_far (p:=⟨gb392,2,none⟩) (by first|(rw [add_block];exact hn398_2)|(show (Addr.add _ _).block ≠ _;rw [add_block];exact hn398_2)|exact hn398_2) (.bool false)).trans hx398_1;replace hx398_2:=(cell_far (p:=⟨gb392,2,none⟩) (by first|(rw [add_block];exact hn398_2)|(show (Addr.add _ _).block ≠ _;rw [add_block];exact hn398_2)|exact hn398_2) (.bool false)).trans hx398_2;replace hx398_3:=(cell_far (p:=⟨gb392,2,none⟩) (by first|(rw [add_block];exact hn398_2)|(show (Addr.add _ _).block ≠ _;rw [add_block];exact hn398_2)|exact hn398_2) (.bool false)).trans hx398_3;replace hx398_0:=(cell_far (p:=⟨gb392,3,none⟩) (by first|(rw [add_block];exact hn398_3)|(show (Addr.add _ _).block ≠ _;rw [add_block];exact hn398_3)|exact hn398_3) (.bool ((rd_T100 x6_1 (ji27)).f2))).trans hx398_0;replace hx398_1:=(cell_far (p:=⟨gb392,3,none⟩) (by first|(rw [add_block];exact hn398_3)|(show (Addr.add _ _).block ≠ _;rw [add_block];exact hn398_3)|exact hn398_3) (.bool ((rd_T100 x6_1 (ji27)).f2))).trans hx398_1;replace hx398_2:=(cell_far (p:=⟨gb392,3,none⟩) (by first|(rw [add_block];exact hn398_3)|(show (Addr.add _ _).block ≠ _;rw [add_block];exact hn398_3)|exact hn398_3) (.bool ((rd_T100 x6_1 (ji27)).f2))).trans hx398_2;replace hx398_3:=(cell_far (p:=⟨gb392,3,none⟩) (by first|(rw [add_block];exact hn398_3)|(show (Addr.add _ _).block ≠ _;rw [add_block];exact hn398_3)|exact hn398_3) (.bool ((rd_T100 x6_1 (ji27)).f2))).trans hx398_3;clear hn398_0;clear hn398_1;clear hn398_2;clear hn398_3;replace p398:=eq_true p398;replace q398:=eq_true q398)|((with_reducible refine gate_builtin (b:=.append) (xs:=#[.tmp 95,.tmp 100]) rfl ?_);at_builtin;refine Kd.R_append k100 (w0:=w) w.heap.size rfl (.tmp 95) (.tmp 100) 98 100 (.agg #[(.int .i64 0),(.int .i64 0),(.bool false),(.bool false)]) 24 rfl Try.underlying98 info100 rfl (by decide) (by omega) u9 x9_2 (⟨(⟨(rd_T100 x6_1 x10_2).f0.f0,(rd_T100 x6_1 x10_2).f0.f1⟩ : S41),true,(rd_T100 x6_1 x10_2).f2⟩ : S100) [.int .i64 ((rd_T100 x6_1 x10_2).f0.f0),.int .i64 ((rd_T100 x6_1 x10_2).f0.f1),.bool true,.bool ((rd_T100 x6_1 x10_2).f2)] (fun k_=>some k_ ≠ (.slice (some ad391) x6_1.length co45 : Value).ownBlock∧k_ ≠ gb392) (fun _=>False) rfl (by first|(go_simp;done)|(go_simp;rfl)) ?aP (fun _ hk=>hk.elim) ?aF ?aO ?aB ?aS ?aL ?_;(case aP=>exact k100_mkM _ _ _ (⟨(⟨(rd_T100 x6_1 x10_2).f0.f0,(rd_T100 x6_1 x10_2).f0.f1⟩ : S41),true,(rd_T100 x6_1 x10_2).f2⟩ : S100));(case aB=>exact (by repeat (first|(with_reducible first|exact HB.out|apply bAl|apply bDN|apply bD1|refine bSe ?_ GE379.out|refine bSe ?_ GE392.out)|exact HB.out)));(case aF=>exact (fun k_ hk=>⟨Kd.fresh' (Kd.R_lt (by (with_reducible repeat (first|apply Kd.R_alloc|apply Kd.R_drewN|apply Kd.R_drew));exact (Kd.R_mono (Kd.R_far (p:=⟨gb392,3,none⟩) (Kd.R_far (p:=⟨gb392,2,none⟩) (Kd.R_far (p:=⟨gb392,1,none⟩) (Kd.R_far (p:=⟨gb392,0,none⟩) (Kd.R_mono HO_6.out (fun k_ hk=>(⟨hk,hk.2⟩ : _∧k_ ≠ gb392))) (fun _ hk=>hk.2) (.int .i64 ((rd_T100 x6_1 (ji27)).f0.f0))) (fun _ hk=>hk.2) (.int .i64 ((rd_T100 x6_1 (ji27)).f0.f1))) (fun _ hk=>hk.2) (.bool false)) (fun _ hk=>hk.2) (.bool ((rd_T100 x6_1 (ji27)).f2))) (fun _ h_=>h_.1)))) k_ hk,Kd.freshB (g:=gb392) (o:=.cells #[.int .i64 ((rd_T100 x6_1 (ji27)).f0.f0),.int .i64 ((rd_T100 x6_1 (ji27)).f0.f1),.bool false,.bool ((rd_T100 x6_1 (ji27)).f2)] 100 (0,0)) (by (with_reducible repeat first|apply kN|apply kD|apply kA);refine blk_put (cs:=#[.int .i64 ((rd_T100 x6_1 (ji27)).f0.f0),.int .i64 ((rd_T100 x6_1 (ji27)).f0.f1),.bool false,.bool false]) ?_ 3 _ rfl;(with_reducible repeat first|apply kN|apply kD|apply kA);refine blk_put (cs:=#[.int .i64 ((rd_T100 x6_1 (ji27)).f0.f0),.int .i64 ((rd_T100 x6_1 (ji27)).f0.f1),.bool false,.bool false]) ?_ 2 _ rfl;(with_reducible repeat first|apply kN|apply kD|apply kA);refine blk_put (cs:=#[.int .i64 ((rd_T100 x6_1 (ji27)).f0.f0),.int .i64 0,.bool false,.bool false]) ?_ 1 _ rfl;(with_reducible repeat first|apply kN|apply kD|apply kA);refine blk_put (cs:=#[.int .i64 0,.int .i64 0,.bool false,.bool false]) ?_ 0 _ rfl;(with_reducible repeat first|apply kN|apply kD|apply kA);exact BK392.out) k_ hk⟩));(case aO=>exact (by (with_reducible repeat (first|apply Kd.R_alloc|apply Kd.R_drewN|apply Kd.R_drew));exact Kd.R_mono (Kd.R_far (p:=⟨gb392,3,none⟩) (Kd.R_far (p:=⟨gb392,2,none⟩) (Kd.R_far (p:=⟨gb392,1,none⟩) (Kd.R_far (p:=⟨gb392,0,none⟩) (Kd.R_mono HO_9.out (fun k_ hk=>(⟨hk,hk.2⟩ : _∧k_ ≠ gb392))) (fun _ hk=>hk.2) (.int .i64 ((rd_T100 x6_1 (ji27)).f0.f0))) (fun _ hk=>hk.2) (.int .i64 ((rd_T100 x6_1 (ji27)).f0.f1))) (fun _ hk=>hk.2) (.bool false)) (fun _ hk=>hk.2) (.bool ((rd_T100 x6_1 (ji27)).f2))) (fun _ hk=>⟨hk.1.1,hk.1.2⟩)));(case aS=>exact (below_size (by repeat (first|(with_reducible first|exact HB.out|apply bAl|apply bDN|apply bD1|refine bSe ?_ GE379.out|refine bSe ?_ GE392.out)|exact HB.out))));(case aL=>have:=LMc44.out;omega);intro v400 w49 ho hb hg hat;rw [← Ny399.out] at ho;have n0_:=amk (Kd.R_after (ok:=(fun k_=>k_ ≠ gb392)) (by (with_reducible repeat (first|apply Kd.R_alloc|apply Kd.R_drewN|apply Kd.R_drew));exact Kd.R_mono (Kd.R_far (p:=⟨gb392,3,none⟩) (Kd.R_far (p:=⟨gb392,2,none⟩) (Kd.R_far (p:=⟨gb392,1,none⟩) (Kd.R_far (p:=⟨gb392,0,none⟩) (Kd.R_mono HO_6.out (fun k_ hk=>(⟨hk,hk.2⟩ : _∧k_ ≠ gb392))) (fun _ hk=>hk.2) (.int .i64 ((rd_T100 x6_1 (ji27)).f0.f0))) (fun _ hk=>hk.2) (.int .i64 ((rd_T100 x6_1 (ji27)).f0.f1))) (fun _ hk=>hk.2) (.bool false)) (fun _ hk=>hk.2) (.bool ((rd_T100 x6_1 (ji27)).f2))) (fun _ hk=>⟨hk.1.2,hk.1.1⟩)) hg hat);have n1_:=amk (blk_grown (g:=gb379) (o:=.cells #[.int .i64 a1_0,.int .i64 a1_1,.int .i64 a1_2,.int .i64 a1_3,.int .i64 a1_4,.int .i64 a1_5] 26 (0,0)) (by (with_reducible repeat first|apply kN|apply kD|apply kA);refine blk_far ?_ NB379_392.out _;(with_reducible repeat first|apply kN|apply kD|apply kA);refine blk_far ?_ NB379_392.out _;(with_reducible repeat first|apply kN|apply kD|apply kA);refine blk_far ?_ NB379_392.out _;(with_reducible repeat first|apply kN|apply kD|apply kA);refine blk_far ?_ NB379_392.out _;(with_reducible repeat first|apply kN|apply kD|apply kA);exact BK379.out) hg (Kd.R_ne HO_9.out BK379.out (by decide)));have n2_:=amk (blk_grown (g:=gb392) (o:=.cells #[.int .i64 ((rd_T100 x6_1 (ji27)).f0.f0),.int .i64 ((rd_T100 x6_1 (ji27)).f0.f1),.bool false,.bool ((rd_T100 x6_1 (ji27)).f2)] 100 (0,0)) (by (with_reducible repeat first|apply kN|apply kD|apply kA);refine blk_put (cs:=#[.int .i64 ((rd_T100 x6_1 (ji27)).f0.f0),.int .i64 ((rd_T100 x6_1 (ji27)).f0.f1),.bool false,.bool false]) ?_ 3 _ rfl;(with_reducible repeat first|apply kN|apply kD|apply kA);refine blk_put (cs:=#[.int .i64 ((rd_T100 x6_1 (ji27)).f0.f0),.int .i64 ((rd_T100 x6_1 (ji27)).f0.f1),.bool false,.bool false]) ?_ 2 _ rfl;(with_reducible repeat first|apply kN|apply kD|apply kA);refine blk_put (cs:=#[.int .i64 ((rd_T100 x6_1 (ji27)).f0.f0),.int .i64 0,.bool false,.bool false]) ?_ 1 _ rfl;(with_reducible repeat first|apply kN|apply kD|apply kA);refine blk_put (cs:=#[.int .i64 0,.int .i64 0,.bool false,.bool false]) ?_ 0 _ rfl;(with_reducible repeat first|apply kN|apply kD|apply kA);exact BK392.out) hg (Kd.R_away HO_9.out (fun _ hk=>hk.2)));have n3_:=amk (hb);have n4_:=amk (ho);clear HO_6;clear BK379;clear BK392;clear HB;clear HO_9;have HO_6:=n0_;have BK379:=n1_;have BK392:=n2_;have HB:=n3_;have HO401:=n4_;clear n0_ n1_ n2_ n3_ n4_;clear ho hb hg hat))
                go_roundg k2
                case measure=>have:=HK1.out;have:=HK2.out;omega
                case rel=>exact ⟨(y399),(wrap64 (x10_2+1)),(by first|rfl|(simp;done)|(simp [*];done)),H',⟨by have:=HK1.out;have:=HK2.out;omega⟩,⟨by (with_reducible repeat (first|apply Kd.R_alloc|apply Kd.R_drewN|apply Kd.R_drew));exact Kd.R_mono HO_6.out (fun _ hk=>hk.2)⟩,⟨by (with_reducible repeat (first|apply Kd.R_alloc|apply Kd.R_drewN|apply Kd.R_drew));exact Kd.R_mono HO401.out (fun _ hk=>hk.1)⟩,⟨by (with_reducible repeat first|apply kN|apply kD|apply kA);exact BK379.out⟩,⟨by repeat (first|(with_reducible first|exact HB.out|apply bAl|apply bDN|apply bD1|refine bSe ?_ GE379.out|refine bSe ?_ GE392.out)|exact HB.out)⟩⟩
               ·rw [if_neg c44] at H
                exact absurd H (by simp)
              ·replace c43:=Bool.eq_false_iff.mpr c43
               subst c43
               have H1 : ((versalref14_middle.f ((rd_T100 x6_1 (ji27)).f0.f0) ((rd_T100 x6_1 (ji27)).f0.f1) ((rd_T100 x6_1 x10_2).f0.f0) ((rd_T100 x6_1 x10_2).f0.f1)).bind fun bt403=>(if x9_2.length < 5864062014805 then ((some (x9_2 ++ [(⟨(⟨bt403.1,bt403.2⟩ : S41),true,false⟩ : S100)] : List (S100))).bind fun y405=>(if y405.length < 5864062014805 then (versalref14_contour.l1 k2 (l0.length : Int) x6_1 (y405 ++ [(⟨(⟨(rd_T100 x6_1 x10_2).f0.f0,(rd_T100 x6_1 x10_2).f0.f1⟩ : S41),false,(rd_T100 x6_1 x10_2).f2⟩ : S100)]) (wrap64 (x10_2+1))) else (none))) else (none)))=some r:=by rw [if_neg (show ¬ (false=true) by decide)] at H;exact H
               clear H
               have H:=H1
               clear H1
               replace H:=Option.bind_eq_some_iff.mp H
               obtain ⟨⟨t403,t404⟩,A500,H⟩:=H
               replace H : (if x9_2.length < 5864062014805 then ((some (x9_2 ++ [(⟨(⟨t403,t404⟩ : S41),true,false⟩ : S100)] : List (S100))).bind fun y405=>(if y405.length < 5864062014805 then (versalref14_contour.l1 k2 (l0.length : Int) x6_1 (y405 ++ [(⟨(⟨(rd_T100 x6_1 x10_2).f0.f0,(rd_T100 x6_1 x10_2).f0.f1⟩ : S41),false,(rd_T100 x6_1 x10_2).f2⟩ : S100)]) (wrap64 (x10_2+1))) else (none))) else (none))=some r:=H
               have A50:=amk A500
               clear A500
               by_cases c51 : x9_2.length < 5864062014805
               ·rw [if_pos c51] at H
                have LMc51:=amk c51
                clear c51
                obtain ⟨y405,hy405⟩ : ∃ y_ : List (S100),y_=(x9_2 ++ [(⟨(⟨t403,t404⟩ : S41),true,false⟩ : S100)]):=⟨_,rfl⟩
                replace H : (if y405.length < 5864062014805 then (versalref14_contour.l1 k2 (l0.length : Int) x6_1 (y405 ++ [(⟨(⟨(rd_T100 x6_1 x10_2).f0.f0,(rd_T100 x6_1 x10_2).f0.f1⟩ : S41),false,(rd_T100 x6_1 x10_2).f2⟩ : S100)]) (wrap64 (x10_2+1))) else (none))=some r:=by first|(rw [hy405];with_reducible exact H)|(have H2_:=(Option.bind_some _ _).symm.trans H;rw [hy405];with_reducible exact H2_)|(have H2_:=(Option.bind_some _ _).symm.trans H;with_reducible exact H2_)|with_reducible exact H|(rw [hy405];exact H)|exact H
                have Ny405:=amk hy405
                clear hy405
                by_cases c52 : y405.length < 5864062014805
                ·rw [if_pos c52] at H
                 have LMc52:=amk c52
                 clear c52
                 obtain ⟨y409,hy409⟩ : ∃ y_ : List (S100),y_=(y405 ++ [(⟨(⟨(rd_T100 x6_1 x10_2).f0.f0,(rd_T100 x6_1 x10_2).f0.f1⟩ : S41),false,(rd_T100 x6_1 x10_2).f2⟩ : S100)]):=⟨_,rfl⟩
                 replace H : (versalref14_contour.l1 k2 (l0.length : Int) x6_1 y409 (wrap64 (x10_2+1)))=some r:=by first|(rw [hy409];with_reducible exact H)|(have H2_:=(Option.bind_some _ _).symm.trans H;rw [hy409];with_reducible exact H2_)|(have H2_:=(Option.bind_some _ _).symm.trans H;with_reducible exact H2_)|with_reducible exact H|(rw [hy409];exact H)|exact H
                 have Ny409:=amk hy409
                 clear hy409
                 have H':=amk H
                 clear H
                 obtain ⟨Ao53,co53,eo53⟩:=Kd.R_slice HO_6.out
                 subst eo53
                 have p391 : 0≤((ji27) : Int):=of_decide_eq_true (by first|(with_reducible assumption)|assumption)
                 have q391 : (ji27) < (x6_1.length : Int):=of_decide_eq_true (by first|(with_reducible assumption)|assumption)
                 obtain ⟨ad391,e391,hx391_0,hx391_1,hx391_2,hx391_3⟩:=at_T100 (Kd.R_reads' HO_6.out).2.2 (ji27) p391 q391
                 (try rw [← Nbq30.out] at hx391_2)
                 (try rw [← Nbq42.out] at hx391_2)
                 (try rw [← Nbq30.out] at hx391_3)
                 (try rw [← Nbq42.out] at hx391_3)
                 cases e391
                 replace p391:=eq_true p391
                 replace q391:=eq_true q391
                 try go_wp2_with (first|((with_reducible refine gate_dst (N:=11) rfl ?_);refine box_event ?hg (N:=11) ?hd (cs:=#[.int .i64 0,.int .i64 0,.bool false,.bool false]) (t:=100) ?hr ?_;(case hd=>rfl);(case hg=>rfl);(case hr=>first|(go_simp;done)|(go_simp;rfl));intro gb392 hg w54 hbox hb;have n0_:=amk (Kd.R_below (Kd.R_elderB (by (with_reducible repeat (first|apply Kd.R_alloc|apply Kd.R_drewN|apply Kd.R_drew));exact HO_6.out) gb392 (Nat.le_of_eq hg.symm)) hb);have n1_:=amk (Kd.R_below (Kd.R_elderB (by (with_reducible repeat (first|apply Kd.R_alloc|apply Kd.R_drewN|apply Kd.R_drew));exact HO_9.out) gb392 (Nat.le_of_eq hg.symm)) hb);have n2_:=amk (blk_below (g:=gb379) (o:=.cells #[.int .i64 a1_0,.int .i64 a1_1,.int .i64 a1_2,.int .i64 a1_3,.int .i64 a1_4,.int .i64 a1_5] 26 (0,0)) (by (with_reducible repeat first|apply kN|apply kD|apply kA);exact BK379.out) hb);have n3_:=amk (below_step (by repeat (first|(with_reducible first|exact HB.out|apply bAl|apply bDN|apply bD1|refine bSe ?_ GE379.out)|exact HB.out)) hb);have n4_:=amk (hbox);have n5_:=amk ((by rw [hg];exact (below_size (by repeat (first|(with_reducible first|exact HB.out|apply bAl|apply bDN|apply bD1|refine bSe ?_ GE379.out)|exact HB.out))) : w.heap.size≤gb392));have n6_:=amk ((by rw [hg];exact (below_size (by repeat (first|(with_reducible first|exact HB.out|apply bAl|apply bDN|apply bD1|refine bSe ?_ GE379.out)|exact HB.out))) : w.heap.size≤gb392));have n7_:=amk ((by rw [hg];exact Nat.ne_of_lt (blk_lt (g:=gb379) (o:=.cells #[.int .i64 a1_0,.int .i64 a1_1,.int .i64 a1_2,.int .i64 a1_3,.int .i64 a1_4,.int .i64 a1_5] 26 (0,0)) (by (with_reducible repeat first|apply kN|apply kD|apply kA);exact BK379.out)) : gb379 ≠ gb392));have n8_:=amk ((by rw [hg];exact Nat.ne_of_gt (blk_lt (g:=gb379) (o:=.cells #[.int .i64 a1_0,.int .i64 a1_1,.int .i64 a1_2,.int .i64 a1_3,.int .i64 a1_4,.int .i64 a1_5] 26 (0,0)) (by (with_reducible repeat first|apply kN|apply kD|apply kA);exact BK379.out)) : gb392 ≠ gb379));clear HO_6;clear HO_9;clear BK379;clear HB;have HO_6:=n0_;have HO_9:=n1_;have BK379:=n2_;have HB:=n3_;have BK392:=n4_;have GW392:=n5_;have GE392:=n6_;have NB379_392:=n7_;have NB392_379:=n8_;clear n0_ n1_ n2_ n3_ n4_ n5_ n6_ n7_ n8_;clear hb hbox hg;have hnb55:=NB392_379.out;have hnc55:=NB379_392.out;have hcz56_0 : w54.cell? ⟨gb392,0,none⟩=some (.int .i64 0):=(blk_cell BK392.out 0).trans rfl;have hcz56_1 : w54.cell? ⟨gb392,1,none⟩=some (.int .i64 0):=(blk_cell BK392.out 1).trans rfl;have hcz56_2 : w54.cell? ⟨gb392,2,none⟩=some (.bool false):=(blk_cell BK392.out 2).trans rfl;have hcz56_3 : w54.cell? ⟨gb392,3,none⟩=some (.bool false):=(blk_cell BK392.out 3).trans rfl;have hfz56_0:=blk_frozen BK392.out 0;have hfz56_1:=blk_frozen BK392.out 1;have hfz56_2:=blk_frozen BK392.out 2;have hfz56_3:=blk_frozen BK392.out 3;have p397 : 0≤(x10_2 : Int):=of_decide_eq_true (by first|(with_reducible assumption)|assumption);have q397 : x10_2 < (x6_1.length : Int):=of_decide_eq_true (by first|(with_reducible assumption)|assumption);obtain ⟨ad397,e397,hx397_0,hx397_1,hx397_2,hx397_3⟩:=at_T100 (Kd.R_reads' HO_6.out).2.2 x10_2 p397 q397;(try rw [← Nbq30.out] at hx397_2);(try rw [← Nbq42.out] at hx397_2);(try rw [← Nbq30.out] at hx397_3);(try rw [← Nbq42.out] at hx397_3);obtain rfl : ad391=ad397:=(by injection e397);have hn397_0 : ad391.block ≠ gb392:=Kd.own_blk (Kd.R_away HO_6.out (fun _ hk=>hk.2));have hn397_1 : ad391.block ≠ gb392:=Kd.own_blk (Kd.R_away HO_6.out (fun _ hk=>hk.2));have hn397_2 : ad391.block ≠ gb392:=Kd.own_blk (Kd.R_away HO_6.out (fun _ hk=>hk.2));have hn397_3 : ad391.block ≠ gb392:=Kd.own_blk (Kd.R_away HO_6.out (fun _ hk=>hk.2));replace hx397_0:=(cell_far (p:=⟨gb392,0,none⟩) (by first|(rw [add_block];exact hn397_0)|(show (Addr.add _ _).block ≠ _;rw [add_block];exact hn397_0)|exact hn397_0) (.int .i64 ((rd_T100 x6_1 (ji27)).f0.f0))).trans hx397_0;replace hx397_1:=(cell_far (p:=⟨gb392,0,none⟩) (by first|(rw [add_block];exact hn397_0)|(show (Addr.add _ _).block ≠ _;rw [add_block];exact hn397_0)|exact hn397_0) (.int .i64 ((rd_T100 x6_1 (ji27)).f0.f0))).trans hx397_1;replace hx397_2:=(cell_far (p:=⟨gb392,0,none⟩) (by first|(rw [add_block];exact hn397_0)|(show (Addr.add _ _).block ≠ _;rw [add_block];exact hn397_0)|exact hn397_0) (.int .i64 ((rd_T100 x6_1 (ji27)).f0.f0))).trans hx397_2;replace hx397_3:=(cell_far (p:=⟨gb392,0,none⟩) (by first|(rw [add_block];exact hn397_0)|(show (Addr.add _ _).block ≠ _;rw [add_block];exact hn397_0)|exact hn397_0) (.int .i64 ((rd_T100 x6_1 (ji27)).f0.f0))).trans hx397_3;replace hx397_0:=(cell_far (p:=⟨gb392,1,none⟩) (by first|(rw [add_block];exact hn397_1)|(show (Addr.add _ _).block ≠ _;rw [add_block];exact hn397_1)|exact hn397_1) (.int .i64 ((rd_T100 x6_1 (ji27)).f0.f1))).trans hx397_0;replace hx397_1:=(cell_far (p:=⟨gb392,1,none⟩) (by first|(rw [add_block];exact hn397_1)|(show (Addr.add _ _).block ≠ _;rw [add_block];exact hn397_1)|exact hn397_1) (.int .i64 ((rd_T100 x6_1 (ji27)).f0.f1))).trans hx397_1;replace hx397_2:=(cell_far (p:=⟨gb392,1,none⟩) (by first|(rw [add_block];exact hn397_1)|(show (Addr.add _ _).block ≠ _;rw [add_block];exact hn397_1)|exact hn397_1) (.int .i64 ((rd_T100 x6_1 (ji27)).f0.f1))).trans hx397_2;replace hx397_3:=(cell_far (p:=⟨gb392,1,none⟩) (by first|(rw [add_block];exact hn397_1)|(show (Addr.add _ _).block ≠ _;rw [add_block];exact hn397_1)|exact hn397_1) (.int .i64 ((rd_T100 x6_1 (ji27)).f0.f1))).trans hx397_3;replace hx397_0:=(cell_far (p:=⟨gb392,2,none⟩) (by first|(rw [add_block];exact hn397_2)|(show (Addr.add _ _).block ≠ _;rw [add_block];exact hn397_2)|exact hn397_2) (.bool false)).trans hx397_0;replace hx397_1:=(cell_far (p:=⟨gb392,2,none⟩) (by first|(rw [add_block];exact hn397_2)|(show (Addr.add _ _).block ≠ _;rw [add_block];exact hn397_2)|exact hn397_2) (.bool false)).trans hx397_1;replace hx397_2:=(cell_far (p:=⟨gb392,2,none⟩) (by first|(rw [add_block];exact hn397_2)|(show (Addr.add _ _).block ≠ _;rw [add_block];exact hn397_2)|exact hn397_2) (.bool false)).trans hx397_2;replace hx397_3:=(cell_far (p:=⟨gb392,2,none⟩) (by first|(rw [add_block];exact hn397_2)|(show (Addr.add _ _).block ≠ _;rw [add_block];exact hn397_2)|exact hn397_2) (.bool false)).trans hx397_3;replace hx397_0:=(cell_far (p:=⟨gb392,3,none⟩) (by first|(rw [add_block];exact hn397_3)|(show (Addr.add _ _).block ≠ _;rw [add_block];exact hn397_3)|exact hn397_3) (.bool ((rd_T100 x6_1 (ji27)).f2))).trans hx397_0;replace hx397_1:=(cell_far (p:=⟨gb392,3,none⟩) (by first|(rw [add_block];exact hn397_3)|(show (Addr.add _ _).block ≠ _;rw [add_block];exact hn397_3)|exact hn397_3) (.bool ((rd_T100 x6_1 (ji27)).f2))).trans hx397_1;replace hx397_2:=(cell_far (p:=⟨gb392,3,none⟩) (by first|(rw [add_block];exact hn397_3)|(show (Addr.add _ _).block ≠ _;rw [add_block];exact hn397_3)|exact hn397_3) (.bool ((rd_T100 x6_1 (ji27)).f2))).trans hx397_2;replace hx397_3:=(cell_far (p:=⟨gb392,3,none⟩) (by first|(rw [add_block];exact hn397_3)|(show (Addr.add _ _).block ≠ _;rw [add_block];exact hn397_3)|exact hn397_3) (.bool ((rd_T100 x6_1 (ji27)).f2))).trans hx397_3;clear hn397_0;clear hn397_1;clear hn397_2;clear hn397_3;replace p397:=eq_true p397;replace q397:=eq_true q397))
                 have n0_ : Aside0 (Kd.R k100 100 ((((w54.setCell ⟨gb392,0,none⟩ (.int .i64 ((rd_T100 x6_1 (ji27)).f0.f0))).setCell ⟨gb392,1,none⟩ (.int .i64 ((rd_T100 x6_1 (ji27)).f0.f1))).setCell ⟨gb392,2,none⟩ (.bool false)).setCell ⟨gb392,3,none⟩ (.bool ((rd_T100 x6_1 (ji27)).f2))) w.heap.size (fun k_=>some k_ ≠ (u9 : Value).ownBlock∧k_ ≠ gb392) (.slice (some ad391) x6_1.length co53) x6_1):=⟨by (with_reducible repeat (first|apply Kd.R_alloc|apply Kd.R_drewN|apply Kd.R_drew));exact Kd.R_mono (Kd.R_far (p:=⟨gb392,3,none⟩) (Kd.R_far (p:=⟨gb392,2,none⟩) (Kd.R_far (p:=⟨gb392,1,none⟩) (Kd.R_far (p:=⟨gb392,0,none⟩) (Kd.R_mono HO_6.out (fun k_ hk=>(⟨hk,hk.2⟩ : _∧k_ ≠ gb392))) (fun _ hk=>hk.2) (.int .i64 ((rd_T100 x6_1 (ji27)).f0.f0))) (fun _ hk=>hk.2) (.int .i64 ((rd_T100 x6_1 (ji27)).f0.f1))) (fun _ hk=>hk.2) (.bool false)) (fun _ hk=>hk.2) (.bool ((rd_T100 x6_1 (ji27)).f2))) (fun _ hk=>⟨hk.1.1,hk.1.2⟩)⟩
                 have n1_ : Aside0 (Kd.R k100 100 ((((w54.setCell ⟨gb392,0,none⟩ (.int .i64 ((rd_T100 x6_1 (ji27)).f0.f0))).setCell ⟨gb392,1,none⟩ (.int .i64 ((rd_T100 x6_1 (ji27)).f0.f1))).setCell ⟨gb392,2,none⟩ (.bool false)).setCell ⟨gb392,3,none⟩ (.bool ((rd_T100 x6_1 (ji27)).f2))) w.heap.size (fun k_=>some k_ ≠ (.slice (some ad391) x6_1.length co53 : Value).ownBlock∧k_ ≠ gb392) u9 x9_2):=⟨by (with_reducible repeat (first|apply Kd.R_alloc|apply Kd.R_drewN|apply Kd.R_drew));exact Kd.R_mono (Kd.R_far (p:=⟨gb392,3,none⟩) (Kd.R_far (p:=⟨gb392,2,none⟩) (Kd.R_far (p:=⟨gb392,1,none⟩) (Kd.R_far (p:=⟨gb392,0,none⟩) (Kd.R_mono HO_9.out (fun k_ hk=>(⟨hk,hk.2⟩ : _∧k_ ≠ gb392))) (fun _ hk=>hk.2) (.int .i64 ((rd_T100 x6_1 (ji27)).f0.f0))) (fun _ hk=>hk.2) (.int .i64 ((rd_T100 x6_1 (ji27)).f0.f1))) (fun _ hk=>hk.2) (.bool false)) (fun _ hk=>hk.2) (.bool ((rd_T100 x6_1 (ji27)).f2))) (fun _ hk=>⟨hk.1.1,hk.1.2⟩)⟩
                 have n2_ : Aside0 (((((w54.setCell ⟨gb392,0,none⟩ (.int .i64 ((rd_T100 x6_1 (ji27)).f0.f0))).setCell ⟨gb392,1,none⟩ (.int .i64 ((rd_T100 x6_1 (ji27)).f0.f1))).setCell ⟨gb392,2,none⟩ (.bool false)).setCell ⟨gb392,3,none⟩ (.bool ((rd_T100 x6_1 (ji27)).f2))).heap[gb379]?=some (.cells #[.int .i64 a1_0,.int .i64 a1_1,.int .i64 a1_2,.int .i64 a1_3,.int .i64 a1_4,.int .i64 a1_5] 26 (0,0))):=⟨by (with_reducible repeat first|apply kN|apply kD|apply kA);refine blk_far ?_ NB379_392.out _;(with_reducible repeat first|apply kN|apply kD|apply kA);refine blk_far ?_ NB379_392.out _;(with_reducible repeat first|apply kN|apply kD|apply kA);refine blk_far ?_ NB379_392.out _;(with_reducible repeat first|apply kN|apply kD|apply kA);refine blk_far ?_ NB379_392.out _;(with_reducible repeat first|apply kN|apply kD|apply kA);exact BK379.out⟩
                 have n3_ : Aside0 (((((w54.setCell ⟨gb392,0,none⟩ (.int .i64 ((rd_T100 x6_1 (ji27)).f0.f0))).setCell ⟨gb392,1,none⟩ (.int .i64 ((rd_T100 x6_1 (ji27)).f0.f1))).setCell ⟨gb392,2,none⟩ (.bool false)).setCell ⟨gb392,3,none⟩ (.bool ((rd_T100 x6_1 (ji27)).f2))).heap[gb392]?=some (.cells #[.int .i64 ((rd_T100 x6_1 (ji27)).f0.f0),.int .i64 ((rd_T100 x6_1 (ji27)).f0.f1),.bool false,.bool ((rd_T100 x6_1 (ji27)).f2)] 100 (0,0))):=⟨by (with_reducible repeat first|apply kN|apply kD|apply kA);refine blk_put (cs:=#[.int .i64 ((rd_T100 x6_1 (ji27)).f0.f0),.int .i64 ((rd_T100 x6_1 (ji27)).f0.f1),.bool false,.bool false]) ?_ 3 _ rfl;(with_reducible repeat first|apply kN|apply kD|apply kA);refine blk_put (cs:=#[.int .i64 ((rd_T100 x6_1 (ji27)).f0.f0),.int .i64 ((rd_T100 x6_1 (ji27)).f0.f1),.bool false,.bool false]) ?_ 2 _ rfl;(with_reducible repeat first|apply kN|apply kD|apply kA);refine blk_put (cs:=#[.int .i64 ((rd_T100 x6_1 (ji27)).f0.f0),.int .i64 0,.bool false,.bool false]) ?_ 1 _ rfl;(with_reducible repeat first|apply kN|apply kD|apply kA);refine blk_put (cs:=#[.int .i64 0,.int .i64 0,.bool false,.bool false]) ?_ 0 _ rfl;(with_reducible repeat first|apply kN|apply kD|apply kA);exact BK392.out⟩
                 have n4_ : Aside0 (Below w.heap.size w ((((w54.setCell ⟨gb392,0,none⟩ (.int .i64 ((rd_T100 x6_1 (ji27)).f0.f0))).setCell ⟨gb392,1,none⟩ (.int .i64 ((rd_T100 x6_1 (ji27)).f0.f1))).setCell ⟨gb392,2,none⟩ (.bool false)).setCell ⟨gb392,3,none⟩ (.bool ((rd_T100 x6_1 (ji27)).f2)))):=⟨by repeat (first|(with_reducible first|exact HB.out|apply bAl|apply bDN|apply bD1|refine bSe ?_ GE379.out|refine bSe ?_ GE392.out)|exact HB.out)⟩
                 (try clear HO_6)
                 (try clear HO_9)
                 (try clear BK379)
                 (try clear BK392)
                 (try clear HB)
                 generalize ((((w54.setCell ⟨gb392,0,none⟩ (.int .i64 ((rd_T100 x6_1 (ji27)).f0.f0))).setCell ⟨gb392,1,none⟩ (.int .i64 ((rd_T100 x6_1 (ji27)).f0.f1))).setCell ⟨gb392,2,none⟩ (.bool false)).setCell ⟨gb392,3,none⟩ (.bool ((rd_T100 x6_1 (ji27)).f2)))=w57 at n0_ n1_ n2_ n3_ n4_ ⊢
                 have HO_6:=n0_
                 have HO_9:=n1_
                 have BK379:=n2_
                 have BK392:=n3_
                 have HB:=n4_
                 clear n0_ n1_ n2_ n3_ n4_
                 have n0_:=amk (Kd.R_drew HO_6.out)
                 have n1_:=amk (Kd.R_drew HO_9.out)
                 have n2_:=amk (blk_drew BK379.out)
                 have n3_:=amk (blk_drew BK392.out)
                 have n4_:=amk (bD1 HB.out)
                 clear HO_6
                 clear HO_9
                 clear BK379
                 clear BK392
                 clear HB
                 have HO_6:=n0_
                 have HO_9:=n1_
                 have BK379:=n2_
                 have BK392:=n3_
                 have HB:=n4_
                 clear n0_ n1_ n2_ n3_ n4_
                 have p402 : 0≤(x10_2 : Int):=of_decide_eq_true (by first|(with_reducible assumption)|assumption)
                 have q402 : x10_2 < (x6_1.length : Int):=of_decide_eq_true (by first|(with_reducible assumption)|assumption)
                 obtain ⟨ad402,e402,hx402_0,hx402_1,hx402_2,hx402_3⟩:=at_T100 (Kd.R_reads' HO_6.out).2.2 x10_2 p402 q402
                 (try rw [← Nbq30.out] at hx402_2)
                 (try rw [← Nbq42.out] at hx402_2)
                 (try rw [← Nbq30.out] at hx402_3)
                 (try rw [← Nbq42.out] at hx402_3)
                 obtain rfl : ad391=ad402:=(by injection e402)
                 replace p402:=eq_true p402
                 replace q402:=eq_true q402
                 refine start_ (n:=13) (S:=fun w'=>w'.cell? ⟨gb392,0,none⟩=some (.int .i64 ((rd_T100 x6_1 (ji27)).f0.f0))∧w'.cell? ⟨gb392,1,none⟩=some (.int .i64 ((rd_T100 x6_1 (ji27)).f0.f1))∧w'.cell? ⟨gb392,2,none⟩=some (.bool false)∧w'.cell? ⟨gb392,3,none⟩=some (.bool ((rd_T100 x6_1 (ji27)).f2))∧w'.cell? (ad391.add ((x10_2).toNat * 4))=some (.int .i64 ((rd_T100 x6_1 x10_2).f0.f0))∧w'.cell? ⟨(ad391.add ((x10_2).toNat * 4)).block,(ad391.add ((x10_2).toNat * 4)).off+1,none⟩=some (.int .i64 ((rd_T100 x6_1 x10_2).f0.f1))∧w'.cell? ⟨(ad391.add ((x10_2).toNat * 4)).block,(ad391.add ((x10_2).toNat * 4)).off+2,none⟩=some (.bool (false))∧w'.cell? ⟨(ad391.add ((x10_2).toNat * 4)).block,(ad391.add ((x10_2).toNat * 4)).off+3,none⟩=some (.bool ((rd_T100 x6_1 x10_2).f2))) (ds:=[10,11]) #[false,false,false,false,false,false,false,false,false,false,false,false,false] (by kernel_rfl) rfl rfl ⟨(blk_cell BK392.out 0).trans rfl,(blk_cell BK392.out 1).trans rfl,(blk_cell BK392.out 2).trans rfl,(blk_cell BK392.out 3).trans rfl,hx402_0,hx402_1,hx402_2,hx402_3⟩ (fun hHeld=>?_);refine with_tabW versalref14_contour.tab17 versalref14_contour.bits17 (fun HT_ HW_=>?_)
                 generalize w57.drew=w58 at HO_6 HO_9 BK379 BK392 HB hx402_0 hx402_1 hx402_2 hx402_3 hHeld ⊢
                 refine pure_ (i:=0) (N:=some 83) (v:=?_) (a':=?_) #[true,false,false,false,false,false,false,false,false,false,false,false,false] rfl rfl (any_of HT_.out (by kernel_rfl)) (fun _ _ _ h=>h) (Or.inl ⟨by rfl,?_⟩) ?_ ?_
                 rotate_left
                 ·intro w'
                  go_simp
                  with_reducible rfl
                 rotate_left
                 ·simp only [Act.put,sTA,sCZ,sCS,i64_w,i32_w]
                  rfl
                 refine pure_ (i:=1) (N:=some 84) (v:=?_) (a':=?_) #[true,true,false,false,false,false,false,false,false,false,false,false,false] rfl rfl (any_of HT_.out (by kernel_rfl)) (fun _ _ _ h=>h) (Or.inl ⟨by rfl,?_⟩) ?_ ?_
                 rotate_left
                 ·intro w'
                  go_simp
                  with_reducible rfl
                 rotate_left
                 ·simp only [Act.put,sTA,sCZ,sCS,i64_w,i32_w]
                  rfl
                 refine pure_ (i:=3) (N:=some 86) (v:=?_) (a':=?_) #[true,true,false,true,false,false,false,false,false,false,false,false,false] rfl rfl (any_of HT_.out (by kernel_rfl)) (fun _ _ _ h=>h) (Or.inl ⟨by rfl,?_⟩) ?_ ?_
                 rotate_left
                 ·intro w'
                  go_simp
                  with_reducible rfl
                 rotate_left
                 ·simp only [Act.put,sTA,sCZ,sCS,i64_w,i32_w]
                  rfl
                 refine pure_ (i:=4) (N:=some 87) (v:=?_) (a':=?_) #[true,true,false,true,true,false,false,false,false,false,false,false,false] rfl rfl (any_of HT_.out (by kernel_rfl)) (fun _ _ _ h=>h) (Or.inl ⟨by rfl,?_⟩) ?_ ?_
                 rotate_left
                 ·intro w'
                  go_simp
                  with_reducible rfl
                 rotate_left
                 ·simp only [Act.put,sTA,sCZ,sCS,i64_w,i32_w]
                  rfl
                 refine pure_ (i:=5) (N:=some 88) (v:=?_) (a':=?_) #[true,true,false,true,true,true,false,false,false,false,false,false,false] rfl rfl (any_of HT_.out (by kernel_rfl)) (fun _ _ _ h=>h) (Or.inl ⟨by rfl,?_⟩) ?_ ?_
                 rotate_left
                 ·intro w'
                  go_simp
                  with_reducible rfl
                 rotate_left
                 ·simp only [Act.put,sTA,sCZ,sCS,i64_w,i32_w]
                  rfl
                 refine pure_ (i:=6) (N:=some 89) (v:=?_) (a':=?_) #[true,true,false,true,true,true,true,false,false,false,false,false,false] rfl rfl (any_of HT_.out (by kernel_rfl)) (fun _ _ _ h=>h) (Or.inl ⟨by rfl,?_⟩) ?_ ?_
                 rotate_left
                 ·intro w'
                  go_simp
                  with_reducible rfl
                 rotate_left
                 ·simp only [Act.put,sTA,sCZ,sCS,i64_w,i32_w]
                  rfl
                 refine take_ (i:=2) (N:=some 85) (v:=?_) (a':=?_) #[true,true,true,true,true,true,true,false,false,false,false,false,false] rfl rfl (take_ofW HT_.out HW_.out (by kernel_rfl)) (fun _ _ _ h=>h) (Or.inl ⟨by rfl,?_⟩) hHeld ?_ ?_
                 rotate_left
                 ·rintro w' ⟨s0,s1,s2,s3,s4,s5,s6,s7⟩
                  go_simp
                  with_reducible rfl
                 rotate_left
                 ·simp only [Act.put,sTA,sCZ,sCS,i64_w,i32_w]
                  rfl
                 refine take_ (i:=7) (N:=some 90) (v:=?_) (a':=?_) #[true,true,true,true,true,true,true,true,false,false,false,false,false] rfl rfl (take_ofW HT_.out HW_.out (by kernel_rfl)) (fun _ _ _ h=>h) (Or.inl ⟨by rfl,?_⟩) hHeld ?_ ?_
                 rotate_left
                 ·rintro w' ⟨s0,s1,s2,s3,s4,s5,s6,s7⟩
                  go_simp
                  with_reducible rfl
                 rotate_left
                 ·simp only [Act.put,sTA,sCZ,sCS,i64_w,i32_w]
                  rfl
                 refine one_ (i:=8) (N:=some 91) #[true,true,true,true,true,true,true,true,true,false,false,false,false] rfl rfl (one_of HT_.out (by kernel_rfl)) (by decide) (fun K hK=>?_)
                 refine goes_ Try.func56 (by kernel_rfl) rfl #[.agg #[.int .i64 ((rd_T100 x6_1 (ji27)).f0.f0),.int .i64 ((rd_T100 x6_1 (ji27)).f0.f1)],.agg #[.int .i64 ((rd_T100 x6_1 x10_2).f0.f0),.int .i64 ((rd_T100 x6_1 x10_2).f0.f1)]] (by rfl) rfl rfl (by (try simp only [List.map_toArray,List.map_cons,List.map_nil]);first|done|(simp only [hji27];rfl)|rfl|(simp only [List.length_drop,List.length_take];rfl)) ?_
                 with_reducible refine (versalref14_middle.calls ((rd_T100 x6_1 (ji27)).f0.f0) ((rd_T100 x6_1 (ji27)).f0.f1) ((rd_T100 x6_1 x10_2).f0.f0) ((rd_T100 x6_1 x10_2).f0.f1) t403 t404 _ A50.out).mono ?_
                 rintro e w59 ⟨rfl,hb⟩
                 have HS4_:=(hb.cell (cLt _ _ (hHeld.2.2.2.2.1))).trans (hHeld.2.2.2.2.1)
                 have HS5_:=(hb.cell (cLt _ _ (hHeld.2.2.2.2.2.1))).trans (hHeld.2.2.2.2.2.1)
                 have HS6_:=(hb.cell (cLt _ _ (hHeld.2.2.2.2.2.2.1))).trans (hHeld.2.2.2.2.2.2.1)
                 have HS7_:=(hb.cell (cLt _ _ (hHeld.2.2.2.2.2.2.2))).trans (hHeld.2.2.2.2.2.2.2)
                 refine ⟨_,rfl,?_⟩
                 have n0_:=amk (Kd.R_below (by (with_reducible repeat (first|apply Kd.R_alloc|apply Kd.R_drewN|apply Kd.R_drew));exact HO_6.out) hb)
                 have n1_:=amk (Kd.R_below (by (with_reducible repeat (first|apply Kd.R_alloc|apply Kd.R_drewN|apply Kd.R_drew));exact HO_9.out) hb)
                 have n2_:=amk (blk_below (g:=gb379) (o:=.cells #[.int .i64 a1_0,.int .i64 a1_1,.int .i64 a1_2,.int .i64 a1_3,.int .i64 a1_4,.int .i64 a1_5] 26 (0,0)) (by (with_reducible repeat first|apply kN|apply kD|apply kA);exact BK379.out) hb)
                 have n3_:=amk (blk_below (g:=gb392) (o:=.cells #[.int .i64 ((rd_T100 x6_1 (ji27)).f0.f0),.int .i64 ((rd_T100 x6_1 (ji27)).f0.f1),.bool false,.bool ((rd_T100 x6_1 (ji27)).f2)] 100 (0,0)) (by (with_reducible repeat first|apply kN|apply kD|apply kA);exact BK392.out) hb)
                 have n4_:=amk (below_step (by repeat (first|(with_reducible first|exact HB.out|apply bAl|apply bDN|apply bD1|refine bSe ?_ GE379.out|refine bSe ?_ GE392.out)|exact HB.out)) hb)
                 clear HO_6
                 clear HO_9
                 clear BK379
                 clear BK392
                 clear HB
                 have HO_6:=n0_
                 have HO_9:=n1_
                 have BK379:=n2_
                 have BK392:=n3_
                 have HB:=n4_
                 clear n0_ n1_ n2_ n3_ n4_
                 (try clear hb)
                 (try clear hb2)
                 (try clear hk)
                 (try clear hi)
                 refine hK.out _ _ ⟨(blk_cell BK392.out 0).trans rfl,(blk_cell BK392.out 1).trans rfl,(blk_cell BK392.out 2).trans rfl,(blk_cell BK392.out 3).trans rfl,HS4_,HS5_,HS6_,HS7_⟩ (fun hHeld=>?_)
                 clear hK K
                 refine norm_ (a':=?_) ?_ ?_
                 rotate_left
                 ·show Act.put _ (some 91) _=_
                  simp only [Act.put,sTA,sCZ,sCS,i64_w,i32_w]
                  rfl
                 refine pure_ (i:=9) (N:=some 92) (v:=?_) (a':=?_) #[true,true,true,true,true,true,true,true,true,true,false,false,false] rfl rfl (any_of HT_.out (by kernel_rfl)) (fun _ _ _ h=>h) (Or.inl ⟨by rfl,?_⟩) ?_ ?_
                 rotate_left
                 ·intro w'
                  go_simp
                  with_reducible rfl
                 rotate_left
                 ·simp only [Act.put,sTA,sCZ,sCS,i64_w,i32_w]
                  rfl
                 refine last_ (i:=10) (N:=some 93) #[true,true,true,true,true,true,true,true,true,true,true,false,false] rfl rfl (one_of HT_.out (by kernel_rfl)) (by decide) (fun K hK=>?_)
                 refine value_ (w1:=?_) (v:=?_) (by rfl) rfl ?_ ?_
                 rotate_left 2
                 ·go_simp
                  constructor
                  ·rfl
                  ·rfl
                 refine hK.out _ _ ?_
                 clear hK K
                 refine norm_ (a':=?_) ?_ ?_
                 rotate_left
                 ·show Act.put _ (some 93) _=_
                  simp only [Act.put,sTA,sCZ,sCS,i64_w,i32_w]
                  rfl
                 refine last_ (i:=11) (N:=some 94) #[true,true,true,true,true,true,true,true,true,true,true,true,false] rfl rfl (one_of HT_.out (by kernel_rfl)) (by decide) (fun K hK=>?_)
                 refine Kd.R_append_step k100 (w0:=w) w.heap.size (by rfl) (.tmp 83) (.tmp 93) 98 100 (.agg #[(.int .i64 0),(.int .i64 0),(.bool false),(.bool false)]) 24 rfl Try.underlying98 info100 rfl (by decide) (by omega) u9 x9_2 (⟨(⟨t403,t404⟩ : S41),true,false⟩ : S100) [.int .i64 t403,.int .i64 t404,.bool true,.bool false] (fun k_=>some k_ ≠ (.slice (some ad391) x6_1.length co53 : Value).ownBlock∧k_ ≠ gb392) (fun _=>False) rfl rfl ?aP (fun _ hk=>hk.elim) ?aF ?aO ?aB ?aS ?aL ?_
                 (case aP=>exact k100_mkM _ _ _ (⟨(⟨t403,t404⟩ : S41),true,false⟩ : S100))
                 (case aB=>exact (by repeat (first|(with_reducible first|exact HB.out|apply bAl|apply bDN|apply bD1|refine bSe ?_ GE379.out|refine bSe ?_ GE392.out)|exact HB.out)))
                 (case aF=>exact (fun k_ hk=>⟨Kd.fresh' (Kd.R_lt (by (with_reducible repeat (first|apply Kd.R_alloc|apply Kd.R_drewN|apply Kd.R_drew));exact HO_6.out)) k_ hk,Kd.freshB (g:=gb392) (o:=.cells #[.int .i64 ((rd_T100 x6_1 (ji27)).f0.f0),.int .i64 ((rd_T100 x6_1 (ji27)).f0.f1),.bool false,.bool ((rd_T100 x6_1 (ji27)).f2)] 100 (0,0)) (by (with_reducible repeat first|apply kN|apply kD|apply kA);exact BK392.out) k_ hk⟩))
                 (case aO=>exact (by (with_reducible repeat (first|apply Kd.R_alloc|apply Kd.R_drewN|apply Kd.R_drew));exact HO_9.out))
                 (case aS=>exact (below_size (by repeat (first|(with_reducible first|exact HB.out|apply bAl|apply bDN|apply bD1|refine bSe ?_ GE379.out|refine bSe ?_ GE392.out)|exact HB.out))))
                 (case aL=>have:=LMc51.out;omega)
                 intro v406 w60 ho hb hg hat
                 rw [← Ny405.out] at ho
                 have n0_:=amk (Kd.R_after (ok:=(fun k_=>k_ ≠ gb392)) (by (with_reducible repeat (first|apply Kd.R_alloc|apply Kd.R_drewN|apply Kd.R_drew));exact Kd.R_mono HO_6.out (fun _ hk=>⟨hk.2,hk.1⟩)) hg hat)
                 have n1_:=amk (blk_grown (g:=gb379) (o:=.cells #[.int .i64 a1_0,.int .i64 a1_1,.int .i64 a1_2,.int .i64 a1_3,.int .i64 a1_4,.int .i64 a1_5] 26 (0,0)) (by (with_reducible repeat first|apply kN|apply kD|apply kA);exact BK379.out) hg (Kd.R_ne HO_9.out BK379.out (by decide)))
                 have n2_:=amk (blk_grown (g:=gb392) (o:=.cells #[.int .i64 ((rd_T100 x6_1 (ji27)).f0.f0),.int .i64 ((rd_T100 x6_1 (ji27)).f0.f1),.bool false,.bool ((rd_T100 x6_1 (ji27)).f2)] 100 (0,0)) (by (with_reducible repeat first|apply kN|apply kD|apply kA);exact BK392.out) hg (Kd.R_away HO_9.out (fun _ hk=>hk.2)))
                 have n3_:=amk (hb)
                 have n4_:=amk (ho)
                 clear HO_6
                 clear BK379
                 clear BK392
                 clear HB
                 clear HO_9
                 have HO_6:=n0_
                 have BK379:=n1_
                 have BK392:=n2_
                 have HB:=n3_
                 have HO407:=n4_
                 clear n0_ n1_ n2_ n3_ n4_
                 clear ho hb hg hat
                 refine hK.out _ _ ?_
                 clear hK K
                 refine norm_ (a':=?_) ?_ ?_
                 rotate_left
                 ·show Act.put _ (some 94) _=_
                  simp only [Act.put,sTA,sCZ,sCS,i64_w,i32_w]
                  rfl
                 refine pure_ (i:=12) (N:=some 9) (v:=?_) (a':=?_) #[true,true,true,true,true,true,true,true,true,true,true,true,true] rfl rfl (any_of HT_.out (by kernel_rfl)) (fun _ _ _ h=>h) (Or.inl ⟨by rfl,?_⟩) ?_ ?_
                 rotate_left
                 ·intro w'
                  go_simp
                  with_reducible rfl
                 rotate_left
                 ·simp only [Act.put,sTA,sCZ,sCS,i64_w,i32_w]
                  rfl
                 refine done_ (done_of HT_.out (by kernel_rfl)) ?_
                 have p408 : 0≤(x10_2 : Int):=of_decide_eq_true (by first|(with_reducible assumption)|assumption)
                 have q408 : x10_2 < (x6_1.length : Int):=of_decide_eq_true (by first|(with_reducible assumption)|assumption)
                 obtain ⟨ad408,e408,hx408_0,hx408_1,hx408_2,hx408_3⟩:=at_T100 (Kd.R_reads' HO_6.out).2.2 x10_2 p408 q408
                 (try rw [← Nbq30.out] at hx408_2)
                 (try rw [← Nbq42.out] at hx408_2)
                 (try rw [← Nbq30.out] at hx408_3)
                 (try rw [← Nbq42.out] at hx408_3)
                 obtain rfl : ad391=ad408:=(by injection e408)
                 replace p408:=eq_true p408
                 replace q408:=eq_true q408
                 try go_wp2_with (first|((with_reducible refine gate_builtin (b:=.append) (xs:=#[.tmp 95,.tmp 100]) rfl ?_);at_builtin;refine Kd.R_append k100 (w0:=w) w.heap.size rfl (.tmp 95) (.tmp 100) 98 100 (.agg #[(.int .i64 0),(.int .i64 0),(.bool false),(.bool false)]) 24 rfl Try.underlying98 info100 rfl (by decide) (by omega) v406 y405 (⟨(⟨(rd_T100 x6_1 x10_2).f0.f0,(rd_T100 x6_1 x10_2).f0.f1⟩ : S41),false,(rd_T100 x6_1 x10_2).f2⟩ : S100) [.int .i64 ((rd_T100 x6_1 x10_2).f0.f0),.int .i64 ((rd_T100 x6_1 x10_2).f0.f1),.bool false,.bool ((rd_T100 x6_1 x10_2).f2)] (fun k_=>some k_ ≠ (.slice (some ad391) x6_1.length co53 : Value).ownBlock∧k_ ≠ gb392) (fun _=>False) rfl rfl ?aP (fun _ hk=>hk.elim) ?aF ?aO ?aB ?aS ?aL ?_;(case aP=>exact k100_mkM _ _ _ (⟨(⟨(rd_T100 x6_1 x10_2).f0.f0,(rd_T100 x6_1 x10_2).f0.f1⟩ : S41),false,(rd_T100 x6_1 x10_2).f2⟩ : S100));(case aB=>exact (by repeat (first|(with_reducible first|exact HB.out|apply bAl|apply bDN|apply bD1|refine bSe ?_ GE379.out|refine bSe ?_ GE392.out)|exact HB.out)));(case aF=>exact (fun k_ hk=>⟨Kd.fresh' (Kd.R_lt (by (with_reducible repeat (first|apply Kd.R_alloc|apply Kd.R_drewN|apply Kd.R_drew));exact HO_6.out)) k_ hk,Kd.freshB (g:=gb392) (o:=.cells #[.int .i64 ((rd_T100 x6_1 (ji27)).f0.f0),.int .i64 ((rd_T100 x6_1 (ji27)).f0.f1),.bool false,.bool ((rd_T100 x6_1 (ji27)).f2)] 100 (0,0)) (by (with_reducible repeat first|apply kN|apply kD|apply kA);exact BK392.out) k_ hk⟩));(case aO=>exact (by (with_reducible repeat (first|apply Kd.R_alloc|apply Kd.R_drewN|apply Kd.R_drew));exact HO407.out));(case aS=>exact (below_size (by repeat (first|(with_reducible first|exact HB.out|apply bAl|apply bDN|apply bD1|refine bSe ?_ GE379.out|refine bSe ?_ GE392.out)|exact HB.out))));(case aL=>have:=LMc52.out;omega);intro v410 w61 ho hb hg hat;rw [← Ny409.out] at ho;have n0_:=amk (Kd.R_after (ok:=(fun k_=>k_ ≠ gb392)) (by (with_reducible repeat (first|apply Kd.R_alloc|apply Kd.R_drewN|apply Kd.R_drew));exact HO_6.out) hg hat);have n1_:=amk (blk_grown (g:=gb379) (o:=.cells #[.int .i64 a1_0,.int .i64 a1_1,.int .i64 a1_2,.int .i64 a1_3,.int .i64 a1_4,.int .i64 a1_5] 26 (0,0)) (by (with_reducible repeat first|apply kN|apply kD|apply kA);exact BK379.out) hg (Kd.R_ne HO407.out BK379.out (by decide)));have n2_:=amk (blk_grown (g:=gb392) (o:=.cells #[.int .i64 ((rd_T100 x6_1 (ji27)).f0.f0),.int .i64 ((rd_T100 x6_1 (ji27)).f0.f1),.bool false,.bool ((rd_T100 x6_1 (ji27)).f2)] 100 (0,0)) (by (with_reducible repeat first|apply kN|apply kD|apply kA);exact BK392.out) hg (Kd.R_away HO407.out (fun _ hk=>hk.2)));have n3_:=amk (hb);have n4_:=amk (ho);clear HO_6;clear BK379;clear BK392;clear HB;clear HO407;have HO_6:=n0_;have BK379:=n1_;have BK392:=n2_;have HB:=n3_;have HO411:=n4_;clear n0_ n1_ n2_ n3_ n4_;clear ho hb hg hat))
                 go_roundg k2
                 case measure=>have:=HK1.out;have:=HK2.out;omega
                 case rel=>exact ⟨(y409),(wrap64 (x10_2+1)),(by first|rfl|(simp;done)|(simp [*];done)),H',⟨by have:=HK1.out;have:=HK2.out;omega⟩,⟨by (with_reducible repeat (first|apply Kd.R_alloc|apply Kd.R_drewN|apply Kd.R_drew));exact Kd.R_mono HO_6.out (fun _ hk=>hk.2)⟩,⟨by (with_reducible repeat (first|apply Kd.R_alloc|apply Kd.R_drewN|apply Kd.R_drew));exact Kd.R_mono HO411.out (fun _ hk=>hk.1)⟩,⟨by (with_reducible repeat first|apply kN|apply kD|apply kA);exact BK379.out⟩,⟨by repeat (first|(with_reducible first|exact HB.out|apply bAl|apply bDN|apply bD1|refine bSe ?_ GE379.out|refine bSe ?_ GE392.out)|exact HB.out)⟩⟩
                ·rw [if_neg c52] at H
                 exact absurd H (by simp)
               ·rw [if_neg c51] at H
                exact absurd H (by simp)
             ·rw [if_neg c41] at H
              exact absurd H (by simp)
            ·rw [if_neg c40] at H
             exact absurd H (by simp)
          ·rw [if_neg c29] at H
           exact absurd H (by simp)
         ·rw [if_neg c28] at H
          exact absurd H (by simp)
       ·rw [if_neg c25] at H
        have c25b0 : decide (x10_2 < (l0.length : Int))=false:=decide_eq_false c25
        clear c25
        have H':=amk H
        clear H
        obtain ⟨Ao62,co62,eo62⟩:=Kd.R_slice HO_9.out
        subst eo62
        go_wp2
        go_loopg [12,13] k2 (fun kq v12 v13 w'=>∃ (x12_3 : Int) (x13_3 : Int),v12=.int .i64 x12_3∧v13=.int .i64 x13_3∧Aside0 (versalref14_contour.l2 kq x9_2 x12_3 x13_3=some r)∧Aside0 (kq≤k2)∧Aside0 (Kd.R k100 100 w' w.heap.size (fun _=>True) (.slice Ao62 x9_2.length co62) x9_2)∧Aside0 (w'.heap[gb379]?=some (.cells #[.int .i64 a1_0,.int .i64 a1_1,.int .i64 a1_2,.int .i64 a1_3,.int .i64 a1_4,.int .i64 a1_5] 26 (0,0)))∧Aside0 (Below w.heap.size w w'))
        case atStart=>exact ⟨(0),(wrap64 ((x9_2.length : Int) - 1)),(by first|rfl|(simp;done)|(simp [*];done)),(by first|rfl|(simp;done)|(simp [*];done)),H',⟨Nat.le_refl _⟩,⟨by (with_reducible repeat (first|apply Kd.R_alloc|apply Kd.R_drewN|apply Kd.R_drew));exact Kd.R_mono HO_9.out (fun _ hk=>trivial)⟩,⟨by (with_reducible repeat first|apply kN|apply kD|apply kA);exact BK379.out⟩,⟨by repeat (first|(with_reducible first|exact HB.out|apply bAl|apply bDN|apply bD1|refine bSe ?_ GE379.out)|exact HB.out)⟩⟩
        case round =>
         clear H'
         try clear c1
         try clear c2
         try clear p2
         try clear c3
         try clear c3b0
         try clear c3b1
         try clear p3
         try clear q3
         try clear hx3
         try clear c4
         try clear p4
         try clear q4
         try clear hx4
         try clear c5
         try clear c6
         try clear c6b0
         try clear p6
         try clear c7
         try clear c7b0
         try clear c8
         try clear c8b0
         try clear c11
         try clear c12
         try clear c14
         try clear c25
         try clear c25b0
         try clear c26
         try clear c26b0
         try clear c26b1
         try clear c26b2
         try clear c28
         try clear c28b0
         try clear c29
         try clear c29b0
         try clear q30
         try clear c31
         try clear c32
         try clear c32b0
         try clear c33
         try clear c33b0
         try clear c34
         try clear c37
         try clear p38
         try clear q38
         try clear hx38
         try clear p39
         try clear q39
         try clear hx39
         try clear c40
         try clear c40b0
         try clear p40
         try clear q40
         try clear hx40
         try clear c41
         try clear c41b0
         try clear q42
         try clear c43
         try clear c44
         try clear c47
         try clear c51
         try clear c52
         try clear c55
         try clear c56
         try clear hcz15_0
         try clear hcz15_1
         try clear hcz15_2
         try clear hcz15_3
         try clear hcz23_0
         try clear hcz23_1
         try clear hcz23_2
         try clear hcz23_3
         try clear hcz38_0
         try clear hcz38_1
         try clear hcz38_2
         try clear hcz38_3
         try clear hcz48_0
         try clear hcz48_1
         try clear hcz48_2
         try clear hcz48_3
         try clear hcz56_0
         try clear hcz56_1
         try clear hcz56_2
         try clear hcz56_3
         try clear hfz15_0
         try clear hfz15_1
         try clear hfz15_2
         try clear hfz15_3
         try clear hfz23_0
         try clear hfz23_1
         try clear hfz23_2
         try clear hfz23_3
         try clear hfz38_0
         try clear hfz38_1
         try clear hfz38_2
         try clear hfz38_3
         try clear hfz48_0
         try clear hfz48_1
         try clear hfz48_2
         try clear hfz48_3
         try clear hfz56_0
         try clear hfz56_1
         try clear hfz56_2
         try clear hfz56_3
         try clear hx380_0
         try clear hx380_1
         try clear hx380_2
         try clear hx382_0
         try clear hx382_1
         try clear hx382_2
         try clear hx384_0
         try clear hx384_1
         try clear hx384_2
         try clear hx391_0
         try clear hx391_1
         try clear hx391_2
         try clear hx391_3
         try clear hx393_0
         try clear hx393_1
         try clear hx393_2
         try clear hx393_3
         try clear hx397_0
         try clear hx397_1
         try clear hx397_2
         try clear hx397_3
         try clear hx398_0
         try clear hx398_1
         try clear hx398_2
         try clear hx398_3
         try clear hx402_0
         try clear hx402_1
         try clear hx402_2
         try clear hx402_3
         try clear hx408_0
         try clear hx408_1
         try clear hx408_2
         try clear hx408_3
         try clear p2
         try clear p3
         try clear p380
         try clear p382
         try clear p384
         try clear p391
         try clear p393
         try clear p397
         try clear p398
         try clear p402
         try clear p408
         try clear p6
         try clear q3
         try clear q380
         try clear q382
         try clear q384
         try clear q391
         try clear q393
         try clear q397
         try clear q398
         try clear q402
         try clear q408
         obtain ⟨x12_3,x13_3,rfl,rfl,HA,HK3,HO_9,BK379,HB⟩:=hrel
         cases gk with
         | zero=>exact absurd HA.out (by simp [versalref14_contour.l2])
         | succ k3 =>
          have H:=HA.out
          clear HA
          simp only [versalref14_contour.l2] at H
          by_cases c63 : x13_3 ≥ 0
          ·rw [if_pos c63] at H
           have c63b0 : decide (0≤x13_3)=true:=decide_eq_true c63
           clear c63
           by_cases c64 : 0≤x13_3
           ·rw [if_pos c64] at H
            have c64b0 : decide (0≤x13_3)=true:=decide_eq_true c64
            clear c64
            by_cases c65 : x13_3 < (x9_2.length : Int)
            ·rw [if_pos c65] at H
             have c65b0 : decide (x13_3 < (x9_2.length : Int))=true:=decide_eq_true c65
             clear c65
             obtain ⟨bq66,hbq66⟩ : ∃ b_ : Bool,b_=((rd_T100 x9_2 x13_3).f1):=⟨_,rfl⟩
             replace H : (if bq66=true then (if (rd_T100 x9_2 x13_3).f2=true then (versalref14_contour.l2 k3 x9_2 x13_3 (wrap64 (x13_3 - 1))) else (versalref14_contour.l2 k3 x9_2 x12_3 (wrap64 (x13_3 - 1)))) else (versalref14_contour.l2 k3 x9_2 x12_3 (wrap64 (x13_3 - 1))))=some r:=by rw [← hbq66] at H;exact H
             have Nbq66:=amk hbq66
             clear hbq66
             by_cases c67 : bq66=true
             ·subst c67
              have H1 : (if (rd_T100 x9_2 x13_3).f2=true then (versalref14_contour.l2 k3 x9_2 x13_3 (wrap64 (x13_3 - 1))) else (versalref14_contour.l2 k3 x9_2 x12_3 (wrap64 (x13_3 - 1))))=some r:=by rw [if_pos rfl] at H;exact H
              clear H
              have H:=H1
              clear H1
              obtain ⟨bq68,hbq68⟩ : ∃ b_ : Bool,b_=((rd_T100 x9_2 x13_3).f2):=⟨_,rfl⟩
              replace H : (if bq68=true then (versalref14_contour.l2 k3 x9_2 x13_3 (wrap64 (x13_3 - 1))) else (versalref14_contour.l2 k3 x9_2 x12_3 (wrap64 (x13_3 - 1))))=some r:=by rw [← hbq68] at H;exact H
              have Nbq68:=amk hbq68
              clear hbq68
              by_cases c69 : bq68=true
              ·subst c69
               have H1 : (versalref14_contour.l2 k3 x9_2 x13_3 (wrap64 (x13_3 - 1)))=some r:=by rw [if_pos rfl] at H;exact H
               clear H
               have H:=H1
               clear H1
               have H':=amk H
               clear H
               have p412 : 0≤(x13_3 : Int):=of_decide_eq_true (by first|(with_reducible assumption)|assumption)
               have q412 : x13_3 < (x9_2.length : Int):=of_decide_eq_true (by first|(with_reducible assumption)|assumption)
               obtain ⟨ad412,e412,hx412_0,hx412_1,hx412_2,hx412_3⟩:=at_T100 (Kd.R_reads' HO_9.out).2.2 x13_3 p412 q412
               (try rw [← Nbq66.out] at hx412_2)
               (try rw [← Nbq68.out] at hx412_2)
               (try rw [← Nbq66.out] at hx412_3)
               (try rw [← Nbq68.out] at hx412_3)
               cases e412
               replace p412:=eq_true p412
               replace q412:=eq_true q412
               have p413 : 0≤(x13_3 : Int):=of_decide_eq_true (by first|(with_reducible assumption)|assumption)
               have q413 : x13_3 < (x9_2.length : Int):=of_decide_eq_true (by first|(with_reducible assumption)|assumption)
               obtain ⟨ad413,e413,hx413_0,hx413_1,hx413_2,hx413_3⟩:=at_T100 (Kd.R_reads' HO_9.out).2.2 x13_3 p413 q413
               (try rw [← Nbq66.out] at hx413_2)
               (try rw [← Nbq68.out] at hx413_2)
               (try rw [← Nbq66.out] at hx413_3)
               (try rw [← Nbq68.out] at hx413_3)
               obtain rfl : ad412=ad413:=(by injection e413)
               replace p413:=eq_true p413
               replace q413:=eq_true q413
               go_wp2
               go_roundg k3
               case measure=>have:=HK1.out;have:=HK2.out;have:=HK3.out;omega
               case rel=>exact ⟨(x13_3),(wrap64 (x13_3 - 1)),(by first|rfl|(simp;done)|(simp [*];done)),(by first|rfl|(simp;done)|(simp [*];done)),H',⟨by have:=HK1.out;have:=HK2.out;have:=HK3.out;omega⟩,⟨by (with_reducible repeat (first|apply Kd.R_alloc|apply Kd.R_drewN|apply Kd.R_drew));exact HO_9.out⟩,⟨by (with_reducible repeat first|apply kN|apply kD|apply kA);exact BK379.out⟩,⟨by repeat (first|(with_reducible first|exact HB.out|apply bAl|apply bDN|apply bD1|refine bSe ?_ GE379.out)|exact HB.out)⟩⟩
              ·replace c69:=Bool.eq_false_iff.mpr c69
               subst c69
               have H1 : (versalref14_contour.l2 k3 x9_2 x12_3 (wrap64 (x13_3 - 1)))=some r:=by rw [if_neg (show ¬ (false=true) by decide)] at H;exact H
               clear H
               have H:=H1
               clear H1
               have H':=amk H
               clear H
               have p412 : 0≤(x13_3 : Int):=of_decide_eq_true (by first|(with_reducible assumption)|assumption)
               have q412 : x13_3 < (x9_2.length : Int):=of_decide_eq_true (by first|(with_reducible assumption)|assumption)
               obtain ⟨ad412,e412,hx412_0,hx412_1,hx412_2,hx412_3⟩:=at_T100 (Kd.R_reads' HO_9.out).2.2 x13_3 p412 q412
               (try rw [← Nbq66.out] at hx412_2)
               (try rw [← Nbq68.out] at hx412_2)
               (try rw [← Nbq66.out] at hx412_3)
               (try rw [← Nbq68.out] at hx412_3)
               cases e412
               replace p412:=eq_true p412
               replace q412:=eq_true q412
               have p413 : 0≤(x13_3 : Int):=of_decide_eq_true (by first|(with_reducible assumption)|assumption)
               have q413 : x13_3 < (x9_2.length : Int):=of_decide_eq_true (by first|(with_reducible assumption)|assumption)
               obtain ⟨ad413,e413,hx413_0,hx413_1,hx413_2,hx413_3⟩:=at_T100 (Kd.R_reads' HO_9.out).2.2 x13_3 p413 q413
               (try rw [← Nbq66.out] at hx413_2)
               (try rw [← Nbq68.out] at hx413_2)
               (try rw [← Nbq66.out] at hx413_3)
               (try rw [← Nbq68.out] at hx413_3)
               obtain rfl : ad412=ad413:=(by injection e413)
               replace p413:=eq_true p413
               replace q413:=eq_true q413
               go_wp2
               go_roundg k3
               case measure=>have:=HK1.out;have:=HK2.out;have:=HK3.out;omega
               case rel=>exact ⟨(x12_3),(wrap64 (x13_3 - 1)),(by first|rfl|(simp;done)|(simp [*];done)),(by first|rfl|(simp;done)|(simp [*];done)),H',⟨by have:=HK1.out;have:=HK2.out;have:=HK3.out;omega⟩,⟨by (with_reducible repeat (first|apply Kd.R_alloc|apply Kd.R_drewN|apply Kd.R_drew));exact HO_9.out⟩,⟨by (with_reducible repeat first|apply kN|apply kD|apply kA);exact BK379.out⟩,⟨by repeat (first|(with_reducible first|exact HB.out|apply bAl|apply bDN|apply bD1|refine bSe ?_ GE379.out)|exact HB.out)⟩⟩
             ·replace c67:=Bool.eq_false_iff.mpr c67
              subst c67
              have H1 : (versalref14_contour.l2 k3 x9_2 x12_3 (wrap64 (x13_3 - 1)))=some r:=by rw [if_neg (show ¬ (false=true) by decide)] at H;exact H
              clear H
              have H:=H1
              clear H1
              have H':=amk H
              clear H
              have p412 : 0≤(x13_3 : Int):=of_decide_eq_true (by first|(with_reducible assumption)|assumption)
              have q412 : x13_3 < (x9_2.length : Int):=of_decide_eq_true (by first|(with_reducible assumption)|assumption)
              obtain ⟨ad412,e412,hx412_0,hx412_1,hx412_2,hx412_3⟩:=at_T100 (Kd.R_reads' HO_9.out).2.2 x13_3 p412 q412
              (try rw [← Nbq66.out] at hx412_2)
              (try rw [← Nbq66.out] at hx412_3)
              cases e412
              replace p412:=eq_true p412
              replace q412:=eq_true q412
              go_wp2
              go_roundg k3
              case measure=>have:=HK1.out;have:=HK2.out;have:=HK3.out;omega
              case rel=>exact ⟨(x12_3),(wrap64 (x13_3 - 1)),(by first|rfl|(simp;done)|(simp [*];done)),(by first|rfl|(simp;done)|(simp [*];done)),H',⟨by have:=HK1.out;have:=HK2.out;have:=HK3.out;omega⟩,⟨by (with_reducible repeat (first|apply Kd.R_alloc|apply Kd.R_drewN|apply Kd.R_drew));exact HO_9.out⟩,⟨by (with_reducible repeat first|apply kN|apply kD|apply kA);exact BK379.out⟩,⟨by repeat (first|(with_reducible first|exact HB.out|apply bAl|apply bDN|apply bD1|refine bSe ?_ GE379.out)|exact HB.out)⟩⟩
            ·rw [if_neg c65] at H
             exact absurd H (by simp)
           ·rw [if_neg c64] at H
            exact absurd H (by simp)
          ·rw [if_neg c63] at H
           have c63b0 : decide (0≤x13_3)=false:=decide_eq_false c63
           clear c63
           have H':=amk H
           clear H
           go_wp2
           go_loopg [14,15] k3 (fun kq v14 v15 w'=>∃ (x14_4 : List (S34)) (x15_4 : Int),v15=.int .i64 x15_4∧Aside0 (versalref14_contour.l3 kq x9_2 x12_3 x14_4 x15_4=some r)∧Aside0 (kq≤k3)∧Aside0 (Kd.R k100 100 w' w.heap.size (fun _=>True) (.slice Ao62 x9_2.length co62) x9_2)∧Aside0 (Kd.R k34 34 w' w.heap.size (fun _=>True) v14 x14_4)∧Aside0 (w'.heap[gb379]?=some (.cells #[.int .i64 a1_0,.int .i64 a1_1,.int .i64 a1_2,.int .i64 a1_3,.int .i64 a1_4,.int .i64 a1_5] 26 (0,0)))∧Aside0 (Below w.heap.size w w'))
           case atStart=>exact ⟨(([] : List (S34))),(0),(by first|rfl|(simp;done)|(simp [*];done)),H',⟨Nat.le_refl _⟩,⟨by (with_reducible repeat (first|apply Kd.R_alloc|apply Kd.R_drewN|apply Kd.R_drew));exact HO_9.out⟩,⟨by first|exact Kd.R_nil _ _ _ _ _|exact Kd.N_nil _ _ _ _ _|exact Kd.V_nil _ _ _ _ _|exact Kd.Q_nil _ _ _ _ _|exact Kd.S_nil _ _ _ _ _⟩,⟨by (with_reducible repeat first|apply kN|apply kD|apply kA);exact BK379.out⟩,⟨by repeat (first|(with_reducible first|exact HB.out|apply bAl|apply bDN|apply bD1|refine bSe ?_ GE379.out)|exact HB.out)⟩⟩
           case round =>
            clear H'
            try clear c1
            try clear c2
            try clear p2
            try clear c3
            try clear c3b0
            try clear c3b1
            try clear p3
            try clear q3
            try clear hx3
            try clear c4
            try clear p4
            try clear q4
            try clear hx4
            try clear c5
            try clear c6
            try clear c6b0
            try clear p6
            try clear q6
            try clear c7
            try clear c7b0
            try clear c8
            try clear c8b0
            try clear c11
            try clear c12
            try clear c14
            try clear c25
            try clear c25b0
            try clear c26
            try clear c26b0
            try clear c26b1
            try clear c26b2
            try clear c28
            try clear c28b0
            try clear c29
            try clear c29b0
            try clear q30
            try clear c31
            try clear c32
            try clear c32b0
            try clear c33
            try clear c33b0
            try clear c34
            try clear c37
            try clear p38
            try clear q38
            try clear hx38
            try clear p39
            try clear q39
            try clear hx39
            try clear c40
            try clear c40b0
            try clear p40
            try clear q40
            try clear hx40
            try clear c41
            try clear c41b0
            try clear p41
            try clear q41
            try clear hx41
            try clear q42
            try clear c43
            try clear c44
            try clear c47
            try clear c51
            try clear c52
            try clear c55
            try clear c56
            try clear c63
            try clear c63b0
            try clear c64
            try clear c64b0
            try clear p64
            try clear c65
            try clear c65b0
            try clear q66
            try clear c67
            try clear q68
            try clear c69
            try clear hcz15_0
            try clear hcz15_1
            try clear hcz15_2
            try clear hcz15_3
            try clear hcz23_0
            try clear hcz23_1
            try clear hcz23_2
            try clear hcz23_3
            try clear hcz38_0
            try clear hcz38_1
            try clear hcz38_2
            try clear hcz38_3
            try clear hcz48_0
            try clear hcz48_1
            try clear hcz48_2
            try clear hcz48_3
            try clear hcz56_0
            try clear hcz56_1
            try clear hcz56_2
            try clear hcz56_3
            try clear hfz15_0
            try clear hfz15_1
            try clear hfz15_2
            try clear hfz15_3
            try clear hfz23_0
            try clear hfz23_1
            try clear hfz23_2
            try clear hfz23_3
            try clear hfz38_0
            try clear hfz38_1
            try clear hfz38_2
            try clear hfz38_3
            try clear hfz48_0
            try clear hfz48_1
            try clear hfz48_2
            try clear hfz48_3
            try clear hfz56_0
            try clear hfz56_1
            try clear hfz56_2
            try clear hfz56_3
            try clear hx380_0
            try clear hx380_1
            try clear hx380_2
            try clear hx382_0
            try clear hx382_1
            try clear hx382_2
            try clear hx384_0
            try clear hx384_1
            try clear hx384_2
            try clear hx391_0
            try clear hx391_1
            try clear hx391_2
            try clear hx391_3
            try clear hx393_0
            try clear hx393_1
            try clear hx393_2
            try clear hx393_3
            try clear hx397_0
            try clear hx397_1
            try clear hx397_2
            try clear hx397_3
            try clear hx398_0
            try clear hx398_1
            try clear hx398_2
            try clear hx398_3
            try clear hx402_0
            try clear hx402_1
            try clear hx402_2
            try clear hx402_3
            try clear hx408_0
            try clear hx408_1
            try clear hx408_2
            try clear hx408_3
            try clear hx412_0
            try clear hx412_1
            try clear hx412_2
            try clear hx412_3
            try clear hx413_0
            try clear hx413_1
            try clear hx413_2
            try clear hx413_3
            try clear p2
            try clear p3
            try clear p38
            try clear p380
            try clear p382
            try clear p384
            try clear p39
            try clear p391
            try clear p393
            try clear p397
            try clear p398
            try clear p4
            try clear p40
            try clear p402
            try clear p408
            try clear p412
            try clear p413
            try clear p6
            try clear q3
            try clear q30
            try clear q38
            try clear q380
            try clear q382
            try clear q384
            try clear q39
            try clear q391
            try clear q393
            try clear q397
            try clear q398
            try clear q4
            try clear q40
            try clear q402
            try clear q408
            try clear q412
            try clear q413
            try clear q42
            obtain ⟨x14_4,x15_4,rfl,HA,HK4,HO_9,HO_14,BK379,HB⟩:=hrel
            cases gk with
            | zero=>exact absurd HA.out (by simp [versalref14_contour.l3])
            | succ k4 =>
             have H:=HA.out
             clear HA
             simp only [versalref14_contour.l3] at H
             by_cases c70 : x15_4 < (x9_2.length : Int)
             ·rw [if_pos c70] at H
              have c70b0 : decide (x15_4 < (x9_2.length : Int))=true:=decide_eq_true c70
              clear c70
              by_cases c71 : (x9_2.length : Int)=0
              ·rw [if_pos c71] at H
               exact absurd H (by simp)
              ·rw [if_neg c71] at H
               have c71b0 : ((x9_2.length : Int) == 0)=false:=beq_eq_false_iff_ne.mpr c71
               have c71b1 : ((x9_2.length : Int) != 0)=true:=bne_iff_ne.mpr c71
               have c71b2 : ¬ (x9_2=[]):=fun h_=>c71 (by rw [h_];rfl)
               obtain ⟨ji72,hji72⟩ : ∃ j_ : Int,(Int.tmod (wrap64 (x12_3+x15_4)) (x9_2.length : Int))=j_:=⟨_,rfl⟩
               replace H : (if 0≤(ji72) then (if (ji72) < (x9_2.length : Int) then (if 0≤(Int.tmod (wrap64 ((wrap64 (x12_3+x15_4))+1)) (x9_2.length : Int)) then (if (Int.tmod (wrap64 ((wrap64 (x12_3+x15_4))+1)) (x9_2.length : Int)) < (x9_2.length : Int) then (if (rd_T100 x9_2 (Int.tmod (wrap64 ((wrap64 (x12_3+x15_4))+1)) (x9_2.length : Int))).f1=true then (if x14_4.length < 4398046511104 then (versalref14_contour.l3 k4 x9_2 x12_3 (x14_4 ++ [(⟨(rd_T100 x9_2 (ji72)).f0.f0,(rd_T100 x9_2 (ji72)).f0.f1,(rd_T100 x9_2 (Int.tmod (wrap64 ((wrap64 (x12_3+x15_4))+1)) (x9_2.length : Int))).f0.f0,(rd_T100 x9_2 (Int.tmod (wrap64 ((wrap64 (x12_3+x15_4))+1)) (x9_2.length : Int))).f0.f1⟩ : S34)]) (wrap64 (x15_4+1))) else (none)) else (if 0≤(Int.tmod (wrap64 ((wrap64 (x12_3+x15_4))+2)) (x9_2.length : Int)) then (if (Int.tmod (wrap64 ((wrap64 (x12_3+x15_4))+2)) (x9_2.length : Int)) < (x9_2.length : Int) then ((versalref14_Curve.f k4 ((rd_T100 x9_2 (ji72)).f0.f0) ((rd_T100 x9_2 (ji72)).f0.f1) ((rd_T100 x9_2 (Int.tmod (wrap64 ((wrap64 (x12_3+x15_4))+1)) (x9_2.length : Int))).f0.f0) ((rd_T100 x9_2 (Int.tmod (wrap64 ((wrap64 (x12_3+x15_4))+1)) (x9_2.length : Int))).f0.f1) ((rd_T100 x9_2 (Int.tmod (wrap64 ((wrap64 (x12_3+x15_4))+2)) (x9_2.length : Int))).f0.f0) ((rd_T100 x9_2 (Int.tmod (wrap64 ((wrap64 (x12_3+x15_4))+2)) (x9_2.length : Int))).f0.f1)).bind fun t422=>(if x14_4.length+t422.length < 4398046511104 then (versalref14_contour.l3 k4 x9_2 x12_3 (x14_4 ++ t422) (wrap64 (x15_4+2))) else (none))) else (none)) else (none))) else (none)) else (none)) else (none)) else (none))=some r:=by first|(rw [hji72] at H;exact H)|(simp only [hji72] at H ⊢;exact H)
               by_cases c73 : 0≤(ji72)
               ·rw [if_pos c73] at H
                have c73b0 : decide (0≤(ji72))=true:=decide_eq_true c73
                clear c73
                by_cases c74 : (ji72) < (x9_2.length : Int)
                ·rw [if_pos c74] at H
                 have c74b0 : decide ((ji72) < (x9_2.length : Int))=true:=decide_eq_true c74
                 clear c74
                 obtain ⟨ji75,hji75⟩ : ∃ j_ : Int,(Int.tmod (wrap64 ((wrap64 (x12_3+x15_4))+1)) (x9_2.length : Int))=j_:=⟨_,rfl⟩
                 replace H : (if 0≤(ji75) then (if (ji75) < (x9_2.length : Int) then (if (rd_T100 x9_2 (ji75)).f1=true then (if x14_4.length < 4398046511104 then (versalref14_contour.l3 k4 x9_2 x12_3 (x14_4 ++ [(⟨(rd_T100 x9_2 (ji72)).f0.f0,(rd_T100 x9_2 (ji72)).f0.f1,(rd_T100 x9_2 (ji75)).f0.f0,(rd_T100 x9_2 (ji75)).f0.f1⟩ : S34)]) (wrap64 (x15_4+1))) else (none)) else (if 0≤(Int.tmod (wrap64 ((wrap64 (x12_3+x15_4))+2)) (x9_2.length : Int)) then (if (Int.tmod (wrap64 ((wrap64 (x12_3+x15_4))+2)) (x9_2.length : Int)) < (x9_2.length : Int) then ((versalref14_Curve.f k4 ((rd_T100 x9_2 (ji72)).f0.f0) ((rd_T100 x9_2 (ji72)).f0.f1) ((rd_T100 x9_2 (ji75)).f0.f0) ((rd_T100 x9_2 (ji75)).f0.f1) ((rd_T100 x9_2 (Int.tmod (wrap64 ((wrap64 (x12_3+x15_4))+2)) (x9_2.length : Int))).f0.f0) ((rd_T100 x9_2 (Int.tmod (wrap64 ((wrap64 (x12_3+x15_4))+2)) (x9_2.length : Int))).f0.f1)).bind fun t422=>(if x14_4.length+t422.length < 4398046511104 then (versalref14_contour.l3 k4 x9_2 x12_3 (x14_4 ++ t422) (wrap64 (x15_4+2))) else (none))) else (none)) else (none))) else (none)) else (none))=some r:=by first|(rw [hji75] at H;exact H)|(simp only [hji75] at H ⊢;exact H)
                 by_cases c76 : 0≤(ji75)
                 ·rw [if_pos c76] at H
                  have c76b0 : decide (0≤(ji75))=true:=decide_eq_true c76
                  clear c76
                  by_cases c77 : (ji75) < (x9_2.length : Int)
                  ·rw [if_pos c77] at H
                   have c77b0 : decide ((ji75) < (x9_2.length : Int))=true:=decide_eq_true c77
                   clear c77
                   obtain ⟨bq78,hbq78⟩ : ∃ b_ : Bool,b_=((rd_T100 x9_2 (ji75)).f1):=⟨_,rfl⟩
                   replace H : (if bq78=true then (if x14_4.length < 4398046511104 then (versalref14_contour.l3 k4 x9_2 x12_3 (x14_4 ++ [(⟨(rd_T100 x9_2 (ji72)).f0.f0,(rd_T100 x9_2 (ji72)).f0.f1,(rd_T100 x9_2 (ji75)).f0.f0,(rd_T100 x9_2 (ji75)).f0.f1⟩ : S34)]) (wrap64 (x15_4+1))) else (none)) else (if 0≤(Int.tmod (wrap64 ((wrap64 (x12_3+x15_4))+2)) (x9_2.length : Int)) then (if (Int.tmod (wrap64 ((wrap64 (x12_3+x15_4))+2)) (x9_2.length : Int)) < (x9_2.length : Int) then ((versalref14_Curve.f k4 ((rd_T100 x9_2 (ji72)).f0.f0) ((rd_T100 x9_2 (ji72)).f0.f1) ((rd_T100 x9_2 (ji75)).f0.f0) ((rd_T100 x9_2 (ji75)).f0.f1) ((rd_T100 x9_2 (Int.tmod (wrap64 ((wrap64 (x12_3+x15_4))+2)) (x9_2.length : Int))).f0.f0) ((rd_T100 x9_2 (Int.tmod (wrap64 ((wrap64 (x12_3+x15_4))+2)) (x9_2.length : Int))).f0.f1)).bind fun t422=>(if x14_4.length+t422.length < 4398046511104 then (versalref14_contour.l3 k4 x9_2 x12_3 (x14_4 ++ t422) (wrap64 (x15_4+2))) else (none))) else (none)) else (none)))=some r:=by rw [← hbq78] at H;exact H
                   have Nbq78:=amk hbq78
                   clear hbq78
                   by_cases c79 : bq78=true
                   ·subst c79
                    have H1 : (if x14_4.length < 4398046511104 then (versalref14_contour.l3 k4 x9_2 x12_3 (x14_4 ++ [(⟨(rd_T100 x9_2 (ji72)).f0.f0,(rd_T100 x9_2 (ji72)).f0.f1,(rd_T100 x9_2 (ji75)).f0.f0,(rd_T100 x9_2 (ji75)).f0.f1⟩ : S34)]) (wrap64 (x15_4+1))) else (none))=some r:=by rw [if_pos rfl] at H;exact H
                    clear H
                    have H:=H1
                    clear H1
                    by_cases c80 : x14_4.length < 4398046511104
                    ·rw [if_pos c80] at H
                     have LMc80:=amk c80
                     clear c80
                     obtain ⟨y418,hy418⟩ : ∃ y_ : List (S34),y_=(x14_4 ++ [(⟨(rd_T100 x9_2 (ji72)).f0.f0,(rd_T100 x9_2 (ji72)).f0.f1,(rd_T100 x9_2 (ji75)).f0.f0,(rd_T100 x9_2 (ji75)).f0.f1⟩ : S34)]):=⟨_,rfl⟩
                     replace H : (versalref14_contour.l3 k4 x9_2 x12_3 y418 (wrap64 (x15_4+1)))=some r:=by first|(rw [hy418];with_reducible exact H)|(have H2_:=(Option.bind_some _ _).symm.trans H;rw [hy418];with_reducible exact H2_)|(have H2_:=(Option.bind_some _ _).symm.trans H;with_reducible exact H2_)|with_reducible exact H|(rw [hy418];exact H)|exact H
                     have Ny418:=amk hy418
                     clear hy418
                     have H':=amk H
                     clear H
                     have p414 : 0≤((ji72) : Int):=of_decide_eq_true (by first|(with_reducible assumption)|assumption)
                     have q414 : (ji72) < (x9_2.length : Int):=of_decide_eq_true (by first|(with_reducible assumption)|assumption)
                     obtain ⟨ad414,e414,hx414_0,hx414_1,hx414_2,hx414_3⟩:=at_T100 (Kd.R_reads' HO_9.out).2.2 (ji72) p414 q414
                     (try rw [← Nbq78.out] at hx414_2)
                     (try rw [← Nbq78.out] at hx414_3)
                     cases e414
                     replace p414:=eq_true p414
                     replace q414:=eq_true q414
                     go_wp2_with (first|((with_reducible refine gate_dst (N:=16) rfl ?_);refine box_event ?hg (N:=16) ?hd (cs:=#[.int .i64 0,.int .i64 0,.bool false,.bool false]) (t:=100) ?hr ?_;(case hd=>rfl);(case hg=>rfl);(case hr=>first|(go_simp;done)|(go_simp;rfl));intro gb415 hg w81 hbox hb;have n0_:=amk (Kd.R_below (Kd.R_elderB (by (with_reducible repeat (first|apply Kd.R_alloc|apply Kd.R_drewN|apply Kd.R_drew));exact HO_9.out) gb415 (Nat.le_of_eq hg.symm)) hb);have n1_:=amk (Kd.R_below (by (with_reducible repeat (first|apply Kd.R_alloc|apply Kd.R_drewN|apply Kd.R_drew));exact HO_14.out) hb);have n2_:=amk (blk_below (g:=gb379) (o:=.cells #[.int .i64 a1_0,.int .i64 a1_1,.int .i64 a1_2,.int .i64 a1_3,.int .i64 a1_4,.int .i64 a1_5] 26 (0,0)) (by (with_reducible repeat first|apply kN|apply kD|apply kA);exact BK379.out) hb);have n3_:=amk (below_step (by repeat (first|(with_reducible first|exact HB.out|apply bAl|apply bDN|apply bD1|refine bSe ?_ GE379.out)|exact HB.out)) hb);have n4_:=amk (hbox);have n5_:=amk ((by rw [hg];exact (below_size (by repeat (first|(with_reducible first|exact HB.out|apply bAl|apply bDN|apply bD1|refine bSe ?_ GE379.out)|exact HB.out))) : w.heap.size≤gb415));have n6_:=amk ((by rw [hg];exact (below_size (by repeat (first|(with_reducible first|exact HB.out|apply bAl|apply bDN|apply bD1|refine bSe ?_ GE379.out)|exact HB.out))) : w.heap.size≤gb415));have n7_:=amk ((by rw [hg];exact Nat.ne_of_lt (blk_lt (g:=gb379) (o:=.cells #[.int .i64 a1_0,.int .i64 a1_1,.int .i64 a1_2,.int .i64 a1_3,.int .i64 a1_4,.int .i64 a1_5] 26 (0,0)) (by (with_reducible repeat first|apply kN|apply kD|apply kA);exact BK379.out)) : gb379 ≠ gb415));have n8_:=amk ((by rw [hg];exact Nat.ne_of_gt (blk_lt (g:=gb379) (o:=.cells #[.int .i64 a1_0,.int .i64 a1_1,.int .i64 a1_2,.int .i64 a1_3,.int .i64 a1_4,.int .i64 a1_5] 26 (0,0)) (by (with_reducible repeat first|apply kN|apply kD|apply kA);exact BK379.out)) : gb415 ≠ gb379));clear HO_9;clear HO_14;clear BK379;clear HB;have HO_9:=n0_;have HO_14:=n1_;have BK379:=n2_;have HB:=n3_;have BK415:=n4_;have GW415:=n5_;have GE415:=n6_;have NB379_415:=n7_;have NB415_379:=n8_;clear n0_ n1_ n2_ n3_ n4_ n5_ n6_ n7_ n8_;clear hb hbox hg;have hnb82:=NB415_379.out;have hnc82:=NB379_415.out;have hcz83_0 : w81.cell? ⟨gb415,0,none⟩=some (.int .i64 0):=(blk_cell BK415.out 0).trans rfl;have hcz83_1 : w81.cell? ⟨gb415,1,none⟩=some (.int .i64 0):=(blk_cell BK415.out 1).trans rfl;have hcz83_2 : w81.cell? ⟨gb415,2,none⟩=some (.bool false):=(blk_cell BK415.out 2).trans rfl;have hcz83_3 : w81.cell? ⟨gb415,3,none⟩=some (.bool false):=(blk_cell BK415.out 3).trans rfl;have hfz83_0:=blk_frozen BK415.out 0;have hfz83_1:=blk_frozen BK415.out 1;have hfz83_2:=blk_frozen BK415.out 2;have hfz83_3:=blk_frozen BK415.out 3;have p416 : 0≤((ji75) : Int):=of_decide_eq_true (by first|(with_reducible assumption)|assumption);have q416 : (ji75) < (x9_2.length : Int):=of_decide_eq_true (by first|(with_reducible assumption)|assumption);obtain ⟨ad416,e416,hx416_0,hx416_1,hx416_2,hx416_3⟩:=at_T100 (Kd.R_reads' HO_9.out).2.2 (ji75) p416 q416;(try rw [← Nbq78.out] at hx416_2);(try rw [← Nbq78.out] at hx416_3);obtain rfl : ad414=ad416:=(by injection e416);have hn416_0 : ad414.block ≠ gb415:=Kd.own_blk (Kd.R_away HO_9.out (fun _ hk=>hk.2));have hn416_1 : ad414.block ≠ gb415:=Kd.own_blk (Kd.R_away HO_9.out (fun _ hk=>hk.2));have hn416_2 : ad414.block ≠ gb415:=Kd.own_blk (Kd.R_away HO_9.out (fun _ hk=>hk.2));have hn416_3 : ad414.block ≠ gb415:=Kd.own_blk (Kd.R_away HO_9.out (fun _ hk=>hk.2));replace hx416_0:=(cell_far (p:=⟨gb415,0,none⟩) (by first|(rw [add_block];exact hn416_0)|(show (Addr.add _ _).block ≠ _;rw [add_block];exact hn416_0)|exact hn416_0) (.int .i64 ((rd_T100 x9_2 (ji72)).f0.f0))).trans hx416_0;replace hx416_1:=(cell_far (p:=⟨gb415,0,none⟩) (by first|(rw [add_block];exact hn416_0)|(show (Addr.add _ _).block ≠ _;rw [add_block];exact hn416_0)|exact hn416_0) (.int .i64 ((rd_T100 x9_2 (ji72)).f0.f0))).trans hx416_1;replace hx416_2:=(cell_far (p:=⟨gb415,0,none⟩) (by first|(rw [add_block];exact hn416_0)|(show (Addr.add _ _).block ≠ _;rw [add_block];exact hn416_0)|exact hn416_0) (.int .i64 ((rd_T100 x9_2 (ji72)).f0.f0))).trans hx416_2;replace hx416_3:=(cell_far (p:=⟨gb415,0,none⟩) (by first|(rw [add_block];exact hn416_0)|(show (Addr.add _ _).block ≠ _;rw [add_block];exact hn416_0)|exact hn416_0) (.int .i64 ((rd_T100 x9_2 (ji72)).f0.f0))).trans hx416_3;replace hx416_0:=(cell_far (p:=⟨gb415,1,none⟩) (by first|(rw [add_block];exact hn416_1)|(show (Addr.add _ _).block ≠ _;rw [add_block];exact hn416_1)|exact hn416_1) (.int .i64 ((rd_T100 x9_2 (ji72)).f0.f1))).trans hx416_0;replace hx416_1:=(cell_far (p:=⟨gb415,1,none⟩) (by first|(rw [add_block];exact hn416_1)|(show (Addr.add _ _).block ≠ _;rw [add_block];exact hn416_1)|exact hn416_1) (.int .i64 ((rd_T100 x9_2 (ji72)).f0.f1))).trans hx416_1;replace hx416_2:=(cell_far (p:=⟨gb415,1,none⟩) (by first|(rw [add_block];exact hn416_1)|(show (Addr.add _ _).block ≠ _;rw [add_block];exact hn416_1)|exact hn416_1) (.int .i64 ((rd_T100 x9_2 (ji72)).f0.f1))).trans hx416_2;replace hx416_3:=(cell_far (p:=⟨gb415,1,none⟩) (by first|(rw [add_block];exact hn416_1)|(show (Addr.add _ _).block ≠ _;rw [add_block];exact hn416_1)|exact hn416_1) (.int .i64 ((rd_T100 x9_2 (ji72)).f0.f1))).trans hx416_3;replace hx416_0:=(cell_far (p:=⟨gb415,2,none⟩) (by first|(rw [add_block];exact hn416_2)|(show (Addr.add _ _).block ≠ _;rw [add_block];exact hn416_2)|exact hn416_2) (.bool ((rd_T100 x9_2 (ji72)).f1))).trans hx416_0;replace hx416_1:=(cell_far (p:=⟨gb415,2,none⟩) (by first|(rw [add_block];exact hn416_2)|(show (Addr.add _ _).block ≠ _;rw [add_block];exact hn416_2)|exact hn416_2) (.bool ((rd_T100 x9_2 (ji72)).f1))).trans hx416_1;replace hx416_2:=(cell_far (p:=⟨gb415,2,none⟩) (by first|(rw [add_block];exact hn416_2)|(show (Addr.add _ _).block ≠ _;rw [add_block];exact hn416_2)|exact hn416_2) (.bool ((rd_T100 x9_2 (ji72)).f1))).trans hx416_2;replace hx416_3:=(cell_far (p:=⟨gb415,2,none⟩) (by first|(rw [add_block];exact hn416_2)|(show (Addr.add _ _).block ≠ _;rw [add_block];exact hn416_2)|exact hn416_2) (.bool ((rd_T100 x9_2 (ji72)).f1))).trans hx416_3;replace hx416_0:=(cell_far (p:=⟨gb415,3,none⟩) (by first|(rw [add_block];exact hn416_3)|(show (Addr.add _ _).block ≠ _;rw [add_block];exact hn416_3)|exact hn416_3) (.bool ((rd_T100 x9_2 (ji72)).f2))).trans hx416_0;replace hx416_1:=(cell_far (p:=⟨gb415,3,none⟩) (by first|(rw [add_block];exact hn416_3)|(show (Addr.add _ _).block ≠ _;rw [add_block];exact hn416_3)|exact hn416_3) (.bool ((rd_T100 x9_2 (ji72)).f2))).trans hx416_1;replace hx416_2:=(cell_far (p:=⟨gb415,3,none⟩) (by first|(rw [add_block];exact hn416_3)|(show (Addr.add _ _).block ≠ _;rw [add_block];exact hn416_3)|exact hn416_3) (.bool ((rd_T100 x9_2 (ji72)).f2))).trans hx416_2;replace hx416_3:=(cell_far (p:=⟨gb415,3,none⟩) (by first|(rw [add_block];exact hn416_3)|(show (Addr.add _ _).block ≠ _;rw [add_block];exact hn416_3)|exact hn416_3) (.bool ((rd_T100 x9_2 (ji72)).f2))).trans hx416_3;clear hn416_0;clear hn416_1;clear hn416_2;clear hn416_3;replace p416:=eq_true p416;replace q416:=eq_true q416)|((with_reducible refine gate_dst (N:=17) rfl ?_);refine box_event ?hg (N:=17) ?hd (cs:=#[.int .i64 0,.int .i64 0,.bool false,.bool false]) (t:=100) ?hr ?_;(case hd=>rfl);(case hg=>rfl);(case hr=>first|(go_simp;done)|(go_simp;rfl));intro gb417 hg w84 hbox hb;have n0_:=amk (Kd.R_below (Kd.R_elderB (by (with_reducible repeat (first|apply Kd.R_alloc|apply Kd.R_drewN|apply Kd.R_drew));exact (Kd.R_mono (Kd.R_far (p:=⟨gb415,3,none⟩) (Kd.R_far (p:=⟨gb415,2,none⟩) (Kd.R_far (p:=⟨gb415,1,none⟩) (Kd.R_far (p:=⟨gb415,0,none⟩) (Kd.R_mono HO_9.out (fun k_ hk=>(⟨hk,hk.2⟩ : _∧k_ ≠ gb415))) (fun _ hk=>hk.2) (.int .i64 ((rd_T100 x9_2 (ji72)).f0.f0))) (fun _ hk=>hk.2) (.int .i64 ((rd_T100 x9_2 (ji72)).f0.f1))) (fun _ hk=>hk.2) (.bool ((rd_T100 x9_2 (ji72)).f1))) (fun _ hk=>hk.2) (.bool ((rd_T100 x9_2 (ji72)).f2))) (fun _ h_=>h_.1))) gb417 (Nat.le_of_eq hg.symm)) hb);have n1_:=amk (Kd.R_below (by (with_reducible repeat (first|apply Kd.R_alloc|apply Kd.R_drewN|apply Kd.R_drew));exact (Kd.R_mono (Kd.R_far (p:=⟨gb415,3,none⟩) (Kd.R_far (p:=⟨gb415,2,none⟩) (Kd.R_far (p:=⟨gb415,1,none⟩) (Kd.R_far (p:=⟨gb415,0,none⟩) (Kd.R_types HO_14.out BK415.out (by decide)) (fun _ hk=>hk.2) (.int .i64 ((rd_T100 x9_2 (ji72)).f0.f0))) (fun _ hk=>hk.2) (.int .i64 ((rd_T100 x9_2 (ji72)).f0.f1))) (fun _ hk=>hk.2) (.bool ((rd_T100 x9_2 (ji72)).f1))) (fun _ hk=>hk.2) (.bool ((rd_T100 x9_2 (ji72)).f2))) (fun _ h_=>h_.1))) hb);have n2_:=amk (blk_below (g:=gb379) (o:=.cells #[.int .i64 a1_0,.int .i64 a1_1,.int .i64 a1_2,.int .i64 a1_3,.int .i64 a1_4,.int .i64 a1_5] 26 (0,0)) (by (with_reducible repeat first|apply kN|apply kD|apply kA);refine blk_far ?_ NB379_415.out _;(with_reducible repeat first|apply kN|apply kD|apply kA);refine blk_far ?_ NB379_415.out _;(with_reducible repeat first|apply kN|apply kD|apply kA);refine blk_far ?_ NB379_415.out _;(with_reducible repeat first|apply kN|apply kD|apply kA);refine blk_far ?_ NB379_415.out _;(with_reducible repeat first|apply kN|apply kD|apply kA);exact BK379.out) hb);have n3_:=amk (blk_below (g:=gb415) (o:=.cells #[.int .i64 ((rd_T100 x9_2 (ji72)).f0.f0),.int .i64 ((rd_T100 x9_2 (ji72)).f0.f1),.bool ((rd_T100 x9_2 (ji72)).f1),.bool ((rd_T100 x9_2 (ji72)).f2)] 100 (0,0)) (by (with_reducible repeat first|apply kN|apply kD|apply kA);refine blk_put (cs:=#[.int .i64 ((rd_T100 x9_2 (ji72)).f0.f0),.int .i64 ((rd_T100 x9_2 (ji72)).f0.f1),.bool ((rd_T100 x9_2 (ji72)).f1),.bool false]) ?_ 3 _ rfl;(with_reducible repeat first|apply kN|apply kD|apply kA);refine blk_put (cs:=#[.int .i64 ((rd_T100 x9_2 (ji72)).f0.f0),.int .i64 ((rd_T100 x9_2 (ji72)).f0.f1),.bool false,.bool false]) ?_ 2 _ rfl;(with_reducible repeat first|apply kN|apply kD|apply kA);refine blk_put (cs:=#[.int .i64 ((rd_T100 x9_2 (ji72)).f0.f0),.int .i64 0,.bool false,.bool false]) ?_ 1 _ rfl;(with_reducible repeat first|apply kN|apply kD|apply kA);refine blk_put (cs:=#[.int .i64 0,.int .i64 0,.bool false,.bool false]) ?_ 0 _ rfl;(with_reducible repeat first|apply kN|apply kD|apply kA);exact BK415.out) hb);have n4_:=amk (below_step (by repeat (first|(with_reducible first|exact HB.out|apply bAl|apply bDN|apply bD1|refine bSe ?_ GE379.out|refine bSe ?_ GE415.out)|exact HB.out)) hb);have n5_:=amk (hbox);have n6_:=amk ((by rw [hg];exact (below_size (by repeat (first|(with_reducible first|exact HB.out|apply bAl|apply bDN|apply bD1|refine bSe ?_ GE379.out|refine bSe ?_ GE415.out)|exact HB.out))) : w.heap.size≤gb417));have n7_:=amk ((by rw [hg];exact (below_size (by repeat (first|(with_reducible first|exact HB.out|apply bAl|apply bDN|apply bD1|refine bSe ?_ GE379.out|refine bSe ?_ GE415.out)|exact HB.out))) : w.heap.size≤gb417));have n8_:=amk ((by rw [hg];exact Nat.ne_of_lt (blk_lt (g:=gb379) (o:=.cells #[.int .i64 a1_0,.int .i64 a1_1,.int .i64 a1_2,.int .i64 a1_3,.int .i64 a1_4,.int .i64 a1_5] 26 (0,0)) (by (with_reducible repeat first|apply kN|apply kD|apply kA);refine blk_far ?_ NB379_415.out _;(with_reducible repeat first|apply kN|apply kD|apply kA);refine blk_far ?_ NB379_415.out _;(with_reducible repeat first|apply kN|apply kD|apply kA);refine blk_far ?_ NB379_415.out _;(with_reducible repeat first|apply kN|apply kD|apply kA);refine blk_far ?_ NB379_415.out _;(with_reducible repeat first|apply kN|apply kD|apply kA);exact BK379.out)) : gb379 ≠ gb417));have n9_:=amk ((by rw [hg];exact Nat.ne_of_gt (blk_lt (g:=gb379) (o:=.cells #[.int .i64 a1_0,.int .i64 a1_1,.int .i64 a1_2,.int .i64 a1_3,.int .i64 a1_4,.int .i64 a1_5] 26 (0,0)) (by (with_reducible repeat first|apply kN|apply kD|apply kA);refine blk_far ?_ NB379_415.out _;(with_reducible repeat first|apply kN|apply kD|apply kA);refine blk_far ?_ NB379_415.out _;(with_reducible repeat first|apply kN|apply kD|apply kA);refine blk_far ?_ NB379_415.out _;(with_reducible repeat first|apply kN|apply kD|apply kA);refine blk_far ?_ NB379_415.out _;(with_reducible repeat first|apply kN|apply kD|apply kA);exact BK379.out)) : gb417 ≠ gb379));have n10_:=amk ((by rw [hg];exact Nat.ne_of_lt (blk_lt (g:=gb415) (o:=.cells #[.int .i64 ((rd_T100 x9_2 (ji72)).f0.f0),.int .i64 ((rd_T100 x9_2 (ji72)).f0.f1),.bool ((rd_T100 x9_2 (ji72)).f1),.bool ((rd_T100 x9_2 (ji72)).f2)] 100 (0,0)) (by (with_reducible repeat first|apply kN|apply kD|apply kA);refine blk_put (cs:=#[.int .i64 ((rd_T100 x9_2 (ji72)).f0.f0),.int .i64 ((rd_T100 x9_2 (ji72)).f0.f1),.bool ((rd_T100 x9_2 (ji72)).f1),.bool false]) ?_ 3 _ rfl;(with_reducible repeat first|apply kN|apply kD|apply kA);refine blk_put (cs:=#[.int .i64 ((rd_T100 x9_2 (ji72)).f0.f0),.int .i64 ((rd_T100 x9_2 (ji72)).f0.f1),.bool false,.bool false]) ?_ 2 _ rfl;(with_reducible repeat first|apply kN|apply kD|apply kA);refine blk_put (cs:=#[.int .i64 ((rd_T100 x9_2 (ji72)).f0.f0),.int .i64 0,.bool false,.bool false]) ?_ 1 _ rfl;(with_reducible repeat first|apply kN|apply kD|apply kA);refine blk_put (cs:=#[.int .i64 0,.int .i64 0,.bool false,.bool false]) ?_ 0 _ rfl;(with_reducible repeat first|apply kN|apply kD|apply kA);exact BK415.out)) : gb415 ≠ gb417));have n11_:=amk ((by rw [hg];exact Nat.ne_of_gt (blk_lt (g:=gb415) (o:=.cells #[.int .i64 ((rd_T100 x9_2 (ji72)).f0.f0),.int .i64 ((rd_T100 x9_2 (ji72)).f0.f1),.bool ((rd_T100 x9_2 (ji72)).f1),.bool ((rd_T100 x9_2 (ji72)).f2)] 100 (0,0)) (by (with_reducible repeat first|apply kN|apply kD|apply kA);refine blk_put (cs:=#[.int .i64 ((rd_T100 x9_2 (ji72)).f0.f0),.int .i64 ((rd_T100 x9_2 (ji72)).f0.f1),.bool ((rd_T100 x9_2 (ji72)).f1),.bool false]) ?_ 3 _ rfl;(with_reducible repeat first|apply kN|apply kD|apply kA);refine blk_put (cs:=#[.int .i64 ((rd_T100 x9_2 (ji72)).f0.f0),.int .i64 ((rd_T100 x9_2 (ji72)).f0.f1),.bool false,.bool false]) ?_ 2 _ rfl;(with_reducible repeat first|apply kN|apply kD|apply kA);refine blk_put (cs:=#[.int .i64 ((rd_T100 x9_2 (ji72)).f0.f0),.int .i64 0,.bool false,.bool false]) ?_ 1 _ rfl;(with_reducible repeat first|apply kN|apply kD|apply kA);refine blk_put (cs:=#[.int .i64 0,.int .i64 0,.bool false,.bool false]) ?_ 0 _ rfl;(with_reducible repeat first|apply kN|apply kD|apply kA);exact BK415.out)) : gb417 ≠ gb415));clear HO_9;clear HO_14;clear BK379;clear BK415;clear HB;have HO_9:=n0_;have HO_14:=n1_;have BK379:=n2_;have BK415:=n3_;have HB:=n4_;have BK417:=n5_;have GW417:=n6_;have GE417:=n7_;have NB379_417:=n8_;have NB417_379:=n9_;have NB415_417:=n10_;have NB417_415:=n11_;clear n0_ n1_ n2_ n3_ n4_ n5_ n6_ n7_ n8_ n9_ n10_ n11_;clear hb hbox hg;have hnb85:=NB417_379.out;have hnc85:=NB379_417.out;have hnb86:=NB417_415.out;have hnc86:=NB415_417.out;have hcz87_0 : w84.cell? ⟨gb417,0,none⟩=some (.int .i64 0):=(blk_cell BK417.out 0).trans rfl;have hcz87_1 : w84.cell? ⟨gb417,1,none⟩=some (.int .i64 0):=(blk_cell BK417.out 1).trans rfl;have hcz87_2 : w84.cell? ⟨gb417,2,none⟩=some (.bool false):=(blk_cell BK417.out 2).trans rfl;have hcz87_3 : w84.cell? ⟨gb417,3,none⟩=some (.bool false):=(blk_cell BK417.out 3).trans rfl;have hfz87_0:=blk_frozen BK417.out 0;have hfz87_1:=blk_frozen BK417.out 1;have hfz87_2:=blk_frozen BK417.out 2;have hfz87_3:=blk_frozen BK417.out 3;have hcz88_0 : w84.cell? ⟨gb415,0,none⟩=some (.int .i64 ((rd_T100 x9_2 (ji72)).f0.f0)):=(blk_cell BK415.out 0).trans rfl;have hcz88_1 : w84.cell? ⟨gb415,1,none⟩=some (.int .i64 ((rd_T100 x9_2 (ji72)).f0.f1)):=(blk_cell BK415.out 1).trans rfl;have hcz88_2 : w84.cell? ⟨gb415,2,none⟩=some (.bool ((rd_T100 x9_2 (ji72)).f1)):=(blk_cell BK415.out 2).trans rfl;have hcz88_3 : w84.cell? ⟨gb415,3,none⟩=some (.bool ((rd_T100 x9_2 (ji72)).f2)):=(blk_cell BK415.out 3).trans rfl;have hfz88_0:=blk_frozen BK415.out 0;have hfz88_1:=blk_frozen BK415.out 1;have hfz88_2:=blk_frozen BK415.out 2;have hfz88_3:=blk_frozen BK415.out 3)|((with_reducible refine gate_builtin (b:=.append) (xs:=#[.tmp 147,.tmp 161]) rfl ?_);at_builtin;refine Kd.R_append k34 (w0:=w) w.heap.size rfl (.tmp 147) (.tmp 161) 31 34 (.agg #[(.int .i64 0),(.int .i64 0),(.int .i64 0),(.int .i64 0)]) 32 rfl Try.underlying31 info34 rfl (by decide) (by omega) u14 x14_4 (⟨(rd_T100 x9_2 (ji72)).f0.f0,(rd_T100 x9_2 (ji72)).f0.f1,(rd_T100 x9_2 (ji75)).f0.f0,(rd_T100 x9_2 (ji75)).f0.f1⟩ : S34) [.int .i64 ((rd_T100 x9_2 (ji72)).f0.f0),.int .i64 ((rd_T100 x9_2 (ji72)).f0.f1),.int .i64 ((rd_T100 x9_2 (ji75)).f0.f0),.int .i64 ((rd_T100 x9_2 (ji75)).f0.f1)] (fun _=>True) (fun _=>False) rfl (by first|(go_simp;done)|(go_simp;rfl)) ?aP (fun _ hk=>hk.elim) ?aF ?aO ?aB ?aS ?aL ?_;(case aP=>exact k34_mkM _ _ _ (⟨(rd_T100 x9_2 (ji72)).f0.f0,(rd_T100 x9_2 (ji72)).f0.f1,(rd_T100 x9_2 (ji75)).f0.f0,(rd_T100 x9_2 (ji75)).f0.f1⟩ : S34));(case aB=>exact (by repeat (first|(with_reducible first|exact HB.out|apply bAl|apply bDN|apply bD1|refine bSe ?_ GE379.out|refine bSe ?_ GE415.out|refine bSe ?_ GE417.out)|exact HB.out)));(case aF=>exact (fun _ _=>trivial));(case aO=>exact (by (with_reducible repeat (first|apply Kd.R_alloc|apply Kd.R_drewN|apply Kd.R_drew));exact Kd.R_mono (Kd.R_far (p:=⟨gb417,3,none⟩) (Kd.R_far (p:=⟨gb417,2,none⟩) (Kd.R_far (p:=⟨gb417,1,none⟩) (Kd.R_far (p:=⟨gb417,0,none⟩) (Kd.R_types HO_14.out BK417.out (by decide)) (fun _ hk=>hk.2) (.int .i64 ((rd_T100 x9_2 (ji75)).f0.f0))) (fun _ hk=>hk.2) (.int .i64 ((rd_T100 x9_2 (ji75)).f0.f1))) (fun _ hk=>hk.2) (.bool true)) (fun _ hk=>hk.2) (.bool ((rd_T100 x9_2 (ji75)).f2))) (fun _ hk=>trivial)));(case aS=>exact (below_size (by repeat (first|(with_reducible first|exact HB.out|apply bAl|apply bDN|apply bD1|refine bSe ?_ GE379.out|refine bSe ?_ GE415.out|refine bSe ?_ GE417.out)|exact HB.out))));(case aL=>have:=LMc80.out;omega);intro v419 w89 ho hb hg hat;rw [← Ny418.out] at ho;have n0_:=amk (Kd.R_over' (by (with_reducible repeat (first|apply Kd.R_alloc|apply Kd.R_drewN|apply Kd.R_drew));exact (Kd.R_mono (Kd.R_far (p:=⟨gb417,3,none⟩) (Kd.R_far (p:=⟨gb417,2,none⟩) (Kd.R_far (p:=⟨gb417,1,none⟩) (Kd.R_far (p:=⟨gb417,0,none⟩) (Kd.R_mono HO_9.out (fun k_ hk=>(⟨hk,hk.2⟩ : _∧k_ ≠ gb417))) (fun _ hk=>hk.2) (.int .i64 ((rd_T100 x9_2 (ji75)).f0.f0))) (fun _ hk=>hk.2) (.int .i64 ((rd_T100 x9_2 (ji75)).f0.f1))) (fun _ hk=>hk.2) (.bool true)) (fun _ hk=>hk.2) (.bool ((rd_T100 x9_2 (ji75)).f2))) (fun _ h_=>h_.1))) (Kd.R_typed (by (with_reducible repeat (first|apply Kd.R_alloc|apply Kd.R_drewN|apply Kd.R_drew));exact (Kd.R_mono (Kd.R_far (p:=⟨gb417,3,none⟩) (Kd.R_far (p:=⟨gb417,2,none⟩) (Kd.R_far (p:=⟨gb417,1,none⟩) (Kd.R_far (p:=⟨gb417,0,none⟩) (Kd.R_types HO_14.out BK417.out (by decide)) (fun _ hk=>hk.2) (.int .i64 ((rd_T100 x9_2 (ji75)).f0.f0))) (fun _ hk=>hk.2) (.int .i64 ((rd_T100 x9_2 (ji75)).f0.f1))) (fun _ hk=>hk.2) (.bool true)) (fun _ hk=>hk.2) (.bool ((rd_T100 x9_2 (ji75)).f2))) (fun _ h_=>h_.1)))) (by decide) hg);have n1_:=amk (blk_grown (g:=gb379) (o:=.cells #[.int .i64 a1_0,.int .i64 a1_1,.int .i64 a1_2,.int .i64 a1_3,.int .i64 a1_4,.int .i64 a1_5] 26 (0,0)) (by (with_reducible repeat first|apply kN|apply kD|apply kA);refine blk_far ?_ NB379_417.out _;(with_reducible repeat first|apply kN|apply kD|apply kA);refine blk_far ?_ NB379_417.out _;(with_reducible repeat first|apply kN|apply kD|apply kA);refine blk_far ?_ NB379_417.out _;(with_reducible repeat first|apply kN|apply kD|apply kA);refine blk_far ?_ NB379_417.out _;(with_reducible repeat first|apply kN|apply kD|apply kA);exact BK379.out) hg (Kd.R_ne HO_14.out BK379.out (by decide)));have n2_:=amk (blk_grown (g:=gb415) (o:=.cells #[.int .i64 ((rd_T100 x9_2 (ji72)).f0.f0),.int .i64 ((rd_T100 x9_2 (ji72)).f0.f1),.bool ((rd_T100 x9_2 (ji72)).f1),.bool ((rd_T100 x9_2 (ji72)).f2)] 100 (0,0)) (by (with_reducible repeat first|apply kN|apply kD|apply kA);refine blk_far ?_ NB415_417.out _;(with_reducible repeat first|apply kN|apply kD|apply kA);refine blk_far ?_ NB415_417.out _;(with_reducible repeat first|apply kN|apply kD|apply kA);refine blk_far ?_ NB415_417.out _;(with_reducible repeat first|apply kN|apply kD|apply kA);refine blk_far ?_ NB415_417.out _;(with_reducible repeat first|apply kN|apply kD|apply kA);exact BK415.out) hg (Kd.R_ne HO_14.out BK415.out (by decide)));have n3_:=amk (blk_grown (g:=gb417) (o:=.cells #[.int .i64 ((rd_T100 x9_2 (ji75)).f0.f0),.int .i64 ((rd_T100 x9_2 (ji75)).f0.f1),.bool true,.bool ((rd_T100 x9_2 (ji75)).f2)] 100 (0,0)) (by (with_reducible repeat first|apply kN|apply kD|apply kA);refine blk_put (cs:=#[.int .i64 ((rd_T100 x9_2 (ji75)).f0.f0),.int .i64 ((rd_T100 x9_2 (ji75)).f0.f1),.bool true,.bool false]) ?_ 3 _ rfl;(with_reducible repeat first|apply kN|apply kD|apply kA);refine blk_put (cs:=#[.int .i64 ((rd_T100 x9_2 (ji75)).f0.f0),.int .i64 ((rd_T100 x9_2 (ji75)).f0.f1),.bool false,.bool false]) ?_ 2 _ rfl;(with_reducible repeat first|apply kN|apply kD|apply kA);refine blk_put (cs:=#[.int .i64 ((rd_T100 x9_2 (ji75)).f0.f0),.int .i64 0,.bool false,.bool false]) ?_ 1 _ rfl;(with_reducible repeat first|apply kN|apply kD|apply kA);refine blk_put (cs:=#[.int .i64 0,.int .i64 0,.bool false,.bool false]) ?_ 0 _ rfl;(with_reducible repeat first|apply kN|apply kD|apply kA);exact BK417.out) hg (Kd.R_ne HO_14.out BK417.out (by decide)));have n4_:=amk (hb);have n5_:=amk (ho);clear HO_9;clear BK379;clear BK415;clear BK417;clear HB;clear HO_14;have HO_9:=n0_;have BK379:=n1_;have BK415:=n2_;have BK417:=n3_;have HB:=n4_;have HO420:=n5_;clear n0_ n1_ n2_ n3_ n4_ n5_;clear ho hb hg hat))
                     go_roundg k4
                     case measure=>have:=HK1.out;have:=HK2.out;have:=HK3.out;have:=HK4.out;omega
                     case rel=>exact ⟨(y418),(wrap64 (x15_4+1)),(by first|rfl|(simp;done)|(simp [*];done)),H',⟨by have:=HK1.out;have:=HK2.out;have:=HK3.out;have:=HK4.out;omega⟩,⟨by (with_reducible repeat (first|apply Kd.R_alloc|apply Kd.R_drewN|apply Kd.R_drew));exact Kd.R_mono HO_9.out (fun _ hk=>trivial)⟩,⟨by (with_reducible repeat (first|apply Kd.R_alloc|apply Kd.R_drewN|apply Kd.R_drew));exact HO420.out⟩,⟨by (with_reducible repeat first|apply kN|apply kD|apply kA);exact BK379.out⟩,⟨by repeat (first|(with_reducible first|exact HB.out|apply bAl|apply bDN|apply bD1|refine bSe ?_ GE379.out|refine bSe ?_ GE415.out|refine bSe ?_ GE417.out)|exact HB.out)⟩⟩
                    ·rw [if_neg c80] at H
                     exact absurd H (by simp)
                   ·replace c79:=Bool.eq_false_iff.mpr c79
                    subst c79
                    have H1 : (if 0≤(Int.tmod (wrap64 ((wrap64 (x12_3+x15_4))+2)) (x9_2.length : Int)) then (if (Int.tmod (wrap64 ((wrap64 (x12_3+x15_4))+2)) (x9_2.length : Int)) < (x9_2.length : Int) then ((versalref14_Curve.f k4 ((rd_T100 x9_2 (ji72)).f0.f0) ((rd_T100 x9_2 (ji72)).f0.f1) ((rd_T100 x9_2 (ji75)).f0.f0) ((rd_T100 x9_2 (ji75)).f0.f1) ((rd_T100 x9_2 (Int.tmod (wrap64 ((wrap64 (x12_3+x15_4))+2)) (x9_2.length : Int))).f0.f0) ((rd_T100 x9_2 (Int.tmod (wrap64 ((wrap64 (x12_3+x15_4))+2)) (x9_2.length : Int))).f0.f1)).bind fun t422=>(if x14_4.length+t422.length < 4398046511104 then (versalref14_contour.l3 k4 x9_2 x12_3 (x14_4 ++ t422) (wrap64 (x15_4+2))) else (none))) else (none)) else (none))=some r:=by rw [if_neg (show ¬ (false=true) by decide)] at H;exact H
                    clear H
                    have H:=H1
                    clear H1
                    obtain ⟨ji90,hji90⟩ : ∃ j_ : Int,(Int.tmod (wrap64 ((wrap64 (x12_3+x15_4))+2)) (x9_2.length : Int))=j_:=⟨_,rfl⟩
                    replace H : (if 0≤(ji90) then (if (ji90) < (x9_2.length : Int) then ((versalref14_Curve.f k4 ((rd_T100 x9_2 (ji72)).f0.f0) ((rd_T100 x9_2 (ji72)).f0.f1) ((rd_T100 x9_2 (ji75)).f0.f0) ((rd_T100 x9_2 (ji75)).f0.f1) ((rd_T100 x9_2 (ji90)).f0.f0) ((rd_T100 x9_2 (ji90)).f0.f1)).bind fun t422=>(if x14_4.length+t422.length < 4398046511104 then (versalref14_contour.l3 k4 x9_2 x12_3 (x14_4 ++ t422) (wrap64 (x15_4+2))) else (none))) else (none)) else (none))=some r:=by first|(rw [hji90] at H;exact H)|(simp only [hji90] at H ⊢;exact H)
                    by_cases c91 : 0≤(ji90)
                    ·rw [if_pos c91] at H
                     have c91b0 : decide (0≤(ji90))=true:=decide_eq_true c91
                     clear c91
                     by_cases c92 : (ji90) < (x9_2.length : Int)
                     ·rw [if_pos c92] at H
                      have c92b0 : decide ((ji90) < (x9_2.length : Int))=true:=decide_eq_true c92
                      clear c92
                      replace H:=Option.bind_eq_some_iff.mp H
                      obtain ⟨t422,A930,H⟩:=H
                      replace H : (if x14_4.length+t422.length < 4398046511104 then (versalref14_contour.l3 k4 x9_2 x12_3 (x14_4 ++ t422) (wrap64 (x15_4+2))) else (none))=some r:=H
                      have A93:=amk A930
                      clear A930
                      by_cases c94 : x14_4.length+t422.length < 4398046511104
                      ·rw [if_pos c94] at H
                       have LMc94:=amk c94
                       clear c94
                       obtain ⟨y425,hy425⟩ : ∃ y_ : List (S34),y_=(x14_4 ++ t422):=⟨_,rfl⟩
                       replace H : (versalref14_contour.l3 k4 x9_2 x12_3 y425 (wrap64 (x15_4+2)))=some r:=by first|(rw [hy425];with_reducible exact H)|(have H2_:=(Option.bind_some _ _).symm.trans H;rw [hy425];with_reducible exact H2_)|(have H2_:=(Option.bind_some _ _).symm.trans H;with_reducible exact H2_)|with_reducible exact H|(rw [hy425];exact H)|exact H
                       have Ny425:=amk hy425
                       clear hy425
                       have H':=amk H
                       clear H
                       have p414 : 0≤((ji72) : Int):=of_decide_eq_true (by first|(with_reducible assumption)|assumption)
                       have q414 : (ji72) < (x9_2.length : Int):=of_decide_eq_true (by first|(with_reducible assumption)|assumption)
                       obtain ⟨ad414,e414,hx414_0,hx414_1,hx414_2,hx414_3⟩:=at_T100 (Kd.R_reads' HO_9.out).2.2 (ji72) p414 q414
                       (try rw [← Nbq78.out] at hx414_2)
                       (try rw [← Nbq78.out] at hx414_3)
                       cases e414
                       replace p414:=eq_true p414
                       replace q414:=eq_true q414
                       try go_wp2_with (first|((with_reducible refine gate_dst (N:=16) rfl ?_);refine box_event ?hg (N:=16) ?hd (cs:=#[.int .i64 0,.int .i64 0,.bool false,.bool false]) (t:=100) ?hr ?_;(case hd=>rfl);(case hg=>rfl);(case hr=>first|(go_simp;done)|(go_simp;rfl));intro gb415 hg w95 hbox hb;have n0_:=amk (Kd.R_below (Kd.R_elderB (by (with_reducible repeat (first|apply Kd.R_alloc|apply Kd.R_drewN|apply Kd.R_drew));exact HO_9.out) gb415 (Nat.le_of_eq hg.symm)) hb);have n1_:=amk (Kd.R_below (by (with_reducible repeat (first|apply Kd.R_alloc|apply Kd.R_drewN|apply Kd.R_drew));exact HO_14.out) hb);have n2_:=amk (blk_below (g:=gb379) (o:=.cells #[.int .i64 a1_0,.int .i64 a1_1,.int .i64 a1_2,.int .i64 a1_3,.int .i64 a1_4,.int .i64 a1_5] 26 (0,0)) (by (with_reducible repeat first|apply kN|apply kD|apply kA);exact BK379.out) hb);have n3_:=amk (below_step (by repeat (first|(with_reducible first|exact HB.out|apply bAl|apply bDN|apply bD1|refine bSe ?_ GE379.out)|exact HB.out)) hb);have n4_:=amk (hbox);have n5_:=amk ((by rw [hg];exact (below_size (by repeat (first|(with_reducible first|exact HB.out|apply bAl|apply bDN|apply bD1|refine bSe ?_ GE379.out)|exact HB.out))) : w.heap.size≤gb415));have n6_:=amk ((by rw [hg];exact (below_size (by repeat (first|(with_reducible first|exact HB.out|apply bAl|apply bDN|apply bD1|refine bSe ?_ GE379.out)|exact HB.out))) : w.heap.size≤gb415));have n7_:=amk ((by rw [hg];exact Nat.ne_of_lt (blk_lt (g:=gb379) (o:=.cells #[.int .i64 a1_0,.int .i64 a1_1,.int .i64 a1_2,.int .i64 a1_3,.int .i64 a1_4,.int .i64 a1_5] 26 (0,0)) (by (with_reducible repeat first|apply kN|apply kD|apply kA);exact BK379.out)) : gb379 ≠ gb415));have n8_:=amk ((by rw [hg];exact Nat.ne_of_gt (blk_lt (g:=gb379) (o:=.cells #[.int .i64 a1_0,.int .i64 a1_1,.int .i64 a1_2,.int .i64 a1_3,.int .i64 a1_4,.int .i64 a1_5] 26 (0,0)) (by (with_reducible repeat first|apply kN|apply kD|apply kA);exact BK379.out)) : gb415 ≠ gb379));clear HO_9;clear HO_14;clear BK379;clear HB;have HO_9:=n0_;have HO_14:=n1_;have BK379:=n2_;have HB:=n3_;have BK415:=n4_;have GW415:=n5_;have GE415:=n6_;have NB379_415:=n7_;have NB415_379:=n8_;clear n0_ n1_ n2_ n3_ n4_ n5_ n6_ n7_ n8_;clear hb hbox hg;have hnb96:=NB415_379.out;have hnc96:=NB379_415.out;have hcz97_0 : w95.cell? ⟨gb415,0,none⟩=some (.int .i64 0):=(blk_cell BK415.out 0).trans rfl;have hcz97_1 : w95.cell? ⟨gb415,1,none⟩=some (.int .i64 0):=(blk_cell BK415.out 1).trans rfl;have hcz97_2 : w95.cell? ⟨gb415,2,none⟩=some (.bool false):=(blk_cell BK415.out 2).trans rfl;have hcz97_3 : w95.cell? ⟨gb415,3,none⟩=some (.bool false):=(blk_cell BK415.out 3).trans rfl;have hfz97_0:=blk_frozen BK415.out 0;have hfz97_1:=blk_frozen BK415.out 1;have hfz97_2:=blk_frozen BK415.out 2;have hfz97_3:=blk_frozen BK415.out 3;have p416 : 0≤((ji75) : Int):=of_decide_eq_true (by first|(with_reducible assumption)|assumption);have q416 : (ji75) < (x9_2.length : Int):=of_decide_eq_true (by first|(with_reducible assumption)|assumption);obtain ⟨ad416,e416,hx416_0,hx416_1,hx416_2,hx416_3⟩:=at_T100 (Kd.R_reads' HO_9.out).2.2 (ji75) p416 q416;(try rw [← Nbq78.out] at hx416_2);(try rw [← Nbq78.out] at hx416_3);obtain rfl : ad414=ad416:=(by injection e416);have hn416_0 : ad414.block ≠ gb415:=Kd.own_blk (Kd.R_away HO_9.out (fun _ hk=>hk.2));have hn416_1 : ad414.block ≠ gb415:=Kd.own_blk (Kd.R_away HO_9.out (fun _ hk=>hk.2));have hn416_2 : ad414.block ≠ gb415:=Kd.own_blk (Kd.R_away HO_9.out (fun _ hk=>hk.2));have hn416_3 : ad414.block ≠ gb415:=Kd.own_blk (Kd.R_away HO_9.out (fun _ hk=>hk.2));replace hx416_0:=(cell_far (p:=⟨gb415,0,none⟩) (by first|(rw [add_block];exact hn416_0)|(show (Addr.add _ _).block ≠ _;rw [add_block];exact hn416_0)|exact hn416_0) (.int .i64 ((rd_T100 x9_2 (ji72)).f0.f0))).trans hx416_0;replace hx416_1:=(cell_far (p:=⟨gb415,0,none⟩) (by first|(rw [add_block];exact hn416_0)|(show (Addr.add _ _).block ≠ _;rw [add_block];exact hn416_0)|exact hn416_0) (.int .i64 ((rd_T100 x9_2 (ji72)).f0.f0))).trans hx416_1;replace hx416_2:=(cell_far (p:=⟨gb415,0,none⟩) (by first|(rw [add_block];exact hn416_0)|(show (Addr.add _ _).block ≠ _;rw [add_block];exact hn416_0)|exact hn416_0) (.int .i64 ((rd_T100 x9_2 (ji72)).f0.f0))).trans hx416_2;replace hx416_3:=(cell_far (p:=⟨gb415,0,none⟩) (by first|(rw [add_block];exact hn416_0)|(show (Addr.add _ _).block ≠ _;rw [add_block];exact hn416_0)|exact hn416_0) (.int .i64 ((rd_T100 x9_2 (ji72)).f0.f0))).trans hx416_3;replace hx416_0:=(cell_far (p:=⟨gb415,1,none⟩) (by first|(rw [add_block];exact hn416_1)|(show (Addr.add _ _).block ≠ _;rw [add_block];exact hn416_1)|exact hn416_1) (.int .i64 ((rd_T100 x9_2 (ji72)).f0.f1))).trans hx416_0;replace hx416_1:=(cell_far (p:=⟨gb415,1,none⟩) (by first|(rw [add_block];exact hn416_1)|(show (Addr.add _ _).block ≠ _;rw [add_block];exact hn416_1)|exact hn416_1) (.int .i64 ((rd_T100 x9_2 (ji72)).f0.f1))).trans hx416_1;replace hx416_2:=(cell_far (p:=⟨gb415,1,none⟩) (by first|(rw [add_block];exact hn416_1)|(show (Addr.add _ _).block ≠ _;rw [add_block];exact hn416_1)|exact hn416_1) (.int .i64 ((rd_T100 x9_2 (ji72)).f0.f1))).trans hx416_2;replace hx416_3:=(cell_far (p:=⟨gb415,1,none⟩) (by first|(rw [add_block];exact hn416_1)|(show (Addr.add _ _).block ≠ _;rw [add_block];exact hn416_1)|exact hn416_1) (.int .i64 ((rd_T100 x9_2 (ji72)).f0.f1))).trans hx416_3;replace hx416_0:=(cell_far (p:=⟨gb415,2,none⟩) (by first|(rw [add_block];exact hn416_2)|(show (Addr.add _ _).block ≠ _;rw [add_block];exact hn416_2)|exact hn416_2) (.bool ((rd_T100 x9_2 (ji72)).f1))).trans hx416_0;replace hx416_1:=(cell_far (p:=⟨gb415,2,none⟩) (by first|(rw [add_block];exact hn416_2)|(show (Addr.add _ _).block ≠ _;rw [add_block];exact hn416_2)|exact hn416_2) (.bool ((rd_T100 x9_2 (ji72)).f1))).trans hx416_1;replace hx416_2:=(cell_far (p:=⟨gb415,2,none⟩) (by first|(rw [add_block];exact hn416_2)|(show (Addr.add _ _).block ≠ _;rw [add_block];exact hn416_2)|exact hn416_2) (.bool ((rd_T100 x9_2 (ji72)).f1))).trans hx416_2;replace hx416_3:=(cell_far (p:=⟨gb415,2,none⟩) (by first|(rw [add_block];exact hn416_2)|(show (Addr.add _ _).block ≠ _;rw [add_block];exact hn416_2)|exact hn416_2) (.bool ((rd_T100 x9_2 (ji72)).f1))).trans hx416_3;replace hx416_0:=(cell_far (p:=⟨gb415,3,none⟩) (by first|(rw [add_block];exact hn416_3)|(show (Addr.add _ _).block ≠ _;rw [add_block];exact hn416_3)|exact hn416_3) (.bool ((rd_T100 x9_2 (ji72)).f2))).trans hx416_0;replace hx416_1:=(cell_far (p:=⟨gb415,3,none⟩) (by first|(rw [add_block];exact hn416_3)|(show (Addr.add _ _).block ≠ _;rw [add_block];exact hn416_3)|exact hn416_3) (.bool ((rd_T100 x9_2 (ji72)).f2))).trans hx416_1;replace hx416_2:=(cell_far (p:=⟨gb415,3,none⟩) (by first|(rw [add_block];exact hn416_3)|(show (Addr.add _ _).block ≠ _;rw [add_block];exact hn416_3)|exact hn416_3) (.bool ((rd_T100 x9_2 (ji72)).f2))).trans hx416_2;replace hx416_3:=(cell_far (p:=⟨gb415,3,none⟩) (by first|(rw [add_block];exact hn416_3)|(show (Addr.add _ _).block ≠ _;rw [add_block];exact hn416_3)|exact hn416_3) (.bool ((rd_T100 x9_2 (ji72)).f2))).trans hx416_3;clear hn416_0;clear hn416_1;clear hn416_2;clear hn416_3;replace p416:=eq_true p416;replace q416:=eq_true q416)|((with_reducible refine gate_dst (N:=17) rfl ?_);refine box_event ?hg (N:=17) ?hd (cs:=#[.int .i64 0,.int .i64 0,.bool false,.bool false]) (t:=100) ?hr ?_;(case hd=>rfl);(case hg=>rfl);(case hr=>first|(go_simp;done)|(go_simp;rfl));intro gb417 hg w98 hbox hb;have n0_:=amk (Kd.R_below (Kd.R_elderB (by (with_reducible repeat (first|apply Kd.R_alloc|apply Kd.R_drewN|apply Kd.R_drew));exact (Kd.R_mono (Kd.R_far (p:=⟨gb415,3,none⟩) (Kd.R_far (p:=⟨gb415,2,none⟩) (Kd.R_far (p:=⟨gb415,1,none⟩) (Kd.R_far (p:=⟨gb415,0,none⟩) (Kd.R_mono HO_9.out (fun k_ hk=>(⟨hk,hk.2⟩ : _∧k_ ≠ gb415))) (fun _ hk=>hk.2) (.int .i64 ((rd_T100 x9_2 (ji72)).f0.f0))) (fun _ hk=>hk.2) (.int .i64 ((rd_T100 x9_2 (ji72)).f0.f1))) (fun _ hk=>hk.2) (.bool ((rd_T100 x9_2 (ji72)).f1))) (fun _ hk=>hk.2) (.bool ((rd_T100 x9_2 (ji72)).f2))) (fun _ h_=>h_.1))) gb417 (Nat.le_of_eq hg.symm)) hb);have n1_:=amk (Kd.R_below (by (with_reducible repeat (first|apply Kd.R_alloc|apply Kd.R_drewN|apply Kd.R_drew));exact (Kd.R_mono (Kd.R_far (p:=⟨gb415,3,none⟩) (Kd.R_far (p:=⟨gb415,2,none⟩) (Kd.R_far (p:=⟨gb415,1,none⟩) (Kd.R_far (p:=⟨gb415,0,none⟩) (Kd.R_types HO_14.out BK415.out (by decide)) (fun _ hk=>hk.2) (.int .i64 ((rd_T100 x9_2 (ji72)).f0.f0))) (fun _ hk=>hk.2) (.int .i64 ((rd_T100 x9_2 (ji72)).f0.f1))) (fun _ hk=>hk.2) (.bool ((rd_T100 x9_2 (ji72)).f1))) (fun _ hk=>hk.2) (.bool ((rd_T100 x9_2 (ji72)).f2))) (fun _ h_=>h_.1))) hb);have n2_:=amk (blk_below (g:=gb379) (o:=.cells #[.int .i64 a1_0,.int .i64 a1_1,.int .i64 a1_2,.int .i64 a1_3,.int .i64 a1_4,.int .i64 a1_5] 26 (0,0)) (by (with_reducible repeat first|apply kN|apply kD|apply kA);refine blk_far ?_ NB379_415.out _;(with_reducible repeat first|apply kN|apply kD|apply kA);refine blk_far ?_ NB379_415.out _;(with_reducible repeat first|apply kN|apply kD|apply kA);refine blk_far ?_ NB379_415.out _;(with_reducible repeat first|apply kN|apply kD|apply kA);refine blk_far ?_ NB379_415.out _;(with_reducible repeat first|apply kN|apply kD|apply kA);exact BK379.out) hb);have n3_:=amk (blk_below (g:=gb415) (o:=.cells #[.int .i64 ((rd_T100 x9_2 (ji72)).f0.f0),.int .i64 ((rd_T100 x9_2 (ji72)).f0.f1),.bool ((rd_T100 x9_2 (ji72)).f1),.bool ((rd_T100 x9_2 (ji72)).f2)] 100 (0,0)) (by (with_reducible repeat first|apply kN|apply kD|apply kA);refine blk_put (cs:=#[.int .i64 ((rd_T100 x9_2 (ji72)).f0.f0),.int .i64 ((rd_T100 x9_2 (ji72)).f0.f1),.bool ((rd_T100 x9_2 (ji72)).f1),.bool false]) ?_ 3 _ rfl;(with_reducible repeat first|apply kN|apply kD|apply kA);refine blk_put (cs:=#[.int .i64 ((rd_T100 x9_2 (ji72)).f0.f0),.int .i64 ((rd_T100 x9_2 (ji72)).f0.f1),.bool false,.bool false]) ?_ 2 _ rfl;(with_reducible repeat first|apply kN|apply kD|apply kA);refine blk_put (cs:=#[.int .i64 ((rd_T100 x9_2 (ji72)).f0.f0),.int .i64 0,.bool false,.bool false]) ?_ 1 _ rfl;(with_reducible repeat first|apply kN|apply kD|apply kA);refine blk_put (cs:=#[.int .i64 0,.int .i64 0,.bool false,.bool false]) ?_ 0 _ rfl;(with_reducible repeat first|apply kN|apply kD|apply kA);exact BK415.out) hb);have n4_:=amk (below_step (by repeat (first|(with_reducible first|exact HB.out|apply bAl|apply bDN|apply bD1|refine bSe ?_ GE379.out|refine bSe ?_ GE415.out)|exact HB.out)) hb);have n5_:=amk (hbox);have n6_:=amk ((by rw [hg];exact (below_size (by repeat (first|(with_reducible first|exact HB.out|apply bAl|apply bDN|apply bD1|refine bSe ?_ GE379.out|refine bSe ?_ GE415.out)|exact HB.out))) : w.heap.size≤gb417));have n7_:=amk ((by rw [hg];exact (below_size (by repeat (first|(with_reducible first|exact HB.out|apply bAl|apply bDN|apply bD1|refine bSe ?_ GE379.out|refine bSe ?_ GE415.out)|exact HB.out))) : w.heap.size≤gb417));have n8_:=amk ((by rw [hg];exact Nat.ne_of_lt (blk_lt (g:=gb379) (o:=.cells #[.int .i64 a1_0,.int .i64 a1_1,.int .i64 a1_2,.int .i64 a1_3,.int .i64 a1_4,.int .i64 a1_5] 26 (0,0)) (by (with_reducible repeat first|apply kN|apply kD|apply kA);refine blk_far ?_ NB379_415.out _;(with_reducible repeat first|apply kN|apply kD|apply kA);refine blk_far ?_ NB379_415.out _;(with_reducible repeat first|apply kN|apply kD|apply kA);refine blk_far ?_ NB379_415.out _;(with_reducible repeat first|apply kN|apply kD|apply kA);refine blk_far ?_ NB379_415.out _;(with_reducible repeat first|apply kN|apply kD|apply kA);exact BK379.out)) : gb379 ≠ gb417));have n9_:=amk ((by rw [hg];exact Nat.ne_of_gt (blk_lt (g:=gb379) (o:=.cells #[.int .i64 a1_0,.int .i64 a1_1,.int .i64 a1_2,.int .i64 a1_3,.int .i64 a1_4,.int .i64 a1_5] 26 (0,0)) (by (with_reducible repeat first|apply kN|apply kD|apply kA);refine blk_far ?_ NB379_415.out _;(with_reducible repeat first|apply kN|apply kD|apply kA);refine blk_far ?_ NB379_415.out _;(with_reducible repeat first|apply kN|apply kD|apply kA);refine blk_far ?_ NB379_415.out _;(with_reducible repeat first|apply kN|apply kD|apply kA);refine blk_far ?_ NB379_415.out _;(with_reducible repeat first|apply kN|apply kD|apply kA);exact BK379.out)) : gb417 ≠ gb379));have n10_:=amk ((by rw [hg];exact Nat.ne_of_lt (blk_lt (g:=gb415) (o:=.cells #[.int .i64 ((rd_T100 x9_2 (ji72)).f0.f0),.int .i64 ((rd_T100 x9_2 (ji72)).f0.f1),.bool ((rd_T100 x9_2 (ji72)).f1),.bool ((rd_T100 x9_2 (ji72)).f2)] 100 (0,0)) (by (with_reducible repeat first|apply kN|apply kD|apply kA);refine blk_put (cs:=#[.int .i64 ((rd_T100 x9_2 (ji72)).f0.f0),.int .i64 ((rd_T100 x9_2 (ji72)).f0.f1),.bool ((rd_T100 x9_2 (ji72)).f1),.bool false]) ?_ 3 _ rfl;(with_reducible repeat first|apply kN|apply kD|apply kA);refine blk_put (cs:=#[.int .i64 ((rd_T100 x9_2 (ji72)).f0.f0),.int .i64 ((rd_T100 x9_2 (ji72)).f0.f1),.bool false,.bool false]) ?_ 2 _ rfl;(with_reducible repeat first|apply kN|apply kD|apply kA);refine blk_put (cs:=#[.int .i64 ((rd_T100 x9_2 (ji72)).f0.f0),.int .i64 0,.bool false,.bool false]) ?_ 1 _ rfl;(with_reducible repeat first|apply kN|apply kD|apply kA);refine blk_put (cs:=#[.int .i64 0,.int .i64 0,.bool false,.bool false]) ?_ 0 _ rfl;(with_reducible repeat first|apply kN|apply kD|apply kA);exact BK415.out)) : gb415 ≠ gb417));have n11_:=amk ((by rw [hg];exact Nat.ne_of_gt (blk_lt (g:=gb415) (o:=.cells #[.int .i64 ((rd_T100 x9_2 (ji72)).f0.f0),.int .i64 ((rd_T100 x9_2 (ji72)).f0.f1),.bool ((rd_T100 x9_2 (ji72)).f1),.bool ((rd_T100 x9_2 (ji72)).f2)] 100 (0,0)) (by (with_reducible repeat first|apply kN|apply kD|apply kA);refine blk_put (cs:=#[.int .i64 ((rd_T100 x9_2 (ji72)).f0.f0),.int .i64 ((rd_T100 x9_2 (ji72)).f0.f1),.bool ((rd_T100 x9_2 (ji72)).f1),.bool false]) ?_ 3 _ rfl;(with_reducible repeat first|apply kN|apply kD|apply kA);refine blk_put (cs:=#[.int .i64 ((rd_T100 x9_2 (ji72)).f0.f0),.int .i64 ((rd_T100 x9_2 (ji72)).f0.f1),.bool false,.bool false]) ?_ 2 _ rfl;(with_reducible repeat first|apply kN|apply kD|apply kA);refine blk_put (cs:=#[.int .i64 ((rd_T100 x9_2 (ji72)).f0.f0),.int .i64 0,.bool false,.bool false]) ?_ 1 _ rfl;(with_reducible repeat first|apply kN|apply kD|apply kA);refine blk_put (cs:=#[.int .i64 0,.int .i64 0,.bool false,.bool false]) ?_ 0 _ rfl;(with_reducible repeat first|apply kN|apply kD|apply kA);exact BK415.out)) : gb417 ≠ gb415));clear HO_9;clear HO_14;clear BK379;clear BK415;clear HB;have HO_9:=n0_;have HO_14:=n1_;have BK379:=n2_;have BK415:=n3_;have HB:=n4_;have BK417:=n5_;have GW417:=n6_;have GE417:=n7_;have NB379_417:=n8_;have NB417_379:=n9_;have NB415_417:=n10_;have NB417_415:=n11_;clear n0_ n1_ n2_ n3_ n4_ n5_ n6_ n7_ n8_ n9_ n10_ n11_;clear hb hbox hg;have hnb99:=NB417_379.out;have hnc99:=NB379_417.out;have hnb100:=NB417_415.out;have hnc100:=NB415_417.out;have hcz101_0 : w98.cell? ⟨gb417,0,none⟩=some (.int .i64 0):=(blk_cell BK417.out 0).trans rfl;have hcz101_1 : w98.cell? ⟨gb417,1,none⟩=some (.int .i64 0):=(blk_cell BK417.out 1).trans rfl;have hcz101_2 : w98.cell? ⟨gb417,2,none⟩=some (.bool false):=(blk_cell BK417.out 2).trans rfl;have hcz101_3 : w98.cell? ⟨gb417,3,none⟩=some (.bool false):=(blk_cell BK417.out 3).trans rfl;have hfz101_0:=blk_frozen BK417.out 0;have hfz101_1:=blk_frozen BK417.out 1;have hfz101_2:=blk_frozen BK417.out 2;have hfz101_3:=blk_frozen BK417.out 3))
                       have n0_ : Aside0 (Kd.R k100 100 ((((w98.setCell ⟨gb417,0,none⟩ (.int .i64 ((rd_T100 x9_2 (ji75)).f0.f0))).setCell ⟨gb417,1,none⟩ (.int .i64 ((rd_T100 x9_2 (ji75)).f0.f1))).setCell ⟨gb417,2,none⟩ (.bool false)).setCell ⟨gb417,3,none⟩ (.bool ((rd_T100 x9_2 (ji75)).f2))) w.heap.size (fun k_=>k_ ≠ gb415∧k_ ≠ gb417) (.slice (some ad414) x9_2.length co62) x9_2):=⟨by (with_reducible repeat (first|apply Kd.R_alloc|apply Kd.R_drewN|apply Kd.R_drew));exact Kd.R_mono (Kd.R_far (p:=⟨gb417,3,none⟩) (Kd.R_far (p:=⟨gb417,2,none⟩) (Kd.R_far (p:=⟨gb417,1,none⟩) (Kd.R_far (p:=⟨gb417,0,none⟩) (Kd.R_mono HO_9.out (fun k_ hk=>(⟨hk,hk.2⟩ : _∧k_ ≠ gb417))) (fun _ hk=>hk.2) (.int .i64 ((rd_T100 x9_2 (ji75)).f0.f0))) (fun _ hk=>hk.2) (.int .i64 ((rd_T100 x9_2 (ji75)).f0.f1))) (fun _ hk=>hk.2) (.bool false)) (fun _ hk=>hk.2) (.bool ((rd_T100 x9_2 (ji75)).f2))) (fun _ hk=>⟨hk.1.1.2,hk.1.2⟩)⟩
                       have n1_ : Aside0 (Kd.R k34 34 ((((w98.setCell ⟨gb417,0,none⟩ (.int .i64 ((rd_T100 x9_2 (ji75)).f0.f0))).setCell ⟨gb417,1,none⟩ (.int .i64 ((rd_T100 x9_2 (ji75)).f0.f1))).setCell ⟨gb417,2,none⟩ (.bool false)).setCell ⟨gb417,3,none⟩ (.bool ((rd_T100 x9_2 (ji75)).f2))) w.heap.size (fun _=>True) u14 x14_4):=⟨by (with_reducible repeat (first|apply Kd.R_alloc|apply Kd.R_drewN|apply Kd.R_drew));exact Kd.R_mono (Kd.R_far (p:=⟨gb417,3,none⟩) (Kd.R_far (p:=⟨gb417,2,none⟩) (Kd.R_far (p:=⟨gb417,1,none⟩) (Kd.R_far (p:=⟨gb417,0,none⟩) (Kd.R_types HO_14.out BK417.out (by decide)) (fun _ hk=>hk.2) (.int .i64 ((rd_T100 x9_2 (ji75)).f0.f0))) (fun _ hk=>hk.2) (.int .i64 ((rd_T100 x9_2 (ji75)).f0.f1))) (fun _ hk=>hk.2) (.bool false)) (fun _ hk=>hk.2) (.bool ((rd_T100 x9_2 (ji75)).f2))) (fun _ hk=>trivial)⟩
                       have n2_ : Aside0 (((((w98.setCell ⟨gb417,0,none⟩ (.int .i64 ((rd_T100 x9_2 (ji75)).f0.f0))).setCell ⟨gb417,1,none⟩ (.int .i64 ((rd_T100 x9_2 (ji75)).f0.f1))).setCell ⟨gb417,2,none⟩ (.bool false)).setCell ⟨gb417,3,none⟩ (.bool ((rd_T100 x9_2 (ji75)).f2))).heap[gb379]?=some (.cells #[.int .i64 a1_0,.int .i64 a1_1,.int .i64 a1_2,.int .i64 a1_3,.int .i64 a1_4,.int .i64 a1_5] 26 (0,0))):=⟨by (with_reducible repeat first|apply kN|apply kD|apply kA);refine blk_far ?_ NB379_417.out _;(with_reducible repeat first|apply kN|apply kD|apply kA);refine blk_far ?_ NB379_417.out _;(with_reducible repeat first|apply kN|apply kD|apply kA);refine blk_far ?_ NB379_417.out _;(with_reducible repeat first|apply kN|apply kD|apply kA);refine blk_far ?_ NB379_417.out _;(with_reducible repeat first|apply kN|apply kD|apply kA);exact BK379.out⟩
                       have n3_ : Aside0 (((((w98.setCell ⟨gb417,0,none⟩ (.int .i64 ((rd_T100 x9_2 (ji75)).f0.f0))).setCell ⟨gb417,1,none⟩ (.int .i64 ((rd_T100 x9_2 (ji75)).f0.f1))).setCell ⟨gb417,2,none⟩ (.bool false)).setCell ⟨gb417,3,none⟩ (.bool ((rd_T100 x9_2 (ji75)).f2))).heap[gb415]?=some (.cells #[.int .i64 ((rd_T100 x9_2 (ji72)).f0.f0),.int .i64 ((rd_T100 x9_2 (ji72)).f0.f1),.bool ((rd_T100 x9_2 (ji72)).f1),.bool ((rd_T100 x9_2 (ji72)).f2)] 100 (0,0))):=⟨by (with_reducible repeat first|apply kN|apply kD|apply kA);refine blk_far ?_ NB415_417.out _;(with_reducible repeat first|apply kN|apply kD|apply kA);refine blk_far ?_ NB415_417.out _;(with_reducible repeat first|apply kN|apply kD|apply kA);refine blk_far ?_ NB415_417.out _;(with_reducible repeat first|apply kN|apply kD|apply kA);refine blk_far ?_ NB415_417.out _;(with_reducible repeat first|apply kN|apply kD|apply kA);exact BK415.out⟩
                       have n4_ : Aside0 (((((w98.setCell ⟨gb417,0,none⟩ (.int .i64 ((rd_T100 x9_2 (ji75)).f0.f0))).setCell ⟨gb417,1,none⟩ (.int .i64 ((rd_T100 x9_2 (ji75)).f0.f1))).setCell ⟨gb417,2,none⟩ (.bool false)).setCell ⟨gb417,3,none⟩ (.bool ((rd_T100 x9_2 (ji75)).f2))).heap[gb417]?=some (.cells #[.int .i64 ((rd_T100 x9_2 (ji75)).f0.f0),.int .i64 ((rd_T100 x9_2 (ji75)).f0.f1),.bool false,.bool ((rd_T100 x9_2 (ji75)).f2)] 100 (0,0))):=⟨by (with_reducible repeat first|apply kN|apply kD|apply kA);refine blk_put (cs:=#[.int .i64 ((rd_T100 x9_2 (ji75)).f0.f0),.int .i64 ((rd_T100 x9_2 (ji75)).f0.f1),.bool false,.bool false]) ?_ 3 _ rfl;(with_reducible repeat first|apply kN|apply kD|apply kA);refine blk_put (cs:=#[.int .i64 ((rd_T100 x9_2 (ji75)).f0.f0),.int .i64 ((rd_T100 x9_2 (ji75)).f0.f1),.bool false,.bool false]) ?_ 2 _ rfl;(with_reducible repeat first|apply kN|apply kD|apply kA);refine blk_put (cs:=#[.int .i64 ((rd_T100 x9_2 (ji75)).f0.f0),.int .i64 0,.bool false,.bool false]) ?_ 1 _ rfl;(with_reducible repeat first|apply kN|apply kD|apply kA);refine blk_put (cs:=#[.int .i64 0,.int .i64 0,.bool false,.bool false]) ?_ 0 _ rfl;(with_reducible repeat first|apply kN|apply kD|apply kA);exact BK417.out⟩
                       have n5_ : Aside0 (Below w.heap.size w ((((w98.setCell ⟨gb417,0,none⟩ (.int .i64 ((rd_T100 x9_2 (ji75)).f0.f0))).setCell ⟨gb417,1,none⟩ (.int .i64 ((rd_T100 x9_2 (ji75)).f0.f1))).setCell ⟨gb417,2,none⟩ (.bool false)).setCell ⟨gb417,3,none⟩ (.bool ((rd_T100 x9_2 (ji75)).f2)))):=⟨by repeat (first|(with_reducible first|exact HB.out|apply bAl|apply bDN|apply bD1|refine bSe ?_ GE379.out|refine bSe ?_ GE415.out|refine bSe ?_ GE417.out)|exact HB.out)⟩
                       (try clear HO_9)
                       (try clear HO_14)
                       (try clear BK379)
                       (try clear BK415)
                       (try clear BK417)
                       (try clear HB)
                       generalize ((((w98.setCell ⟨gb417,0,none⟩ (.int .i64 ((rd_T100 x9_2 (ji75)).f0.f0))).setCell ⟨gb417,1,none⟩ (.int .i64 ((rd_T100 x9_2 (ji75)).f0.f1))).setCell ⟨gb417,2,none⟩ (.bool false)).setCell ⟨gb417,3,none⟩ (.bool ((rd_T100 x9_2 (ji75)).f2)))=w102 at n0_ n1_ n2_ n3_ n4_ n5_ ⊢
                       have HO_9:=n0_
                       have HO_14:=n1_
                       have BK379:=n2_
                       have BK415:=n3_
                       have BK417:=n4_
                       have HB:=n5_
                       clear n0_ n1_ n2_ n3_ n4_ n5_
                       have n0_:=amk (Kd.R_drew HO_9.out)
                       have n1_:=amk (Kd.R_drew HO_14.out)
                       have n2_:=amk (blk_drew BK379.out)
                       have n3_:=amk (blk_drew BK415.out)
                       have n4_:=amk (blk_drew BK417.out)
                       have n5_:=amk (bD1 HB.out)
                       clear HO_9
                       clear HO_14
                       clear BK379
                       clear BK415
                       clear BK417
                       clear HB
                       have HO_9:=n0_
                       have HO_14:=n1_
                       have BK379:=n2_
                       have BK415:=n3_
                       have BK417:=n4_
                       have HB:=n5_
                       clear n0_ n1_ n2_ n3_ n4_ n5_
                       have p421 : 0≤((ji90) : Int):=of_decide_eq_true (by first|(with_reducible assumption)|assumption)
                       have q421 : (ji90) < (x9_2.length : Int):=of_decide_eq_true (by first|(with_reducible assumption)|assumption)
                       obtain ⟨ad421,e421,hx421_0,hx421_1,hx421_2,hx421_3⟩:=at_T100 (Kd.R_reads' HO_9.out).2.2 (ji90) p421 q421
                       (try rw [← Nbq78.out] at hx421_2)
                       (try rw [← Nbq78.out] at hx421_3)
                       obtain rfl : ad414=ad421:=(by injection e421)
                       replace p421:=eq_true p421
                       replace q421:=eq_true q421
                       refine start_ (n:=19) (S:=fun w'=>w'.cell? ⟨gb415,0,none⟩=some (.int .i64 ((rd_T100 x9_2 (ji72)).f0.f0))∧w'.cell? ⟨gb415,1,none⟩=some (.int .i64 ((rd_T100 x9_2 (ji72)).f0.f1))∧w'.cell? ⟨gb415,2,none⟩=some (.bool ((rd_T100 x9_2 (ji72)).f1))∧w'.cell? ⟨gb415,3,none⟩=some (.bool ((rd_T100 x9_2 (ji72)).f2))∧w'.cell? ⟨gb417,0,none⟩=some (.int .i64 ((rd_T100 x9_2 (ji75)).f0.f0))∧w'.cell? ⟨gb417,1,none⟩=some (.int .i64 ((rd_T100 x9_2 (ji75)).f0.f1))∧w'.cell? ⟨gb417,2,none⟩=some (.bool false)∧w'.cell? ⟨gb417,3,none⟩=some (.bool ((rd_T100 x9_2 (ji75)).f2))∧w'.cell? (ad414.add (((ji90)).toNat * 4))=some (.int .i64 ((rd_T100 x9_2 (ji90)).f0.f0))∧w'.cell? ⟨(ad414.add (((ji90)).toNat * 4)).block,(ad414.add (((ji90)).toNat * 4)).off+1,none⟩=some (.int .i64 ((rd_T100 x9_2 (ji90)).f0.f1))∧w'.cell? ⟨(ad414.add (((ji90)).toNat * 4)).block,(ad414.add (((ji90)).toNat * 4)).off+2,none⟩=some (.bool ((rd_T100 x9_2 (ji90)).f1))∧w'.cell? ⟨(ad414.add (((ji90)).toNat * 4)).block,(ad414.add (((ji90)).toNat * 4)).off+3,none⟩=some (.bool ((rd_T100 x9_2 (ji90)).f2))) (ds:=[]) #[false,false,false,false,false,false,false,false,false,false,false,false,false,false,false,false,false,false,false] (by kernel_rfl) rfl rfl ⟨(blk_cell BK415.out 0).trans rfl,(blk_cell BK415.out 1).trans rfl,(blk_cell BK415.out 2).trans rfl,(blk_cell BK415.out 3).trans rfl,(blk_cell BK417.out 0).trans rfl,(blk_cell BK417.out 1).trans rfl,(blk_cell BK417.out 2).trans rfl,(blk_cell BK417.out 3).trans rfl,hx421_0,hx421_1,hx421_2,hx421_3⟩ (fun hHeld=>?_);refine with_tabW versalref14_contour.tab33 versalref14_contour.bits33 (fun HT_ HW_=>?_)
                       generalize w102.drew=w103 at HO_9 HO_14 BK379 BK415 BK417 HB hx421_0 hx421_1 hx421_2 hx421_3 hHeld ⊢
                       refine pure_ (i:=0) (N:=some 165) (v:=?_) (a':=?_) #[true,false,false,false,false,false,false,false,false,false,false,false,false,false,false,false,false,false,false] rfl rfl (any_of HT_.out (by kernel_rfl)) (fun _ _ _ h=>h) (Or.inl ⟨by rfl,?_⟩) ?_ ?_
                       rotate_left
                       ·intro w'
                        go_simp
                        with_reducible rfl
                       rotate_left
                       ·simp only [Act.put,sTA,sCZ,sCS,i64_w,i32_w]
                        rfl
                       refine pure_ (i:=1) (N:=some 166) (v:=?_) (a':=?_) #[true,true,false,false,false,false,false,false,false,false,false,false,false,false,false,false,false,false,false] rfl rfl (any_of HT_.out (by kernel_rfl)) (fun _ _ _ h=>h) (Or.inl ⟨by rfl,?_⟩) ?_ ?_
                       rotate_left
                       ·intro w'
                        go_simp
                        with_reducible rfl
                       rotate_left
                       ·simp only [Act.put,sTA,sCZ,sCS,i64_w,i32_w]
                        rfl
                       refine pure_ (i:=3) (N:=some 168) (v:=?_) (a':=?_) #[true,true,false,true,false,false,false,false,false,false,false,false,false,false,false,false,false,false,false] rfl rfl (any_of HT_.out (by kernel_rfl)) (fun _ _ _ h=>h) (Or.inl ⟨by rfl,?_⟩) ?_ ?_
                       rotate_left
                       ·intro w'
                        go_simp
                        with_reducible rfl
                       rotate_left
                       ·simp only [Act.put,sTA,sCZ,sCS,i64_w,i32_w]
                        rfl
                       refine pure_ (i:=5) (N:=some 170) (v:=?_) (a':=?_) #[true,true,false,true,false,true,false,false,false,false,false,false,false,false,false,false,false,false,false] rfl rfl (any_of HT_.out (by kernel_rfl)) (fun _ _ _ h=>h) (Or.inl ⟨by rfl,?_⟩) ?_ ?_
                       rotate_left
                       ·intro w'
                        go_simp
                        with_reducible rfl
                       rotate_left
                       ·simp only [Act.put,sTA,sCZ,sCS,i64_w,i32_w]
                        rfl
                       refine pure_ (i:=6) (N:=some 171) (v:=?_) (a':=?_) #[true,true,false,true,false,true,true,false,false,false,false,false,false,false,false,false,false,false,false] rfl rfl (any_of HT_.out (by kernel_rfl)) (fun _ _ _ h=>h) (Or.inl ⟨by rfl,?_⟩) ?_ ?_
                       rotate_left
                       ·intro w'
                        go_simp
                        with_reducible rfl
                       rotate_left
                       ·simp only [Act.put,sTA,sCZ,sCS,i64_w,i32_w]
                        rfl
                       refine pure_ (i:=7) (N:=some 172) (v:=?_) (a':=?_) #[true,true,false,true,false,true,true,true,false,false,false,false,false,false,false,false,false,false,false] rfl rfl (any_of HT_.out (by kernel_rfl)) (fun _ _ _ h=>h) (Or.inl ⟨by rfl,?_⟩) ?_ ?_
                       rotate_left
                       ·intro w'
                        go_simp
                        with_reducible rfl
                       rotate_left
                       ·simp only [Act.put,sTA,sCZ,sCS,i64_w,i32_w]
                        rfl
                       refine pure_ (i:=8) (N:=some 173) (v:=?_) (a':=?_) #[true,true,false,true,false,true,true,true,true,false,false,false,false,false,false,false,false,false,false] rfl rfl (any_of HT_.out (by kernel_rfl)) (fun _ _ _ h=>h) (Or.inl ⟨by rfl,?_⟩) ?_ ?_
                       rotate_left
                       ·intro w'
                        go_simp
                        with_reducible rfl
                       rotate_left
                       ·simp only [Act.put,sTA,sCZ,sCS,i64_w,i32_w]
                        rfl
                       refine pure_ (i:=9) (N:=some 174) (v:=?_) (a':=?_) #[true,true,false,true,false,true,true,true,true,true,false,false,false,false,false,false,false,false,false] rfl rfl (any_of HT_.out (by kernel_rfl)) (fun _ _ _ h=>h) (Or.inl ⟨by rfl,?_⟩) ?_ ?_
                       rotate_left
                       ·intro w'
                        go_simp
                        with_reducible rfl
                       rotate_left
                       ·simp only [Act.put,sTA,sCZ,sCS,i64_w,i32_w]
                        rfl
                       refine pure_ (i:=10) (N:=some 175) (v:=?_) (a':=?_) #[true,true,false,true,false,true,true,true,true,true,true,false,false,false,false,false,false,false,false] rfl rfl (any_of HT_.out (by kernel_rfl)) (fun _ _ _ h=>h) (Or.inl ⟨by rfl,?_⟩) ?_ ?_
                       rotate_left
                       ·intro w'
                        go_simp
                        with_reducible rfl
                       rotate_left
                       ·simp only [Act.put,sTA,sCZ,sCS,i64_w,i32_w]
                        rfl
                       refine pure_ (i:=11) (N:=some 176) (v:=?_) (a':=?_) #[true,true,false,true,false,true,true,true,true,true,true,true,false,false,false,false,false,false,false] rfl rfl (any_of HT_.out (by kernel_rfl)) (fun _ _ _ h=>h) (Or.inl ⟨by rfl,?_⟩) ?_ ?_
                       rotate_left
                       ·intro w'
                        go_simp
                        with_reducible rfl
                       rotate_left
                       ·simp only [Act.put,sTA,sCZ,sCS,i64_w,i32_w]
                        rfl
                       refine pure_ (i:=12) (N:=some 177) (v:=?_) (a':=?_) #[true,true,false,true,false,true,true,true,true,true,true,true,true,false,false,false,false,false,false] rfl rfl (any_of HT_.out (by kernel_rfl)) (fun _ _ _ h=>h) (Or.inl ⟨by rfl,?_⟩) ?_ ?_
                       rotate_left
                       ·intro w'
                        go_simp
                        with_reducible rfl
                       rotate_left
                       ·simp only [Act.put,sTA,sCZ,sCS,i64_w,i32_w]
                        rfl
                       refine pure_ (i:=13) (N:=some 178) (v:=?_) (a':=?_) #[true,true,false,true,false,true,true,true,true,true,true,true,true,true,false,false,false,false,false] rfl rfl (any_of HT_.out (by kernel_rfl)) (fun _ _ _ h=>h) (Or.inl ⟨by rfl,?_⟩) ?_ ?_
                       rotate_left
                       ·intro w'
                        go_simp
                        with_reducible rfl
                       rotate_left
                       ·simp only [Act.put,sTA,sCZ,sCS,i64_w,i32_w]
                        rfl
                       refine pure_ (i:=14) (N:=some 179) (v:=?_) (a':=?_) #[true,true,false,true,false,true,true,true,true,true,true,true,true,true,true,false,false,false,false] rfl rfl (any_of HT_.out (by kernel_rfl)) (fun _ _ _ h=>h) (Or.inl ⟨by rfl,?_⟩) ?_ ?_
                       rotate_left
                       ·intro w'
                        go_simp
                        with_reducible rfl
                       rotate_left
                       ·simp only [Act.put,sTA,sCZ,sCS,i64_w,i32_w]
                        rfl
                       refine take_ (i:=2) (N:=some 167) (v:=?_) (a':=?_) #[true,true,true,true,false,true,true,true,true,true,true,true,true,true,true,false,false,false,false] rfl rfl (take_ofW HT_.out HW_.out (by kernel_rfl)) (fun _ _ _ h=>h) (Or.inl ⟨by rfl,?_⟩) hHeld ?_ ?_
                       rotate_left
                       ·rintro w' ⟨s0,s1,s2,s3,s4,s5,s6,s7,s8,s9,s10,s11⟩
                        go_simp
                        with_reducible rfl
                       rotate_left
                       ·simp only [Act.put,sTA,sCZ,sCS,i64_w,i32_w]
                        rfl
                       refine take_ (i:=4) (N:=some 169) (v:=?_) (a':=?_) #[true,true,true,true,true,true,true,true,true,true,true,true,true,true,true,false,false,false,false] rfl rfl (take_ofW HT_.out HW_.out (by kernel_rfl)) (fun _ _ _ h=>h) (Or.inl ⟨by rfl,?_⟩) hHeld ?_ ?_
                       rotate_left
                       ·rintro w' ⟨s0,s1,s2,s3,s4,s5,s6,s7,s8,s9,s10,s11⟩
                        go_simp
                        with_reducible rfl
                       rotate_left
                       ·simp only [Act.put,sTA,sCZ,sCS,i64_w,i32_w]
                        rfl
                       refine take_ (i:=15) (N:=some 180) (v:=?_) (a':=?_) #[true,true,true,true,true,true,true,true,true,true,true,true,true,true,true,true,false,false,false] rfl rfl (take_ofW HT_.out HW_.out (by kernel_rfl)) (fun _ _ _ h=>h) (Or.inl ⟨by rfl,?_⟩) hHeld ?_ ?_
                       rotate_left
                       ·rintro w' ⟨s0,s1,s2,s3,s4,s5,s6,s7,s8,s9,s10,s11⟩
                        go_simp
                        with_reducible rfl
                       rotate_left
                       ·simp only [Act.put,sTA,sCZ,sCS,i64_w,i32_w]
                        rfl
                       refine one_ (i:=16) (N:=some 181) #[true,true,true,true,true,true,true,true,true,true,true,true,true,true,true,true,true,false,false] rfl rfl (one_of HT_.out (by kernel_rfl)) (by decide) (fun K hK=>?_)
                       refine goes_ Try.func17 (by kernel_rfl) rfl #[.agg #[.int .i64 ((rd_T100 x9_2 (ji72)).f0.f0),.int .i64 ((rd_T100 x9_2 (ji72)).f0.f1)],.agg #[.int .i64 ((rd_T100 x9_2 (ji75)).f0.f0),.int .i64 ((rd_T100 x9_2 (ji75)).f0.f1)],.agg #[.int .i64 ((rd_T100 x9_2 (ji90)).f0.f0),.int .i64 ((rd_T100 x9_2 (ji90)).f0.f1)]] (by rfl) rfl rfl (by (try simp only [List.map_toArray,List.map_cons,List.map_nil]);first|done|(simp only [hji72,hji75,hji90];rfl)|rfl|(simp only [List.length_drop,List.length_take];rfl)) ?_
                       with_reducible refine (versalref14_Curve.calls k4 ((rd_T100 x9_2 (ji72)).f0.f0) ((rd_T100 x9_2 (ji72)).f0.f1) ((rd_T100 x9_2 (ji75)).f0.f0) ((rd_T100 x9_2 (ji75)).f0.f1) ((rd_T100 x9_2 (ji90)).f0.f0) ((rd_T100 x9_2 (ji90)).f0.f1) t422 _ A93.out).mono ?_
                       rintro e w104 ⟨v423,rfl,ho0,hb⟩
                       have HS8_:=(hb.cell (cLt _ _ (hHeld.2.2.2.2.2.2.2.2.1))).trans (hHeld.2.2.2.2.2.2.2.2.1)
                       have HS9_:=(hb.cell (cLt _ _ (hHeld.2.2.2.2.2.2.2.2.2.1))).trans (hHeld.2.2.2.2.2.2.2.2.2.1)
                       have HS10_:=(hb.cell (cLt _ _ (hHeld.2.2.2.2.2.2.2.2.2.2.1))).trans (hHeld.2.2.2.2.2.2.2.2.2.2.1)
                       have HS11_:=(hb.cell (cLt _ _ (hHeld.2.2.2.2.2.2.2.2.2.2.2))).trans (hHeld.2.2.2.2.2.2.2.2.2.2.2)
                       refine ⟨_,rfl,?_⟩
                       have n0_:=amk (Kd.R_below (by (with_reducible repeat (first|apply Kd.R_alloc|apply Kd.R_drewN|apply Kd.R_drew));exact HO_9.out) hb)
                       have n1_:=amk (Kd.R_elder' (by (with_reducible repeat (first|apply Kd.R_alloc|apply Kd.R_drewN|apply Kd.R_drew));exact HO_14.out) (Kd.R_base ho0) hb)
                       have n2_:=amk (Kd.R_lower (Kd.R_new' ho0 (Kd.R_lt (by (with_reducible repeat (first|apply Kd.R_alloc|apply Kd.R_drewN|apply Kd.R_drew));exact HO_14.out))) (below_size (by repeat (first|(with_reducible first|exact HB.out|apply bAl|apply bDN|apply bD1|refine bSe ?_ GE379.out|refine bSe ?_ GE415.out|refine bSe ?_ GE417.out)|exact HB.out))))
                       have n3_:=amk (blk_below (g:=gb379) (o:=.cells #[.int .i64 a1_0,.int .i64 a1_1,.int .i64 a1_2,.int .i64 a1_3,.int .i64 a1_4,.int .i64 a1_5] 26 (0,0)) (by (with_reducible repeat first|apply kN|apply kD|apply kA);exact BK379.out) hb)
                       have n4_:=amk (blk_below (g:=gb415) (o:=.cells #[.int .i64 ((rd_T100 x9_2 (ji72)).f0.f0),.int .i64 ((rd_T100 x9_2 (ji72)).f0.f1),.bool ((rd_T100 x9_2 (ji72)).f1),.bool ((rd_T100 x9_2 (ji72)).f2)] 100 (0,0)) (by (with_reducible repeat first|apply kN|apply kD|apply kA);exact BK415.out) hb)
                       have n5_:=amk (blk_below (g:=gb417) (o:=.cells #[.int .i64 ((rd_T100 x9_2 (ji75)).f0.f0),.int .i64 ((rd_T100 x9_2 (ji75)).f0.f1),.bool false,.bool ((rd_T100 x9_2 (ji75)).f2)] 100 (0,0)) (by (with_reducible repeat first|apply kN|apply kD|apply kA);exact BK417.out) hb)
                       have n6_:=amk (below_step (by repeat (first|(with_reducible first|exact HB.out|apply bAl|apply bDN|apply bD1|refine bSe ?_ GE379.out|refine bSe ?_ GE415.out|refine bSe ?_ GE417.out)|exact HB.out)) hb)
                       clear HO_9
                       clear HO_14
                       clear BK379
                       clear BK415
                       clear BK417
                       clear HB
                       have HO_9:=n0_
                       have HO_14:=n1_
                       have HO424:=n2_
                       have BK379:=n3_
                       have BK415:=n4_
                       have BK417:=n5_
                       have HB:=n6_
                       clear n0_ n1_ n2_ n3_ n4_ n5_ n6_
                       (try clear hb)
                       (try clear hb2)
                       (try clear hk)
                       (try clear hi)
                       (try clear ho0)
                       obtain ⟨Ao106,co106,eo106⟩:=Kd.R_slice HO424.out
                       (first|subst eo106|(injection eo106 with f1_ f2_ f3_;have f4_:=f1_.symm;have f5_:=f3_.symm;clear f1_ f2_ f3_;subst f4_;subst f5_))
                       refine hK.out _ _ ⟨(blk_cell BK415.out 0).trans rfl,(blk_cell BK415.out 1).trans rfl,(blk_cell BK415.out 2).trans rfl,(blk_cell BK415.out 3).trans rfl,(blk_cell BK417.out 0).trans rfl,(blk_cell BK417.out 1).trans rfl,(blk_cell BK417.out 2).trans rfl,(blk_cell BK417.out 3).trans rfl,HS8_,HS9_,HS10_,HS11_⟩ (fun hHeld=>?_)
                       clear hK K
                       refine norm_ (a':=?_) ?_ ?_
                       rotate_left
                       ·show Act.put _ (some 181) _=_
                        simp only [Act.put,sTA,sCZ,sCS,i64_w,i32_w]
                        rfl
                       refine one_ (i:=17) (N:=some 182) #[true,true,true,true,true,true,true,true,true,true,true,true,true,true,true,true,true,true,false] rfl rfl (one_of HT_.out (by kernel_rfl)) (by decide) (fun K hK=>?_)
                       refine Kd.R_append_rows_step k34 (w0:=w) w.heap.size (by rfl) (.tmp 165) (.tmp 181) 31 34 (.agg #[(.int .i64 0),(.int .i64 0),(.int .i64 0),(.int .i64 0)]) 32 rfl Try.underlying31 info34 rfl (by decide) (by omega) u14 x14_4 t422 _ _ _ (fun k_=>some k_ ≠ (.slice Ao106 t422.length co106 : Value).ownBlock) (fun _=>False) rfl rfl ?aO ?aR (fun _ _ h=>h) (fun _ h=>h.elim) ?aF ?aB ?aS ?aL ?_
                       (case aR=>repeat (first|exact (Kd.R_reads' HO424.out).2.2|(with_reducible refine Kd.C_alloc ?_ _)|(with_reducible refine Kd.C_drewN ?_ _)|(with_reducible refine Kd.C_drew ?_)))
                       (case aB=>exact (by repeat (first|(with_reducible first|exact HB.out|apply bAl|apply bDN|apply bD1|refine bSe ?_ GE379.out|refine bSe ?_ GE415.out|refine bSe ?_ GE417.out)|exact HB.out)))
                       (case aF=>exact (fun k_ hk=>Kd.fresh' (Kd.R_lt (by (with_reducible repeat (first|apply Kd.R_alloc|apply Kd.R_drewN|apply Kd.R_drew));exact HO424.out)) k_ hk))
                       (case aO=>exact (by (with_reducible repeat (first|apply Kd.R_alloc|apply Kd.R_drewN|apply Kd.R_drew));exact Kd.R_mono HO_14.out (fun _ hk=>hk.2)))
                       (case aS=>exact (below_size (by repeat (first|(with_reducible first|exact HB.out|apply bAl|apply bDN|apply bD1|refine bSe ?_ GE379.out|refine bSe ?_ GE415.out|refine bSe ?_ GE417.out)|exact HB.out))))
                       (case aL=>have:=LMc94.out;omega)
                       intro v426 w105 ho hb hg hat
                       have HS8_:=cell_grown hg (hHeld.2.2.2.2.2.2.2.2.1) (by first|(rw [add_block];exact (fun e_=>by obtain ⟨_,h1_⟩:=Kd.R_typed HO_9.out _ rfl;obtain ⟨_,h2_⟩:=Kd.R_typed HO_14.out _ e_.symm;rw [h1_] at h2_;simp at h2_))|(show some (Addr.add _ _).block ≠ _;rw [add_block];exact (fun e_=>by obtain ⟨_,h1_⟩:=Kd.R_typed HO_9.out _ rfl;obtain ⟨_,h2_⟩:=Kd.R_typed HO_14.out _ e_.symm;rw [h1_] at h2_;simp at h2_))|exact (fun e_=>by obtain ⟨_,h1_⟩:=Kd.R_typed HO_9.out _ rfl;obtain ⟨_,h2_⟩:=Kd.R_typed HO_14.out _ e_.symm;rw [h1_] at h2_;simp at h2_))
                       have HS9_:=cell_grown hg (hHeld.2.2.2.2.2.2.2.2.2.1) (by first|(rw [add_block];exact (fun e_=>by obtain ⟨_,h1_⟩:=Kd.R_typed HO_9.out _ rfl;obtain ⟨_,h2_⟩:=Kd.R_typed HO_14.out _ e_.symm;rw [h1_] at h2_;simp at h2_))|(show some (Addr.add _ _).block ≠ _;rw [add_block];exact (fun e_=>by obtain ⟨_,h1_⟩:=Kd.R_typed HO_9.out _ rfl;obtain ⟨_,h2_⟩:=Kd.R_typed HO_14.out _ e_.symm;rw [h1_] at h2_;simp at h2_))|exact (fun e_=>by obtain ⟨_,h1_⟩:=Kd.R_typed HO_9.out _ rfl;obtain ⟨_,h2_⟩:=Kd.R_typed HO_14.out _ e_.symm;rw [h1_] at h2_;simp at h2_))
                       have HS10_:=cell_grown hg (hHeld.2.2.2.2.2.2.2.2.2.2.1) (by first|(rw [add_block];exact (fun e_=>by obtain ⟨_,h1_⟩:=Kd.R_typed HO_9.out _ rfl;obtain ⟨_,h2_⟩:=Kd.R_typed HO_14.out _ e_.symm;rw [h1_] at h2_;simp at h2_))|(show some (Addr.add _ _).block ≠ _;rw [add_block];exact (fun e_=>by obtain ⟨_,h1_⟩:=Kd.R_typed HO_9.out _ rfl;obtain ⟨_,h2_⟩:=Kd.R_typed HO_14.out _ e_.symm;rw [h1_] at h2_;simp at h2_))|exact (fun e_=>by obtain ⟨_,h1_⟩:=Kd.R_typed HO_9.out _ rfl;obtain ⟨_,h2_⟩:=Kd.R_typed HO_14.out _ e_.symm;rw [h1_] at h2_;simp at h2_))
                       have HS11_:=cell_grown hg (hHeld.2.2.2.2.2.2.2.2.2.2.2) (by first|(rw [add_block];exact (fun e_=>by obtain ⟨_,h1_⟩:=Kd.R_typed HO_9.out _ rfl;obtain ⟨_,h2_⟩:=Kd.R_typed HO_14.out _ e_.symm;rw [h1_] at h2_;simp at h2_))|(show some (Addr.add _ _).block ≠ _;rw [add_block];exact (fun e_=>by obtain ⟨_,h1_⟩:=Kd.R_typed HO_9.out _ rfl;obtain ⟨_,h2_⟩:=Kd.R_typed HO_14.out _ e_.symm;rw [h1_] at h2_;simp at h2_))|exact (fun e_=>by obtain ⟨_,h1_⟩:=Kd.R_typed HO_9.out _ rfl;obtain ⟨_,h2_⟩:=Kd.R_typed HO_14.out _ e_.symm;rw [h1_] at h2_;simp at h2_))
                       rw [← Ny425.out] at ho
                       have n0_:=amk (Kd.R_over' (by (with_reducible repeat (first|apply Kd.R_alloc|apply Kd.R_drewN|apply Kd.R_drew));exact HO_9.out) (Kd.R_typed (by (with_reducible repeat (first|apply Kd.R_alloc|apply Kd.R_drewN|apply Kd.R_drew));exact HO_14.out)) (by decide) hg)
                       have n1_:=amk (blk_grown (g:=gb379) (o:=.cells #[.int .i64 a1_0,.int .i64 a1_1,.int .i64 a1_2,.int .i64 a1_3,.int .i64 a1_4,.int .i64 a1_5] 26 (0,0)) (by (with_reducible repeat first|apply kN|apply kD|apply kA);exact BK379.out) hg (Kd.R_ne HO_14.out BK379.out (by decide)))
                       have n2_:=amk (blk_grown (g:=gb415) (o:=.cells #[.int .i64 ((rd_T100 x9_2 (ji72)).f0.f0),.int .i64 ((rd_T100 x9_2 (ji72)).f0.f1),.bool ((rd_T100 x9_2 (ji72)).f1),.bool ((rd_T100 x9_2 (ji72)).f2)] 100 (0,0)) (by (with_reducible repeat first|apply kN|apply kD|apply kA);exact BK415.out) hg (Kd.R_ne HO_14.out BK415.out (by decide)))
                       have n3_:=amk (blk_grown (g:=gb417) (o:=.cells #[.int .i64 ((rd_T100 x9_2 (ji75)).f0.f0),.int .i64 ((rd_T100 x9_2 (ji75)).f0.f1),.bool false,.bool ((rd_T100 x9_2 (ji75)).f2)] 100 (0,0)) (by (with_reducible repeat first|apply kN|apply kD|apply kA);exact BK417.out) hg (Kd.R_ne HO_14.out BK417.out (by decide)))
                       have n4_:=amk (Kd.R_after (ok:=(fun _=>True)) (by (with_reducible repeat (first|apply Kd.R_alloc|apply Kd.R_drewN|apply Kd.R_drew));exact HO424.out) hg hat)
                       have n5_:=amk (hb)
                       have n6_:=amk (ho)
                       clear HO_9
                       clear BK379
                       clear BK415
                       clear BK417
                       clear HO424
                       clear HB
                       clear HO_14
                       have HO_9:=n0_
                       have BK379:=n1_
                       have BK415:=n2_
                       have BK417:=n3_
                       have HO424:=n4_
                       have HB:=n5_
                       have HO427:=n6_
                       clear n0_ n1_ n2_ n3_ n4_ n5_ n6_
                       clear ho hb hg hat
                       refine hK.out _ _ ⟨(blk_cell BK415.out 0).trans rfl,(blk_cell BK415.out 1).trans rfl,(blk_cell BK415.out 2).trans rfl,(blk_cell BK415.out 3).trans rfl,(blk_cell BK417.out 0).trans rfl,(blk_cell BK417.out 1).trans rfl,(blk_cell BK417.out 2).trans rfl,(blk_cell BK417.out 3).trans rfl,HS8_,HS9_,HS10_,HS11_⟩ (fun hHeld=>?_)
                       clear hK K
                       refine norm_ (a':=?_) ?_ ?_
                       rotate_left
                       ·show Act.put _ (some 182) _=_
                        simp only [Act.put,sTA,sCZ,sCS,i64_w,i32_w]
                        rfl
                       refine pure_ (i:=18) (N:=some 14) (v:=?_) (a':=?_) #[true,true,true,true,true,true,true,true,true,true,true,true,true,true,true,true,true,true,true] rfl rfl (any_of HT_.out (by kernel_rfl)) (fun _ _ _ h=>h) (Or.inl ⟨by rfl,?_⟩) ?_ ?_
                       rotate_left
                       ·intro w'
                        go_simp
                        with_reducible rfl
                       rotate_left
                       ·simp only [Act.put,sTA,sCZ,sCS,i64_w,i32_w]
                        rfl
                       refine done_ (done_of HT_.out (by kernel_rfl)) ?_
                       try go_wp2
                       go_roundg k4
                       case measure=>have:=HK1.out;have:=HK2.out;have:=HK3.out;have:=HK4.out;omega
                       case rel=>exact ⟨(y425),(wrap64 (x15_4+2)),(by first|rfl|(simp;done)|(simp [*];done)),H',⟨by have:=HK1.out;have:=HK2.out;have:=HK3.out;have:=HK4.out;omega⟩,⟨by (with_reducible repeat (first|apply Kd.R_alloc|apply Kd.R_drewN|apply Kd.R_drew));exact Kd.R_mono HO_9.out (fun _ hk=>trivial)⟩,⟨by (with_reducible repeat (first|apply Kd.R_alloc|apply Kd.R_drewN|apply Kd.R_drew));exact Kd.R_mono HO427.out (fun _ hk=>trivial)⟩,⟨by (with_reducible repeat first|apply kN|apply kD|apply kA);exact BK379.out⟩,⟨by repeat (first|(with_reducible first|exact HB.out|apply bAl|apply bDN|apply bD1|refine bSe ?_ GE379.out|refine bSe ?_ GE415.out|refine bSe ?_ GE417.out)|exact HB.out)⟩⟩
                      ·rw [if_neg c94] at H
                       exact absurd H (by simp)
                     ·rw [if_neg c92] at H
                      exact absurd H (by simp)
                    ·rw [if_neg c91] at H
                     exact absurd H (by simp)
                  ·rw [if_neg c77] at H
                   exact absurd H (by simp)
                 ·rw [if_neg c76] at H
                  exact absurd H (by simp)
                ·rw [if_neg c74] at H
                 exact absurd H (by simp)
               ·rw [if_neg c73] at H
                exact absurd H (by simp)
             ·rw [if_neg c70] at H
              have c70b0 : decide (x15_4 < (x9_2.length : Int))=false:=decide_eq_false c70
              clear c70
              obtain rfl:=Option.some.inj H
              go_wp2
              go_ret
              exact ⟨_,by first|rfl|(simp [errW_none,errW_some] <;> rfl)|(simp [*,errW_none,errW_some] <;> rfl),by (with_reducible repeat (first|apply Kd.R_alloc|apply Kd.R_drewN|apply Kd.R_drew));exact HO_14.out,by repeat (first|(with_reducible first|exact HB.out|apply bAl|apply bDN|apply bD1|refine bSe ?_ GE379.out)|exact HB.out)⟩

end Go.Proofs.Ytjmflccbddjlhaa.PFm
