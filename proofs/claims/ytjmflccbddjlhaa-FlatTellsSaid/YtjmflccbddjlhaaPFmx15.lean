-- WRITTEN BY A PROGRAM OF THIS SESSION (wip/xprint) out of the translation. Not trusted: Lean checks it.
import Derived.Test.YtjmflccbddjlhaaPFmx0
import Derived.Test.YtjmflccbddjlhaaPFmx7
import Derived.Test.YtjmflccbddjlhaaPFmx8
import Derived.Test.YtjmflccbddjlhaaPFmx9
import Derived.Test.YtjmflccbddjlhaaPFmx12
import Derived.Test.YtjmflccbddjlhaaPFmx14
namespace Go.Proofs.Ytjmflccbddjlhaa.PFm
open Go.RowKit Go.Proofs.YtjmflccbddjlhaaW.PrintWords Go.Proofs.YtjmflccbddjlhaaW.PrintLast Go.Proofs.YtjmflccbddjlhaaW.PrintMore
attribute [local go_sem] max2_int min2_int max_two min_two max_three min_three max_four min_four   -- for this text's walks alone
set_option linter.unusedVariables false
set_option linter.unusedSimpArgs false

/-! ### versallaw17_FlatTells: function 4 -/
mutual
def versallaw17_FlatTells.j0 : Nat → Int → List (List (S36)) → Int → Int → Int → Int → Int → Int → Int → Int → Int → Int → Int → Int → Option (Bool)
 | 0,_,_,_,_,_,_,_,_,_,_,_,_,_,_=>none
 | k+1,x6,x15,x457000,x457001,x458000,x458001,x459000,x459001,x469000,x469001,x469002,x469003,x469004,x469005=>if (Int.tmod x6 7)=6 then (versallaw17_FlatTells.j1 k x6 x15 (decide ((x15.length : Int) > 0)) x457000 x457001 x458000 x458001 x459000 x459001 x469000 x469001 x469002 x469003 x469004 x469005) else (versallaw17_FlatTells.j1 k x6 x15 false x457000 x457001 x458000 x458001 x459000 x459001 x469000 x469001 x469002 x469003 x469004 x469005)
def versallaw17_FlatTells.j1 : Nat → Int → List (List (S36)) → Bool → Int → Int → Int → Int → Int → Int → Int → Int → Int → Int → Int → Int → Option (Bool)
 | 0,_,_,_,_,_,_,_,_,_,_,_,_,_,_,_=>none
 | k+1,x6,x15,x30,x457000,x457001,x458000,x458001,x459000,x459001,x469000,x469001,x469002,x469003,x469004,x469005=>if x30=true then (if 0 < (x15.length : Int) then (if 0 < ((rd_L6 x15 0).length : Int) then (versallaw17_FlatTells.j2 k (x15.set (0 : Int).toNat ((rd_L6 x15 0).set (0 : Int).toNat (⟨x6,(rd_T36 (rd_L6 x15 0) 0).f1,(rd_T36 (rd_L6 x15 0) 0).f2⟩ : S36))) x457000 x457001 x458000 x458001 x459000 x459001 x469000 x469001 x469002 x469003 x469004 x469005) else (none)) else (none)) else (versallaw17_FlatTells.j2 k x15 x457000 x457001 x458000 x458001 x459000 x459001 x469000 x469001 x469002 x469003 x469004 x469005)
def versallaw17_FlatTells.j2 : Nat → List (List (S36)) → Int → Int → Int → Int → Int → Int → Int → Int → Int → Int → Int → Int → Option (Bool)
 | 0,_,_,_,_,_,_,_,_,_,_,_,_,_=>none
 | k+1,x15,x457000,x457001,x458000,x458001,x459000,x459001,x469000,x469001,x469002,x469003,x469004,x469005=>(versallaw17_known.f k).bind fun t479=>(if t479=true then ((flat_Segs.f k x15 x469000 x469001 x469002 x469003 x469004 x469005).bind fun t480=>((versalref14_Segs.f k x15 x469000 x469001 x469002 x469003 x469004 x469005).bind fun t483=>((versalref14_SameSegs.f k t480 t483).bind fun t486=>(if t486=true then ((flat_Curve.f k x457000 x457001 x458000 x458001 x459000 x459001).bind fun t487=>((versalref14_Curve.f k x457000 x457001 x458000 x458001 x459000 x459001).bind fun t490=>((versalref14_SameSegs.f k t487 t490).bind fun t493=>(some t493)))) else (some false))))) else (some false))
end
def versallaw17_FlatTells.f (k : Nat) (l0 : List Int) (a1_0 : Int) (a1_1 : Int) (a1_2 : Int) (a1_3 : Int) (a1_4 : Int) (a1_5 : Int) (a2 : Bool) (a3_0 : Int) (a3_1 : Int) (a4_0 : Int) (a4_1 : Int) (a5_0 : Int) (a5_1 : Int) (a6 : Int) : Option (Bool):=(versalhand_Contours.f k l0).bind fun t459=>((versallaw17_affine.f a1_0 a1_1 a1_2 a1_3 a1_4 a1_5).bind fun bt462=>(if a2=true then ((versallaw17_one.f).bind fun bt469=>(versallaw17_FlatTells.j0 k a6 t459 a3_0 a3_1 a4_0 a4_1 a5_0 a5_1 bt469.1 bt469.2.1 bt469.2.2.1 bt469.2.2.2.1 bt469.2.2.2.2.1 bt469.2.2.2.2.2)) else (versallaw17_FlatTells.j0 k a6 t459 a3_0 a3_1 a4_0 a4_1 a5_0 a5_1 bt462.1 bt462.2.1 bt462.2.2.1 bt462.2.2.2.1 bt462.2.2.2.2.1 bt462.2.2.2.2.2)))
theorem versallaw17_FlatTells.mono_l : ∀ k,(∀ y0 y1 y2 y3 y4 y5 y6 y7 y8 y9 y10 y11 y12 y13,LeO (versallaw17_FlatTells.j0 k y0 y1 y2 y3 y4 y5 y6 y7 y8 y9 y10 y11 y12 y13) (versallaw17_FlatTells.j0 (k+1) y0 y1 y2 y3 y4 y5 y6 y7 y8 y9 y10 y11 y12 y13))∧(∀ y0 y1 y2 y3 y4 y5 y6 y7 y8 y9 y10 y11 y12 y13 y14,LeO (versallaw17_FlatTells.j1 k y0 y1 y2 y3 y4 y5 y6 y7 y8 y9 y10 y11 y12 y13 y14) (versallaw17_FlatTells.j1 (k+1) y0 y1 y2 y3 y4 y5 y6 y7 y8 y9 y10 y11 y12 y13 y14))∧(∀ y0 y1 y2 y3 y4 y5 y6 y7 y8 y9 y10 y11 y12,LeO (versallaw17_FlatTells.j2 k y0 y1 y2 y3 y4 y5 y6 y7 y8 y9 y10 y11 y12) (versallaw17_FlatTells.j2 (k+1) y0 y1 y2 y3 y4 y5 y6 y7 y8 y9 y10 y11 y12))
 | 0=>⟨fun _ _ _ _ _ _ _ _ _ _ _ _ _ _ r h=>by simp [versallaw17_FlatTells.j0] at h,fun _ _ _ _ _ _ _ _ _ _ _ _ _ _ _ r h=>by simp [versallaw17_FlatTells.j1] at h,fun _ _ _ _ _ _ _ _ _ _ _ _ _ r h=>by simp [versallaw17_FlatTells.j2] at h⟩
 | k+1=>by
  obtain ⟨ih0,ih1,ih2⟩:=versallaw17_FlatTells.mono_l k
  refine ⟨?_,?_,?_⟩
  ·intro y0 y1 y2 y3 y4 y5 y6 y7 y8 y9 y10 y11 y12 y13
   unfold versallaw17_FlatTells.j0
   repeat' first
   | (with_reducible exact ih0 _ _ _ _ _ _ _ _ _ _ _ _ _ _)
   | (with_reducible exact ih1 _ _ _ _ _ _ _ _ _ _ _ _ _ _ _)
   | (with_reducible exact ih2 _ _ _ _ _ _ _ _ _ _ _ _ _)
   | (with_reducible exact flat_Curve.mono _ _ _ _ _ _ _)
   | (with_reducible exact flat_Segs.mono _ _ _ _ _ _ _ _)
   | (with_reducible exact versalhand_Contours.mono _ _)
   | (with_reducible exact versallaw17_known.mono _)
   | (with_reducible exact versalref14_Curve.mono _ _ _ _ _ _ _)
   | (with_reducible exact versalref14_SameSegs.mono _ _ _)
   | (with_reducible exact versalref14_Segs.mono _ _ _ _ _ _ _ _)
   | (with_reducible exact LeO.refl _)
   | (with_reducible exact LeO.none _)
   | (with_reducible refine LeO.ite ?_ ?_)
   | (with_reducible refine LeO.bind ?_ (fun _=>?_))
   | exact ih0 _ _ _ _ _ _ _ _ _ _ _ _ _ _
   | exact ih1 _ _ _ _ _ _ _ _ _ _ _ _ _ _ _
   | exact ih2 _ _ _ _ _ _ _ _ _ _ _ _ _
   | exact flat_Curve.mono _ _ _ _ _ _ _
   | exact flat_Segs.mono _ _ _ _ _ _ _ _
   | exact versalhand_Contours.mono _ _
   | exact versallaw17_known.mono _
   | exact versalref14_Curve.mono _ _ _ _ _ _ _
   | exact versalref14_SameSegs.mono _ _ _
   | exact versalref14_Segs.mono _ _ _ _ _ _ _ _
   | exact LeO.none _
   | refine LeO.ite ?_ ?_
   | refine LeO.bind ?_ (fun _=>?_)
  ·intro y0 y1 y2 y3 y4 y5 y6 y7 y8 y9 y10 y11 y12 y13 y14
   unfold versallaw17_FlatTells.j1
   repeat' first
   | (with_reducible exact ih0 _ _ _ _ _ _ _ _ _ _ _ _ _ _)
   | (with_reducible exact ih1 _ _ _ _ _ _ _ _ _ _ _ _ _ _ _)
   | (with_reducible exact ih2 _ _ _ _ _ _ _ _ _ _ _ _ _)
   | (with_reducible exact flat_Curve.mono _ _ _ _ _ _ _)
   | (with_reducible exact flat_Segs.mono _ _ _ _ _ _ _ _)
   | (with_reducible exact versalhand_Contours.mono _ _)
   | (with_reducible exact versallaw17_known.mono _)
   | (with_reducible exact versalref14_Curve.mono _ _ _ _ _ _ _)
   | (with_reducible exact versalref14_SameSegs.mono _ _ _)
   | (with_reducible exact versalref14_Segs.mono _ _ _ _ _ _ _ _)
   | (with_reducible exact LeO.refl _)
   | (with_reducible exact LeO.none _)
   | (with_reducible refine LeO.ite ?_ ?_)
   | (with_reducible refine LeO.bind ?_ (fun _=>?_))
   | exact ih0 _ _ _ _ _ _ _ _ _ _ _ _ _ _
   | exact ih1 _ _ _ _ _ _ _ _ _ _ _ _ _ _ _
   | exact ih2 _ _ _ _ _ _ _ _ _ _ _ _ _
   | exact flat_Curve.mono _ _ _ _ _ _ _
   | exact flat_Segs.mono _ _ _ _ _ _ _ _
   | exact versalhand_Contours.mono _ _
   | exact versallaw17_known.mono _
   | exact versalref14_Curve.mono _ _ _ _ _ _ _
   | exact versalref14_SameSegs.mono _ _ _
   | exact versalref14_Segs.mono _ _ _ _ _ _ _ _
   | exact LeO.none _
   | refine LeO.ite ?_ ?_
   | refine LeO.bind ?_ (fun _=>?_)
  ·intro y0 y1 y2 y3 y4 y5 y6 y7 y8 y9 y10 y11 y12
   unfold versallaw17_FlatTells.j2
   repeat' first
   | (with_reducible exact ih0 _ _ _ _ _ _ _ _ _ _ _ _ _ _)
   | (with_reducible exact ih1 _ _ _ _ _ _ _ _ _ _ _ _ _ _ _)
   | (with_reducible exact ih2 _ _ _ _ _ _ _ _ _ _ _ _ _)
   | (with_reducible exact flat_Curve.mono _ _ _ _ _ _ _)
   | (with_reducible exact flat_Segs.mono _ _ _ _ _ _ _ _)
   | (with_reducible exact versalhand_Contours.mono _ _)
   | (with_reducible exact versallaw17_known.mono _)
   | (with_reducible exact versalref14_Curve.mono _ _ _ _ _ _ _)
   | (with_reducible exact versalref14_SameSegs.mono _ _ _)
   | (with_reducible exact versalref14_Segs.mono _ _ _ _ _ _ _ _)
   | (with_reducible exact LeO.refl _)
   | (with_reducible exact LeO.none _)
   | (with_reducible refine LeO.ite ?_ ?_)
   | (with_reducible refine LeO.bind ?_ (fun _=>?_))
   | exact ih0 _ _ _ _ _ _ _ _ _ _ _ _ _ _
   | exact ih1 _ _ _ _ _ _ _ _ _ _ _ _ _ _ _
   | exact ih2 _ _ _ _ _ _ _ _ _ _ _ _ _
   | exact flat_Curve.mono _ _ _ _ _ _ _
   | exact flat_Segs.mono _ _ _ _ _ _ _ _
   | exact versalhand_Contours.mono _ _
   | exact versallaw17_known.mono _
   | exact versalref14_Curve.mono _ _ _ _ _ _ _
   | exact versalref14_SameSegs.mono _ _ _
   | exact versalref14_Segs.mono _ _ _ _ _ _ _ _
   | exact LeO.none _
   | refine LeO.ite ?_ ?_
   | refine LeO.bind ?_ (fun _=>?_)
theorem versallaw17_FlatTells.mono : ∀ a0 a1 a2 a3 a4 a5 a6 a7 a8 a9 a10 a11 a12 a13 a14 k,LeO (versallaw17_FlatTells.f k a0 a1 a2 a3 a4 a5 a6 a7 a8 a9 a10 a11 a12 a13 a14) (versallaw17_FlatTells.f (k+1) a0 a1 a2 a3 a4 a5 a6 a7 a8 a9 a10 a11 a12 a13 a14):=by
 intro a0 a1 a2 a3 a4 a5 a6 a7 a8 a9 a10 a11 a12 a13 a14 k
 obtain ⟨ih0,ih1,ih2⟩:=versallaw17_FlatTells.mono_l k
 unfold versallaw17_FlatTells.f
 repeat' first
   | (with_reducible exact ih0 _ _ _ _ _ _ _ _ _ _ _ _ _ _)
   | (with_reducible exact ih1 _ _ _ _ _ _ _ _ _ _ _ _ _ _ _)
   | (with_reducible exact ih2 _ _ _ _ _ _ _ _ _ _ _ _ _)
   | (with_reducible exact flat_Curve.mono _ _ _ _ _ _ _)
   | (with_reducible exact flat_Segs.mono _ _ _ _ _ _ _ _)
   | (with_reducible exact versalhand_Contours.mono _ _)
   | (with_reducible exact versallaw17_known.mono _)
   | (with_reducible exact versalref14_Curve.mono _ _ _ _ _ _ _)
   | (with_reducible exact versalref14_SameSegs.mono _ _ _)
   | (with_reducible exact versalref14_Segs.mono _ _ _ _ _ _ _ _)
   | (with_reducible exact LeO.refl _)
   | (with_reducible exact LeO.none _)
   | (with_reducible refine LeO.ite ?_ ?_)
   | (with_reducible refine LeO.bind ?_ (fun _=>?_))
   | exact ih0 _ _ _ _ _ _ _ _ _ _ _ _ _ _
   | exact ih1 _ _ _ _ _ _ _ _ _ _ _ _ _ _ _
   | exact ih2 _ _ _ _ _ _ _ _ _ _ _ _ _
   | exact flat_Curve.mono _ _ _ _ _ _ _
   | exact flat_Segs.mono _ _ _ _ _ _ _ _
   | exact versalhand_Contours.mono _ _
   | exact versallaw17_known.mono _
   | exact versalref14_Curve.mono _ _ _ _ _ _ _
   | exact versalref14_SameSegs.mono _ _ _
   | exact versalref14_Segs.mono _ _ _ _ _ _ _ _
   | exact LeO.none _
   | refine LeO.ite ?_ ?_
   | refine LeO.bind ?_ (fun _=>?_)
def versallaw17_FlatTells.T7 : Bool × List (List Nat × List Nat):=(true,[([],[]),([0,0],[0]),([1],[1]),([1],[1]),([2,3,1,1],[1,2,3]),([1],[1]),([1],[1]),([5,6,4,1],[1,5,6]),([4,7,7,1],[1,4,7]),([1,8],[1,8]),([9,8],[9]),([10],[10]),([10],[10]),([10],[10]),([11,12,13,10,10],[10,11,12,13]),([10],[10]),([10],[10]),([10],[10]),([15,16,17,14,10],[10,15,16,17]),([14,18,18,10],[10,14,18]),([10,19],[10,19]),([20,19,0,1,2,3,4,5,6,7,8,9,10,11,12,13,14,15,16,17,18,19,20],[20])])
def versallaw17_FlatTells.B7 : List Nat:=[0,1,3,3,15,3,3,127,255,511,1023,2047,2047,2047,16383,2047,2047,2047,262143,524287,1048575,2097151]
theorem versallaw17_FlatTells.tab7 : rtab .any (opsOf Try.f4 7)=versallaw17_FlatTells.T7:=by kernel_rfl
theorem versallaw17_FlatTells.bits7 : waitsOk versallaw17_FlatTells.T7.2 versallaw17_FlatTells.B7=true:=by kernel_rfl
set_option maxHeartbeats 8000000 in
set_option maxRecDepth 100000 in
theorem versallaw17_FlatTells.calls (k : Nat) (A0 : Option Addr) (c0 : Nat) (l0 : List Int) (a1_0 : Int) (a1_1 : Int) (a1_2 : Int) (a1_3 : Int) (a1_4 : Int) (a1_5 : Int) (a2 : Bool) (a3_0 : Int) (a3_1 : Int) (a4_0 : Int) (a4_1 : Int) (a5_0 : Int) (a5_1 : Int) (a6 : Int) (r : Bool) (w : World) (hr0 : Kd.C (Kd.int .i64) w A0 l0.length l0) (hc0 : l0.length≤c0) (h : versallaw17_FlatTells.f k l0 a1_0 a1_1 a1_2 a1_3 a1_4 a1_5 a2 a3_0 a3_1 a4_0 a4_1 a5_0 a5_1 a6=some r) :
  Calls Try.prog 4 #[.slice A0 l0.length c0,.agg #[.int .i64 a1_0,.int .i64 a1_1,.int .i64 a1_2,.int .i64 a1_3,.int .i64 a1_4,.int .i64 a1_5],.bool a2,.agg #[.int .i64 a3_0,.int .i64 a3_1],.agg #[.int .i64 a4_0,.int .i64 a4_1],.agg #[.int .i64 a5_0,.int .i64 a5_1],.int .i64 a6] w fun e w'=>e=.returned (.bool r)∧Below w.heap.size w w':=by
 have hu23:=Try.underlying23
 have hu41:=Try.underlying41
 have hu26:=Try.underlying26
 have HR0:=amk hr0
 have HC0:=amk hc0
 clear hr0 hc0
 have HB:=amk (Below.refl w.heap.size w)
 have H : ((versalhand_Contours.f k l0).bind fun t459=>((versallaw17_affine.f a1_0 a1_1 a1_2 a1_3 a1_4 a1_5).bind fun bt462=>(if a2=true then ((versallaw17_one.f).bind fun bt469=>(versallaw17_FlatTells.j0 k a6 t459 a3_0 a3_1 a4_0 a4_1 a5_0 a5_1 bt469.1 bt469.2.1 bt469.2.2.1 bt469.2.2.2.1 bt469.2.2.2.2.1 bt469.2.2.2.2.2)) else (versallaw17_FlatTells.j0 k a6 t459 a3_0 a3_1 a4_0 a4_1 a5_0 a5_1 bt462.1 bt462.2.1 bt462.2.2.1 bt462.2.2.2.1 bt462.2.2.2.2.1 bt462.2.2.2.2.2))))=some r:=h
 clear h
 replace H:=Option.bind_eq_some_iff.mp H
 obtain ⟨t459,A80,H⟩:=H
 replace H : ((versallaw17_affine.f a1_0 a1_1 a1_2 a1_3 a1_4 a1_5).bind fun bt462=>(if a2=true then ((versallaw17_one.f).bind fun bt469=>(versallaw17_FlatTells.j0 k a6 t459 a3_0 a3_1 a4_0 a4_1 a5_0 a5_1 bt469.1 bt469.2.1 bt469.2.2.1 bt469.2.2.2.1 bt469.2.2.2.2.1 bt469.2.2.2.2.2)) else (versallaw17_FlatTells.j0 k a6 t459 a3_0 a3_1 a4_0 a4_1 a5_0 a5_1 bt462.1 bt462.2.1 bt462.2.2.1 bt462.2.2.2.1 bt462.2.2.2.2.1 bt462.2.2.2.2.2)))=some r:=H
 have A8:=amk A80
 clear A80
 replace H:=Option.bind_eq_some_iff.mp H
 obtain ⟨⟨t462,t463,t464,t465,t466,t467⟩,A90,H⟩:=H
 replace H : (if a2=true then ((versallaw17_one.f).bind fun bt469=>(versallaw17_FlatTells.j0 k a6 t459 a3_0 a3_1 a4_0 a4_1 a5_0 a5_1 bt469.1 bt469.2.1 bt469.2.2.1 bt469.2.2.2.1 bt469.2.2.2.2.1 bt469.2.2.2.2.2)) else (versallaw17_FlatTells.j0 k a6 t459 a3_0 a3_1 a4_0 a4_1 a5_0 a5_1 t462 t463 t464 t465 t466 t467))=some r:=H
 have A9:=amk A90
 clear A90
 have HC10:=amk H
 clear H
 go_enter Try.func4,Try.ntmps4
 go_upto_if 21 with (first|((with_reducible refine gate_dst (N:=8) rfl ?_);(try (refine gate_guard (by rfl) ?_;dsimp only));refine box_event ?hg (N:=8) ?hd (cs:=#[.int .i64 a1_0,.int .i64 a1_1,.int .i64 a1_2,.int .i64 a1_3,.int .i64 a1_4,.int .i64 a1_5]) (t:=23) ?hr ?_;(case hd=>rfl);(case hg=>rfl);(case hr=>first|(go_simp;done)|(go_simp;rfl));intro gb455 hg w11 hbox hb;have n0_:=amk (below_step (by repeat (first|(with_reducible first|exact HB.out|apply bAl|apply bDN|apply bD1)|exact HB.out)) hb);have n1_:=amk (hbox);have n2_:=amk ((by rw [hg];exact (below_size (by repeat (first|(with_reducible first|exact HB.out|apply bAl|apply bDN|apply bD1)|exact HB.out))) : w.heap.size≤gb455));have n3_:=amk ((by rw [hg];exact (below_size (by repeat (first|(with_reducible first|exact HB.out|apply bAl|apply bDN|apply bD1)|exact HB.out))) : w.heap.size≤gb455));clear HB;have HB:=n0_;have BK455:=n1_;have GW455:=n2_;have GE455:=n3_;clear n0_ n1_ n2_ n3_;clear hb hbox hg)|((with_reducible refine gate_dst (N:=10) rfl ?_);(try (refine gate_guard (by rfl) ?_;dsimp only));refine box_event ?hg (N:=10) ?hd (cs:=#[.int .i64 a3_0,.int .i64 a3_1]) (t:=41) ?hr ?_;(case hd=>rfl);(case hg=>rfl);(case hr=>first|(go_simp;done)|(go_simp;rfl));intro gb456 hg w12 hbox hb;have n0_:=amk (blk_below (g:=gb455) (o:=.cells #[.int .i64 a1_0,.int .i64 a1_1,.int .i64 a1_2,.int .i64 a1_3,.int .i64 a1_4,.int .i64 a1_5] 23 (0,0)) (by (with_reducible repeat first|apply kN|apply kD|apply kA);exact BK455.out) hb);have n1_:=amk (below_step (by repeat (first|(with_reducible first|exact HB.out|apply bAl|apply bDN|apply bD1|refine bSe ?_ GE455.out)|exact HB.out)) hb);have n2_:=amk (hbox);have n3_:=amk ((by rw [hg];exact (below_size (by repeat (first|(with_reducible first|exact HB.out|apply bAl|apply bDN|apply bD1|refine bSe ?_ GE455.out)|exact HB.out))) : w.heap.size≤gb456));have n4_:=amk ((by rw [hg];exact (below_size (by repeat (first|(with_reducible first|exact HB.out|apply bAl|apply bDN|apply bD1|refine bSe ?_ GE455.out)|exact HB.out))) : w.heap.size≤gb456));have n5_:=amk ((by rw [hg];exact Nat.ne_of_lt (blk_lt (g:=gb455) (o:=.cells #[.int .i64 a1_0,.int .i64 a1_1,.int .i64 a1_2,.int .i64 a1_3,.int .i64 a1_4,.int .i64 a1_5] 23 (0,0)) (by (with_reducible repeat first|apply kN|apply kD|apply kA);exact BK455.out)) : gb455 ≠ gb456));have n6_:=amk ((by rw [hg];exact Nat.ne_of_gt (blk_lt (g:=gb455) (o:=.cells #[.int .i64 a1_0,.int .i64 a1_1,.int .i64 a1_2,.int .i64 a1_3,.int .i64 a1_4,.int .i64 a1_5] 23 (0,0)) (by (with_reducible repeat first|apply kN|apply kD|apply kA);exact BK455.out)) : gb456 ≠ gb455));clear BK455;clear HB;have BK455:=n0_;have HB:=n1_;have BK456:=n2_;have GW456:=n3_;have GE456:=n4_;have NB455_456:=n5_;have NB456_455:=n6_;clear n0_ n1_ n2_ n3_ n4_ n5_ n6_;clear hb hbox hg)|((with_reducible refine gate_dst (N:=11) rfl ?_);(try (refine gate_guard (by rfl) ?_;dsimp only));refine box_event ?hg (N:=11) ?hd (cs:=#[.int .i64 a4_0,.int .i64 a4_1]) (t:=41) ?hr ?_;(case hd=>rfl);(case hg=>rfl);(case hr=>first|(go_simp;done)|(go_simp;rfl));intro gb457 hg w13 hbox hb;have n0_:=amk (blk_below (g:=gb455) (o:=.cells #[.int .i64 a1_0,.int .i64 a1_1,.int .i64 a1_2,.int .i64 a1_3,.int .i64 a1_4,.int .i64 a1_5] 23 (0,0)) (by (with_reducible repeat first|apply kN|apply kD|apply kA);exact BK455.out) hb);have n1_:=amk (blk_below (g:=gb456) (o:=.cells #[.int .i64 a3_0,.int .i64 a3_1] 41 (0,0)) (by (with_reducible repeat first|apply kN|apply kD|apply kA);exact BK456.out) hb);have n2_:=amk (below_step (by repeat (first|(with_reducible first|exact HB.out|apply bAl|apply bDN|apply bD1|refine bSe ?_ GE455.out|refine bSe ?_ GE456.out)|exact HB.out)) hb);have n3_:=amk (hbox);have n4_:=amk ((by rw [hg];exact (below_size (by repeat (first|(with_reducible first|exact HB.out|apply bAl|apply bDN|apply bD1|refine bSe ?_ GE455.out|refine bSe ?_ GE456.out)|exact HB.out))) : w.heap.size≤gb457));have n5_:=amk ((by rw [hg];exact (below_size (by repeat (first|(with_reducible first|exact HB.out|apply bAl|apply bDN|apply bD1|refine bSe ?_ GE455.out|refine bSe ?_ GE456.out)|exact HB.out))) : w.heap.size≤gb457));have n6_:=amk ((by rw [hg];exact Nat.ne_of_lt (blk_lt (g:=gb455) (o:=.cells #[.int .i64 a1_0,.int .i64 a1_1,.int .i64 a1_2,.int .i64 a1_3,.int .i64 a1_4,.int .i64 a1_5] 23 (0,0)) (by (with_reducible repeat first|apply kN|apply kD|apply kA);exact BK455.out)) : gb455 ≠ gb457));have n7_:=amk ((by rw [hg];exact Nat.ne_of_gt (blk_lt (g:=gb455) (o:=.cells #[.int .i64 a1_0,.int .i64 a1_1,.int .i64 a1_2,.int .i64 a1_3,.int .i64 a1_4,.int .i64 a1_5] 23 (0,0)) (by (with_reducible repeat first|apply kN|apply kD|apply kA);exact BK455.out)) : gb457 ≠ gb455));have n8_:=amk ((by rw [hg];exact Nat.ne_of_lt (blk_lt (g:=gb456) (o:=.cells #[.int .i64 a3_0,.int .i64 a3_1] 41 (0,0)) (by (with_reducible repeat first|apply kN|apply kD|apply kA);exact BK456.out)) : gb456 ≠ gb457));have n9_:=amk ((by rw [hg];exact Nat.ne_of_gt (blk_lt (g:=gb456) (o:=.cells #[.int .i64 a3_0,.int .i64 a3_1] 41 (0,0)) (by (with_reducible repeat first|apply kN|apply kD|apply kA);exact BK456.out)) : gb457 ≠ gb456));clear BK455;clear BK456;clear HB;have BK455:=n0_;have BK456:=n1_;have HB:=n2_;have BK457:=n3_;have GW457:=n4_;have GE457:=n5_;have NB455_457:=n6_;have NB457_455:=n7_;have NB456_457:=n8_;have NB457_456:=n9_;clear n0_ n1_ n2_ n3_ n4_ n5_ n6_ n7_ n8_ n9_;clear hb hbox hg)|((with_reducible refine gate_dst (N:=12) rfl ?_);(try (refine gate_guard (by rfl) ?_;dsimp only));refine box_event ?hg (N:=12) ?hd (cs:=#[.int .i64 a5_0,.int .i64 a5_1]) (t:=41) ?hr ?_;(case hd=>rfl);(case hg=>rfl);(case hr=>first|(go_simp;done)|(go_simp;rfl));intro gb458 hg w14 hbox hb;have n0_:=amk (blk_below (g:=gb455) (o:=.cells #[.int .i64 a1_0,.int .i64 a1_1,.int .i64 a1_2,.int .i64 a1_3,.int .i64 a1_4,.int .i64 a1_5] 23 (0,0)) (by (with_reducible repeat first|apply kN|apply kD|apply kA);exact BK455.out) hb);have n1_:=amk (blk_below (g:=gb456) (o:=.cells #[.int .i64 a3_0,.int .i64 a3_1] 41 (0,0)) (by (with_reducible repeat first|apply kN|apply kD|apply kA);exact BK456.out) hb);have n2_:=amk (blk_below (g:=gb457) (o:=.cells #[.int .i64 a4_0,.int .i64 a4_1] 41 (0,0)) (by (with_reducible repeat first|apply kN|apply kD|apply kA);exact BK457.out) hb);have n3_:=amk (below_step (by repeat (first|(with_reducible first|exact HB.out|apply bAl|apply bDN|apply bD1|refine bSe ?_ GE455.out|refine bSe ?_ GE456.out|refine bSe ?_ GE457.out)|exact HB.out)) hb);have n4_:=amk (hbox);have n5_:=amk ((by rw [hg];exact (below_size (by repeat (first|(with_reducible first|exact HB.out|apply bAl|apply bDN|apply bD1|refine bSe ?_ GE455.out|refine bSe ?_ GE456.out|refine bSe ?_ GE457.out)|exact HB.out))) : w.heap.size≤gb458));have n6_:=amk ((by rw [hg];exact (below_size (by repeat (first|(with_reducible first|exact HB.out|apply bAl|apply bDN|apply bD1|refine bSe ?_ GE455.out|refine bSe ?_ GE456.out|refine bSe ?_ GE457.out)|exact HB.out))) : w.heap.size≤gb458));have n7_:=amk ((by rw [hg];exact Nat.ne_of_lt (blk_lt (g:=gb455) (o:=.cells #[.int .i64 a1_0,.int .i64 a1_1,.int .i64 a1_2,.int .i64 a1_3,.int .i64 a1_4,.int .i64 a1_5] 23 (0,0)) (by (with_reducible repeat first|apply kN|apply kD|apply kA);exact BK455.out)) : gb455 ≠ gb458));have n8_:=amk ((by rw [hg];exact Nat.ne_of_gt (blk_lt (g:=gb455) (o:=.cells #[.int .i64 a1_0,.int .i64 a1_1,.int .i64 a1_2,.int .i64 a1_3,.int .i64 a1_4,.int .i64 a1_5] 23 (0,0)) (by (with_reducible repeat first|apply kN|apply kD|apply kA);exact BK455.out)) : gb458 ≠ gb455));have n9_:=amk ((by rw [hg];exact Nat.ne_of_lt (blk_lt (g:=gb456) (o:=.cells #[.int .i64 a3_0,.int .i64 a3_1] 41 (0,0)) (by (with_reducible repeat first|apply kN|apply kD|apply kA);exact BK456.out)) : gb456 ≠ gb458));have n10_:=amk ((by rw [hg];exact Nat.ne_of_gt (blk_lt (g:=gb456) (o:=.cells #[.int .i64 a3_0,.int .i64 a3_1] 41 (0,0)) (by (with_reducible repeat first|apply kN|apply kD|apply kA);exact BK456.out)) : gb458 ≠ gb456));have n11_:=amk ((by rw [hg];exact Nat.ne_of_lt (blk_lt (g:=gb457) (o:=.cells #[.int .i64 a4_0,.int .i64 a4_1] 41 (0,0)) (by (with_reducible repeat first|apply kN|apply kD|apply kA);exact BK457.out)) : gb457 ≠ gb458));have n12_:=amk ((by rw [hg];exact Nat.ne_of_gt (blk_lt (g:=gb457) (o:=.cells #[.int .i64 a4_0,.int .i64 a4_1] 41 (0,0)) (by (with_reducible repeat first|apply kN|apply kD|apply kA);exact BK457.out)) : gb458 ≠ gb457));clear BK455;clear BK456;clear BK457;clear HB;have BK455:=n0_;have BK456:=n1_;have BK457:=n2_;have HB:=n3_;have BK458:=n4_;have GW458:=n5_;have GE458:=n6_;have NB455_458:=n7_;have NB458_455:=n8_;have NB456_458:=n9_;have NB458_456:=n10_;have NB457_458:=n11_;have NB458_457:=n12_;clear n0_ n1_ n2_ n3_ n4_ n5_ n6_ n7_ n8_ n9_ n10_ n11_ n12_;clear hb hbox hg)|((with_reducible refine gate_callee (f:=9) rfl ?_);refine goesL_ (some 18) rfl rfl Try.func9 (by kernel_rfl) rfl #[.slice A0 l0.length c0] rfl (by (try simp only [List.map_toArray,List.map_cons,List.map_nil]);first|done|rfl|(simp only [List.length_drop,List.length_take];rfl)) ?_;(with_reducible refine (versalhand_Contours.calls k _ _ l0 t459 _ ?side1 ?side2 A8.out).mono ?_);(case side1=>repeat (first|exact (Kd.C_below HR0.out HB.out)|(with_reducible refine Kd.C_alloc ?_ _)|(with_reducible refine Kd.C_drewN ?_ _)|(with_reducible refine Kd.C_drew ?_)));(case side2=>exact HC0.out);rintro e w15 ⟨v460,rfl,ho0,hb⟩;refine ⟨_,rfl,?_⟩;have n0_:=amk (Kd.S_lower ho0 (below_size (by repeat (first|(with_reducible first|exact HB.out|apply bAl|apply bDN|apply bD1|refine bSe ?_ GE455.out|refine bSe ?_ GE456.out|refine bSe ?_ GE457.out|refine bSe ?_ GE458.out)|exact HB.out))));have n1_:=amk (blk_below (g:=gb455) (o:=.cells #[.int .i64 a1_0,.int .i64 a1_1,.int .i64 a1_2,.int .i64 a1_3,.int .i64 a1_4,.int .i64 a1_5] 23 (0,0)) (by (with_reducible repeat first|apply kN|apply kD|apply kA);exact BK455.out) hb);have n2_:=amk (blk_below (g:=gb456) (o:=.cells #[.int .i64 a3_0,.int .i64 a3_1] 41 (0,0)) (by (with_reducible repeat first|apply kN|apply kD|apply kA);exact BK456.out) hb);have n3_:=amk (blk_below (g:=gb457) (o:=.cells #[.int .i64 a4_0,.int .i64 a4_1] 41 (0,0)) (by (with_reducible repeat first|apply kN|apply kD|apply kA);exact BK457.out) hb);have n4_:=amk (blk_below (g:=gb458) (o:=.cells #[.int .i64 a5_0,.int .i64 a5_1] 41 (0,0)) (by (with_reducible repeat first|apply kN|apply kD|apply kA);exact BK458.out) hb);have n5_:=amk (below_step (by repeat (first|(with_reducible first|exact HB.out|apply bAl|apply bDN|apply bD1|refine bSe ?_ GE455.out|refine bSe ?_ GE456.out|refine bSe ?_ GE457.out|refine bSe ?_ GE458.out)|exact HB.out)) hb);clear BK455;clear BK456;clear BK457;clear BK458;clear HB;have HO461:=n0_;have BK455:=n1_;have BK456:=n2_;have BK457:=n3_;have BK458:=n4_;have HB:=n5_;clear n0_ n1_ n2_ n3_ n4_ n5_;(try clear hb);(try clear hb2);(try clear hk);(try clear hi);(try clear ho0);have hnb16:=NB455_456.out;have hnc16:=NB456_455.out;have hnb17:=NB455_457.out;have hnc17:=NB457_455.out;have hnb18:=NB455_458.out;have hnc18:=NB458_455.out;have hcz19_0 : w15.cell? ⟨gb455,0,none⟩=some (.int .i64 a1_0):=(blk_cell BK455.out 0).trans rfl;have hcz19_1 : w15.cell? ⟨gb455,1,none⟩=some (.int .i64 a1_1):=(blk_cell BK455.out 1).trans rfl;have hcz19_2 : w15.cell? ⟨gb455,2,none⟩=some (.int .i64 a1_2):=(blk_cell BK455.out 2).trans rfl;have hcz19_3 : w15.cell? ⟨gb455,3,none⟩=some (.int .i64 a1_3):=(blk_cell BK455.out 3).trans rfl;have hcz19_4 : w15.cell? ⟨gb455,4,none⟩=some (.int .i64 a1_4):=(blk_cell BK455.out 4).trans rfl;have hcz19_5 : w15.cell? ⟨gb455,5,none⟩=some (.int .i64 a1_5):=(blk_cell BK455.out 5).trans rfl;have hfz19_0:=blk_frozen BK455.out 0;have hfz19_1:=blk_frozen BK455.out 1;have hfz19_2:=blk_frozen BK455.out 2;have hfz19_3:=blk_frozen BK455.out 3;have hfz19_4:=blk_frozen BK455.out 4;have hfz19_5:=blk_frozen BK455.out 5)|((with_reducible refine gate_callee (f:=8) rfl ?_);refine goesL_ (some 20) rfl rfl Try.func8 (by kernel_rfl) rfl #[.agg #[.int .i64 a1_0,.int .i64 a1_1,.int .i64 a1_2,.int .i64 a1_3,.int .i64 a1_4,.int .i64 a1_5]] rfl (by (try simp only [List.map_toArray,List.map_cons,List.map_nil]);first|done|rfl|(simp only [List.length_drop,List.length_take];rfl)) ?_;(with_reducible refine (versallaw17_affine.calls a1_0 a1_1 a1_2 a1_3 a1_4 a1_5 t462 t463 t464 t465 t466 t467 _ A9.out).mono ?_);rintro e w20 ⟨rfl,hb⟩;refine ⟨_,rfl,?_⟩;have n0_:=amk (Kd.S_below (by (with_reducible repeat (first|apply Kd.S_alloc|apply Kd.S_drewN|apply Kd.S_drew));exact HO461.out) hb);have n1_:=amk (blk_below (g:=gb455) (o:=.cells #[.int .i64 a1_0,.int .i64 a1_1,.int .i64 a1_2,.int .i64 a1_3,.int .i64 a1_4,.int .i64 a1_5] 23 (0,0)) (by (with_reducible repeat first|apply kN|apply kD|apply kA);exact BK455.out) hb);have n2_:=amk (blk_below (g:=gb456) (o:=.cells #[.int .i64 a3_0,.int .i64 a3_1] 41 (0,0)) (by (with_reducible repeat first|apply kN|apply kD|apply kA);exact BK456.out) hb);have n3_:=amk (blk_below (g:=gb457) (o:=.cells #[.int .i64 a4_0,.int .i64 a4_1] 41 (0,0)) (by (with_reducible repeat first|apply kN|apply kD|apply kA);exact BK457.out) hb);have n4_:=amk (blk_below (g:=gb458) (o:=.cells #[.int .i64 a5_0,.int .i64 a5_1] 41 (0,0)) (by (with_reducible repeat first|apply kN|apply kD|apply kA);exact BK458.out) hb);have n5_:=amk (below_step (by repeat (first|(with_reducible first|exact HB.out|apply bAl|apply bDN|apply bD1|refine bSe ?_ GE455.out|refine bSe ?_ GE456.out|refine bSe ?_ GE457.out|refine bSe ?_ GE458.out)|exact HB.out)) hb);clear HO461;clear BK455;clear BK456;clear BK457;clear BK458;clear HB;have HO461:=n0_;have BK455:=n1_;have BK456:=n2_;have BK457:=n3_;have BK458:=n4_;have HB:=n5_;clear n0_ n1_ n2_ n3_ n4_ n5_;(try clear hb);(try clear hb2);(try clear hk);(try clear hi))|((with_reducible refine gate_dst (N:=16) rfl ?_);(try (refine gate_guard (by rfl) ?_;dsimp only));refine box_event ?hg (N:=16) ?hd (cs:=#[.int .i64 0,.int .i64 0,.int .i64 0,.int .i64 0,.int .i64 0,.int .i64 0]) (t:=26) ?hr ?_;(case hd=>rfl);(case hg=>rfl);(case hr=>first|(go_simp;done)|(go_simp;rfl));intro gb468 hg w21 hbox hb;have n0_:=amk (Kd.S_below (by (with_reducible repeat (first|apply Kd.S_alloc|apply Kd.S_drewN|apply Kd.S_drew));exact HO461.out) hb);have n1_:=amk (blk_below (g:=gb455) (o:=.cells #[.int .i64 a1_0,.int .i64 a1_1,.int .i64 a1_2,.int .i64 a1_3,.int .i64 a1_4,.int .i64 a1_5] 23 (0,0)) (by (with_reducible repeat first|apply kN|apply kD|apply kA);exact BK455.out) hb);have n2_:=amk (blk_below (g:=gb456) (o:=.cells #[.int .i64 a3_0,.int .i64 a3_1] 41 (0,0)) (by (with_reducible repeat first|apply kN|apply kD|apply kA);exact BK456.out) hb);have n3_:=amk (blk_below (g:=gb457) (o:=.cells #[.int .i64 a4_0,.int .i64 a4_1] 41 (0,0)) (by (with_reducible repeat first|apply kN|apply kD|apply kA);exact BK457.out) hb);have n4_:=amk (blk_below (g:=gb458) (o:=.cells #[.int .i64 a5_0,.int .i64 a5_1] 41 (0,0)) (by (with_reducible repeat first|apply kN|apply kD|apply kA);exact BK458.out) hb);have n5_:=amk (below_step (by repeat (first|(with_reducible first|exact HB.out|apply bAl|apply bDN|apply bD1|refine bSe ?_ GE455.out|refine bSe ?_ GE456.out|refine bSe ?_ GE457.out|refine bSe ?_ GE458.out)|exact HB.out)) hb);have n6_:=amk (hbox);have n7_:=amk ((by rw [hg];exact (below_size (by repeat (first|(with_reducible first|exact HB.out|apply bAl|apply bDN|apply bD1|refine bSe ?_ GE455.out|refine bSe ?_ GE456.out|refine bSe ?_ GE457.out|refine bSe ?_ GE458.out)|exact HB.out))) : w.heap.size≤gb468));have n8_:=amk ((by rw [hg];exact (below_size (by repeat (first|(with_reducible first|exact HB.out|apply bAl|apply bDN|apply bD1|refine bSe ?_ GE455.out|refine bSe ?_ GE456.out|refine bSe ?_ GE457.out|refine bSe ?_ GE458.out)|exact HB.out))) : w.heap.size≤gb468));have n9_:=amk ((by rw [hg];exact Nat.ne_of_lt (blk_lt (g:=gb455) (o:=.cells #[.int .i64 a1_0,.int .i64 a1_1,.int .i64 a1_2,.int .i64 a1_3,.int .i64 a1_4,.int .i64 a1_5] 23 (0,0)) (by (with_reducible repeat first|apply kN|apply kD|apply kA);exact BK455.out)) : gb455 ≠ gb468));have n10_:=amk ((by rw [hg];exact Nat.ne_of_gt (blk_lt (g:=gb455) (o:=.cells #[.int .i64 a1_0,.int .i64 a1_1,.int .i64 a1_2,.int .i64 a1_3,.int .i64 a1_4,.int .i64 a1_5] 23 (0,0)) (by (with_reducible repeat first|apply kN|apply kD|apply kA);exact BK455.out)) : gb468 ≠ gb455));have n11_:=amk ((by rw [hg];exact Nat.ne_of_lt (blk_lt (g:=gb456) (o:=.cells #[.int .i64 a3_0,.int .i64 a3_1] 41 (0,0)) (by (with_reducible repeat first|apply kN|apply kD|apply kA);exact BK456.out)) : gb456 ≠ gb468));have n12_:=amk ((by rw [hg];exact Nat.ne_of_gt (blk_lt (g:=gb456) (o:=.cells #[.int .i64 a3_0,.int .i64 a3_1] 41 (0,0)) (by (with_reducible repeat first|apply kN|apply kD|apply kA);exact BK456.out)) : gb468 ≠ gb456));have n13_:=amk ((by rw [hg];exact Nat.ne_of_lt (blk_lt (g:=gb457) (o:=.cells #[.int .i64 a4_0,.int .i64 a4_1] 41 (0,0)) (by (with_reducible repeat first|apply kN|apply kD|apply kA);exact BK457.out)) : gb457 ≠ gb468));have n14_:=amk ((by rw [hg];exact Nat.ne_of_gt (blk_lt (g:=gb457) (o:=.cells #[.int .i64 a4_0,.int .i64 a4_1] 41 (0,0)) (by (with_reducible repeat first|apply kN|apply kD|apply kA);exact BK457.out)) : gb468 ≠ gb457));have n15_:=amk ((by rw [hg];exact Nat.ne_of_lt (blk_lt (g:=gb458) (o:=.cells #[.int .i64 a5_0,.int .i64 a5_1] 41 (0,0)) (by (with_reducible repeat first|apply kN|apply kD|apply kA);exact BK458.out)) : gb458 ≠ gb468));have n16_:=amk ((by rw [hg];exact Nat.ne_of_gt (blk_lt (g:=gb458) (o:=.cells #[.int .i64 a5_0,.int .i64 a5_1] 41 (0,0)) (by (with_reducible repeat first|apply kN|apply kD|apply kA);exact BK458.out)) : gb468 ≠ gb458));clear HO461;clear BK455;clear BK456;clear BK457;clear BK458;clear HB;have HO461:=n0_;have BK455:=n1_;have BK456:=n2_;have BK457:=n3_;have BK458:=n4_;have HB:=n5_;have BK468:=n6_;have GW468:=n7_;have GE468:=n8_;have NB455_468:=n9_;have NB468_455:=n10_;have NB456_468:=n11_;have NB468_456:=n12_;have NB457_468:=n13_;have NB468_457:=n14_;have NB458_468:=n15_;have NB468_458:=n16_;clear n0_ n1_ n2_ n3_ n4_ n5_ n6_ n7_ n8_ n9_ n10_ n11_ n12_ n13_ n14_ n15_ n16_;clear hb hbox hg;have hnb22:=NB468_455.out;have hnc22:=NB455_468.out;have hnb23:=NB468_456.out;have hnc23:=NB456_468.out;have hnb24:=NB468_457.out;have hnc24:=NB457_468.out;have hnb25:=NB468_458.out;have hnc25:=NB458_468.out;have hcz26_0 : w21.cell? ⟨gb468,0,none⟩=some (.int .i64 0):=(blk_cell BK468.out 0).trans rfl;have hcz26_1 : w21.cell? ⟨gb468,1,none⟩=some (.int .i64 0):=(blk_cell BK468.out 1).trans rfl;have hcz26_2 : w21.cell? ⟨gb468,2,none⟩=some (.int .i64 0):=(blk_cell BK468.out 2).trans rfl;have hcz26_3 : w21.cell? ⟨gb468,3,none⟩=some (.int .i64 0):=(blk_cell BK468.out 3).trans rfl;have hcz26_4 : w21.cell? ⟨gb468,4,none⟩=some (.int .i64 0):=(blk_cell BK468.out 4).trans rfl;have hcz26_5 : w21.cell? ⟨gb468,5,none⟩=some (.int .i64 0):=(blk_cell BK468.out 5).trans rfl;have hfz26_0:=blk_frozen BK468.out 0;have hfz26_1:=blk_frozen BK468.out 1;have hfz26_2:=blk_frozen BK468.out 2;have hfz26_3:=blk_frozen BK468.out 3;have hfz26_4:=blk_frozen BK468.out 4;have hfz26_5:=blk_frozen BK468.out 5))
 (try simp only [Act.put,sTA,sCZ,sCS])
 go_cut [] (fun wc=>∃ (kq : Nat) (x469000_9 : Int) (x469001_9 : Int) (x469002_9 : Int) (x469003_9 : Int) (x469004_9 : Int) (x469005_9 : Int),Aside0 (versallaw17_FlatTells.j0 kq a6 t459 a3_0 a3_1 a4_0 a4_1 a5_0 a5_1 x469000_9 x469001_9 x469002_9 x469003_9 x469004_9 x469005_9=some r)∧Aside0 (kq≤k)∧Aside0 (Kd.S (Kd.slice 36 k36) 30 wc w.heap.size (fun _=>True) v460 t459)∧Aside0 (wc.heap[gb455]?=some (.cells #[.int .i64 a1_0,.int .i64 a1_1,.int .i64 a1_2,.int .i64 a1_3,.int .i64 a1_4,.int .i64 a1_5] 23 (0,0)))∧Aside0 (wc.heap[gb456]?=some (.cells #[.int .i64 a3_0,.int .i64 a3_1] 41 (0,0)))∧Aside0 (wc.heap[gb457]?=some (.cells #[.int .i64 a4_0,.int .i64 a4_1] 41 (0,0)))∧Aside0 (wc.heap[gb458]?=some (.cells #[.int .i64 a5_0,.int .i64 a5_1] 41 (0,0)))∧Aside0 (wc.heap[gb468]?=some (.cells #[.int .i64 x469000_9,.int .i64 x469001_9,.int .i64 x469002_9,.int .i64 x469003_9,.int .i64 x469004_9,.int .i64 x469005_9] 26 (0,0)))∧Aside0 (Below w.heap.size w wc))
 case first =>
  have H:=HC10.out
  clear HC10
  by_cases c27 : a2=true
  ·subst c27
   have H1 : ((versallaw17_one.f).bind fun bt469=>(versallaw17_FlatTells.j0 k a6 t459 a3_0 a3_1 a4_0 a4_1 a5_0 a5_1 bt469.1 bt469.2.1 bt469.2.2.1 bt469.2.2.2.1 bt469.2.2.2.2.1 bt469.2.2.2.2.2))=some r:=by rw [if_pos rfl] at H;exact H
   clear H
   have H:=H1
   clear H1
   replace H:=Option.bind_eq_some_iff.mp H
   obtain ⟨⟨t469,t470,t471,t472,t473,t474⟩,A280,H⟩:=H
   replace H : (versallaw17_FlatTells.j0 k a6 t459 a3_0 a3_1 a4_0 a4_1 a5_0 a5_1 t469 t470 t471 t472 t473 t474)=some r:=H
   have A28:=amk A280
   clear A280
   have H':=amk H
   clear H
   go_wp2_with (first|((with_reducible refine gate_callee (f:=13) rfl ?_);refine goesL_ (some 22) rfl rfl Try.func13 (by kernel_rfl) rfl #[] rfl (by (try simp only [List.map_toArray,List.map_cons,List.map_nil]);first|done|rfl|(simp only [List.length_drop,List.length_take];rfl)) ?_;(with_reducible refine (versallaw17_one.calls  t469 t470 t471 t472 t473 t474 _ A28.out).mono ?_);rintro e w29 ⟨rfl,hb⟩;refine ⟨_,rfl,?_⟩;have n0_:=amk (Kd.S_below (by (with_reducible repeat (first|apply Kd.S_alloc|apply Kd.S_drewN|apply Kd.S_drew));exact (Kd.S_mono (Kd.S_far (p:=⟨gb468,5,none⟩) (Kd.S_far (p:=⟨gb468,4,none⟩) (Kd.S_far (p:=⟨gb468,3,none⟩) (Kd.S_far (p:=⟨gb468,2,none⟩) (Kd.S_far (p:=⟨gb468,1,none⟩) (Kd.S_far (p:=⟨gb468,0,none⟩) (Kd.S_types HO461.out BK468.out (by decide)) (fun _ hk=>hk.2) (.int .i64 t462)) (fun _ hk=>hk.2) (.int .i64 t463)) (fun _ hk=>hk.2) (.int .i64 t464)) (fun _ hk=>hk.2) (.int .i64 t465)) (fun _ hk=>hk.2) (.int .i64 t466)) (fun _ hk=>hk.2) (.int .i64 t467)) (fun _ h_=>h_.1))) hb);have n1_:=amk (blk_below (g:=gb455) (o:=.cells #[.int .i64 a1_0,.int .i64 a1_1,.int .i64 a1_2,.int .i64 a1_3,.int .i64 a1_4,.int .i64 a1_5] 23 (0,0)) (by (with_reducible repeat first|apply kN|apply kD|apply kA);refine blk_far ?_ NB455_468.out _;(with_reducible repeat first|apply kN|apply kD|apply kA);refine blk_far ?_ NB455_468.out _;(with_reducible repeat first|apply kN|apply kD|apply kA);refine blk_far ?_ NB455_468.out _;(with_reducible repeat first|apply kN|apply kD|apply kA);refine blk_far ?_ NB455_468.out _;(with_reducible repeat first|apply kN|apply kD|apply kA);refine blk_far ?_ NB455_468.out _;(with_reducible repeat first|apply kN|apply kD|apply kA);refine blk_far ?_ NB455_468.out _;(with_reducible repeat first|apply kN|apply kD|apply kA);exact BK455.out) hb);have n2_:=amk (blk_below (g:=gb456) (o:=.cells #[.int .i64 a3_0,.int .i64 a3_1] 41 (0,0)) (by (with_reducible repeat first|apply kN|apply kD|apply kA);refine blk_far ?_ NB456_468.out _;(with_reducible repeat first|apply kN|apply kD|apply kA);refine blk_far ?_ NB456_468.out _;(with_reducible repeat first|apply kN|apply kD|apply kA);refine blk_far ?_ NB456_468.out _;(with_reducible repeat first|apply kN|apply kD|apply kA);refine blk_far ?_ NB456_468.out _;(with_reducible repeat first|apply kN|apply kD|apply kA);refine blk_far ?_ NB456_468.out _;(with_reducible repeat first|apply kN|apply kD|apply kA);refine blk_far ?_ NB456_468.out _;(with_reducible repeat first|apply kN|apply kD|apply kA);exact BK456.out) hb);have n3_:=amk (blk_below (g:=gb457) (o:=.cells #[.int .i64 a4_0,.int .i64 a4_1] 41 (0,0)) (by (with_reducible repeat first|apply kN|apply kD|apply kA);refine blk_far ?_ NB457_468.out _;(with_reducible repeat first|apply kN|apply kD|apply kA);refine blk_far ?_ NB457_468.out _;(with_reducible repeat first|apply kN|apply kD|apply kA);refine blk_far ?_ NB457_468.out _;(with_reducible repeat first|apply kN|apply kD|apply kA);refine blk_far ?_ NB457_468.out _;(with_reducible repeat first|apply kN|apply kD|apply kA);refine blk_far ?_ NB457_468.out _;(with_reducible repeat first|apply kN|apply kD|apply kA);refine blk_far ?_ NB457_468.out _;(with_reducible repeat first|apply kN|apply kD|apply kA);exact BK457.out) hb);have n4_:=amk (blk_below (g:=gb458) (o:=.cells #[.int .i64 a5_0,.int .i64 a5_1] 41 (0,0)) (by (with_reducible repeat first|apply kN|apply kD|apply kA);refine blk_far ?_ NB458_468.out _;(with_reducible repeat first|apply kN|apply kD|apply kA);refine blk_far ?_ NB458_468.out _;(with_reducible repeat first|apply kN|apply kD|apply kA);refine blk_far ?_ NB458_468.out _;(with_reducible repeat first|apply kN|apply kD|apply kA);refine blk_far ?_ NB458_468.out _;(with_reducible repeat first|apply kN|apply kD|apply kA);refine blk_far ?_ NB458_468.out _;(with_reducible repeat first|apply kN|apply kD|apply kA);refine blk_far ?_ NB458_468.out _;(with_reducible repeat first|apply kN|apply kD|apply kA);exact BK458.out) hb);have n5_:=amk (blk_below (g:=gb468) (o:=.cells #[.int .i64 t462,.int .i64 t463,.int .i64 t464,.int .i64 t465,.int .i64 t466,.int .i64 t467] 26 (0,0)) (by (with_reducible repeat first|apply kN|apply kD|apply kA);refine blk_put (cs:=#[.int .i64 t462,.int .i64 t463,.int .i64 t464,.int .i64 t465,.int .i64 t466,.int .i64 0]) ?_ 5 _ rfl;(with_reducible repeat first|apply kN|apply kD|apply kA);refine blk_put (cs:=#[.int .i64 t462,.int .i64 t463,.int .i64 t464,.int .i64 t465,.int .i64 0,.int .i64 0]) ?_ 4 _ rfl;(with_reducible repeat first|apply kN|apply kD|apply kA);refine blk_put (cs:=#[.int .i64 t462,.int .i64 t463,.int .i64 t464,.int .i64 0,.int .i64 0,.int .i64 0]) ?_ 3 _ rfl;(with_reducible repeat first|apply kN|apply kD|apply kA);refine blk_put (cs:=#[.int .i64 t462,.int .i64 t463,.int .i64 0,.int .i64 0,.int .i64 0,.int .i64 0]) ?_ 2 _ rfl;(with_reducible repeat first|apply kN|apply kD|apply kA);refine blk_put (cs:=#[.int .i64 t462,.int .i64 0,.int .i64 0,.int .i64 0,.int .i64 0,.int .i64 0]) ?_ 1 _ rfl;(with_reducible repeat first|apply kN|apply kD|apply kA);refine blk_put (cs:=#[.int .i64 0,.int .i64 0,.int .i64 0,.int .i64 0,.int .i64 0,.int .i64 0]) ?_ 0 _ rfl;(with_reducible repeat first|apply kN|apply kD|apply kA);exact BK468.out) hb);have n6_:=amk (below_step (by repeat (first|(with_reducible first|exact HB.out|apply bAl|apply bDN|apply bD1|refine bSe ?_ GE455.out|refine bSe ?_ GE456.out|refine bSe ?_ GE457.out|refine bSe ?_ GE458.out|refine bSe ?_ GE468.out)|exact HB.out)) hb);clear HO461;clear BK455;clear BK456;clear BK457;clear BK458;clear BK468;clear HB;have HO461:=n0_;have BK455:=n1_;have BK456:=n2_;have BK457:=n3_;have BK458:=n4_;have BK468:=n5_;have HB:=n6_;clear n0_ n1_ n2_ n3_ n4_ n5_ n6_;(try clear hb);(try clear hb2);(try clear hk);(try clear hi);have hnb30:=NB468_455.out;have hnc30:=NB455_468.out;have hnb31:=NB468_456.out;have hnc31:=NB456_468.out;have hnb32:=NB468_457.out;have hnc32:=NB457_468.out;have hnb33:=NB468_458.out;have hnc33:=NB458_468.out;have hcz34_0 : w29.cell? ⟨gb468,0,none⟩=some (.int .i64 t462):=(blk_cell BK468.out 0).trans rfl;have hcz34_1 : w29.cell? ⟨gb468,1,none⟩=some (.int .i64 t463):=(blk_cell BK468.out 1).trans rfl;have hcz34_2 : w29.cell? ⟨gb468,2,none⟩=some (.int .i64 t464):=(blk_cell BK468.out 2).trans rfl;have hcz34_3 : w29.cell? ⟨gb468,3,none⟩=some (.int .i64 t465):=(blk_cell BK468.out 3).trans rfl;have hcz34_4 : w29.cell? ⟨gb468,4,none⟩=some (.int .i64 t466):=(blk_cell BK468.out 4).trans rfl;have hcz34_5 : w29.cell? ⟨gb468,5,none⟩=some (.int .i64 t467):=(blk_cell BK468.out 5).trans rfl;have hfz34_0:=blk_frozen BK468.out 0;have hfz34_1:=blk_frozen BK468.out 1;have hfz34_2:=blk_frozen BK468.out 2;have hfz34_3:=blk_frozen BK468.out 3;have hfz34_4:=blk_frozen BK468.out 4;have hfz34_5:=blk_frozen BK468.out 5))
   go_meet
   case rel=>exact ⟨_,(t469),(t470),(t471),(t472),(t473),(t474),H',⟨by first|omega|exact Nat.le_refl _⟩,⟨by (with_reducible repeat (first|apply Kd.S_alloc|apply Kd.S_drewN|apply Kd.S_drew));exact Kd.S_mono (Kd.S_far (p:=⟨gb468,5,none⟩) (Kd.S_far (p:=⟨gb468,4,none⟩) (Kd.S_far (p:=⟨gb468,3,none⟩) (Kd.S_far (p:=⟨gb468,2,none⟩) (Kd.S_far (p:=⟨gb468,1,none⟩) (Kd.S_far (p:=⟨gb468,0,none⟩) (Kd.S_types HO461.out BK468.out (by decide)) (fun _ hk=>hk.2) (.int .i64 t469)) (fun _ hk=>hk.2) (.int .i64 t470)) (fun _ hk=>hk.2) (.int .i64 t471)) (fun _ hk=>hk.2) (.int .i64 t472)) (fun _ hk=>hk.2) (.int .i64 t473)) (fun _ hk=>hk.2) (.int .i64 t474)) (fun _ hk=>trivial)⟩,⟨by (with_reducible repeat first|apply kN|apply kD|apply kA);refine blk_far ?_ NB455_468.out _;(with_reducible repeat first|apply kN|apply kD|apply kA);refine blk_far ?_ NB455_468.out _;(with_reducible repeat first|apply kN|apply kD|apply kA);refine blk_far ?_ NB455_468.out _;(with_reducible repeat first|apply kN|apply kD|apply kA);refine blk_far ?_ NB455_468.out _;(with_reducible repeat first|apply kN|apply kD|apply kA);refine blk_far ?_ NB455_468.out _;(with_reducible repeat first|apply kN|apply kD|apply kA);refine blk_far ?_ NB455_468.out _;(with_reducible repeat first|apply kN|apply kD|apply kA);exact BK455.out⟩,⟨by (with_reducible repeat first|apply kN|apply kD|apply kA);refine blk_far ?_ NB456_468.out _;(with_reducible repeat first|apply kN|apply kD|apply kA);refine blk_far ?_ NB456_468.out _;(with_reducible repeat first|apply kN|apply kD|apply kA);refine blk_far ?_ NB456_468.out _;(with_reducible repeat first|apply kN|apply kD|apply kA);refine blk_far ?_ NB456_468.out _;(with_reducible repeat first|apply kN|apply kD|apply kA);refine blk_far ?_ NB456_468.out _;(with_reducible repeat first|apply kN|apply kD|apply kA);refine blk_far ?_ NB456_468.out _;(with_reducible repeat first|apply kN|apply kD|apply kA);exact BK456.out⟩,⟨by (with_reducible repeat first|apply kN|apply kD|apply kA);refine blk_far ?_ NB457_468.out _;(with_reducible repeat first|apply kN|apply kD|apply kA);refine blk_far ?_ NB457_468.out _;(with_reducible repeat first|apply kN|apply kD|apply kA);refine blk_far ?_ NB457_468.out _;(with_reducible repeat first|apply kN|apply kD|apply kA);refine blk_far ?_ NB457_468.out _;(with_reducible repeat first|apply kN|apply kD|apply kA);refine blk_far ?_ NB457_468.out _;(with_reducible repeat first|apply kN|apply kD|apply kA);refine blk_far ?_ NB457_468.out _;(with_reducible repeat first|apply kN|apply kD|apply kA);exact BK457.out⟩,⟨by (with_reducible repeat first|apply kN|apply kD|apply kA);refine blk_far ?_ NB458_468.out _;(with_reducible repeat first|apply kN|apply kD|apply kA);refine blk_far ?_ NB458_468.out _;(with_reducible repeat first|apply kN|apply kD|apply kA);refine blk_far ?_ NB458_468.out _;(with_reducible repeat first|apply kN|apply kD|apply kA);refine blk_far ?_ NB458_468.out _;(with_reducible repeat first|apply kN|apply kD|apply kA);refine blk_far ?_ NB458_468.out _;(with_reducible repeat first|apply kN|apply kD|apply kA);refine blk_far ?_ NB458_468.out _;(with_reducible repeat first|apply kN|apply kD|apply kA);exact BK458.out⟩,⟨by (with_reducible repeat first|apply kN|apply kD|apply kA);refine blk_put (cs:=#[.int .i64 t469,.int .i64 t470,.int .i64 t471,.int .i64 t472,.int .i64 t473,.int .i64 t467]) ?_ 5 _ rfl;(with_reducible repeat first|apply kN|apply kD|apply kA);refine blk_put (cs:=#[.int .i64 t469,.int .i64 t470,.int .i64 t471,.int .i64 t472,.int .i64 t466,.int .i64 t467]) ?_ 4 _ rfl;(with_reducible repeat first|apply kN|apply kD|apply kA);refine blk_put (cs:=#[.int .i64 t469,.int .i64 t470,.int .i64 t471,.int .i64 t465,.int .i64 t466,.int .i64 t467]) ?_ 3 _ rfl;(with_reducible repeat first|apply kN|apply kD|apply kA);refine blk_put (cs:=#[.int .i64 t469,.int .i64 t470,.int .i64 t464,.int .i64 t465,.int .i64 t466,.int .i64 t467]) ?_ 2 _ rfl;(with_reducible repeat first|apply kN|apply kD|apply kA);refine blk_put (cs:=#[.int .i64 t469,.int .i64 t463,.int .i64 t464,.int .i64 t465,.int .i64 t466,.int .i64 t467]) ?_ 1 _ rfl;(with_reducible repeat first|apply kN|apply kD|apply kA);refine blk_put (cs:=#[.int .i64 t462,.int .i64 t463,.int .i64 t464,.int .i64 t465,.int .i64 t466,.int .i64 t467]) ?_ 0 _ rfl;(with_reducible repeat first|apply kN|apply kD|apply kA);exact BK468.out⟩,⟨by repeat (first|(with_reducible first|exact HB.out|apply bAl|apply bDN|apply bD1|refine bSe ?_ GE455.out|refine bSe ?_ GE456.out|refine bSe ?_ GE457.out|refine bSe ?_ GE458.out|refine bSe ?_ GE468.out)|exact HB.out)⟩⟩
  ·replace c27:=Bool.eq_false_iff.mpr c27
   subst c27
   have H1 : (versallaw17_FlatTells.j0 k a6 t459 a3_0 a3_1 a4_0 a4_1 a5_0 a5_1 t462 t463 t464 t465 t466 t467)=some r:=by rw [if_neg (show ¬ (false=true) by decide)] at H;exact H
   clear H
   have H:=H1
   clear H1
   have H':=amk H
   clear H
   go_wp2
   go_meet
   case rel=>exact ⟨_,(t462),(t463),(t464),(t465),(t466),(t467),H',⟨by first|omega|exact Nat.le_refl _⟩,⟨by (with_reducible repeat (first|apply Kd.S_alloc|apply Kd.S_drewN|apply Kd.S_drew));exact Kd.S_mono (Kd.S_far (p:=⟨gb468,5,none⟩) (Kd.S_far (p:=⟨gb468,4,none⟩) (Kd.S_far (p:=⟨gb468,3,none⟩) (Kd.S_far (p:=⟨gb468,2,none⟩) (Kd.S_far (p:=⟨gb468,1,none⟩) (Kd.S_far (p:=⟨gb468,0,none⟩) (Kd.S_types HO461.out BK468.out (by decide)) (fun _ hk=>hk.2) (.int .i64 t462)) (fun _ hk=>hk.2) (.int .i64 t463)) (fun _ hk=>hk.2) (.int .i64 t464)) (fun _ hk=>hk.2) (.int .i64 t465)) (fun _ hk=>hk.2) (.int .i64 t466)) (fun _ hk=>hk.2) (.int .i64 t467)) (fun _ hk=>trivial)⟩,⟨by (with_reducible repeat first|apply kN|apply kD|apply kA);refine blk_far ?_ NB455_468.out _;(with_reducible repeat first|apply kN|apply kD|apply kA);refine blk_far ?_ NB455_468.out _;(with_reducible repeat first|apply kN|apply kD|apply kA);refine blk_far ?_ NB455_468.out _;(with_reducible repeat first|apply kN|apply kD|apply kA);refine blk_far ?_ NB455_468.out _;(with_reducible repeat first|apply kN|apply kD|apply kA);refine blk_far ?_ NB455_468.out _;(with_reducible repeat first|apply kN|apply kD|apply kA);refine blk_far ?_ NB455_468.out _;(with_reducible repeat first|apply kN|apply kD|apply kA);exact BK455.out⟩,⟨by (with_reducible repeat first|apply kN|apply kD|apply kA);refine blk_far ?_ NB456_468.out _;(with_reducible repeat first|apply kN|apply kD|apply kA);refine blk_far ?_ NB456_468.out _;(with_reducible repeat first|apply kN|apply kD|apply kA);refine blk_far ?_ NB456_468.out _;(with_reducible repeat first|apply kN|apply kD|apply kA);refine blk_far ?_ NB456_468.out _;(with_reducible repeat first|apply kN|apply kD|apply kA);refine blk_far ?_ NB456_468.out _;(with_reducible repeat first|apply kN|apply kD|apply kA);refine blk_far ?_ NB456_468.out _;(with_reducible repeat first|apply kN|apply kD|apply kA);exact BK456.out⟩,⟨by (with_reducible repeat first|apply kN|apply kD|apply kA);refine blk_far ?_ NB457_468.out _;(with_reducible repeat first|apply kN|apply kD|apply kA);refine blk_far ?_ NB457_468.out _;(with_reducible repeat first|apply kN|apply kD|apply kA);refine blk_far ?_ NB457_468.out _;(with_reducible repeat first|apply kN|apply kD|apply kA);refine blk_far ?_ NB457_468.out _;(with_reducible repeat first|apply kN|apply kD|apply kA);refine blk_far ?_ NB457_468.out _;(with_reducible repeat first|apply kN|apply kD|apply kA);refine blk_far ?_ NB457_468.out _;(with_reducible repeat first|apply kN|apply kD|apply kA);exact BK457.out⟩,⟨by (with_reducible repeat first|apply kN|apply kD|apply kA);refine blk_far ?_ NB458_468.out _;(with_reducible repeat first|apply kN|apply kD|apply kA);refine blk_far ?_ NB458_468.out _;(with_reducible repeat first|apply kN|apply kD|apply kA);refine blk_far ?_ NB458_468.out _;(with_reducible repeat first|apply kN|apply kD|apply kA);refine blk_far ?_ NB458_468.out _;(with_reducible repeat first|apply kN|apply kD|apply kA);refine blk_far ?_ NB458_468.out _;(with_reducible repeat first|apply kN|apply kD|apply kA);refine blk_far ?_ NB458_468.out _;(with_reducible repeat first|apply kN|apply kD|apply kA);exact BK458.out⟩,⟨by (with_reducible repeat first|apply kN|apply kD|apply kA);refine blk_put (cs:=#[.int .i64 t462,.int .i64 t463,.int .i64 t464,.int .i64 t465,.int .i64 t466,.int .i64 0]) ?_ 5 _ rfl;(with_reducible repeat first|apply kN|apply kD|apply kA);refine blk_put (cs:=#[.int .i64 t462,.int .i64 t463,.int .i64 t464,.int .i64 t465,.int .i64 0,.int .i64 0]) ?_ 4 _ rfl;(with_reducible repeat first|apply kN|apply kD|apply kA);refine blk_put (cs:=#[.int .i64 t462,.int .i64 t463,.int .i64 t464,.int .i64 0,.int .i64 0,.int .i64 0]) ?_ 3 _ rfl;(with_reducible repeat first|apply kN|apply kD|apply kA);refine blk_put (cs:=#[.int .i64 t462,.int .i64 t463,.int .i64 0,.int .i64 0,.int .i64 0,.int .i64 0]) ?_ 2 _ rfl;(with_reducible repeat first|apply kN|apply kD|apply kA);refine blk_put (cs:=#[.int .i64 t462,.int .i64 0,.int .i64 0,.int .i64 0,.int .i64 0,.int .i64 0]) ?_ 1 _ rfl;(with_reducible repeat first|apply kN|apply kD|apply kA);refine blk_put (cs:=#[.int .i64 0,.int .i64 0,.int .i64 0,.int .i64 0,.int .i64 0,.int .i64 0]) ?_ 0 _ rfl;(with_reducible repeat first|apply kN|apply kD|apply kA);exact BK468.out⟩,⟨by repeat (first|(with_reducible first|exact HB.out|apply bAl|apply bDN|apply bD1|refine bSe ?_ GE455.out|refine bSe ?_ GE456.out|refine bSe ?_ GE457.out|refine bSe ?_ GE458.out|refine bSe ?_ GE468.out)|exact HB.out)⟩⟩
 case rest =>
  clear HC10
  try clear c1
  try clear c2
  try clear p2
  try clear c3
  try clear c4
  try clear c8
  try clear c9
  try clear c13
  try clear c16
  try clear c17
  try clear c18
  try clear c22
  try clear c23
  try clear c24
  try clear c25
  try clear c27
  try clear c30
  try clear c31
  try clear c32
  try clear c33
  try clear hcz19_0
  try clear hcz19_1
  try clear hcz19_2
  try clear hcz19_3
  try clear hcz19_4
  try clear hcz19_5
  try clear hcz26_0
  try clear hcz26_1
  try clear hcz26_2
  try clear hcz26_3
  try clear hcz26_4
  try clear hcz26_5
  try clear hcz34_0
  try clear hcz34_1
  try clear hcz34_2
  try clear hcz34_3
  try clear hcz34_4
  try clear hcz34_5
  try clear hfz19_0
  try clear hfz19_1
  try clear hfz19_2
  try clear hfz19_3
  try clear hfz19_4
  try clear hfz19_5
  try clear hfz26_0
  try clear hfz26_1
  try clear hfz26_2
  try clear hfz26_3
  try clear hfz26_4
  try clear hfz26_5
  try clear hfz34_0
  try clear hfz34_1
  try clear hfz34_2
  try clear hfz34_3
  try clear hfz34_4
  try clear hfz34_5
  obtain ⟨kq,x469000_9,x469001_9,x469002_9,x469003_9,x469004_9,x469005_9,HA,HJ9,HO_15,BK455,BK456,BK457,BK458,BK468,HB⟩:=hcut
  cases kq with
  | zero=>exact absurd HA.out (by simp [versallaw17_FlatTells.j0])
  | succ kj9 =>
   have H:=HA.out
   clear HA
   simp only [versallaw17_FlatTells.j0] at H
   have HC35:=amk H
   clear H
   go_upto_region 5 with (fail)
   go_cut [30] (fun v30 wc=>∃ (kq : Nat) (x30_34 : Bool),v30=.bool x30_34∧Aside0 (versallaw17_FlatTells.j1 kq a6 t459 x30_34 a3_0 a3_1 a4_0 a4_1 a5_0 a5_1 x469000_9 x469001_9 x469002_9 x469003_9 x469004_9 x469005_9=some r)∧Aside0 (kq≤kj9)∧Aside0 (Kd.S (Kd.slice 36 k36) 30 wc w.heap.size (fun _=>True) v460 t459)∧Aside0 (wc.heap[gb455]?=some (.cells #[.int .i64 a1_0,.int .i64 a1_1,.int .i64 a1_2,.int .i64 a1_3,.int .i64 a1_4,.int .i64 a1_5] 23 (0,0)))∧Aside0 (wc.heap[gb456]?=some (.cells #[.int .i64 a3_0,.int .i64 a3_1] 41 (0,0)))∧Aside0 (wc.heap[gb457]?=some (.cells #[.int .i64 a4_0,.int .i64 a4_1] 41 (0,0)))∧Aside0 (wc.heap[gb458]?=some (.cells #[.int .i64 a5_0,.int .i64 a5_1] 41 (0,0)))∧Aside0 (wc.heap[gb468]?=some (.cells #[.int .i64 x469000_9,.int .i64 x469001_9,.int .i64 x469002_9,.int .i64 x469003_9,.int .i64 x469004_9,.int .i64 x469005_9] 26 (0,0)))∧Aside0 (Below w.heap.size w wc))
   case first =>
    have H:=HC35.out
    clear HC35
    by_cases c36 : (Int.tmod a6 7)=6
    ·rw [if_pos c36] at H
     have c36b0 : ((Int.tmod a6 7) == 6)=true:=beq_iff_eq.mpr c36
     have c36b1 : ((Int.tmod a6 7) != 6)=false:=bne_eq_false_iff_eq.mpr c36
     clear c36
     (first|rw [c36b0]|(simp only [i64_w,i32_w];rw [c36b0])|skip)
     have H':=amk H
     clear H
     obtain ⟨Ao37,co37,eo37⟩:=Kd.S_slice HO_15.out
     subst eo37
     go_wp2
     go_meet
     case rel=>exact ⟨_,(decide ((t459.length : Int) > 0)),(by first|rfl|(simp;done)|(simp [*];done)),H',⟨by have:=HJ9.out;first|omega|exact Nat.le_refl _⟩,⟨by (with_reducible repeat (first|apply Kd.S_alloc|apply Kd.S_drewN|apply Kd.S_drew));exact HO_15.out⟩,⟨by (with_reducible repeat first|apply kN|apply kD|apply kA);exact BK455.out⟩,⟨by (with_reducible repeat first|apply kN|apply kD|apply kA);exact BK456.out⟩,⟨by (with_reducible repeat first|apply kN|apply kD|apply kA);exact BK457.out⟩,⟨by (with_reducible repeat first|apply kN|apply kD|apply kA);exact BK458.out⟩,⟨by (with_reducible repeat first|apply kN|apply kD|apply kA);exact BK468.out⟩,⟨by repeat (first|(with_reducible first|exact HB.out|apply bAl|apply bDN|apply bD1|refine bSe ?_ GE455.out|refine bSe ?_ GE456.out|refine bSe ?_ GE457.out|refine bSe ?_ GE458.out|refine bSe ?_ GE468.out)|exact HB.out)⟩⟩
    ·rw [if_neg c36] at H
     have c36b0 : ((Int.tmod a6 7) == 6)=false:=beq_eq_false_iff_ne.mpr c36
     have c36b1 : ((Int.tmod a6 7) != 6)=true:=bne_iff_ne.mpr c36
     (first|rw [c36b0]|(simp only [i64_w,i32_w];rw [c36b0])|skip)
     have H':=amk H
     clear H
     go_wp2
     go_meet
     case rel=>exact ⟨_,(false),(by first|rfl|(simp;done)|(simp [*];done)),H',⟨by have:=HJ9.out;first|omega|exact Nat.le_refl _⟩,⟨by (with_reducible repeat (first|apply Kd.S_alloc|apply Kd.S_drewN|apply Kd.S_drew));exact HO_15.out⟩,⟨by (with_reducible repeat first|apply kN|apply kD|apply kA);exact BK455.out⟩,⟨by (with_reducible repeat first|apply kN|apply kD|apply kA);exact BK456.out⟩,⟨by (with_reducible repeat first|apply kN|apply kD|apply kA);exact BK457.out⟩,⟨by (with_reducible repeat first|apply kN|apply kD|apply kA);exact BK458.out⟩,⟨by (with_reducible repeat first|apply kN|apply kD|apply kA);exact BK468.out⟩,⟨by repeat (first|(with_reducible first|exact HB.out|apply bAl|apply bDN|apply bD1|refine bSe ?_ GE455.out|refine bSe ?_ GE456.out|refine bSe ?_ GE457.out|refine bSe ?_ GE458.out|refine bSe ?_ GE468.out)|exact HB.out)⟩⟩
   case rest =>
    clear HC35
    try clear c1
    try clear c2
    try clear p2
    try clear c3
    try clear c4
    try clear c8
    try clear c9
    try clear c13
    try clear c16
    try clear c17
    try clear c18
    try clear c22
    try clear c23
    try clear c24
    try clear c25
    try clear c27
    try clear c30
    try clear c31
    try clear c32
    try clear c33
    try clear c36
    try clear c36b0
    try clear c36b1
    try clear hcz19_0
    try clear hcz19_1
    try clear hcz19_2
    try clear hcz19_3
    try clear hcz19_4
    try clear hcz19_5
    try clear hcz26_0
    try clear hcz26_1
    try clear hcz26_2
    try clear hcz26_3
    try clear hcz26_4
    try clear hcz26_5
    try clear hcz34_0
    try clear hcz34_1
    try clear hcz34_2
    try clear hcz34_3
    try clear hcz34_4
    try clear hcz34_5
    try clear hfz19_0
    try clear hfz19_1
    try clear hfz19_2
    try clear hfz19_3
    try clear hfz19_4
    try clear hfz19_5
    try clear hfz26_0
    try clear hfz26_1
    try clear hfz26_2
    try clear hfz26_3
    try clear hfz26_4
    try clear hfz26_5
    try clear hfz34_0
    try clear hfz34_1
    try clear hfz34_2
    try clear hfz34_3
    try clear hfz34_4
    try clear hfz34_5
    try clear p2
    obtain ⟨kq,x30_34,rfl,HA,HJ34,HO_15,BK455,BK456,BK457,BK458,BK468,HB⟩:=hcut
    cases kq with
    | zero=>exact absurd HA.out (by simp [versallaw17_FlatTells.j1])
    | succ kj34 =>
     have H:=HA.out
     clear HA
     simp only [versallaw17_FlatTells.j1] at H
     have HC38:=amk H
     clear H
     go_upto_if 30 with (fail)
     go_cut [] (fun wc=>∃ (kq : Nat) (x15_37 : List (List (S36))),Aside0 (versallaw17_FlatTells.j2 kq x15_37 a3_0 a3_1 a4_0 a4_1 a5_0 a5_1 x469000_9 x469001_9 x469002_9 x469003_9 x469004_9 x469005_9=some r)∧Aside0 (kq≤kj34)∧Aside0 (Kd.S (Kd.slice 36 k36) 30 wc w.heap.size (fun _=>True) v460 x15_37)∧Aside0 (wc.heap[gb455]?=some (.cells #[.int .i64 a1_0,.int .i64 a1_1,.int .i64 a1_2,.int .i64 a1_3,.int .i64 a1_4,.int .i64 a1_5] 23 (0,0)))∧Aside0 (wc.heap[gb456]?=some (.cells #[.int .i64 a3_0,.int .i64 a3_1] 41 (0,0)))∧Aside0 (wc.heap[gb457]?=some (.cells #[.int .i64 a4_0,.int .i64 a4_1] 41 (0,0)))∧Aside0 (wc.heap[gb458]?=some (.cells #[.int .i64 a5_0,.int .i64 a5_1] 41 (0,0)))∧Aside0 (wc.heap[gb468]?=some (.cells #[.int .i64 x469000_9,.int .i64 x469001_9,.int .i64 x469002_9,.int .i64 x469003_9,.int .i64 x469004_9,.int .i64 x469005_9] 26 (0,0)))∧Aside0 (Below w.heap.size w wc))
     case first =>
      have H:=HC38.out
      clear HC38
      by_cases c39 : x30_34=true
      ·subst c39
       have H1 : (if 0 < (t459.length : Int) then (if 0 < ((rd_L6 t459 0).length : Int) then (versallaw17_FlatTells.j2 kj34 (t459.set (0 : Int).toNat ((rd_L6 t459 0).set (0 : Int).toNat (⟨a6,(rd_T36 (rd_L6 t459 0) 0).f1,(rd_T36 (rd_L6 t459 0) 0).f2⟩ : S36))) a3_0 a3_1 a4_0 a4_1 a5_0 a5_1 x469000_9 x469001_9 x469002_9 x469003_9 x469004_9 x469005_9) else (none)) else (none))=some r:=by rw [if_pos rfl] at H;exact H
       clear H
       have H:=H1
       clear H1
       by_cases c40 : 0 < (t459.length : Int)
       ·rw [if_pos c40] at H
        have c40b0 : decide (0 < (t459.length : Int))=true:=decide_eq_true c40
        have c40b1 : decide (0 < t459.length)=true:=decide_eq_true (by omega)
        clear c40
        (first|rw [c40b0]|(simp only [i64_w,i32_w];rw [c40b0])|skip)
        by_cases c41 : 0 < ((rd_L6 t459 0).length : Int)
        ·rw [if_pos c41] at H
         have c41b0 : decide (0 < ((rd_L6 t459 0).length : Int))=true:=decide_eq_true c41
         have c41b1 : decide (0 < (rd_L6 t459 0).length)=true:=decide_eq_true (by omega)
         clear c41
         obtain ⟨y476,hy476⟩ : ∃ y_ : List (S36),y_=((rd_L6 t459 0).set (0 : Int).toNat (⟨a6,(rd_T36 (rd_L6 t459 0) 0).f1,(rd_T36 (rd_L6 t459 0) 0).f2⟩ : S36)):=⟨_,rfl⟩
         replace H : (versallaw17_FlatTells.j2 kj34 (t459.set (0 : Int).toNat y476) a3_0 a3_1 a4_0 a4_1 a5_0 a5_1 x469000_9 x469001_9 x469002_9 x469003_9 x469004_9 x469005_9)=some r:=by first|(rw [hy476];with_reducible exact H)|(have H2_:=(Option.bind_some _ _).symm.trans H;rw [hy476];with_reducible exact H2_)|(have H2_:=(Option.bind_some _ _).symm.trans H;with_reducible exact H2_)|with_reducible exact H|(rw [hy476];exact H)|exact H
         have Ny476:=amk hy476
         clear hy476
         obtain ⟨y478,hy478⟩ : ∃ y_ : List (List (S36)),y_=(t459.set (0 : Int).toNat y476):=⟨_,rfl⟩
         replace H : (versallaw17_FlatTells.j2 kj34 y478 a3_0 a3_1 a4_0 a4_1 a5_0 a5_1 x469000_9 x469001_9 x469002_9 x469003_9 x469004_9 x469005_9)=some r:=by first|(rw [hy478];with_reducible exact H)|(have H2_:=(Option.bind_some _ _).symm.trans H;rw [hy478];with_reducible exact H2_)|(have H2_:=(Option.bind_some _ _).symm.trans H;with_reducible exact H2_)|with_reducible exact H|(rw [hy478];exact H)|exact H
         have Ny478:=amk hy478
         clear hy478
         have H':=amk H
         clear H
         obtain ⟨Ao43,co43,eo43⟩:=Kd.S_slice HO_15.out
         subst eo43
         have p475 : 0≤(0 : Int):=(by omega)
         have q475 : 0 < (t459.length : Int):=of_decide_eq_true (by first|(with_reducible assumption)|assumption)
         obtain ⟨ad475,A475_0,c475_0,e475,hx475_0,hl475_0,hi475_0⟩:=at_L6 (Kd.S_reads' HO_15.out).2.2 0 p475 q475
         cases e475
         obtain ⟨ce475,hce475,hMe475,hcc475⟩:=Kd.S_get HO_15.out [] 0 p475 (by first|exact q475|exact of_decide_eq_true (by first|(with_reducible assumption)|assumption)|(have e_:=(Kd.S_reads' HO_15.out).1;omega))
         obtain ⟨ve475_0,rfl,ge475_0⟩:=hMe475
         have hv475_0:=hcc475 0 _ rfl
         rw [Nat.add_zero,show ((Kd.slice 36 k36)).sz=1 from rfl,Nat.mul_one] at hv475_0
         replace hv475_0:=Option.some.inj (hv475_0.symm.trans hx475_0)
         rw [hv475_0] at ge475_0
         have HL475_0:=amk (show Kd.R k36 36 _ _ _ _ (rd_L6 t459 0) from ge475_0)
         clear hv475_0 ge475_0
         have HX475_0:=amk hx475_0
         clear hcc475 hce475
         have qi475 : (0 < t459.length)=True:=eq_true (by omega)
         (try rw [show ((0 : Int)).toNat=0 from rfl] at hx475_0)
         (try rw [Addr.add_zero'] at hx475_0)
         have HR475_0:=amk hi475_0
         have HC475_0:=amk hl475_0
         clear hi475_0 hl475_0
         replace p475:=eq_true p475
         replace q475:=eq_true q475
         have p42 : 0≤(0 : Int):=(by omega)
         have q42 : (0 : Int) < (((rd_L6 t459 0).length : Int) : Int):=of_decide_eq_true (by first|(with_reducible assumption)|assumption)
         have qi42 : (0 < (rd_L6 t459 0).length)=True:=eq_true (by omega)
         obtain ⟨go42,co42,eo42,gb42,gl42,cl42,HG42⟩:=Kd.R_form HL475_0.out (by omega)
         (first|cases eo42|(injection eo42 with ea_ en_ ec_;(first|subst ea_|(injection ea_ with ea_;subst ea_));subst ec_;clear en_))
         have GB42:=amk gb42
         have GG42:=amk HG42
         clear gb42 gl42 HG42
         obtain ⟨ce42,hcl42,hM42,hcc42,hfr42⟩:=Kd.R_elem HL475_0.out z36 (0 : Int) p42 q42
         obtain rfl:=k36_openM hM42
         have hx42_0 : wc.cell? ⟨go42,(0 : Int).toNat * 3,none⟩=some (.int .i64 ((rd_T36 (rd_L6 t459 0) 0).f0)):=hcc42 0 _ rfl
         have hx42_1 : wc.cell? ⟨go42,(0 : Int).toNat * 3+1,none⟩=some (.int .i64 ((rd_T36 (rd_L6 t459 0) 0).f1)):=hcc42 1 _ rfl
         have hx42_2 : wc.cell? ⟨go42,(0 : Int).toNat * 3+2,none⟩=some (.bool ((rd_T36 (rd_L6 t459 0) 0).f2)):=hcc42 2 _ rfl
         have hf42_0 : wc.frozen? ⟨go42,(0 : Int).toNat * 3,none⟩=false:=hfr42 0
         have hf42_1 : wc.frozen? ⟨go42,(0 : Int).toNat * 3+1,none⟩=false:=hfr42 1
         have hf42_2 : wc.frozen? ⟨go42,(0 : Int).toNat * 3+2,none⟩=false:=hfr42 2
         clear hcl42 hcc42 hfr42 hM42
         (try rw [show ((0 : Int)).toNat=0 from rfl] at hx42_0)
         (try simp only [Nat.reduceMul,Nat.zero_mul,Nat.zero_add,Nat.reduceAdd] at hx42_0)
         (try rw [show ((0 : Int)).toNat=0 from rfl] at hf42_0)
         (try simp only [Nat.reduceMul,Nat.zero_mul,Nat.zero_add,Nat.reduceAdd] at hf42_0)
         (try rw [show ((0 : Int)).toNat=0 from rfl] at hx42_1)
         (try simp only [Nat.reduceMul,Nat.zero_mul,Nat.zero_add,Nat.reduceAdd] at hx42_1)
         (try rw [show ((0 : Int)).toNat=0 from rfl] at hf42_1)
         (try simp only [Nat.reduceMul,Nat.zero_mul,Nat.zero_add,Nat.reduceAdd] at hf42_1)
         (try rw [show ((0 : Int)).toNat=0 from rfl] at hx42_2)
         (try simp only [Nat.reduceMul,Nat.zero_mul,Nat.zero_add,Nat.reduceAdd] at hx42_2)
         (try rw [show ((0 : Int)).toNat=0 from rfl] at hf42_2)
         (try simp only [Nat.reduceMul,Nat.zero_mul,Nat.zero_add,Nat.reduceAdd] at hf42_2)
         replace p42:=eq_true p42
         replace q42:=eq_true q42
         have hq44 : (0 : Int) < (t459.length : Int):=(by have h_ : (0 : Int) < ((t459.length : Int) : Int):=of_decide_eq_true (by first|(with_reducible assumption)|assumption);first|exact h_|(have e_:=(Kd.S_reads' HO_15.out).1;omega)|simpa only [List.length_set,List.length_set] using h_)
         obtain ⟨oki44,ce44,hcl44,hM44,hcc44,hok44,hbk44⟩:=Kd.S_borrow HO_15.out [] (0 : Int) (by omega) hq44
         obtain ⟨ve44_0,rfl,ge44_0⟩:=hM44
         have hv44:=hcc44 0 _ rfl
         rw [Nat.add_zero,show ((Kd.slice 36 k36)).sz=1 from rfl,Nat.mul_one] at hv44
         replace hv44:=Option.some.inj (hv44.symm.trans HX475_0.out)
         subst hv44
         clear hcc44 hcl44
         replace ge44_0:=(show Kd.R k36 36 _ _ _ _ (rd_L6 t459 0) from ge44_0)
         obtain ⟨cf44,hcl44,hN44,hcc44,hfr44⟩:=Kd.R_elem ge44_0 z36 (0 : Int) (by omega) (by have h_ : (0 : Int) < (((rd_L6 t459 0).length : Int) : Int):=of_decide_eq_true (by first|(with_reducible assumption)|assumption);first|exact h_|(have e_:=(Kd.R_reads' HR475_0.out).1;omega)|simpa using h_)
         obtain rfl:=k36_openM hN44
         have HP44:=Kd.R_seg ge44_0 (0 : Int) (by omega) (by have h_ : (0 : Int) < (((rd_L6 t459 0).length : Int) : Int):=of_decide_eq_true (by first|(with_reducible assumption)|assumption);first|exact h_|(have e_:=(Kd.R_reads' HR475_0.out).1;omega)|simpa using h_) (seg:=[.int .i64 a6]) (j:=0) hcl44 hcc44 (show 1≤3 from by decide) (x':=(⟨a6,(rd_T36 (rd_L6 t459 0) 0).f1,(rd_T36 (rd_L6 t459 0) 0).f2⟩ : S36)) (k36_mkM _ _ _ (⟨a6,(rd_T36 (rd_L6 t459 0) 0).f1,(rd_T36 (rd_L6 t459 0) 0).f2⟩ : S36)) (fun _ hk=>hk)
         clear hcl44 hcc44 hfr44 hN44
         go_wp2_with (first|((with_reducible refine gate_store (t:=3) (p:=36) rfl ?_);refine store_event (t:=3) (p:=36) (v:=?vo_w45) (w1:=(wc.setCell ⟨go42,0,none⟩ (.int .i64 a6))) ?hg ?ho ?hn ?hr ?_;(case ho=>rfl);(case hg=>rfl);(case hn=>rfl);(case hr=>first|(go_simp;done)|(go_simp;rfl));intro w45 hw;have hg : wc.grownBy w45 (some go42):=(by rw [hw];exact HP44.2);have hz_ : Kd.R k36 36 w45 w.heap.size oki44 (.slice (some ⟨go42,0,none⟩) (rd_L6 t459 0).length c475_0) y476:=(by rw [hw,Ny476.out];exact HP44.1);have hp_ : Kd.S (Kd.slice 36 k36) 30 w45 w.heap.size (fun _=>True) (.slice (some ad475) t459.length co43) y478:=(by rw [Ny478.out];exact hbk44 hg (fun k_ e_=>by injection e_ with e_;subst e_;exact ge44_0.1 _ rfl) (Kd.M_row hz_));have hm_:=Kd.R_mono hz_ hok44;clear HP44 hbk44;have n0_:=amk (hp_);have n1_:=amk (blk_grown (g:=gb455) (o:=.cells #[.int .i64 a1_0,.int .i64 a1_1,.int .i64 a1_2,.int .i64 a1_3,.int .i64 a1_4,.int .i64 a1_5] 23 (0,0)) (by (with_reducible repeat first|apply kN|apply kD|apply kA);exact BK455.out) hg (Kd.R_ne HL475_0.out BK455.out (by decide)));have n2_:=amk (blk_grown (g:=gb456) (o:=.cells #[.int .i64 a3_0,.int .i64 a3_1] 41 (0,0)) (by (with_reducible repeat first|apply kN|apply kD|apply kA);exact BK456.out) hg (Kd.R_ne HL475_0.out BK456.out (by decide)));have n3_:=amk (blk_grown (g:=gb457) (o:=.cells #[.int .i64 a4_0,.int .i64 a4_1] 41 (0,0)) (by (with_reducible repeat first|apply kN|apply kD|apply kA);exact BK457.out) hg (Kd.R_ne HL475_0.out BK457.out (by decide)));have n4_:=amk (blk_grown (g:=gb458) (o:=.cells #[.int .i64 a5_0,.int .i64 a5_1] 41 (0,0)) (by (with_reducible repeat first|apply kN|apply kD|apply kA);exact BK458.out) hg (Kd.R_ne HL475_0.out BK458.out (by decide)));have n5_:=amk (blk_grown (g:=gb468) (o:=.cells #[.int .i64 x469000_9,.int .i64 x469001_9,.int .i64 x469002_9,.int .i64 x469003_9,.int .i64 x469004_9,.int .i64 x469005_9] 26 (0,0)) (by (with_reducible repeat first|apply kN|apply kD|apply kA);exact BK468.out) hg (Kd.R_ne HL475_0.out BK468.out (by decide)));have n6_:=amk ((by rw [hw];exact bSe (HB.out) GB42.out : Below w.heap.size w w45));have n7_:=amk (hm_);have n8_:=amk ((Kd.R_reads' hm_).2.1);clear HO_15;clear BK455;clear BK456;clear BK457;clear BK458;clear BK468;clear HB;clear HL475_0;have HO_15:=n0_;have BK455:=n1_;have BK456:=n2_;have BK457:=n3_;have BK458:=n4_;have BK468:=n5_;have HB:=n6_;have HL494:=n7_;have HC477:=n8_;clear n0_ n1_ n2_ n3_ n4_ n5_ n6_ n7_ n8_;clear hg hw hp_ hz_ hm_ hok44))
         go_meet
         case rel=>exact ⟨_,(y478),H',⟨by have:=HJ9.out;have:=HJ34.out;first|omega|exact Nat.le_refl _⟩,⟨by (with_reducible repeat (first|apply Kd.S_alloc|apply Kd.S_drewN|apply Kd.S_drew));exact HO_15.out⟩,⟨by (with_reducible repeat first|apply kN|apply kD|apply kA);exact BK455.out⟩,⟨by (with_reducible repeat first|apply kN|apply kD|apply kA);exact BK456.out⟩,⟨by (with_reducible repeat first|apply kN|apply kD|apply kA);exact BK457.out⟩,⟨by (with_reducible repeat first|apply kN|apply kD|apply kA);exact BK458.out⟩,⟨by (with_reducible repeat first|apply kN|apply kD|apply kA);exact BK468.out⟩,⟨by repeat (first|(with_reducible first|exact HB.out|apply bAl|apply bDN|apply bD1|refine bSe ?_ GE455.out|refine bSe ?_ GE456.out|refine bSe ?_ GE457.out|refine bSe ?_ GE458.out|refine bSe ?_ GE468.out)|exact HB.out)⟩⟩
        ·rw [if_neg c41] at H
         exact absurd H (by simp)
       ·rw [if_neg c40] at H
        exact absurd H (by simp)
      ·replace c39:=Bool.eq_false_iff.mpr c39
       subst c39
       have H1 : (versallaw17_FlatTells.j2 kj34 t459 a3_0 a3_1 a4_0 a4_1 a5_0 a5_1 x469000_9 x469001_9 x469002_9 x469003_9 x469004_9 x469005_9)=some r:=by rw [if_neg (show ¬ (false=true) by decide)] at H;exact H
       clear H
       have H:=H1
       clear H1
       have H':=amk H
       clear H
       go_wp2
       go_meet
       case rel=>exact ⟨_,(t459),H',⟨by have:=HJ9.out;have:=HJ34.out;first|omega|exact Nat.le_refl _⟩,⟨by (with_reducible repeat (first|apply Kd.S_alloc|apply Kd.S_drewN|apply Kd.S_drew));exact HO_15.out⟩,⟨by (with_reducible repeat first|apply kN|apply kD|apply kA);exact BK455.out⟩,⟨by (with_reducible repeat first|apply kN|apply kD|apply kA);exact BK456.out⟩,⟨by (with_reducible repeat first|apply kN|apply kD|apply kA);exact BK457.out⟩,⟨by (with_reducible repeat first|apply kN|apply kD|apply kA);exact BK458.out⟩,⟨by (with_reducible repeat first|apply kN|apply kD|apply kA);exact BK468.out⟩,⟨by repeat (first|(with_reducible first|exact HB.out|apply bAl|apply bDN|apply bD1|refine bSe ?_ GE455.out|refine bSe ?_ GE456.out|refine bSe ?_ GE457.out|refine bSe ?_ GE458.out|refine bSe ?_ GE468.out)|exact HB.out)⟩⟩
     case rest =>
      clear HC38
      try clear c1
      try clear c2
      try clear p2
      try clear c3
      try clear c4
      try clear p4
      try clear q4
      try clear hx4
      try clear qi4
      try clear c8
      try clear c9
      try clear c13
      try clear c16
      try clear c17
      try clear c18
      try clear c22
      try clear c23
      try clear c24
      try clear c25
      try clear c27
      try clear c30
      try clear c31
      try clear c32
      try clear c33
      try clear c36
      try clear c36b0
      try clear c36b1
      try clear c39
      try clear c40
      try clear c40b0
      try clear c40b1
      try clear c41
      try clear c41b0
      try clear c41b1
      try clear c42
      try clear p42
      try clear q42
      try clear hx42
      try clear qi42
      try clear hf42
      try clear c44
      try clear q44
      try clear hcz19_0
      try clear hcz19_1
      try clear hcz19_2
      try clear hcz19_3
      try clear hcz19_4
      try clear hcz19_5
      try clear hcz26_0
      try clear hcz26_1
      try clear hcz26_2
      try clear hcz26_3
      try clear hcz26_4
      try clear hcz26_5
      try clear hcz34_0
      try clear hcz34_1
      try clear hcz34_2
      try clear hcz34_3
      try clear hcz34_4
      try clear hcz34_5
      try clear hfz19_0
      try clear hfz19_1
      try clear hfz19_2
      try clear hfz19_3
      try clear hfz19_4
      try clear hfz19_5
      try clear hfz26_0
      try clear hfz26_1
      try clear hfz26_2
      try clear hfz26_3
      try clear hfz26_4
      try clear hfz26_5
      try clear hfz34_0
      try clear hfz34_1
      try clear hfz34_2
      try clear hfz34_3
      try clear hfz34_4
      try clear hfz34_5
      try clear hx42_0
      try clear hx42_1
      try clear hx42_2
      try clear hx475_0
      try clear p2
      try clear p42
      try clear p475
      try clear q42
      try clear q475
      obtain ⟨kq,x15_37,HA,HJ37,HO_15,BK455,BK456,BK457,BK458,BK468,HB⟩:=hcut
      cases kq with
      | zero=>exact absurd HA.out (by simp [versallaw17_FlatTells.j2])
      | succ kj37 =>
       have H:=HA.out
       clear HA
       simp only [versallaw17_FlatTells.j2] at H
       replace H:=Option.bind_eq_some_iff.mp H
       obtain ⟨t479,A460,H⟩:=H
       replace H : (if t479=true then ((flat_Segs.f kj37 x15_37 x469000_9 x469001_9 x469002_9 x469003_9 x469004_9 x469005_9).bind fun t480=>((versalref14_Segs.f kj37 x15_37 x469000_9 x469001_9 x469002_9 x469003_9 x469004_9 x469005_9).bind fun t483=>((versalref14_SameSegs.f kj37 t480 t483).bind fun t486=>(if t486=true then ((flat_Curve.f kj37 a3_0 a3_1 a4_0 a4_1 a5_0 a5_1).bind fun t487=>((versalref14_Curve.f kj37 a3_0 a3_1 a4_0 a4_1 a5_0 a5_1).bind fun t490=>((versalref14_SameSegs.f kj37 t487 t490).bind fun t493=>(some t493)))) else (some false))))) else (some false))=some r:=H
       have A46:=amk A460
       clear A460
       by_cases c47 : t479=true
       ·subst c47
        have H1 : ((flat_Segs.f kj37 x15_37 x469000_9 x469001_9 x469002_9 x469003_9 x469004_9 x469005_9).bind fun t480=>((versalref14_Segs.f kj37 x15_37 x469000_9 x469001_9 x469002_9 x469003_9 x469004_9 x469005_9).bind fun t483=>((versalref14_SameSegs.f kj37 t480 t483).bind fun t486=>(if t486=true then ((flat_Curve.f kj37 a3_0 a3_1 a4_0 a4_1 a5_0 a5_1).bind fun t487=>((versalref14_Curve.f kj37 a3_0 a3_1 a4_0 a4_1 a5_0 a5_1).bind fun t490=>((versalref14_SameSegs.f kj37 t487 t490).bind fun t493=>(some t493)))) else (some false)))))=some r:=by rw [if_pos rfl] at H;exact H
        clear H
        have H:=H1
        clear H1
        replace H:=Option.bind_eq_some_iff.mp H
        obtain ⟨t480,A480,H⟩:=H
        replace H : ((versalref14_Segs.f kj37 x15_37 x469000_9 x469001_9 x469002_9 x469003_9 x469004_9 x469005_9).bind fun t483=>((versalref14_SameSegs.f kj37 t480 t483).bind fun t486=>(if t486=true then ((flat_Curve.f kj37 a3_0 a3_1 a4_0 a4_1 a5_0 a5_1).bind fun t487=>((versalref14_Curve.f kj37 a3_0 a3_1 a4_0 a4_1 a5_0 a5_1).bind fun t490=>((versalref14_SameSegs.f kj37 t487 t490).bind fun t493=>(some t493)))) else (some false))))=some r:=H
        have A48:=amk A480
        clear A480
        replace H:=Option.bind_eq_some_iff.mp H
        obtain ⟨t483,A490,H⟩:=H
        replace H : ((versalref14_SameSegs.f kj37 t480 t483).bind fun t486=>(if t486=true then ((flat_Curve.f kj37 a3_0 a3_1 a4_0 a4_1 a5_0 a5_1).bind fun t487=>((versalref14_Curve.f kj37 a3_0 a3_1 a4_0 a4_1 a5_0 a5_1).bind fun t490=>((versalref14_SameSegs.f kj37 t487 t490).bind fun t493=>(some t493)))) else (some false)))=some r:=H
        have A49:=amk A490
        clear A490
        replace H:=Option.bind_eq_some_iff.mp H
        obtain ⟨t486,A500,H⟩:=H
        replace H : (if t486=true then ((flat_Curve.f kj37 a3_0 a3_1 a4_0 a4_1 a5_0 a5_1).bind fun t487=>((versalref14_Curve.f kj37 a3_0 a3_1 a4_0 a4_1 a5_0 a5_1).bind fun t490=>((versalref14_SameSegs.f kj37 t487 t490).bind fun t493=>(some t493)))) else (some false))=some r:=H
        have A50:=amk A500
        clear A500
        by_cases c51 : t486=true
        ·subst c51
         have H1 : ((flat_Curve.f kj37 a3_0 a3_1 a4_0 a4_1 a5_0 a5_1).bind fun t487=>((versalref14_Curve.f kj37 a3_0 a3_1 a4_0 a4_1 a5_0 a5_1).bind fun t490=>((versalref14_SameSegs.f kj37 t487 t490).bind fun t493=>(some t493))))=some r:=by rw [if_pos rfl] at H;exact H
         clear H
         have H:=H1
         clear H1
         replace H:=Option.bind_eq_some_iff.mp H
         obtain ⟨t487,A520,H⟩:=H
         replace H : ((versalref14_Curve.f kj37 a3_0 a3_1 a4_0 a4_1 a5_0 a5_1).bind fun t490=>((versalref14_SameSegs.f kj37 t487 t490).bind fun t493=>(some t493)))=some r:=H
         have A52:=amk A520
         clear A520
         replace H:=Option.bind_eq_some_iff.mp H
         obtain ⟨t490,A530,H⟩:=H
         replace H : ((versalref14_SameSegs.f kj37 t487 t490).bind fun t493=>(some t493))=some r:=H
         have A53:=amk A530
         clear A530
         replace H:=Option.bind_eq_some_iff.mp H
         obtain ⟨t493,A540,H⟩:=H
         replace H : (some t493)=some r:=H
         have A54:=amk A540
         clear A540
         obtain rfl:=Option.some.inj H
         try go_wp2
         have n0_:=amk (Kd.S_drew HO_15.out)
         have n1_:=amk (blk_drew BK455.out)
         have n2_:=amk (blk_drew BK456.out)
         have n3_:=amk (blk_drew BK457.out)
         have n4_:=amk (blk_drew BK458.out)
         have n5_:=amk (blk_drew BK468.out)
         have n6_:=amk (bD1 HB.out)
         clear HO_15
         clear BK455
         clear BK456
         clear BK457
         clear BK458
         clear BK468
         clear HB
         have HO_15:=n0_
         have BK455:=n1_
         have BK456:=n2_
         have BK457:=n3_
         have BK458:=n4_
         have BK468:=n5_
         have HB:=n6_
         clear n0_ n1_ n2_ n3_ n4_ n5_ n6_
         refine start_ (n:=22) (S:=fun w'=>w'.cell? ⟨gb468,0,none⟩=some (.int .i64 x469000_9)∧w'.cell? ⟨gb468,1,none⟩=some (.int .i64 x469001_9)∧w'.cell? ⟨gb468,2,none⟩=some (.int .i64 x469002_9)∧w'.cell? ⟨gb468,3,none⟩=some (.int .i64 x469003_9)∧w'.cell? ⟨gb468,4,none⟩=some (.int .i64 x469004_9)∧w'.cell? ⟨gb468,5,none⟩=some (.int .i64 x469005_9)∧w'.cell? ⟨gb456,0,none⟩=some (.int .i64 a3_0)∧w'.cell? ⟨gb456,1,none⟩=some (.int .i64 a3_1)∧w'.cell? ⟨gb457,0,none⟩=some (.int .i64 a4_0)∧w'.cell? ⟨gb457,1,none⟩=some (.int .i64 a4_1)∧w'.cell? ⟨gb458,0,none⟩=some (.int .i64 a5_0)∧w'.cell? ⟨gb458,1,none⟩=some (.int .i64 a5_1)) (ds:=[]) #[false,false,false,false,false,false,false,false,false,false,false,false,false,false,false,false,false,false,false,false,false,false] (by kernel_rfl) rfl rfl ⟨(blk_cell BK468.out 0).trans rfl,(blk_cell BK468.out 1).trans rfl,(blk_cell BK468.out 2).trans rfl,(blk_cell BK468.out 3).trans rfl,(blk_cell BK468.out 4).trans rfl,(blk_cell BK468.out 5).trans rfl,(blk_cell BK456.out 0).trans rfl,(blk_cell BK456.out 1).trans rfl,(blk_cell BK457.out 0).trans rfl,(blk_cell BK457.out 1).trans rfl,(blk_cell BK458.out 0).trans rfl,(blk_cell BK458.out 1).trans rfl⟩ (fun hHeld=>?_);refine with_tabW versallaw17_FlatTells.tab7 versallaw17_FlatTells.bits7 (fun HT_ HW_=>?_)
         generalize wc.drew=w55 at HO_15 BK455 BK456 BK457 BK458 BK468 HB hHeld ⊢
         refine one_ (i:=0) (N:=some 37) #[true,false,false,false,false,false,false,false,false,false,false,false,false,false,false,false,false,false,false,false,false,false] rfl rfl (one_of HT_.out (by kernel_rfl)) (by decide) (fun K hK=>?_)
         refine goes_ Try.func7 (by kernel_rfl) rfl #[] (by rfl) rfl rfl (by (try simp only [List.map_toArray,List.map_cons,List.map_nil]);first|done|rfl|(simp only [List.length_drop,List.length_take];rfl)) ?_
         with_reducible refine (versallaw17_known.calls kj37  true _ A46.out).mono ?_
         rintro e w56 ⟨rfl,hb⟩
         refine ⟨_,rfl,?_⟩
         have n0_:=amk (Kd.S_below (by (with_reducible repeat (first|apply Kd.S_alloc|apply Kd.S_drewN|apply Kd.S_drew));exact HO_15.out) hb)
         have n1_:=amk (blk_below (g:=gb455) (o:=.cells #[.int .i64 a1_0,.int .i64 a1_1,.int .i64 a1_2,.int .i64 a1_3,.int .i64 a1_4,.int .i64 a1_5] 23 (0,0)) (by (with_reducible repeat first|apply kN|apply kD|apply kA);exact BK455.out) hb)
         have n2_:=amk (blk_below (g:=gb456) (o:=.cells #[.int .i64 a3_0,.int .i64 a3_1] 41 (0,0)) (by (with_reducible repeat first|apply kN|apply kD|apply kA);exact BK456.out) hb)
         have n3_:=amk (blk_below (g:=gb457) (o:=.cells #[.int .i64 a4_0,.int .i64 a4_1] 41 (0,0)) (by (with_reducible repeat first|apply kN|apply kD|apply kA);exact BK457.out) hb)
         have n4_:=amk (blk_below (g:=gb458) (o:=.cells #[.int .i64 a5_0,.int .i64 a5_1] 41 (0,0)) (by (with_reducible repeat first|apply kN|apply kD|apply kA);exact BK458.out) hb)
         have n5_:=amk (blk_below (g:=gb468) (o:=.cells #[.int .i64 x469000_9,.int .i64 x469001_9,.int .i64 x469002_9,.int .i64 x469003_9,.int .i64 x469004_9,.int .i64 x469005_9] 26 (0,0)) (by (with_reducible repeat first|apply kN|apply kD|apply kA);exact BK468.out) hb)
         have n6_:=amk (below_step (by repeat (first|(with_reducible first|exact HB.out|apply bAl|apply bDN|apply bD1|refine bSe ?_ GE455.out|refine bSe ?_ GE456.out|refine bSe ?_ GE457.out|refine bSe ?_ GE458.out|refine bSe ?_ GE468.out)|exact HB.out)) hb)
         clear HO_15
         clear BK455
         clear BK456
         clear BK457
         clear BK458
         clear BK468
         clear HB
         have HO_15:=n0_
         have BK455:=n1_
         have BK456:=n2_
         have BK457:=n3_
         have BK458:=n4_
         have BK468:=n5_
         have HB:=n6_
         clear n0_ n1_ n2_ n3_ n4_ n5_ n6_
         (try clear hb)
         (try clear hb2)
         (try clear hk)
         (try clear hi)
         obtain ⟨Ao57,co57,eo57⟩:=Kd.S_slice HO_15.out
         (first|subst eo57|(injection eo57 with f1_ f2_ f3_;have f4_:=f1_.symm;have f5_:=f3_.symm;clear f1_ f2_ f3_;subst f4_;subst f5_))
         refine hK.out _ _ ⟨(blk_cell BK468.out 0).trans rfl,(blk_cell BK468.out 1).trans rfl,(blk_cell BK468.out 2).trans rfl,(blk_cell BK468.out 3).trans rfl,(blk_cell BK468.out 4).trans rfl,(blk_cell BK468.out 5).trans rfl,(blk_cell BK456.out 0).trans rfl,(blk_cell BK456.out 1).trans rfl,(blk_cell BK457.out 0).trans rfl,(blk_cell BK457.out 1).trans rfl,(blk_cell BK458.out 0).trans rfl,(blk_cell BK458.out 1).trans rfl⟩ (fun hHeld=>?_)
         clear hK K
         refine norm_ (a':=?_) ?_ ?_
         rotate_left
         ·show Act.put _ (some 37) _=_
          simp only [Act.put,sTA,sCZ,sCS,i64_w,i32_w]
          rfl
         refine pure_ (i:=1) (N:=some 38) (v:=?_) (a':=?_) #[true,true,false,false,false,false,false,false,false,false,false,false,false,false,false,false,false,false,false,false,false,false] rfl rfl (any_of HT_.out (by kernel_rfl)) (fun _ _ _ h=>h) (Or.inl ⟨by rfl,?_⟩) ?_ ?_
         rotate_left
         ·intro w'
          go_simp
          with_reducible rfl
         rotate_left
         ·simp only [Act.put,sTA,sCZ,sCS,i64_w,i32_w]
          rfl
         refine pure_ (i:=2) (N:=some 39) (v:=?_) (a':=?_) #[true,true,true,false,false,false,false,false,false,false,false,false,false,false,false,false,false,false,false,false,false,false] rfl rfl (any_of HT_.out (by kernel_rfl)) (fun _ _ _ h=>h) (Or.inl ⟨by rfl,?_⟩) ?_ ?_
         rotate_left
         ·intro w'
          go_simp
          with_reducible rfl
         rotate_left
         ·simp only [Act.put,sTA,sCZ,sCS,i64_w,i32_w]
          rfl
         refine pure_ (i:=5) (N:=some 42) (v:=?_) (a':=?_) #[true,true,true,false,false,true,false,false,false,false,false,false,false,false,false,false,false,false,false,false,false,false] rfl rfl (any_of HT_.out (by kernel_rfl)) (fun _ _ _ h=>h) (Or.inl ⟨by rfl,?_⟩) ?_ ?_
         rotate_left
         ·intro w'
          go_simp
          with_reducible rfl
         rotate_left
         ·simp only [Act.put,sTA,sCZ,sCS,i64_w,i32_w]
          rfl
         refine take_ (i:=3) (N:=some 40) (v:=?_) (a':=?_) #[true,true,true,true,false,true,false,false,false,false,false,false,false,false,false,false,false,false,false,false,false,false] rfl rfl (take_ofW HT_.out HW_.out (by kernel_rfl)) (fun _ _ _ h=>h) (Or.inl ⟨by rfl,?_⟩) hHeld ?_ ?_
         rotate_left
         ·rintro w' ⟨s0,s1,s2,s3,s4,s5,s6,s7,s8,s9,s10,s11⟩
          go_simp
          with_reducible rfl
         rotate_left
         ·simp only [Act.put,sTA,sCZ,sCS,i64_w,i32_w]
          rfl
         refine take_ (i:=6) (N:=some 43) (v:=?_) (a':=?_) #[true,true,true,true,false,true,true,false,false,false,false,false,false,false,false,false,false,false,false,false,false,false] rfl rfl (take_ofW HT_.out HW_.out (by kernel_rfl)) (fun _ _ _ h=>h) (Or.inl ⟨by rfl,?_⟩) hHeld ?_ ?_
         rotate_left
         ·rintro w' ⟨s0,s1,s2,s3,s4,s5,s6,s7,s8,s9,s10,s11⟩
          go_simp
          with_reducible rfl
         rotate_left
         ·simp only [Act.put,sTA,sCZ,sCS,i64_w,i32_w]
          rfl
         refine one_ (i:=4) (N:=some 41) #[true,true,true,true,true,true,true,false,false,false,false,false,false,false,false,false,false,false,false,false,false,false] rfl rfl (one_of HT_.out (by kernel_rfl)) (by decide) (fun K hK=>?_)
         refine goes_ Try.func10 (by kernel_rfl) rfl #[.slice Ao57 x15_37.length co57,.agg #[.int .i64 x469000_9,.int .i64 x469001_9,.int .i64 x469002_9,.int .i64 x469003_9,.int .i64 x469004_9,.int .i64 x469005_9]] (by rfl) rfl rfl (by (try simp only [List.map_toArray,List.map_cons,List.map_nil]);first|done|rfl|(simp only [List.length_drop,List.length_take];rfl)) ?_
         with_reducible refine (flat_Segs.calls kj37 _ _ x15_37 x469000_9 x469001_9 x469002_9 x469003_9 x469004_9 x469005_9 t480 _ ?side1 ?side2 A48.out).mono ?_
         (case side1=>repeat (first|exact (Kd.S_reads' HO_15.out).2.2|(with_reducible refine Kd.C_alloc ?_ _)|(with_reducible refine Kd.C_drewN ?_ _)|(with_reducible refine Kd.C_drew ?_)))
         (case side2=>exact (Kd.S_reads' HO_15.out).2.1)
         rintro e w58 ⟨v481,rfl,ho0,hb⟩
         refine ⟨_,rfl,?_⟩
         have n0_:=amk (Kd.S_below (by (with_reducible repeat (first|apply Kd.S_alloc|apply Kd.S_drewN|apply Kd.S_drew));exact HO_15.out) hb)
         have n1_:=amk (Kd.R_lower ho0 (below_size (by repeat (first|(with_reducible first|exact HB.out|apply bAl|apply bDN|apply bD1|refine bSe ?_ GE455.out|refine bSe ?_ GE456.out|refine bSe ?_ GE457.out|refine bSe ?_ GE458.out|refine bSe ?_ GE468.out)|exact HB.out))))
         have n2_:=amk (blk_below (g:=gb455) (o:=.cells #[.int .i64 a1_0,.int .i64 a1_1,.int .i64 a1_2,.int .i64 a1_3,.int .i64 a1_4,.int .i64 a1_5] 23 (0,0)) (by (with_reducible repeat first|apply kN|apply kD|apply kA);exact BK455.out) hb)
         have n3_:=amk (blk_below (g:=gb456) (o:=.cells #[.int .i64 a3_0,.int .i64 a3_1] 41 (0,0)) (by (with_reducible repeat first|apply kN|apply kD|apply kA);exact BK456.out) hb)
         have n4_:=amk (blk_below (g:=gb457) (o:=.cells #[.int .i64 a4_0,.int .i64 a4_1] 41 (0,0)) (by (with_reducible repeat first|apply kN|apply kD|apply kA);exact BK457.out) hb)
         have n5_:=amk (blk_below (g:=gb458) (o:=.cells #[.int .i64 a5_0,.int .i64 a5_1] 41 (0,0)) (by (with_reducible repeat first|apply kN|apply kD|apply kA);exact BK458.out) hb)
         have n6_:=amk (blk_below (g:=gb468) (o:=.cells #[.int .i64 x469000_9,.int .i64 x469001_9,.int .i64 x469002_9,.int .i64 x469003_9,.int .i64 x469004_9,.int .i64 x469005_9] 26 (0,0)) (by (with_reducible repeat first|apply kN|apply kD|apply kA);exact BK468.out) hb)
         have n7_:=amk (below_step (by repeat (first|(with_reducible first|exact HB.out|apply bAl|apply bDN|apply bD1|refine bSe ?_ GE455.out|refine bSe ?_ GE456.out|refine bSe ?_ GE457.out|refine bSe ?_ GE458.out|refine bSe ?_ GE468.out)|exact HB.out)) hb)
         clear HO_15
         clear BK455
         clear BK456
         clear BK457
         clear BK458
         clear BK468
         clear HB
         have HO_15:=n0_
         have HO482:=n1_
         have BK455:=n2_
         have BK456:=n3_
         have BK457:=n4_
         have BK458:=n5_
         have BK468:=n6_
         have HB:=n7_
         clear n0_ n1_ n2_ n3_ n4_ n5_ n6_ n7_
         (try clear hb)
         (try clear hb2)
         (try clear hk)
         (try clear hi)
         (try clear ho0)
         refine hK.out _ _ ⟨(blk_cell BK468.out 0).trans rfl,(blk_cell BK468.out 1).trans rfl,(blk_cell BK468.out 2).trans rfl,(blk_cell BK468.out 3).trans rfl,(blk_cell BK468.out 4).trans rfl,(blk_cell BK468.out 5).trans rfl,(blk_cell BK456.out 0).trans rfl,(blk_cell BK456.out 1).trans rfl,(blk_cell BK457.out 0).trans rfl,(blk_cell BK457.out 1).trans rfl,(blk_cell BK458.out 0).trans rfl,(blk_cell BK458.out 1).trans rfl⟩ (fun hHeld=>?_)
         clear hK K
         refine norm_ (a':=?_) ?_ ?_
         rotate_left
         ·show Act.put _ (some 41) _=_
          simp only [Act.put,sTA,sCZ,sCS,i64_w,i32_w]
          rfl
         refine one_ (i:=7) (N:=some 44) #[true,true,true,true,true,true,true,true,false,false,false,false,false,false,false,false,false,false,false,false,false,false] rfl rfl (one_of HT_.out (by kernel_rfl)) (by decide) (fun K hK=>?_)
         refine goes_ Try.func15 (by kernel_rfl) rfl #[.slice Ao57 x15_37.length co57,.agg #[.int .i64 x469000_9,.int .i64 x469001_9,.int .i64 x469002_9,.int .i64 x469003_9,.int .i64 x469004_9,.int .i64 x469005_9]] (by rfl) rfl rfl (by (try simp only [List.map_toArray,List.map_cons,List.map_nil]);first|done|rfl|(simp only [List.length_drop,List.length_take];rfl)) ?_
         with_reducible refine (versalref14_Segs.calls kj37 _ _ x15_37 x469000_9 x469001_9 x469002_9 x469003_9 x469004_9 x469005_9 t483 _ ?side1 ?side2 A49.out).mono ?_
         (case side1=>repeat (first|exact (Kd.S_reads' HO_15.out).2.2|(with_reducible refine Kd.C_alloc ?_ _)|(with_reducible refine Kd.C_drewN ?_ _)|(with_reducible refine Kd.C_drew ?_)))
         (case side2=>exact (Kd.S_reads' HO_15.out).2.1)
         rintro e w59 ⟨v484,rfl,ho0,hb⟩
         refine ⟨_,rfl,?_⟩
         have n0_:=amk (Kd.S_below (by (with_reducible repeat (first|apply Kd.S_alloc|apply Kd.S_drewN|apply Kd.S_drew));exact HO_15.out) hb)
         have n1_:=amk (Kd.R_elder' (by (with_reducible repeat (first|apply Kd.R_alloc|apply Kd.R_drewN|apply Kd.R_drew));exact HO482.out) (Kd.R_base ho0) hb)
         have n2_:=amk (Kd.R_lower (Kd.R_new' ho0 (Kd.R_lt (by (with_reducible repeat (first|apply Kd.R_alloc|apply Kd.R_drewN|apply Kd.R_drew));exact HO482.out))) (below_size (by repeat (first|(with_reducible first|exact HB.out|apply bAl|apply bDN|apply bD1|refine bSe ?_ GE455.out|refine bSe ?_ GE456.out|refine bSe ?_ GE457.out|refine bSe ?_ GE458.out|refine bSe ?_ GE468.out)|exact HB.out))))
         have n3_:=amk (blk_below (g:=gb455) (o:=.cells #[.int .i64 a1_0,.int .i64 a1_1,.int .i64 a1_2,.int .i64 a1_3,.int .i64 a1_4,.int .i64 a1_5] 23 (0,0)) (by (with_reducible repeat first|apply kN|apply kD|apply kA);exact BK455.out) hb)
         have n4_:=amk (blk_below (g:=gb456) (o:=.cells #[.int .i64 a3_0,.int .i64 a3_1] 41 (0,0)) (by (with_reducible repeat first|apply kN|apply kD|apply kA);exact BK456.out) hb)
         have n5_:=amk (blk_below (g:=gb457) (o:=.cells #[.int .i64 a4_0,.int .i64 a4_1] 41 (0,0)) (by (with_reducible repeat first|apply kN|apply kD|apply kA);exact BK457.out) hb)
         have n6_:=amk (blk_below (g:=gb458) (o:=.cells #[.int .i64 a5_0,.int .i64 a5_1] 41 (0,0)) (by (with_reducible repeat first|apply kN|apply kD|apply kA);exact BK458.out) hb)
         have n7_:=amk (blk_below (g:=gb468) (o:=.cells #[.int .i64 x469000_9,.int .i64 x469001_9,.int .i64 x469002_9,.int .i64 x469003_9,.int .i64 x469004_9,.int .i64 x469005_9] 26 (0,0)) (by (with_reducible repeat first|apply kN|apply kD|apply kA);exact BK468.out) hb)
         have n8_:=amk (below_step (by repeat (first|(with_reducible first|exact HB.out|apply bAl|apply bDN|apply bD1|refine bSe ?_ GE455.out|refine bSe ?_ GE456.out|refine bSe ?_ GE457.out|refine bSe ?_ GE458.out|refine bSe ?_ GE468.out)|exact HB.out)) hb)
         clear HO_15
         clear HO482
         clear BK455
         clear BK456
         clear BK457
         clear BK458
         clear BK468
         clear HB
         have HO_15:=n0_
         have HO482:=n1_
         have HO485:=n2_
         have BK455:=n3_
         have BK456:=n4_
         have BK457:=n5_
         have BK458:=n6_
         have BK468:=n7_
         have HB:=n8_
         clear n0_ n1_ n2_ n3_ n4_ n5_ n6_ n7_ n8_
         (try clear hb)
         (try clear hb2)
         (try clear hk)
         (try clear hi)
         (try clear ho0)
         obtain ⟨Ao60,co60,eo60⟩:=Kd.R_slice HO482.out
         (first|subst eo60|(injection eo60 with f1_ f2_ f3_;have f4_:=f1_.symm;have f5_:=f3_.symm;clear f1_ f2_ f3_;subst f4_;subst f5_))
         obtain ⟨Ao61,co61,eo61⟩:=Kd.R_slice HO485.out
         (first|subst eo61|(injection eo61 with f1_ f2_ f3_;have f4_:=f1_.symm;have f5_:=f3_.symm;clear f1_ f2_ f3_;subst f4_;subst f5_))
         refine hK.out _ _ ⟨(blk_cell BK468.out 0).trans rfl,(blk_cell BK468.out 1).trans rfl,(blk_cell BK468.out 2).trans rfl,(blk_cell BK468.out 3).trans rfl,(blk_cell BK468.out 4).trans rfl,(blk_cell BK468.out 5).trans rfl,(blk_cell BK456.out 0).trans rfl,(blk_cell BK456.out 1).trans rfl,(blk_cell BK457.out 0).trans rfl,(blk_cell BK457.out 1).trans rfl,(blk_cell BK458.out 0).trans rfl,(blk_cell BK458.out 1).trans rfl⟩ (fun hHeld=>?_)
         clear hK K
         refine norm_ (a':=?_) ?_ ?_
         rotate_left
         ·show Act.put _ (some 44) _=_
          simp only [Act.put,sTA,sCZ,sCS,i64_w,i32_w]
          rfl
         refine one_ (i:=8) (N:=some 45) #[true,true,true,true,true,true,true,true,true,false,false,false,false,false,false,false,false,false,false,false,false,false] rfl rfl (one_of HT_.out (by kernel_rfl)) (by decide) (fun K hK=>?_)
         refine goes_ Try.func14 (by kernel_rfl) rfl #[.slice Ao60 t480.length co60,.slice Ao61 t483.length co61] (by rfl) rfl rfl (by (try simp only [List.map_toArray,List.map_cons,List.map_nil]);first|done|rfl|(simp only [List.length_drop,List.length_take];rfl)) ?_
         with_reducible refine (versalref14_SameSegs.calls kj37 _ _ t480 _ _ t483 true _ ?side1 ?side2 ?side3 ?side4 A50.out).mono ?_
         (case side1=>repeat (first|exact (Kd.R_reads' HO482.out).2.2|(with_reducible refine Kd.C_alloc ?_ _)|(with_reducible refine Kd.C_drewN ?_ _)|(with_reducible refine Kd.C_drew ?_)))
         (case side2=>exact (Kd.R_reads' HO482.out).2.1)
         (case side3=>repeat (first|exact (Kd.R_reads' HO485.out).2.2|(with_reducible refine Kd.C_alloc ?_ _)|(with_reducible refine Kd.C_drewN ?_ _)|(with_reducible refine Kd.C_drew ?_)))
         (case side4=>exact (Kd.R_reads' HO485.out).2.1)
         rintro e w' ⟨rfl,⟨nd,rfl⟩⟩
         refine ⟨_,rfl,?_⟩
         refine hK.out _ _ ⟨(blk_cell BK468.out 0).trans rfl,(blk_cell BK468.out 1).trans rfl,(blk_cell BK468.out 2).trans rfl,(blk_cell BK468.out 3).trans rfl,(blk_cell BK468.out 4).trans rfl,(blk_cell BK468.out 5).trans rfl,(blk_cell BK456.out 0).trans rfl,(blk_cell BK456.out 1).trans rfl,(blk_cell BK457.out 0).trans rfl,(blk_cell BK457.out 1).trans rfl,(blk_cell BK458.out 0).trans rfl,(blk_cell BK458.out 1).trans rfl⟩ (fun hHeld=>?_)
         clear hK K
         refine norm_ (a':=?_) ?_ ?_
         rotate_left
         ·show Act.put _ (some 45) _=_
          simp only [Act.put,sTA,sCZ,sCS,i64_w,i32_w]
          rfl
         refine pure_ (i:=9) (N:=some 46) (v:=?_) (a':=?_) #[true,true,true,true,true,true,true,true,true,true,false,false,false,false,false,false,false,false,false,false,false,false] rfl rfl (any_of HT_.out (by kernel_rfl)) (fun _ _ _ h=>h) (Or.inl ⟨by rfl,?_⟩) ?_ ?_
         rotate_left
         ·intro w'
          go_simp
          with_reducible rfl
         rotate_left
         ·simp only [Act.put,sTA,sCZ,sCS,i64_w,i32_w]
          rfl
         refine pure_ (i:=10) (N:=some 47) (v:=?_) (a':=?_) #[true,true,true,true,true,true,true,true,true,true,true,false,false,false,false,false,false,false,false,false,false,false] rfl rfl (any_of HT_.out (by kernel_rfl)) (fun _ _ _ h=>h) (Or.inl ⟨by rfl,?_⟩) ?_ ?_
         rotate_left
         ·intro w'
          go_simp
          with_reducible rfl
         rotate_left
         ·simp only [Act.put,sTA,sCZ,sCS,i64_w,i32_w]
          rfl
         refine take_ (i:=11) (N:=some 48) (v:=?_) (a':=?_) #[true,true,true,true,true,true,true,true,true,true,true,true,false,false,false,false,false,false,false,false,false,false] rfl rfl (take_ofW HT_.out HW_.out (by kernel_rfl)) (fun _ _ _ h=>h) (Or.inl ⟨by rfl,?_⟩) hHeld ?_ ?_
         rotate_left
         ·rintro w' ⟨s0,s1,s2,s3,s4,s5,s6,s7,s8,s9,s10,s11⟩
          go_simp
          with_reducible rfl
         rotate_left
         ·simp only [Act.put,sTA,sCZ,sCS,i64_w,i32_w]
          rfl
         refine take_ (i:=12) (N:=some 49) (v:=?_) (a':=?_) #[true,true,true,true,true,true,true,true,true,true,true,true,true,false,false,false,false,false,false,false,false,false] rfl rfl (take_ofW HT_.out HW_.out (by kernel_rfl)) (fun _ _ _ h=>h) (Or.inl ⟨by rfl,?_⟩) hHeld ?_ ?_
         rotate_left
         ·rintro w' ⟨s0,s1,s2,s3,s4,s5,s6,s7,s8,s9,s10,s11⟩
          go_simp
          with_reducible rfl
         rotate_left
         ·simp only [Act.put,sTA,sCZ,sCS,i64_w,i32_w]
          rfl
         refine take_ (i:=13) (N:=some 50) (v:=?_) (a':=?_) #[true,true,true,true,true,true,true,true,true,true,true,true,true,true,false,false,false,false,false,false,false,false] rfl rfl (take_ofW HT_.out HW_.out (by kernel_rfl)) (fun _ _ _ h=>h) (Or.inl ⟨by rfl,?_⟩) hHeld ?_ ?_
         rotate_left
         ·rintro w' ⟨s0,s1,s2,s3,s4,s5,s6,s7,s8,s9,s10,s11⟩
          go_simp
          with_reducible rfl
         rotate_left
         ·simp only [Act.put,sTA,sCZ,sCS,i64_w,i32_w]
          rfl
         refine take_ (i:=15) (N:=some 52) (v:=?_) (a':=?_) #[true,true,true,true,true,true,true,true,true,true,true,true,true,true,false,true,false,false,false,false,false,false] rfl rfl (take_ofW HT_.out HW_.out (by kernel_rfl)) (fun _ _ _ h=>h) (Or.inl ⟨by rfl,?_⟩) hHeld ?_ ?_
         rotate_left
         ·rintro w' ⟨s0,s1,s2,s3,s4,s5,s6,s7,s8,s9,s10,s11⟩
          go_simp
          with_reducible rfl
         rotate_left
         ·simp only [Act.put,sTA,sCZ,sCS,i64_w,i32_w]
          rfl
         refine take_ (i:=16) (N:=some 53) (v:=?_) (a':=?_) #[true,true,true,true,true,true,true,true,true,true,true,true,true,true,false,true,true,false,false,false,false,false] rfl rfl (take_ofW HT_.out HW_.out (by kernel_rfl)) (fun _ _ _ h=>h) (Or.inl ⟨by rfl,?_⟩) hHeld ?_ ?_
         rotate_left
         ·rintro w' ⟨s0,s1,s2,s3,s4,s5,s6,s7,s8,s9,s10,s11⟩
          go_simp
          with_reducible rfl
         rotate_left
         ·simp only [Act.put,sTA,sCZ,sCS,i64_w,i32_w]
          rfl
         refine take_ (i:=17) (N:=some 54) (v:=?_) (a':=?_) #[true,true,true,true,true,true,true,true,true,true,true,true,true,true,false,true,true,true,false,false,false,false] rfl rfl (take_ofW HT_.out HW_.out (by kernel_rfl)) (fun _ _ _ h=>h) (Or.inl ⟨by rfl,?_⟩) hHeld ?_ ?_
         rotate_left
         ·rintro w' ⟨s0,s1,s2,s3,s4,s5,s6,s7,s8,s9,s10,s11⟩
          go_simp
          with_reducible rfl
         rotate_left
         ·simp only [Act.put,sTA,sCZ,sCS,i64_w,i32_w]
          rfl
         refine one_ (i:=14) (N:=some 51) #[true,true,true,true,true,true,true,true,true,true,true,true,true,true,true,true,true,true,false,false,false,false] rfl rfl (one_of HT_.out (by kernel_rfl)) (by decide) (fun K hK=>?_)
         refine goes_ Try.func16 (by kernel_rfl) rfl #[.agg #[.int .i64 a3_0,.int .i64 a3_1],.agg #[.int .i64 a4_0,.int .i64 a4_1],.agg #[.int .i64 a5_0,.int .i64 a5_1]] (by rfl) rfl rfl (by (try simp only [List.map_toArray,List.map_cons,List.map_nil]);first|done|rfl|(simp only [List.length_drop,List.length_take];rfl)) ?_
         with_reducible refine (flat_Curve.calls kj37 a3_0 a3_1 a4_0 a4_1 a5_0 a5_1 t487 _ A52.out).mono ?_
         rintro e w62 ⟨v488,rfl,ho0,hb⟩
         refine ⟨_,rfl,?_⟩
         have n0_:=amk (Kd.S_below (by (with_reducible repeat (first|apply Kd.S_alloc|apply Kd.S_drewN|apply Kd.S_drew));exact HO_15.out) hb)
         have n1_:=amk (Kd.R_elder' (by (with_reducible repeat (first|apply Kd.R_alloc|apply Kd.R_drewN|apply Kd.R_drew));exact HO482.out) (Kd.R_base ho0) hb)
         have n2_:=amk (Kd.R_elder' (by (with_reducible repeat (first|apply Kd.R_alloc|apply Kd.R_drewN|apply Kd.R_drew));exact HO485.out) (Kd.R_base ho0) hb)
         have n3_:=amk (Kd.R_lower (Kd.R_new' (Kd.R_new' ho0 (Kd.R_lt (by (with_reducible repeat (first|apply Kd.R_alloc|apply Kd.R_drewN|apply Kd.R_drew));exact HO482.out))) (Kd.R_lt (by (with_reducible repeat (first|apply Kd.R_alloc|apply Kd.R_drewN|apply Kd.R_drew));exact HO485.out))) (below_size (by repeat (first|(with_reducible first|exact HB.out|apply bAl|apply bDN|apply bD1|refine bSe ?_ GE455.out|refine bSe ?_ GE456.out|refine bSe ?_ GE457.out|refine bSe ?_ GE458.out|refine bSe ?_ GE468.out)|exact HB.out))))
         have n4_:=amk (blk_below (g:=gb455) (o:=.cells #[.int .i64 a1_0,.int .i64 a1_1,.int .i64 a1_2,.int .i64 a1_3,.int .i64 a1_4,.int .i64 a1_5] 23 (0,0)) (by (with_reducible repeat first|apply kN|apply kD|apply kA);exact BK455.out) hb)
         have n5_:=amk (blk_below (g:=gb456) (o:=.cells #[.int .i64 a3_0,.int .i64 a3_1] 41 (0,0)) (by (with_reducible repeat first|apply kN|apply kD|apply kA);exact BK456.out) hb)
         have n6_:=amk (blk_below (g:=gb457) (o:=.cells #[.int .i64 a4_0,.int .i64 a4_1] 41 (0,0)) (by (with_reducible repeat first|apply kN|apply kD|apply kA);exact BK457.out) hb)
         have n7_:=amk (blk_below (g:=gb458) (o:=.cells #[.int .i64 a5_0,.int .i64 a5_1] 41 (0,0)) (by (with_reducible repeat first|apply kN|apply kD|apply kA);exact BK458.out) hb)
         have n8_:=amk (blk_below (g:=gb468) (o:=.cells #[.int .i64 x469000_9,.int .i64 x469001_9,.int .i64 x469002_9,.int .i64 x469003_9,.int .i64 x469004_9,.int .i64 x469005_9] 26 (0,0)) (by (with_reducible repeat first|apply kN|apply kD|apply kA);exact BK468.out) hb)
         have n9_:=amk (below_step (by repeat (first|(with_reducible first|exact HB.out|apply bAl|apply bDN|apply bD1|refine bSe ?_ GE455.out|refine bSe ?_ GE456.out|refine bSe ?_ GE457.out|refine bSe ?_ GE458.out|refine bSe ?_ GE468.out)|exact HB.out)) hb)
         clear HO_15
         clear HO482
         clear HO485
         clear BK455
         clear BK456
         clear BK457
         clear BK458
         clear BK468
         clear HB
         have HO_15:=n0_
         have HO482:=n1_
         have HO485:=n2_
         have HO489:=n3_
         have BK455:=n4_
         have BK456:=n5_
         have BK457:=n6_
         have BK458:=n7_
         have BK468:=n8_
         have HB:=n9_
         clear n0_ n1_ n2_ n3_ n4_ n5_ n6_ n7_ n8_ n9_
         (try clear hb)
         (try clear hb2)
         (try clear hk)
         (try clear hi)
         (try clear ho0)
         refine hK.out _ _ ⟨(blk_cell BK468.out 0).trans rfl,(blk_cell BK468.out 1).trans rfl,(blk_cell BK468.out 2).trans rfl,(blk_cell BK468.out 3).trans rfl,(blk_cell BK468.out 4).trans rfl,(blk_cell BK468.out 5).trans rfl,(blk_cell BK456.out 0).trans rfl,(blk_cell BK456.out 1).trans rfl,(blk_cell BK457.out 0).trans rfl,(blk_cell BK457.out 1).trans rfl,(blk_cell BK458.out 0).trans rfl,(blk_cell BK458.out 1).trans rfl⟩ (fun hHeld=>?_)
         clear hK K
         refine norm_ (a':=?_) ?_ ?_
         rotate_left
         ·show Act.put _ (some 51) _=_
          simp only [Act.put,sTA,sCZ,sCS,i64_w,i32_w]
          rfl
         refine one_ (i:=18) (N:=some 55) #[true,true,true,true,true,true,true,true,true,true,true,true,true,true,true,true,true,true,true,false,false,false] rfl rfl (one_of HT_.out (by kernel_rfl)) (by decide) (fun K hK=>?_)
         refine goes_ Try.func17 (by kernel_rfl) rfl #[.agg #[.int .i64 a3_0,.int .i64 a3_1],.agg #[.int .i64 a4_0,.int .i64 a4_1],.agg #[.int .i64 a5_0,.int .i64 a5_1]] (by rfl) rfl rfl (by (try simp only [List.map_toArray,List.map_cons,List.map_nil]);first|done|rfl|(simp only [List.length_drop,List.length_take];rfl)) ?_
         with_reducible refine (versalref14_Curve.calls kj37 a3_0 a3_1 a4_0 a4_1 a5_0 a5_1 t490 _ A53.out).mono ?_
         rintro e w63 ⟨v491,rfl,ho0,hb⟩
         refine ⟨_,rfl,?_⟩
         have n0_:=amk (Kd.S_below (by (with_reducible repeat (first|apply Kd.S_alloc|apply Kd.S_drewN|apply Kd.S_drew));exact HO_15.out) hb)
         have n1_:=amk (Kd.R_elder' (by (with_reducible repeat (first|apply Kd.R_alloc|apply Kd.R_drewN|apply Kd.R_drew));exact HO482.out) (Kd.R_base ho0) hb)
         have n2_:=amk (Kd.R_elder' (by (with_reducible repeat (first|apply Kd.R_alloc|apply Kd.R_drewN|apply Kd.R_drew));exact HO485.out) (Kd.R_base ho0) hb)
         have n3_:=amk (Kd.R_elder' (by (with_reducible repeat (first|apply Kd.R_alloc|apply Kd.R_drewN|apply Kd.R_drew));exact HO489.out) (Kd.R_base ho0) hb)
         have n4_:=amk (Kd.R_lower (Kd.R_new' (Kd.R_new' (Kd.R_new' ho0 (Kd.R_lt (by (with_reducible repeat (first|apply Kd.R_alloc|apply Kd.R_drewN|apply Kd.R_drew));exact HO482.out))) (Kd.R_lt (by (with_reducible repeat (first|apply Kd.R_alloc|apply Kd.R_drewN|apply Kd.R_drew));exact HO485.out))) (Kd.R_lt (by (with_reducible repeat (first|apply Kd.R_alloc|apply Kd.R_drewN|apply Kd.R_drew));exact HO489.out))) (below_size (by repeat (first|(with_reducible first|exact HB.out|apply bAl|apply bDN|apply bD1|refine bSe ?_ GE455.out|refine bSe ?_ GE456.out|refine bSe ?_ GE457.out|refine bSe ?_ GE458.out|refine bSe ?_ GE468.out)|exact HB.out))))
         have n5_:=amk (blk_below (g:=gb455) (o:=.cells #[.int .i64 a1_0,.int .i64 a1_1,.int .i64 a1_2,.int .i64 a1_3,.int .i64 a1_4,.int .i64 a1_5] 23 (0,0)) (by (with_reducible repeat first|apply kN|apply kD|apply kA);exact BK455.out) hb)
         have n6_:=amk (blk_below (g:=gb456) (o:=.cells #[.int .i64 a3_0,.int .i64 a3_1] 41 (0,0)) (by (with_reducible repeat first|apply kN|apply kD|apply kA);exact BK456.out) hb)
         have n7_:=amk (blk_below (g:=gb457) (o:=.cells #[.int .i64 a4_0,.int .i64 a4_1] 41 (0,0)) (by (with_reducible repeat first|apply kN|apply kD|apply kA);exact BK457.out) hb)
         have n8_:=amk (blk_below (g:=gb458) (o:=.cells #[.int .i64 a5_0,.int .i64 a5_1] 41 (0,0)) (by (with_reducible repeat first|apply kN|apply kD|apply kA);exact BK458.out) hb)
         have n9_:=amk (blk_below (g:=gb468) (o:=.cells #[.int .i64 x469000_9,.int .i64 x469001_9,.int .i64 x469002_9,.int .i64 x469003_9,.int .i64 x469004_9,.int .i64 x469005_9] 26 (0,0)) (by (with_reducible repeat first|apply kN|apply kD|apply kA);exact BK468.out) hb)
         have n10_:=amk (below_step (by repeat (first|(with_reducible first|exact HB.out|apply bAl|apply bDN|apply bD1|refine bSe ?_ GE455.out|refine bSe ?_ GE456.out|refine bSe ?_ GE457.out|refine bSe ?_ GE458.out|refine bSe ?_ GE468.out)|exact HB.out)) hb)
         clear HO_15
         clear HO482
         clear HO485
         clear HO489
         clear BK455
         clear BK456
         clear BK457
         clear BK458
         clear BK468
         clear HB
         have HO_15:=n0_
         have HO482:=n1_
         have HO485:=n2_
         have HO489:=n3_
         have HO492:=n4_
         have BK455:=n5_
         have BK456:=n6_
         have BK457:=n7_
         have BK458:=n8_
         have BK468:=n9_
         have HB:=n10_
         clear n0_ n1_ n2_ n3_ n4_ n5_ n6_ n7_ n8_ n9_ n10_
         (try clear hb)
         (try clear hb2)
         (try clear hk)
         (try clear hi)
         (try clear ho0)
         obtain ⟨Ao64,co64,eo64⟩:=Kd.R_slice HO489.out
         (first|subst eo64|(injection eo64 with f1_ f2_ f3_;have f4_:=f1_.symm;have f5_:=f3_.symm;clear f1_ f2_ f3_;subst f4_;subst f5_))
         obtain ⟨Ao65,co65,eo65⟩:=Kd.R_slice HO492.out
         (first|subst eo65|(injection eo65 with f1_ f2_ f3_;have f4_:=f1_.symm;have f5_:=f3_.symm;clear f1_ f2_ f3_;subst f4_;subst f5_))
         refine hK.out _ _ ⟨(blk_cell BK468.out 0).trans rfl,(blk_cell BK468.out 1).trans rfl,(blk_cell BK468.out 2).trans rfl,(blk_cell BK468.out 3).trans rfl,(blk_cell BK468.out 4).trans rfl,(blk_cell BK468.out 5).trans rfl,(blk_cell BK456.out 0).trans rfl,(blk_cell BK456.out 1).trans rfl,(blk_cell BK457.out 0).trans rfl,(blk_cell BK457.out 1).trans rfl,(blk_cell BK458.out 0).trans rfl,(blk_cell BK458.out 1).trans rfl⟩ (fun hHeld=>?_)
         clear hK K
         refine norm_ (a':=?_) ?_ ?_
         rotate_left
         ·show Act.put _ (some 55) _=_
          simp only [Act.put,sTA,sCZ,sCS,i64_w,i32_w]
          rfl
         refine one_ (i:=19) (N:=some 56) #[true,true,true,true,true,true,true,true,true,true,true,true,true,true,true,true,true,true,true,true,false,false] rfl rfl (one_of HT_.out (by kernel_rfl)) (by decide) (fun K hK=>?_)
         refine goes_ Try.func14 (by kernel_rfl) rfl #[.slice Ao64 t487.length co64,.slice Ao65 t490.length co65] (by rfl) rfl rfl (by (try simp only [List.map_toArray,List.map_cons,List.map_nil]);first|done|rfl|(simp only [List.length_drop,List.length_take];rfl)) ?_
         with_reducible refine (versalref14_SameSegs.calls kj37 _ _ t487 _ _ t490 t493 _ ?side1 ?side2 ?side3 ?side4 A54.out).mono ?_
         (case side1=>repeat (first|exact (Kd.R_reads' HO489.out).2.2|(with_reducible refine Kd.C_alloc ?_ _)|(with_reducible refine Kd.C_drewN ?_ _)|(with_reducible refine Kd.C_drew ?_)))
         (case side2=>exact (Kd.R_reads' HO489.out).2.1)
         (case side3=>repeat (first|exact (Kd.R_reads' HO492.out).2.2|(with_reducible refine Kd.C_alloc ?_ _)|(with_reducible refine Kd.C_drewN ?_ _)|(with_reducible refine Kd.C_drew ?_)))
         (case side4=>exact (Kd.R_reads' HO492.out).2.1)
         rintro e w' ⟨rfl,⟨nd,rfl⟩⟩
         refine ⟨_,rfl,?_⟩
         refine hK.out _ _ ⟨(blk_cell BK468.out 0).trans rfl,(blk_cell BK468.out 1).trans rfl,(blk_cell BK468.out 2).trans rfl,(blk_cell BK468.out 3).trans rfl,(blk_cell BK468.out 4).trans rfl,(blk_cell BK468.out 5).trans rfl,(blk_cell BK456.out 0).trans rfl,(blk_cell BK456.out 1).trans rfl,(blk_cell BK457.out 0).trans rfl,(blk_cell BK457.out 1).trans rfl,(blk_cell BK458.out 0).trans rfl,(blk_cell BK458.out 1).trans rfl⟩ (fun hHeld=>?_)
         clear hK K
         refine norm_ (a':=?_) ?_ ?_
         rotate_left
         ·show Act.put _ (some 56) _=_
          simp only [Act.put,sTA,sCZ,sCS,i64_w,i32_w]
          rfl
         refine pure_ (i:=20) (N:=some 57) (v:=?_) (a':=?_) #[true,true,true,true,true,true,true,true,true,true,true,true,true,true,true,true,true,true,true,true,true,false] rfl rfl (any_of HT_.out (by kernel_rfl)) (fun _ _ _ h=>h) (Or.inl ⟨by rfl,?_⟩) ?_ ?_
         rotate_left
         ·intro w'
          go_simp
          with_reducible rfl
         rotate_left
         ·simp only [Act.put,sTA,sCZ,sCS,i64_w,i32_w]
          rfl
         refine pure_ (i:=21) (N:=some 14) (v:=?_) (a':=?_) #[true,true,true,true,true,true,true,true,true,true,true,true,true,true,true,true,true,true,true,true,true,true] rfl rfl (any_of HT_.out (by kernel_rfl)) (fun _ _ _ h=>h) (Or.inl ⟨by rfl,?_⟩) ?_ ?_
         rotate_left
         ·intro w'
          go_simp
          with_reducible rfl
         rotate_left
         ·simp only [Act.put,sTA,sCZ,sCS,i64_w,i32_w]
          rfl
         refine done_ (done_of HT_.out (by kernel_rfl)) ?_
         try go_wp2
         go_ret
         exact ⟨by first|rfl|(simp [errW_none,errW_some] <;> rfl)|(simp [*,errW_none,errW_some] <;> rfl),by repeat (first|(with_reducible first|exact HB.out|apply bAl|apply bDN|apply bD1|refine bSe ?_ GE455.out|refine bSe ?_ GE456.out|refine bSe ?_ GE457.out|refine bSe ?_ GE458.out|refine bSe ?_ GE468.out)|exact HB.out)⟩
        ·replace c51:=Bool.eq_false_iff.mpr c51
         subst c51
         have H1 : (some false)=some r:=by rw [if_neg (show ¬ (false=true) by decide)] at H;exact H
         clear H
         have H:=H1
         clear H1
         obtain rfl:=Option.some.inj H
         try go_wp2
         have n0_:=amk (Kd.S_drew HO_15.out)
         have n1_:=amk (blk_drew BK455.out)
         have n2_:=amk (blk_drew BK456.out)
         have n3_:=amk (blk_drew BK457.out)
         have n4_:=amk (blk_drew BK458.out)
         have n5_:=amk (blk_drew BK468.out)
         have n6_:=amk (bD1 HB.out)
         clear HO_15
         clear BK455
         clear BK456
         clear BK457
         clear BK458
         clear BK468
         clear HB
         have HO_15:=n0_
         have BK455:=n1_
         have BK456:=n2_
         have BK457:=n3_
         have BK458:=n4_
         have BK468:=n5_
         have HB:=n6_
         clear n0_ n1_ n2_ n3_ n4_ n5_ n6_
         refine start_ (n:=22) (S:=fun w'=>w'.cell? ⟨gb468,0,none⟩=some (.int .i64 x469000_9)∧w'.cell? ⟨gb468,1,none⟩=some (.int .i64 x469001_9)∧w'.cell? ⟨gb468,2,none⟩=some (.int .i64 x469002_9)∧w'.cell? ⟨gb468,3,none⟩=some (.int .i64 x469003_9)∧w'.cell? ⟨gb468,4,none⟩=some (.int .i64 x469004_9)∧w'.cell? ⟨gb468,5,none⟩=some (.int .i64 x469005_9)) (ds:=[]) #[false,false,false,false,false,false,false,false,false,false,false,false,false,false,false,false,false,false,false,false,false,false] (by kernel_rfl) rfl rfl ⟨(blk_cell BK468.out 0).trans rfl,(blk_cell BK468.out 1).trans rfl,(blk_cell BK468.out 2).trans rfl,(blk_cell BK468.out 3).trans rfl,(blk_cell BK468.out 4).trans rfl,(blk_cell BK468.out 5).trans rfl⟩ (fun hHeld=>?_);refine with_tabW versallaw17_FlatTells.tab7 versallaw17_FlatTells.bits7 (fun HT_ HW_=>?_)
         generalize wc.drew=w66 at HO_15 BK455 BK456 BK457 BK458 BK468 HB hHeld ⊢
         refine one_ (i:=0) (N:=some 37) #[true,false,false,false,false,false,false,false,false,false,false,false,false,false,false,false,false,false,false,false,false,false] rfl rfl (one_of HT_.out (by kernel_rfl)) (by decide) (fun K hK=>?_)
         refine goes_ Try.func7 (by kernel_rfl) rfl #[] (by rfl) rfl rfl (by (try simp only [List.map_toArray,List.map_cons,List.map_nil]);first|done|rfl|(simp only [List.length_drop,List.length_take];rfl)) ?_
         with_reducible refine (versallaw17_known.calls kj37  true _ A46.out).mono ?_
         rintro e w67 ⟨rfl,hb⟩
         refine ⟨_,rfl,?_⟩
         have n0_:=amk (Kd.S_below (by (with_reducible repeat (first|apply Kd.S_alloc|apply Kd.S_drewN|apply Kd.S_drew));exact HO_15.out) hb)
         have n1_:=amk (blk_below (g:=gb455) (o:=.cells #[.int .i64 a1_0,.int .i64 a1_1,.int .i64 a1_2,.int .i64 a1_3,.int .i64 a1_4,.int .i64 a1_5] 23 (0,0)) (by (with_reducible repeat first|apply kN|apply kD|apply kA);exact BK455.out) hb)
         have n2_:=amk (blk_below (g:=gb456) (o:=.cells #[.int .i64 a3_0,.int .i64 a3_1] 41 (0,0)) (by (with_reducible repeat first|apply kN|apply kD|apply kA);exact BK456.out) hb)
         have n3_:=amk (blk_below (g:=gb457) (o:=.cells #[.int .i64 a4_0,.int .i64 a4_1] 41 (0,0)) (by (with_reducible repeat first|apply kN|apply kD|apply kA);exact BK457.out) hb)
         have n4_:=amk (blk_below (g:=gb458) (o:=.cells #[.int .i64 a5_0,.int .i64 a5_1] 41 (0,0)) (by (with_reducible repeat first|apply kN|apply kD|apply kA);exact BK458.out) hb)
         have n5_:=amk (blk_below (g:=gb468) (o:=.cells #[.int .i64 x469000_9,.int .i64 x469001_9,.int .i64 x469002_9,.int .i64 x469003_9,.int .i64 x469004_9,.int .i64 x469005_9] 26 (0,0)) (by (with_reducible repeat first|apply kN|apply kD|apply kA);exact BK468.out) hb)
         have n6_:=amk (below_step (by repeat (first|(with_reducible first|exact HB.out|apply bAl|apply bDN|apply bD1|refine bSe ?_ GE455.out|refine bSe ?_ GE456.out|refine bSe ?_ GE457.out|refine bSe ?_ GE458.out|refine bSe ?_ GE468.out)|exact HB.out)) hb)
         clear HO_15
         clear BK455
         clear BK456
         clear BK457
         clear BK458
         clear BK468
         clear HB
         have HO_15:=n0_
         have BK455:=n1_
         have BK456:=n2_
         have BK457:=n3_
         have BK458:=n4_
         have BK468:=n5_
         have HB:=n6_
         clear n0_ n1_ n2_ n3_ n4_ n5_ n6_
         (try clear hb)
         (try clear hb2)
         (try clear hk)
         (try clear hi)
         obtain ⟨Ao68,co68,eo68⟩:=Kd.S_slice HO_15.out
         (first|subst eo68|(injection eo68 with f1_ f2_ f3_;have f4_:=f1_.symm;have f5_:=f3_.symm;clear f1_ f2_ f3_;subst f4_;subst f5_))
         refine hK.out _ _ ⟨(blk_cell BK468.out 0).trans rfl,(blk_cell BK468.out 1).trans rfl,(blk_cell BK468.out 2).trans rfl,(blk_cell BK468.out 3).trans rfl,(blk_cell BK468.out 4).trans rfl,(blk_cell BK468.out 5).trans rfl⟩ (fun hHeld=>?_)
         clear hK K
         refine norm_ (a':=?_) ?_ ?_
         rotate_left
         ·show Act.put _ (some 37) _=_
          simp only [Act.put,sTA,sCZ,sCS,i64_w,i32_w]
          rfl
         refine pure_ (i:=1) (N:=some 38) (v:=?_) (a':=?_) #[true,true,false,false,false,false,false,false,false,false,false,false,false,false,false,false,false,false,false,false,false,false] rfl rfl (any_of HT_.out (by kernel_rfl)) (fun _ _ _ h=>h) (Or.inl ⟨by rfl,?_⟩) ?_ ?_
         rotate_left
         ·intro w'
          go_simp
          with_reducible rfl
         rotate_left
         ·simp only [Act.put,sTA,sCZ,sCS,i64_w,i32_w]
          rfl
         refine pure_ (i:=2) (N:=some 39) (v:=?_) (a':=?_) #[true,true,true,false,false,false,false,false,false,false,false,false,false,false,false,false,false,false,false,false,false,false] rfl rfl (any_of HT_.out (by kernel_rfl)) (fun _ _ _ h=>h) (Or.inl ⟨by rfl,?_⟩) ?_ ?_
         rotate_left
         ·intro w'
          go_simp
          with_reducible rfl
         rotate_left
         ·simp only [Act.put,sTA,sCZ,sCS,i64_w,i32_w]
          rfl
         refine pure_ (i:=5) (N:=some 42) (v:=?_) (a':=?_) #[true,true,true,false,false,true,false,false,false,false,false,false,false,false,false,false,false,false,false,false,false,false] rfl rfl (any_of HT_.out (by kernel_rfl)) (fun _ _ _ h=>h) (Or.inl ⟨by rfl,?_⟩) ?_ ?_
         rotate_left
         ·intro w'
          go_simp
          with_reducible rfl
         rotate_left
         ·simp only [Act.put,sTA,sCZ,sCS,i64_w,i32_w]
          rfl
         refine take_ (i:=3) (N:=some 40) (v:=?_) (a':=?_) #[true,true,true,true,false,true,false,false,false,false,false,false,false,false,false,false,false,false,false,false,false,false] rfl rfl (take_ofW HT_.out HW_.out (by kernel_rfl)) (fun _ _ _ h=>h) (Or.inl ⟨by rfl,?_⟩) hHeld ?_ ?_
         rotate_left
         ·rintro w' ⟨s0,s1,s2,s3,s4,s5⟩
          go_simp
          with_reducible rfl
         rotate_left
         ·simp only [Act.put,sTA,sCZ,sCS,i64_w,i32_w]
          rfl
         refine take_ (i:=6) (N:=some 43) (v:=?_) (a':=?_) #[true,true,true,true,false,true,true,false,false,false,false,false,false,false,false,false,false,false,false,false,false,false] rfl rfl (take_ofW HT_.out HW_.out (by kernel_rfl)) (fun _ _ _ h=>h) (Or.inl ⟨by rfl,?_⟩) hHeld ?_ ?_
         rotate_left
         ·rintro w' ⟨s0,s1,s2,s3,s4,s5⟩
          go_simp
          with_reducible rfl
         rotate_left
         ·simp only [Act.put,sTA,sCZ,sCS,i64_w,i32_w]
          rfl
         refine one_ (i:=4) (N:=some 41) #[true,true,true,true,true,true,true,false,false,false,false,false,false,false,false,false,false,false,false,false,false,false] rfl rfl (one_of HT_.out (by kernel_rfl)) (by decide) (fun K hK=>?_)
         refine goes_ Try.func10 (by kernel_rfl) rfl #[.slice Ao68 x15_37.length co68,.agg #[.int .i64 x469000_9,.int .i64 x469001_9,.int .i64 x469002_9,.int .i64 x469003_9,.int .i64 x469004_9,.int .i64 x469005_9]] (by rfl) rfl rfl (by (try simp only [List.map_toArray,List.map_cons,List.map_nil]);first|done|rfl|(simp only [List.length_drop,List.length_take];rfl)) ?_
         with_reducible refine (flat_Segs.calls kj37 _ _ x15_37 x469000_9 x469001_9 x469002_9 x469003_9 x469004_9 x469005_9 t480 _ ?side1 ?side2 A48.out).mono ?_
         (case side1=>repeat (first|exact (Kd.S_reads' HO_15.out).2.2|(with_reducible refine Kd.C_alloc ?_ _)|(with_reducible refine Kd.C_drewN ?_ _)|(with_reducible refine Kd.C_drew ?_)))
         (case side2=>exact (Kd.S_reads' HO_15.out).2.1)
         rintro e w69 ⟨v481,rfl,ho0,hb⟩
         refine ⟨_,rfl,?_⟩
         have n0_:=amk (Kd.S_below (by (with_reducible repeat (first|apply Kd.S_alloc|apply Kd.S_drewN|apply Kd.S_drew));exact HO_15.out) hb)
         have n1_:=amk (Kd.R_lower ho0 (below_size (by repeat (first|(with_reducible first|exact HB.out|apply bAl|apply bDN|apply bD1|refine bSe ?_ GE455.out|refine bSe ?_ GE456.out|refine bSe ?_ GE457.out|refine bSe ?_ GE458.out|refine bSe ?_ GE468.out)|exact HB.out))))
         have n2_:=amk (blk_below (g:=gb455) (o:=.cells #[.int .i64 a1_0,.int .i64 a1_1,.int .i64 a1_2,.int .i64 a1_3,.int .i64 a1_4,.int .i64 a1_5] 23 (0,0)) (by (with_reducible repeat first|apply kN|apply kD|apply kA);exact BK455.out) hb)
         have n3_:=amk (blk_below (g:=gb456) (o:=.cells #[.int .i64 a3_0,.int .i64 a3_1] 41 (0,0)) (by (with_reducible repeat first|apply kN|apply kD|apply kA);exact BK456.out) hb)
         have n4_:=amk (blk_below (g:=gb457) (o:=.cells #[.int .i64 a4_0,.int .i64 a4_1] 41 (0,0)) (by (with_reducible repeat first|apply kN|apply kD|apply kA);exact BK457.out) hb)
         have n5_:=amk (blk_below (g:=gb458) (o:=.cells #[.int .i64 a5_0,.int .i64 a5_1] 41 (0,0)) (by (with_reducible repeat first|apply kN|apply kD|apply kA);exact BK458.out) hb)
         have n6_:=amk (blk_below (g:=gb468) (o:=.cells #[.int .i64 x469000_9,.int .i64 x469001_9,.int .i64 x469002_9,.int .i64 x469003_9,.int .i64 x469004_9,.int .i64 x469005_9] 26 (0,0)) (by (with_reducible repeat first|apply kN|apply kD|apply kA);exact BK468.out) hb)
         have n7_:=amk (below_step (by repeat (first|(with_reducible first|exact HB.out|apply bAl|apply bDN|apply bD1|refine bSe ?_ GE455.out|refine bSe ?_ GE456.out|refine bSe ?_ GE457.out|refine bSe ?_ GE458.out|refine bSe ?_ GE468.out)|exact HB.out)) hb)
         clear HO_15
         clear BK455
         clear BK456
         clear BK457
         clear BK458
         clear BK468
         clear HB
         have HO_15:=n0_
         have HO482:=n1_
         have BK455:=n2_
         have BK456:=n3_
         have BK457:=n4_
         have BK458:=n5_
         have BK468:=n6_
         have HB:=n7_
         clear n0_ n1_ n2_ n3_ n4_ n5_ n6_ n7_
         (try clear hb)
         (try clear hb2)
         (try clear hk)
         (try clear hi)
         (try clear ho0)
         refine hK.out _ _ ⟨(blk_cell BK468.out 0).trans rfl,(blk_cell BK468.out 1).trans rfl,(blk_cell BK468.out 2).trans rfl,(blk_cell BK468.out 3).trans rfl,(blk_cell BK468.out 4).trans rfl,(blk_cell BK468.out 5).trans rfl⟩ (fun hHeld=>?_)
         clear hK K
         refine norm_ (a':=?_) ?_ ?_
         rotate_left
         ·show Act.put _ (some 41) _=_
          simp only [Act.put,sTA,sCZ,sCS,i64_w,i32_w]
          rfl
         refine one_ (i:=7) (N:=some 44) #[true,true,true,true,true,true,true,true,false,false,false,false,false,false,false,false,false,false,false,false,false,false] rfl rfl (one_of HT_.out (by kernel_rfl)) (by decide) (fun K hK=>?_)
         refine goes_ Try.func15 (by kernel_rfl) rfl #[.slice Ao68 x15_37.length co68,.agg #[.int .i64 x469000_9,.int .i64 x469001_9,.int .i64 x469002_9,.int .i64 x469003_9,.int .i64 x469004_9,.int .i64 x469005_9]] (by rfl) rfl rfl (by (try simp only [List.map_toArray,List.map_cons,List.map_nil]);first|done|rfl|(simp only [List.length_drop,List.length_take];rfl)) ?_
         with_reducible refine (versalref14_Segs.calls kj37 _ _ x15_37 x469000_9 x469001_9 x469002_9 x469003_9 x469004_9 x469005_9 t483 _ ?side1 ?side2 A49.out).mono ?_
         (case side1=>repeat (first|exact (Kd.S_reads' HO_15.out).2.2|(with_reducible refine Kd.C_alloc ?_ _)|(with_reducible refine Kd.C_drewN ?_ _)|(with_reducible refine Kd.C_drew ?_)))
         (case side2=>exact (Kd.S_reads' HO_15.out).2.1)
         rintro e w70 ⟨v484,rfl,ho0,hb⟩
         refine ⟨_,rfl,?_⟩
         have n0_:=amk (Kd.S_below (by (with_reducible repeat (first|apply Kd.S_alloc|apply Kd.S_drewN|apply Kd.S_drew));exact HO_15.out) hb)
         have n1_:=amk (Kd.R_elder' (by (with_reducible repeat (first|apply Kd.R_alloc|apply Kd.R_drewN|apply Kd.R_drew));exact HO482.out) (Kd.R_base ho0) hb)
         have n2_:=amk (Kd.R_lower (Kd.R_new' ho0 (Kd.R_lt (by (with_reducible repeat (first|apply Kd.R_alloc|apply Kd.R_drewN|apply Kd.R_drew));exact HO482.out))) (below_size (by repeat (first|(with_reducible first|exact HB.out|apply bAl|apply bDN|apply bD1|refine bSe ?_ GE455.out|refine bSe ?_ GE456.out|refine bSe ?_ GE457.out|refine bSe ?_ GE458.out|refine bSe ?_ GE468.out)|exact HB.out))))
         have n3_:=amk (blk_below (g:=gb455) (o:=.cells #[.int .i64 a1_0,.int .i64 a1_1,.int .i64 a1_2,.int .i64 a1_3,.int .i64 a1_4,.int .i64 a1_5] 23 (0,0)) (by (with_reducible repeat first|apply kN|apply kD|apply kA);exact BK455.out) hb)
         have n4_:=amk (blk_below (g:=gb456) (o:=.cells #[.int .i64 a3_0,.int .i64 a3_1] 41 (0,0)) (by (with_reducible repeat first|apply kN|apply kD|apply kA);exact BK456.out) hb)
         have n5_:=amk (blk_below (g:=gb457) (o:=.cells #[.int .i64 a4_0,.int .i64 a4_1] 41 (0,0)) (by (with_reducible repeat first|apply kN|apply kD|apply kA);exact BK457.out) hb)
         have n6_:=amk (blk_below (g:=gb458) (o:=.cells #[.int .i64 a5_0,.int .i64 a5_1] 41 (0,0)) (by (with_reducible repeat first|apply kN|apply kD|apply kA);exact BK458.out) hb)
         have n7_:=amk (blk_below (g:=gb468) (o:=.cells #[.int .i64 x469000_9,.int .i64 x469001_9,.int .i64 x469002_9,.int .i64 x469003_9,.int .i64 x469004_9,.int .i64 x469005_9] 26 (0,0)) (by (with_reducible repeat first|apply kN|apply kD|apply kA);exact BK468.out) hb)
         have n8_:=amk (below_step (by repeat (first|(with_reducible first|exact HB.out|apply bAl|apply bDN|apply bD1|refine bSe ?_ GE455.out|refine bSe ?_ GE456.out|refine bSe ?_ GE457.out|refine bSe ?_ GE458.out|refine bSe ?_ GE468.out)|exact HB.out)) hb)
         clear HO_15
         clear HO482
         clear BK455
         clear BK456
         clear BK457
         clear BK458
         clear BK468
         clear HB
         have HO_15:=n0_
         have HO482:=n1_
         have HO485:=n2_
         have BK455:=n3_
         have BK456:=n4_
         have BK457:=n5_
         have BK458:=n6_
         have BK468:=n7_
         have HB:=n8_
         clear n0_ n1_ n2_ n3_ n4_ n5_ n6_ n7_ n8_
         (try clear hb)
         (try clear hb2)
         (try clear hk)
         (try clear hi)
         (try clear ho0)
         obtain ⟨Ao71,co71,eo71⟩:=Kd.R_slice HO482.out
         (first|subst eo71|(injection eo71 with f1_ f2_ f3_;have f4_:=f1_.symm;have f5_:=f3_.symm;clear f1_ f2_ f3_;subst f4_;subst f5_))
         obtain ⟨Ao72,co72,eo72⟩:=Kd.R_slice HO485.out
         (first|subst eo72|(injection eo72 with f1_ f2_ f3_;have f4_:=f1_.symm;have f5_:=f3_.symm;clear f1_ f2_ f3_;subst f4_;subst f5_))
         refine hK.out _ _ ⟨(blk_cell BK468.out 0).trans rfl,(blk_cell BK468.out 1).trans rfl,(blk_cell BK468.out 2).trans rfl,(blk_cell BK468.out 3).trans rfl,(blk_cell BK468.out 4).trans rfl,(blk_cell BK468.out 5).trans rfl⟩ (fun hHeld=>?_)
         clear hK K
         refine norm_ (a':=?_) ?_ ?_
         rotate_left
         ·show Act.put _ (some 44) _=_
          simp only [Act.put,sTA,sCZ,sCS,i64_w,i32_w]
          rfl
         refine one_ (i:=8) (N:=some 45) #[true,true,true,true,true,true,true,true,true,false,false,false,false,false,false,false,false,false,false,false,false,false] rfl rfl (one_of HT_.out (by kernel_rfl)) (by decide) (fun K hK=>?_)
         refine goes_ Try.func14 (by kernel_rfl) rfl #[.slice Ao71 t480.length co71,.slice Ao72 t483.length co72] (by rfl) rfl rfl (by (try simp only [List.map_toArray,List.map_cons,List.map_nil]);first|done|rfl|(simp only [List.length_drop,List.length_take];rfl)) ?_
         with_reducible refine (versalref14_SameSegs.calls kj37 _ _ t480 _ _ t483 false _ ?side1 ?side2 ?side3 ?side4 A50.out).mono ?_
         (case side1=>repeat (first|exact (Kd.R_reads' HO482.out).2.2|(with_reducible refine Kd.C_alloc ?_ _)|(with_reducible refine Kd.C_drewN ?_ _)|(with_reducible refine Kd.C_drew ?_)))
         (case side2=>exact (Kd.R_reads' HO482.out).2.1)
         (case side3=>repeat (first|exact (Kd.R_reads' HO485.out).2.2|(with_reducible refine Kd.C_alloc ?_ _)|(with_reducible refine Kd.C_drewN ?_ _)|(with_reducible refine Kd.C_drew ?_)))
         (case side4=>exact (Kd.R_reads' HO485.out).2.1)
         rintro e w' ⟨rfl,⟨nd,rfl⟩⟩
         refine ⟨_,rfl,?_⟩
         refine hK.out _ _ ⟨(blk_cell BK468.out 0).trans rfl,(blk_cell BK468.out 1).trans rfl,(blk_cell BK468.out 2).trans rfl,(blk_cell BK468.out 3).trans rfl,(blk_cell BK468.out 4).trans rfl,(blk_cell BK468.out 5).trans rfl⟩ (fun hHeld=>?_)
         clear hK K
         refine norm_ (a':=?_) ?_ ?_
         rotate_left
         ·show Act.put _ (some 45) _=_
          simp only [Act.put,sTA,sCZ,sCS,i64_w,i32_w]
          rfl
         refine pure_ (i:=9) (N:=some 46) (v:=?_) (a':=?_) #[true,true,true,true,true,true,true,true,true,true,false,false,false,false,false,false,false,false,false,false,false,false] rfl rfl (any_of HT_.out (by kernel_rfl)) (fun _ _ _ h=>h) (Or.inl ⟨by rfl,?_⟩) ?_ ?_
         rotate_left
         ·intro w'
          go_simp
          with_reducible rfl
         rotate_left
         ·simp only [Act.put,sTA,sCZ,sCS,i64_w,i32_w]
          rfl
         refine pure_ (i:=10) (N:=some 47) (v:=?_) (a':=?_) #[true,true,true,true,true,true,true,true,true,true,true,false,false,false,false,false,false,false,false,false,false,false] rfl rfl (any_of HT_.out (by kernel_rfl)) (fun _ _ _ h=>h) (Or.inl ⟨by rfl,?_⟩) ?_ ?_
         rotate_left
         ·intro w'
          go_simp
          with_reducible rfl
         rotate_left
         ·simp only [Act.put,sTA,sCZ,sCS,i64_w,i32_w]
          rfl
         refine pure_ (i:=11) (N:=some 48) (v:=undef) (a':=?_) #[true,true,true,true,true,true,true,true,true,true,true,true,false,false,false,false,false,false,false,false,false,false] rfl rfl (any_of HT_.out (by kernel_rfl)) (fun _ _ _ h=>h) (Or.inr ⟨by rfl,rfl⟩) ?_ ?_
         rotate_left
         ·simp only [Act.put,sTA,sCZ,sCS,i64_w,i32_w]
          rfl
         refine pure_ (i:=12) (N:=some 49) (v:=undef) (a':=?_) #[true,true,true,true,true,true,true,true,true,true,true,true,true,false,false,false,false,false,false,false,false,false] rfl rfl (any_of HT_.out (by kernel_rfl)) (fun _ _ _ h=>h) (Or.inr ⟨by rfl,rfl⟩) ?_ ?_
         rotate_left
         ·simp only [Act.put,sTA,sCZ,sCS,i64_w,i32_w]
          rfl
         refine pure_ (i:=13) (N:=some 50) (v:=undef) (a':=?_) #[true,true,true,true,true,true,true,true,true,true,true,true,true,true,false,false,false,false,false,false,false,false] rfl rfl (any_of HT_.out (by kernel_rfl)) (fun _ _ _ h=>h) (Or.inr ⟨by rfl,rfl⟩) ?_ ?_
         rotate_left
         ·simp only [Act.put,sTA,sCZ,sCS,i64_w,i32_w]
          rfl
         refine pure_ (i:=14) (N:=some 51) (v:=undef) (a':=?_) #[true,true,true,true,true,true,true,true,true,true,true,true,true,true,true,false,false,false,false,false,false,false] rfl rfl (any_of HT_.out (by kernel_rfl)) (fun _ _ _ h=>h) (Or.inr ⟨by rfl,rfl⟩) ?_ ?_
         rotate_left
         ·simp only [Act.put,sTA,sCZ,sCS,i64_w,i32_w]
          rfl
         refine pure_ (i:=15) (N:=some 52) (v:=undef) (a':=?_) #[true,true,true,true,true,true,true,true,true,true,true,true,true,true,true,true,false,false,false,false,false,false] rfl rfl (any_of HT_.out (by kernel_rfl)) (fun _ _ _ h=>h) (Or.inr ⟨by rfl,rfl⟩) ?_ ?_
         rotate_left
         ·simp only [Act.put,sTA,sCZ,sCS,i64_w,i32_w]
          rfl
         refine pure_ (i:=16) (N:=some 53) (v:=undef) (a':=?_) #[true,true,true,true,true,true,true,true,true,true,true,true,true,true,true,true,true,false,false,false,false,false] rfl rfl (any_of HT_.out (by kernel_rfl)) (fun _ _ _ h=>h) (Or.inr ⟨by rfl,rfl⟩) ?_ ?_
         rotate_left
         ·simp only [Act.put,sTA,sCZ,sCS,i64_w,i32_w]
          rfl
         refine pure_ (i:=17) (N:=some 54) (v:=undef) (a':=?_) #[true,true,true,true,true,true,true,true,true,true,true,true,true,true,true,true,true,true,false,false,false,false] rfl rfl (any_of HT_.out (by kernel_rfl)) (fun _ _ _ h=>h) (Or.inr ⟨by rfl,rfl⟩) ?_ ?_
         rotate_left
         ·simp only [Act.put,sTA,sCZ,sCS,i64_w,i32_w]
          rfl
         refine pure_ (i:=18) (N:=some 55) (v:=undef) (a':=?_) #[true,true,true,true,true,true,true,true,true,true,true,true,true,true,true,true,true,true,true,false,false,false] rfl rfl (any_of HT_.out (by kernel_rfl)) (fun _ _ _ h=>h) (Or.inr ⟨by rfl,rfl⟩) ?_ ?_
         rotate_left
         ·simp only [Act.put,sTA,sCZ,sCS,i64_w,i32_w]
          rfl
         refine pure_ (i:=19) (N:=some 56) (v:=undef) (a':=?_) #[true,true,true,true,true,true,true,true,true,true,true,true,true,true,true,true,true,true,true,true,false,false] rfl rfl (any_of HT_.out (by kernel_rfl)) (fun _ _ _ h=>h) (Or.inr ⟨by rfl,rfl⟩) ?_ ?_
         rotate_left
         ·simp only [Act.put,sTA,sCZ,sCS,i64_w,i32_w]
          rfl
         refine pure_ (i:=20) (N:=some 57) (v:=?_) (a':=?_) #[true,true,true,true,true,true,true,true,true,true,true,true,true,true,true,true,true,true,true,true,true,false] rfl rfl (any_of HT_.out (by kernel_rfl)) (fun _ _ _ h=>h) (Or.inl ⟨by rfl,?_⟩) ?_ ?_
         rotate_left
         ·intro w'
          go_simp
          with_reducible rfl
         rotate_left
         ·simp only [Act.put,sTA,sCZ,sCS,i64_w,i32_w]
          rfl
         refine pure_ (i:=21) (N:=some 14) (v:=?_) (a':=?_) #[true,true,true,true,true,true,true,true,true,true,true,true,true,true,true,true,true,true,true,true,true,true] rfl rfl (any_of HT_.out (by kernel_rfl)) (fun _ _ _ h=>h) (Or.inl ⟨by rfl,?_⟩) ?_ ?_
         rotate_left
         ·intro w'
          go_simp
          with_reducible rfl
         rotate_left
         ·simp only [Act.put,sTA,sCZ,sCS,i64_w,i32_w]
          rfl
         refine done_ (done_of HT_.out (by kernel_rfl)) ?_
         try go_wp2
         go_ret
         exact ⟨by first|rfl|(simp [errW_none,errW_some] <;> rfl)|(simp [*,errW_none,errW_some] <;> rfl),by repeat (first|(with_reducible first|exact HB.out|apply bAl|apply bDN|apply bD1|refine bSe ?_ GE455.out|refine bSe ?_ GE456.out|refine bSe ?_ GE457.out|refine bSe ?_ GE458.out|refine bSe ?_ GE468.out)|exact HB.out)⟩
       ·replace c47:=Bool.eq_false_iff.mpr c47
        subst c47
        have H1 : (some false)=some r:=by rw [if_neg (show ¬ (false=true) by decide)] at H;exact H
        clear H
        have H:=H1
        clear H1
        obtain rfl:=Option.some.inj H
        try go_wp2
        have n0_:=amk (Kd.S_drew HO_15.out)
        have n1_:=amk (blk_drew BK455.out)
        have n2_:=amk (blk_drew BK456.out)
        have n3_:=amk (blk_drew BK457.out)
        have n4_:=amk (blk_drew BK458.out)
        have n5_:=amk (blk_drew BK468.out)
        have n6_:=amk (bD1 HB.out)
        clear HO_15
        clear BK455
        clear BK456
        clear BK457
        clear BK458
        clear BK468
        clear HB
        have HO_15:=n0_
        have BK455:=n1_
        have BK456:=n2_
        have BK457:=n3_
        have BK458:=n4_
        have BK468:=n5_
        have HB:=n6_
        clear n0_ n1_ n2_ n3_ n4_ n5_ n6_
        refine start_ (n:=22) (S:=fun w'=>True) (ds:=[]) #[false,false,false,false,false,false,false,false,false,false,false,false,false,false,false,false,false,false,false,false,false,false] (by kernel_rfl) rfl rfl trivial (fun hHeld=>?_);refine with_tabW versallaw17_FlatTells.tab7 versallaw17_FlatTells.bits7 (fun HT_ HW_=>?_)
        generalize wc.drew=w73 at HO_15 BK455 BK456 BK457 BK458 BK468 HB hHeld ⊢
        refine one_ (i:=0) (N:=some 37) #[true,false,false,false,false,false,false,false,false,false,false,false,false,false,false,false,false,false,false,false,false,false] rfl rfl (one_of HT_.out (by kernel_rfl)) (by decide) (fun K hK=>?_)
        refine goes_ Try.func7 (by kernel_rfl) rfl #[] (by rfl) rfl rfl (by (try simp only [List.map_toArray,List.map_cons,List.map_nil]);first|done|rfl|(simp only [List.length_drop,List.length_take];rfl)) ?_
        with_reducible refine (versallaw17_known.calls kj37  false _ A46.out).mono ?_
        rintro e w74 ⟨rfl,hb⟩
        refine ⟨_,rfl,?_⟩
        have n0_:=amk (Kd.S_below (by (with_reducible repeat (first|apply Kd.S_alloc|apply Kd.S_drewN|apply Kd.S_drew));exact HO_15.out) hb)
        have n1_:=amk (blk_below (g:=gb455) (o:=.cells #[.int .i64 a1_0,.int .i64 a1_1,.int .i64 a1_2,.int .i64 a1_3,.int .i64 a1_4,.int .i64 a1_5] 23 (0,0)) (by (with_reducible repeat first|apply kN|apply kD|apply kA);exact BK455.out) hb)
        have n2_:=amk (blk_below (g:=gb456) (o:=.cells #[.int .i64 a3_0,.int .i64 a3_1] 41 (0,0)) (by (with_reducible repeat first|apply kN|apply kD|apply kA);exact BK456.out) hb)
        have n3_:=amk (blk_below (g:=gb457) (o:=.cells #[.int .i64 a4_0,.int .i64 a4_1] 41 (0,0)) (by (with_reducible repeat first|apply kN|apply kD|apply kA);exact BK457.out) hb)
        have n4_:=amk (blk_below (g:=gb458) (o:=.cells #[.int .i64 a5_0,.int .i64 a5_1] 41 (0,0)) (by (with_reducible repeat first|apply kN|apply kD|apply kA);exact BK458.out) hb)
        have n5_:=amk (blk_below (g:=gb468) (o:=.cells #[.int .i64 x469000_9,.int .i64 x469001_9,.int .i64 x469002_9,.int .i64 x469003_9,.int .i64 x469004_9,.int .i64 x469005_9] 26 (0,0)) (by (with_reducible repeat first|apply kN|apply kD|apply kA);exact BK468.out) hb)
        have n6_:=amk (below_step (by repeat (first|(with_reducible first|exact HB.out|apply bAl|apply bDN|apply bD1|refine bSe ?_ GE455.out|refine bSe ?_ GE456.out|refine bSe ?_ GE457.out|refine bSe ?_ GE458.out|refine bSe ?_ GE468.out)|exact HB.out)) hb)
        clear HO_15
        clear BK455
        clear BK456
        clear BK457
        clear BK458
        clear BK468
        clear HB
        have HO_15:=n0_
        have BK455:=n1_
        have BK456:=n2_
        have BK457:=n3_
        have BK458:=n4_
        have BK468:=n5_
        have HB:=n6_
        clear n0_ n1_ n2_ n3_ n4_ n5_ n6_
        (try clear hb)
        (try clear hb2)
        (try clear hk)
        (try clear hi)
        refine hK.out _ _ trivial (fun hHeld=>?_)
        clear hK K
        refine norm_ (a':=?_) ?_ ?_
        rotate_left
        ·show Act.put _ (some 37) _=_
         simp only [Act.put,sTA,sCZ,sCS,i64_w,i32_w]
         rfl
        refine pure_ (i:=1) (N:=some 38) (v:=?_) (a':=?_) #[true,true,false,false,false,false,false,false,false,false,false,false,false,false,false,false,false,false,false,false,false,false] rfl rfl (any_of HT_.out (by kernel_rfl)) (fun _ _ _ h=>h) (Or.inl ⟨by rfl,?_⟩) ?_ ?_
        rotate_left
        ·intro w'
         go_simp
         with_reducible rfl
        rotate_left
        ·simp only [Act.put,sTA,sCZ,sCS,i64_w,i32_w]
         rfl
        refine pure_ (i:=2) (N:=some 39) (v:=undef) (a':=?_) #[true,true,true,false,false,false,false,false,false,false,false,false,false,false,false,false,false,false,false,false,false,false] rfl rfl (any_of HT_.out (by kernel_rfl)) (fun _ _ _ h=>h) (Or.inr ⟨by rfl,rfl⟩) ?_ ?_
        rotate_left
        ·simp only [Act.put,sTA,sCZ,sCS,i64_w,i32_w]
         rfl
        refine pure_ (i:=3) (N:=some 40) (v:=undef) (a':=?_) #[true,true,true,true,false,false,false,false,false,false,false,false,false,false,false,false,false,false,false,false,false,false] rfl rfl (any_of HT_.out (by kernel_rfl)) (fun _ _ _ h=>h) (Or.inr ⟨by rfl,rfl⟩) ?_ ?_
        rotate_left
        ·simp only [Act.put,sTA,sCZ,sCS,i64_w,i32_w]
         rfl
        refine pure_ (i:=4) (N:=some 41) (v:=undef) (a':=?_) #[true,true,true,true,true,false,false,false,false,false,false,false,false,false,false,false,false,false,false,false,false,false] rfl rfl (any_of HT_.out (by kernel_rfl)) (fun _ _ _ h=>h) (Or.inr ⟨by rfl,rfl⟩) ?_ ?_
        rotate_left
        ·simp only [Act.put,sTA,sCZ,sCS,i64_w,i32_w]
         rfl
        refine pure_ (i:=5) (N:=some 42) (v:=undef) (a':=?_) #[true,true,true,true,true,true,false,false,false,false,false,false,false,false,false,false,false,false,false,false,false,false] rfl rfl (any_of HT_.out (by kernel_rfl)) (fun _ _ _ h=>h) (Or.inr ⟨by rfl,rfl⟩) ?_ ?_
        rotate_left
        ·simp only [Act.put,sTA,sCZ,sCS,i64_w,i32_w]
         rfl
        refine pure_ (i:=6) (N:=some 43) (v:=undef) (a':=?_) #[true,true,true,true,true,true,true,false,false,false,false,false,false,false,false,false,false,false,false,false,false,false] rfl rfl (any_of HT_.out (by kernel_rfl)) (fun _ _ _ h=>h) (Or.inr ⟨by rfl,rfl⟩) ?_ ?_
        rotate_left
        ·simp only [Act.put,sTA,sCZ,sCS,i64_w,i32_w]
         rfl
        refine pure_ (i:=7) (N:=some 44) (v:=undef) (a':=?_) #[true,true,true,true,true,true,true,true,false,false,false,false,false,false,false,false,false,false,false,false,false,false] rfl rfl (any_of HT_.out (by kernel_rfl)) (fun _ _ _ h=>h) (Or.inr ⟨by rfl,rfl⟩) ?_ ?_
        rotate_left
        ·simp only [Act.put,sTA,sCZ,sCS,i64_w,i32_w]
         rfl
        refine pure_ (i:=8) (N:=some 45) (v:=undef) (a':=?_) #[true,true,true,true,true,true,true,true,true,false,false,false,false,false,false,false,false,false,false,false,false,false] rfl rfl (any_of HT_.out (by kernel_rfl)) (fun _ _ _ h=>h) (Or.inr ⟨by rfl,rfl⟩) ?_ ?_
        rotate_left
        ·simp only [Act.put,sTA,sCZ,sCS,i64_w,i32_w]
         rfl
        refine pure_ (i:=9) (N:=some 46) (v:=?_) (a':=?_) #[true,true,true,true,true,true,true,true,true,true,false,false,false,false,false,false,false,false,false,false,false,false] rfl rfl (any_of HT_.out (by kernel_rfl)) (fun _ _ _ h=>h) (Or.inl ⟨by rfl,?_⟩) ?_ ?_
        rotate_left
        ·intro w'
         go_simp
         with_reducible rfl
        rotate_left
        ·simp only [Act.put,sTA,sCZ,sCS,i64_w,i32_w]
         rfl
        refine pure_ (i:=10) (N:=some 47) (v:=?_) (a':=?_) #[true,true,true,true,true,true,true,true,true,true,true,false,false,false,false,false,false,false,false,false,false,false] rfl rfl (any_of HT_.out (by kernel_rfl)) (fun _ _ _ h=>h) (Or.inl ⟨by rfl,?_⟩) ?_ ?_
        rotate_left
        ·intro w'
         go_simp
         with_reducible rfl
        rotate_left
        ·simp only [Act.put,sTA,sCZ,sCS,i64_w,i32_w]
         rfl
        refine pure_ (i:=11) (N:=some 48) (v:=undef) (a':=?_) #[true,true,true,true,true,true,true,true,true,true,true,true,false,false,false,false,false,false,false,false,false,false] rfl rfl (any_of HT_.out (by kernel_rfl)) (fun _ _ _ h=>h) (Or.inr ⟨by rfl,rfl⟩) ?_ ?_
        rotate_left
        ·simp only [Act.put,sTA,sCZ,sCS,i64_w,i32_w]
         rfl
        refine pure_ (i:=12) (N:=some 49) (v:=undef) (a':=?_) #[true,true,true,true,true,true,true,true,true,true,true,true,true,false,false,false,false,false,false,false,false,false] rfl rfl (any_of HT_.out (by kernel_rfl)) (fun _ _ _ h=>h) (Or.inr ⟨by rfl,rfl⟩) ?_ ?_
        rotate_left
        ·simp only [Act.put,sTA,sCZ,sCS,i64_w,i32_w]
         rfl
        refine pure_ (i:=13) (N:=some 50) (v:=undef) (a':=?_) #[true,true,true,true,true,true,true,true,true,true,true,true,true,true,false,false,false,false,false,false,false,false] rfl rfl (any_of HT_.out (by kernel_rfl)) (fun _ _ _ h=>h) (Or.inr ⟨by rfl,rfl⟩) ?_ ?_
        rotate_left
        ·simp only [Act.put,sTA,sCZ,sCS,i64_w,i32_w]
         rfl
        refine pure_ (i:=14) (N:=some 51) (v:=undef) (a':=?_) #[true,true,true,true,true,true,true,true,true,true,true,true,true,true,true,false,false,false,false,false,false,false] rfl rfl (any_of HT_.out (by kernel_rfl)) (fun _ _ _ h=>h) (Or.inr ⟨by rfl,rfl⟩) ?_ ?_
        rotate_left
        ·simp only [Act.put,sTA,sCZ,sCS,i64_w,i32_w]
         rfl
        refine pure_ (i:=15) (N:=some 52) (v:=undef) (a':=?_) #[true,true,true,true,true,true,true,true,true,true,true,true,true,true,true,true,false,false,false,false,false,false] rfl rfl (any_of HT_.out (by kernel_rfl)) (fun _ _ _ h=>h) (Or.inr ⟨by rfl,rfl⟩) ?_ ?_
        rotate_left
        ·simp only [Act.put,sTA,sCZ,sCS,i64_w,i32_w]
         rfl
        refine pure_ (i:=16) (N:=some 53) (v:=undef) (a':=?_) #[true,true,true,true,true,true,true,true,true,true,true,true,true,true,true,true,true,false,false,false,false,false] rfl rfl (any_of HT_.out (by kernel_rfl)) (fun _ _ _ h=>h) (Or.inr ⟨by rfl,rfl⟩) ?_ ?_
        rotate_left
        ·simp only [Act.put,sTA,sCZ,sCS,i64_w,i32_w]
         rfl
        refine pure_ (i:=17) (N:=some 54) (v:=undef) (a':=?_) #[true,true,true,true,true,true,true,true,true,true,true,true,true,true,true,true,true,true,false,false,false,false] rfl rfl (any_of HT_.out (by kernel_rfl)) (fun _ _ _ h=>h) (Or.inr ⟨by rfl,rfl⟩) ?_ ?_
        rotate_left
        ·simp only [Act.put,sTA,sCZ,sCS,i64_w,i32_w]
         rfl
        refine pure_ (i:=18) (N:=some 55) (v:=undef) (a':=?_) #[true,true,true,true,true,true,true,true,true,true,true,true,true,true,true,true,true,true,true,false,false,false] rfl rfl (any_of HT_.out (by kernel_rfl)) (fun _ _ _ h=>h) (Or.inr ⟨by rfl,rfl⟩) ?_ ?_
        rotate_left
        ·simp only [Act.put,sTA,sCZ,sCS,i64_w,i32_w]
         rfl
        refine pure_ (i:=19) (N:=some 56) (v:=undef) (a':=?_) #[true,true,true,true,true,true,true,true,true,true,true,true,true,true,true,true,true,true,true,true,false,false] rfl rfl (any_of HT_.out (by kernel_rfl)) (fun _ _ _ h=>h) (Or.inr ⟨by rfl,rfl⟩) ?_ ?_
        rotate_left
        ·simp only [Act.put,sTA,sCZ,sCS,i64_w,i32_w]
         rfl
        refine pure_ (i:=20) (N:=some 57) (v:=?_) (a':=?_) #[true,true,true,true,true,true,true,true,true,true,true,true,true,true,true,true,true,true,true,true,true,false] rfl rfl (any_of HT_.out (by kernel_rfl)) (fun _ _ _ h=>h) (Or.inl ⟨by rfl,?_⟩) ?_ ?_
        rotate_left
        ·intro w'
         go_simp
         with_reducible rfl
        rotate_left
        ·simp only [Act.put,sTA,sCZ,sCS,i64_w,i32_w]
         rfl
        refine pure_ (i:=21) (N:=some 14) (v:=?_) (a':=?_) #[true,true,true,true,true,true,true,true,true,true,true,true,true,true,true,true,true,true,true,true,true,true] rfl rfl (any_of HT_.out (by kernel_rfl)) (fun _ _ _ h=>h) (Or.inl ⟨by rfl,?_⟩) ?_ ?_
        rotate_left
        ·intro w'
         go_simp
         with_reducible rfl
        rotate_left
        ·simp only [Act.put,sTA,sCZ,sCS,i64_w,i32_w]
         rfl
        refine done_ (done_of HT_.out (by kernel_rfl)) ?_
        try go_wp2
        go_ret
        exact ⟨by first|rfl|(simp [errW_none,errW_some] <;> rfl)|(simp [*,errW_none,errW_some] <;> rfl),by repeat (first|(with_reducible first|exact HB.out|apply bAl|apply bDN|apply bD1|refine bSe ?_ GE455.out|refine bSe ?_ GE456.out|refine bSe ?_ GE457.out|refine bSe ?_ GE458.out|refine bSe ?_ GE468.out)|exact HB.out)⟩

/-- THE ONE PURE STATEMENT of versallaw17_FlatTells: yours. -/
def versallaw17_FlatTells.Pure : Prop:=∀ (l0 : List Int) (a1_0 : Int) (a1_1 : Int) (a1_2 : Int) (a1_3 : Int) (a1_4 : Int) (a1_5 : Int) (a2 : Bool) (a3_0 : Int) (a3_1 : Int) (a4_0 : Int) (a4_1 : Int) (a5_0 : Int) (a5_1 : Int) (a6 : Int),l0.length≤maxLen → l0.length * 8≤140737488351232 → (∀ x ∈ l0,(Lit.int .i64 x).wf=true) → (Lit.int .i64 a1_0).wf=true → (Lit.int .i64 a1_1).wf=true → (Lit.int .i64 a1_2).wf=true → (Lit.int .i64 a1_3).wf=true → (Lit.int .i64 a1_4).wf=true → (Lit.int .i64 a1_5).wf=true → (Lit.int .i64 a3_0).wf=true → (Lit.int .i64 a3_1).wf=true → (Lit.int .i64 a4_0).wf=true → (Lit.int .i64 a4_1).wf=true → (Lit.int .i64 a5_0).wf=true → (Lit.int .i64 a5_1).wf=true → (Lit.int .i64 a6).wf=true → ∃ k,versallaw17_FlatTells.f k l0 a1_0 a1_1 a1_2 a1_3 a1_4 a1_5 a2 a3_0 a3_1 a4_0 a4_1 a5_0 a5_1 a6=some true
theorem versallaw17_FlatTells.walk (P : versallaw17_FlatTells.Pure) (a0 : Option Addr) (len0 cap0 : Nat) (z0 : List Int) (a1_0 : Int) (a1_1 : Int) (a1_2 : Int) (a1_3 : Int) (a1_4 : Int) (a1_5 : Int) (a2 : Bool) (a3_0 : Int) (a3_1 : Int) (a4_0 : Int) (a4_1 : Int) (a5_0 : Int) (a5_1 : Int) (a6 : Int) (w : World) (w0 : (a0=none∧len0=0∧cap0=0∧z0=[]) ∨ ∃ x,a0=some x∧len0≤cap0∧cap0≤maxLen∧z0.length=cap0∧(∀ i,i < z0.length → w.cell? (x.add i)=some (.int .i64 (z0.getD i 0)))∧∀ n ∈ z0,(Lit.int .i64 n).wf=true) (y0 : len0 * 8≤140737488351232) (w1_0 : (Lit.int .i64 a1_0).wf=true) (w1_1 : (Lit.int .i64 a1_1).wf=true) (w1_2 : (Lit.int .i64 a1_2).wf=true) (w1_3 : (Lit.int .i64 a1_3).wf=true) (w1_4 : (Lit.int .i64 a1_4).wf=true) (w1_5 : (Lit.int .i64 a1_5).wf=true) (w3_0 : (Lit.int .i64 a3_0).wf=true) (w3_1 : (Lit.int .i64 a3_1).wf=true) (w4_0 : (Lit.int .i64 a4_0).wf=true) (w4_1 : (Lit.int .i64 a4_1).wf=true) (w5_0 : (Lit.int .i64 a5_0).wf=true) (w5_1 : (Lit.int .i64 a5_1).wf=true) (w6 : (Lit.int .i64 a6).wf=true) :
  Calls Try.prog 4 #[.slice a0 len0 cap0,.agg #[.int .i64 a1_0,.int .i64 a1_1,.int .i64 a1_2,.int .i64 a1_3,.int .i64 a1_4,.int .i64 a1_5],.bool a2,.agg #[.int .i64 a3_0,.int .i64 a3_1],.agg #[.int .i64 a4_0,.int .i64 a4_1],.agg #[.int .i64 a5_0,.int .i64 a5_1],.int .i64 a6] w fun e w'=>e=.returned (.bool true)∧Below w.heap.size w w':=by
 obtain ⟨l0,rfl,hr0,hm0,hw0,hc0⟩:=ReadsInt.ofRowC w0
 obtain ⟨k,h⟩:=P l0 a1_0 a1_1 a1_2 a1_3 a1_4 a1_5 a2 a3_0 a3_1 a4_0 a4_1 a5_0 a5_1 a6 hm0 y0 hw0 w1_0 w1_1 w1_2 w1_3 w1_4 w1_5 w3_0 w3_1 w4_0 w4_1 w5_0 w5_1 w6
 refine (versallaw17_FlatTells.calls k _ _ l0 a1_0 a1_1 a1_2 a1_3 a1_4 a1_5 a2 a3_0 a3_1 a4_0 a4_1 a5_0 a5_1 a6 true w (Kd.C_of_reads (d:=(0 : Int)) (h1:=fun _=>rfl) hr0) hc0 h).mono ?_
 rintro e w' ⟨rfl,hd⟩
 exact ⟨rfl,hd⟩

end Go.Proofs.Ytjmflccbddjlhaa.PFm
