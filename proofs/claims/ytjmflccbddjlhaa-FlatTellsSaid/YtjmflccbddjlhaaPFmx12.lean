-- WRITTEN BY A PROGRAM OF THIS SESSION (wip/xprint) out of the translation. Not trusted: Lean checks it.
import Derived.Test.YtjmflccbddjlhaaPFmx0
import Derived.Test.YtjmflccbddjlhaaPFmx1
import Derived.Test.YtjmflccbddjlhaaPFmx10
namespace Go.Proofs.Ytjmflccbddjlhaa.PFm
open Go.RowKit Go.Proofs.YtjmflccbddjlhaaW.PrintWords Go.Proofs.YtjmflccbddjlhaaW.PrintLast Go.Proofs.YtjmflccbddjlhaaW.PrintMore
attribute [local go_sem] max2_int min2_int max_two min_two max_three min_three max_four min_four   -- for this text's walks alone
set_option linter.unusedVariables false
set_option linter.unusedSimpArgs false

attribute [local go_sem high] eqA34
/-! ### versalref14_SameSegs: function 14 -/
def versalref14_SameSegs.l0 : Nat → List (S34) → List (S34) → Int → Option (Bool)
 | 0,_,_,_=>none
 | k+1,x0,x1,x5=>if x5 < (x0.length : Int) then (if 0≤x5 then (if x5 < (x1.length : Int) then (if (!(((rd_T34 x0 x5).f0) == ((rd_T34 x1 x5).f0)) || (!(((rd_T34 x0 x5).f1) == ((rd_T34 x1 x5).f1)) || (!(((rd_T34 x0 x5).f2) == ((rd_T34 x1 x5).f2)) || (!(((rd_T34 x0 x5).f3) == ((rd_T34 x1 x5).f3))))))=true then (some false) else (versalref14_SameSegs.l0 k x0 x1 (wrap64 (x5+1)))) else (none)) else (none)) else (some true)
def versalref14_SameSegs.f (k : Nat) (l0 : List (S34)) (l1 : List (S34)) : Option (Bool):=if (l0.length : Int)=(l1.length : Int) then (versalref14_SameSegs.l0 k l0 l1 0) else (some false)
theorem versalref14_SameSegs.mono_l : ∀ k,(∀ y0 y1 y2,LeO (versalref14_SameSegs.l0 k y0 y1 y2) (versalref14_SameSegs.l0 (k+1) y0 y1 y2))
 | 0=>fun _ _ _ r h=>by simp [versalref14_SameSegs.l0] at h
 | k+1=>by
  have ih0:=versalref14_SameSegs.mono_l k
  ·intro y0 y1 y2
   unfold versalref14_SameSegs.l0
   repeat' first
   | (with_reducible exact ih0 _ _ _)
   | (with_reducible exact LeO.refl _)
   | (with_reducible exact LeO.none _)
   | (with_reducible refine LeO.ite ?_ ?_)
   | (with_reducible refine LeO.bind ?_ (fun _=>?_))
   | exact ih0 _ _ _
   | exact LeO.none _
   | refine LeO.ite ?_ ?_
   | refine LeO.bind ?_ (fun _=>?_)
theorem versalref14_SameSegs.mono : ∀ a0 a1 k,LeO (versalref14_SameSegs.f k a0 a1) (versalref14_SameSegs.f (k+1) a0 a1):=by
 intro a0 a1 k
 have ih0:=versalref14_SameSegs.mono_l k
 unfold versalref14_SameSegs.f
 repeat' first
   | (with_reducible exact ih0 _ _ _)
   | (with_reducible exact LeO.refl _)
   | (with_reducible exact LeO.none _)
   | (with_reducible refine LeO.ite ?_ ?_)
   | (with_reducible refine LeO.bind ?_ (fun _=>?_))
   | exact ih0 _ _ _
   | exact LeO.none _
   | refine LeO.ite ?_ ?_
   | refine LeO.bind ?_ (fun _=>?_)
set_option maxHeartbeats 8000000 in
set_option maxRecDepth 100000 in
theorem versalref14_SameSegs.calls (k : Nat) (A0 : Option Addr) (c0 : Nat) (l0 : List (S34)) (A1 : Option Addr) (c1 : Nat) (l1 : List (S34)) (r : Bool) (w : World) (hr0 : Kd.C k34 w A0 l0.length l0) (hc0 : l0.length≤c0) (hr1 : Kd.C k34 w A1 l1.length l1) (hc1 : l1.length≤c1) (h : versalref14_SameSegs.f k l0 l1=some r) :
  Calls Try.prog 14 #[.slice A0 l0.length c0,.slice A1 l1.length c1] w fun e w'=>e=.returned (.bool r)∧Drawn0 w w':=by
 have hu34:=Try.underlying34
 have HR0:=amk hr0
 have HC0:=amk hc0
 clear hr0 hc0
 have HR1:=amk hr1
 have HC1:=amk hc1
 clear hr1 hc1
 have H : (if (l0.length : Int)=(l1.length : Int) then (versalref14_SameSegs.l0 k l0 l1 0) else (some false))=some r:=h
 clear h
 by_cases c3 : (l0.length : Int)=(l1.length : Int)
 ·rw [if_pos c3] at H
  have c3b0 : ((l0.length : Int) == (l1.length : Int))=true:=beq_iff_eq.mpr c3
  have c3b1 : ((l0.length : Int) != (l1.length : Int))=false:=bne_eq_false_iff_eq.mpr c3
  have c3b2 : (l0.length == l1.length)=true:=by first|simpa using c3|(simp at c3 ⊢;omega)
  clear c3
  have H':=amk H
  clear H
  go_enter Try.func14,Try.ntmps14
  go_wp2
  repeat (go_quiet (fail);try go_wp2)
  go_loopg [5] k (fun kq v5 w'=>∃ (x5_1 : Int),v5=.int .i64 x5_1∧Aside0 (versalref14_SameSegs.l0 kq l0 l1 x5_1=some r)∧Aside0 (kq≤k)∧Drawn0 w w')
  case atStart=>exact ⟨(0),(by first|rfl|(simp;done)|(simp [*];done)),H',⟨Nat.le_refl _⟩,by repeat (first|exact Drawn0.refl _|apply Drawn0.step)⟩
  case round =>
   clear H'
   try clear c1
   try clear p2
   try clear c3
   try clear c3b0
   try clear c3b1
   try clear c3b2
   obtain ⟨x5_1,rfl,HA,HK1,⟨m1,rfl⟩⟩:=hrel
   cases gk with
   | zero=>exact absurd HA.out (by simp [versalref14_SameSegs.l0])
   | succ k1 =>
    have H:=HA.out
    clear HA
    simp only [versalref14_SameSegs.l0] at H
    by_cases c4 : x5_1 < (l0.length : Int)
    ·rw [if_pos c4] at H
     have c4b0 : decide (x5_1 < (l0.length : Int))=true:=decide_eq_true c4
     clear c4
     by_cases c5 : 0≤x5_1
     ·rw [if_pos c5] at H
      have c5b0 : decide (0≤x5_1)=true:=decide_eq_true c5
      clear c5
      by_cases c6 : x5_1 < (l1.length : Int)
      ·rw [if_pos c6] at H
       have c6b0 : decide (x5_1 < (l1.length : Int))=true:=decide_eq_true c6
       clear c6
       by_cases c7 : (!(((rd_T34 l0 x5_1).f0) == ((rd_T34 l1 x5_1).f0)) || (!(((rd_T34 l0 x5_1).f1) == ((rd_T34 l1 x5_1).f1)) || (!(((rd_T34 l0 x5_1).f2) == ((rd_T34 l1 x5_1).f2)) || (!(((rd_T34 l0 x5_1).f3) == ((rd_T34 l1 x5_1).f3))))))=true
       ·rw [if_pos c7] at H
        have c7b0 : (!(((rd_T34 l0 x5_1).f0) == ((rd_T34 l1 x5_1).f0)) || (!(((rd_T34 l0 x5_1).f1) == ((rd_T34 l1 x5_1).f1)) || (!(((rd_T34 l0 x5_1).f2) == ((rd_T34 l1 x5_1).f2)) || (!(((rd_T34 l0 x5_1).f3) == ((rd_T34 l1 x5_1).f3))))))=true:=c7
        clear c7
        obtain rfl:=Option.some.inj H
        have p358 : 0≤(x5_1 : Int):=of_decide_eq_true (by first|(with_reducible assumption)|assumption)
        have q358 : x5_1 < (l0.length : Int):=of_decide_eq_true (by first|(with_reducible assumption)|assumption)
        obtain ⟨ad358,e358,hx358_0,hx358_1,hx358_2,hx358_3⟩:=at_T34 HR0.out x5_1 p358 q358
        cases e358
        replace p358:=eq_true p358
        replace q358:=eq_true q358
        have p359 : 0≤(x5_1 : Int):=of_decide_eq_true (by first|(with_reducible assumption)|assumption)
        have q359 : x5_1 < (l1.length : Int):=of_decide_eq_true (by first|(with_reducible assumption)|assumption)
        obtain ⟨ad359,e359,hx359_0,hx359_1,hx359_2,hx359_3⟩:=at_T34 HR1.out x5_1 p359 q359
        cases e359
        replace p359:=eq_true p359
        replace q359:=eq_true q359
        go_wp2
        repeat (go_quiet (fail);try go_wp2)
        go_ret
        exact ⟨by first|rfl|(simp;done)|(simp [*];done),by repeat (first|exact Drawn0.refl _|apply Drawn0.step)⟩
       ·rw [if_neg c7] at H
        have c7b0 : (!(((rd_T34 l0 x5_1).f0) == ((rd_T34 l1 x5_1).f0)) || (!(((rd_T34 l0 x5_1).f1) == ((rd_T34 l1 x5_1).f1)) || (!(((rd_T34 l0 x5_1).f2) == ((rd_T34 l1 x5_1).f2)) || (!(((rd_T34 l0 x5_1).f3) == ((rd_T34 l1 x5_1).f3))))))=false:=by simpa using c7
        clear c7
        have H':=amk H
        clear H
        have p358 : 0≤(x5_1 : Int):=of_decide_eq_true (by first|(with_reducible assumption)|assumption)
        have q358 : x5_1 < (l0.length : Int):=of_decide_eq_true (by first|(with_reducible assumption)|assumption)
        obtain ⟨ad358,e358,hx358_0,hx358_1,hx358_2,hx358_3⟩:=at_T34 HR0.out x5_1 p358 q358
        cases e358
        replace p358:=eq_true p358
        replace q358:=eq_true q358
        have p359 : 0≤(x5_1 : Int):=of_decide_eq_true (by first|(with_reducible assumption)|assumption)
        have q359 : x5_1 < (l1.length : Int):=of_decide_eq_true (by first|(with_reducible assumption)|assumption)
        obtain ⟨ad359,e359,hx359_0,hx359_1,hx359_2,hx359_3⟩:=at_T34 HR1.out x5_1 p359 q359
        cases e359
        replace p359:=eq_true p359
        replace q359:=eq_true q359
        go_wp2
        repeat (go_quiet (fail);try go_wp2)
        go_roundg k1
        case measure=>have:=HK1.out;omega
        case rel=>exact ⟨(wrap64 (x5_1+1)),(by first|rfl|(simp;done)|(simp [*];done)),H',⟨by have:=HK1.out;omega⟩,by repeat (first|exact Drawn0.refl _|apply Drawn0.step)⟩
      ·rw [if_neg c6] at H
       exact absurd H (by simp)
     ·rw [if_neg c5] at H
      exact absurd H (by simp)
    ·rw [if_neg c4] at H
     have c4b0 : decide (x5_1 < (l0.length : Int))=false:=decide_eq_false c4
     clear c4
     obtain rfl:=Option.some.inj H
     go_wp2
     repeat (go_quiet (fail);try go_wp2)
     go_ret
     exact ⟨by first|rfl|(simp;done)|(simp [*];done),by repeat (first|exact Drawn0.refl _|apply Drawn0.step)⟩
 ·rw [if_neg c3] at H
  have c3b0 : ((l0.length : Int) == (l1.length : Int))=false:=beq_eq_false_iff_ne.mpr c3
  have c3b1 : ((l0.length : Int) != (l1.length : Int))=true:=bne_iff_ne.mpr c3
  have c3b2 : (l0.length == l1.length)=false:=by first|simpa using c3|(simp at c3 ⊢;omega)
  obtain rfl:=Option.some.inj H
  go_enter Try.func14,Try.ntmps14
  go_wp2
  repeat (go_quiet (fail);try go_wp2)
  go_ret
  exact ⟨by first|rfl|(simp;done)|(simp [*];done),by repeat (first|exact Drawn0.refl _|apply Drawn0.step)⟩

/-! ### versalref14_bent: function 39 -/
def versalref14_bent.f (a0 : Int) (a1 : Int) (a2 : Int) (a3 : Int) : Option (Int):=(versalref2_Clip.f a0).bind fun t360=>((versalref2_Clip.f a1).bind fun t361=>((versalref2_Clip.f a2).bind fun t362=>((versalref2_Floor.f (wrap64 ((wrap64 ((wrap64 ((wrap64 (t360 * (wrap64 (8 - a3)))) * (wrap64 (8 - a3))))+(wrap64 ((wrap64 ((wrap64 (2 * t361)) * a3)) * (wrap64 (8 - a3))))))+(wrap64 ((wrap64 (t362 * a3)) * a3)))) 64).bind fun t363=>(some t363))))
set_option maxHeartbeats 8000000 in
set_option maxRecDepth 100000 in
theorem versalref14_bent.calls (a0 : Int) (a1 : Int) (a2 : Int) (a3 : Int) (r : Int) (w : World) (h : versalref14_bent.f a0 a1 a2 a3=some r) :
  Calls Try.prog 39 #[.int .i64 a0,.int .i64 a1,.int .i64 a2,.int .i64 a3] w fun e w'=>e=.returned (.int .i64 r)∧Below w.heap.size w w':=by
 have HB:=amk (Below.refl w.heap.size w)
 have H : ((versalref2_Clip.f a0).bind fun t360=>((versalref2_Clip.f a1).bind fun t361=>((versalref2_Clip.f a2).bind fun t362=>((versalref2_Floor.f (wrap64 ((wrap64 ((wrap64 ((wrap64 (t360 * (wrap64 (8 - a3)))) * (wrap64 (8 - a3))))+(wrap64 ((wrap64 ((wrap64 (2 * t361)) * a3)) * (wrap64 (8 - a3))))))+(wrap64 ((wrap64 (t362 * a3)) * a3)))) 64).bind fun t363=>(some t363)))))=some r:=h
 clear h
 replace H:=Option.bind_eq_some_iff.mp H
 obtain ⟨t360,A50,H⟩:=H
 replace H : ((versalref2_Clip.f a1).bind fun t361=>((versalref2_Clip.f a2).bind fun t362=>((versalref2_Floor.f (wrap64 ((wrap64 ((wrap64 ((wrap64 (t360 * (wrap64 (8 - a3)))) * (wrap64 (8 - a3))))+(wrap64 ((wrap64 ((wrap64 (2 * t361)) * a3)) * (wrap64 (8 - a3))))))+(wrap64 ((wrap64 (t362 * a3)) * a3)))) 64).bind fun t363=>(some t363))))=some r:=H
 have A5:=amk A50
 clear A50
 replace H:=Option.bind_eq_some_iff.mp H
 obtain ⟨t361,A60,H⟩:=H
 replace H : ((versalref2_Clip.f a2).bind fun t362=>((versalref2_Floor.f (wrap64 ((wrap64 ((wrap64 ((wrap64 (t360 * (wrap64 (8 - a3)))) * (wrap64 (8 - a3))))+(wrap64 ((wrap64 ((wrap64 (2 * t361)) * a3)) * (wrap64 (8 - a3))))))+(wrap64 ((wrap64 (t362 * a3)) * a3)))) 64).bind fun t363=>(some t363)))=some r:=H
 have A6:=amk A60
 clear A60
 replace H:=Option.bind_eq_some_iff.mp H
 obtain ⟨t362,A70,H⟩:=H
 replace H : ((versalref2_Floor.f (wrap64 ((wrap64 ((wrap64 ((wrap64 (t360 * (wrap64 (8 - a3)))) * (wrap64 (8 - a3))))+(wrap64 ((wrap64 ((wrap64 (2 * t361)) * a3)) * (wrap64 (8 - a3))))))+(wrap64 ((wrap64 (t362 * a3)) * a3)))) 64).bind fun t363=>(some t363))=some r:=H
 have A7:=amk A70
 clear A70
 replace H:=Option.bind_eq_some_iff.mp H
 obtain ⟨t363,A80,H⟩:=H
 replace H : (some t363)=some r:=H
 have A8:=amk A80
 clear A80
 obtain rfl:=Option.some.inj H
 go_enter Try.func39,Try.ntmps39
 go_wp2_with (first|((with_reducible refine gate_callee (f:=33) rfl ?_);refine goesL_ (some 11) rfl rfl Try.func33 (by kernel_rfl) rfl #[.int .i64 a0] rfl (by (try simp only [List.map_toArray,List.map_cons,List.map_nil]);first|done|rfl|(simp only [List.length_drop,List.length_take];rfl)) ?_;(with_reducible refine (versalref2_Clip.calls a0 t360 _ A5.out).mono ?_);rintro e w9 ⟨rfl,hb⟩;refine ⟨_,rfl,?_⟩;have n0_:=amk (below_step (by repeat (first|(with_reducible first|exact HB.out|apply bAl|apply bDN|apply bD1)|exact HB.out)) hb);clear HB;have HB:=n0_;clear n0_;(try clear hb);(try clear hb2);(try clear hk);(try clear hi))|((with_reducible refine gate_callee (f:=33) rfl ?_);refine goesL_ (some 19) rfl rfl Try.func33 (by kernel_rfl) rfl #[.int .i64 a1] rfl (by (try simp only [List.map_toArray,List.map_cons,List.map_nil]);first|done|rfl|(simp only [List.length_drop,List.length_take];rfl)) ?_;(with_reducible refine (versalref2_Clip.calls a1 t361 _ A6.out).mono ?_);rintro e w10 ⟨rfl,hb⟩;refine ⟨_,rfl,?_⟩;have n0_:=amk (below_step (by repeat (first|(with_reducible first|exact HB.out|apply bAl|apply bDN|apply bD1)|exact HB.out)) hb);clear HB;have HB:=n0_;clear n0_;(try clear hb);(try clear hb2);(try clear hk);(try clear hi))|((with_reducible refine gate_callee (f:=33) rfl ?_);refine goesL_ (some 28) rfl rfl Try.func33 (by kernel_rfl) rfl #[.int .i64 a2] rfl (by (try simp only [List.map_toArray,List.map_cons,List.map_nil]);first|done|rfl|(simp only [List.length_drop,List.length_take];rfl)) ?_;(with_reducible refine (versalref2_Clip.calls a2 t362 _ A7.out).mono ?_);rintro e w11 ⟨rfl,hb⟩;refine ⟨_,rfl,?_⟩;have n0_:=amk (below_step (by repeat (first|(with_reducible first|exact HB.out|apply bAl|apply bDN|apply bD1)|exact HB.out)) hb);clear HB;have HB:=n0_;clear n0_;(try clear hb);(try clear hb2);(try clear hk);(try clear hi))|((with_reducible refine gate_callee (f:=55) rfl ?_);refine goesL_ (some 35) rfl rfl Try.func55 (by kernel_rfl) rfl #[.int .i64 (wrap64 ((wrap64 ((wrap64 ((wrap64 (t360 * (wrap64 (8 - a3)))) * (wrap64 (8 - a3))))+(wrap64 ((wrap64 ((wrap64 (2 * t361)) * a3)) * (wrap64 (8 - a3))))))+(wrap64 ((wrap64 (t362 * a3)) * a3)))),.int .i64 64] rfl (by (try simp only [List.map_toArray,List.map_cons,List.map_nil]);first|done|rfl|(simp only [List.length_drop,List.length_take];rfl)) ?_;(with_reducible refine (versalref2_Floor.calls (wrap64 ((wrap64 ((wrap64 ((wrap64 (t360 * (wrap64 (8 - a3)))) * (wrap64 (8 - a3))))+(wrap64 ((wrap64 ((wrap64 (2 * t361)) * a3)) * (wrap64 (8 - a3))))))+(wrap64 ((wrap64 (t362 * a3)) * a3)))) 64 t363 _ A8.out).mono ?_);rintro e w' ⟨rfl,⟨nd,rfl⟩⟩;refine ⟨_,rfl,?_⟩))
 go_ret
 exact ⟨by first|rfl|(simp [errW_none,errW_some] <;> rfl)|(simp [*,errW_none,errW_some] <;> rfl),by repeat (first|(with_reducible first|exact HB.out|apply bAl|apply bDN|apply bD1)|exact HB.out)⟩

/-! ### versalref14_Curve: function 17 -/
def versalref14_Curve.l0 : Nat → List (S34) → Int → Int → Int → Int → Int → Int → Int → Int → Int → Option ((List (S34)))
 | 0,_,_,_,_,_,_,_,_,_,_=>none
 | k+1,x7,x8,x9,x10,x365000,x365001,x366000,x366001,x367000,x367001=>if x10≤8 then ((versalref14_bent.f x365000 x366000 x367000 x10).bind fun t369=>((versalref14_bent.f x365001 x366001 x367001 x10).bind fun t370=>(if x7.length < 4398046511104 then (versalref14_Curve.l0 k (x7 ++ [(⟨x8,x9,t369,t370⟩ : S34)]) t369 t370 (wrap64 (x10+1)) x365000 x365001 x366000 x366001 x367000 x367001) else (none)))) else (some x7)
def versalref14_Curve.f (k : Nat) (a0_0 : Int) (a0_1 : Int) (a1_0 : Int) (a1_1 : Int) (a2_0 : Int) (a2_1 : Int) : Option ((List (S34))):=(versalref2_Clip.f a0_0).bind fun t367=>((versalref2_Clip.f a0_1).bind fun t368=>(versalref14_Curve.l0 k ([] : List (S34)) t367 t368 1 a0_0 a0_1 a1_0 a1_1 a2_0 a2_1))
theorem versalref14_Curve.mono_l : ∀ k,(∀ y0 y1 y2 y3 y4 y5 y6 y7 y8 y9,LeO (versalref14_Curve.l0 k y0 y1 y2 y3 y4 y5 y6 y7 y8 y9) (versalref14_Curve.l0 (k+1) y0 y1 y2 y3 y4 y5 y6 y7 y8 y9))
 | 0=>fun _ _ _ _ _ _ _ _ _ _ r h=>by simp [versalref14_Curve.l0] at h
 | k+1=>by
  have ih0:=versalref14_Curve.mono_l k
  ·intro y0 y1 y2 y3 y4 y5 y6 y7 y8 y9
   unfold versalref14_Curve.l0
   repeat' first
   | (with_reducible exact ih0 _ _ _ _ _ _ _ _ _ _)
   | (with_reducible exact LeO.refl _)
   | (with_reducible exact LeO.none _)
   | (with_reducible refine LeO.ite ?_ ?_)
   | (with_reducible refine LeO.bind ?_ (fun _=>?_))
   | exact ih0 _ _ _ _ _ _ _ _ _ _
   | exact LeO.none _
   | refine LeO.ite ?_ ?_
   | refine LeO.bind ?_ (fun _=>?_)
theorem versalref14_Curve.mono : ∀ a0 a1 a2 a3 a4 a5 k,LeO (versalref14_Curve.f k a0 a1 a2 a3 a4 a5) (versalref14_Curve.f (k+1) a0 a1 a2 a3 a4 a5):=by
 intro a0 a1 a2 a3 a4 a5 k
 have ih0:=versalref14_Curve.mono_l k
 unfold versalref14_Curve.f
 repeat' first
   | (with_reducible exact ih0 _ _ _ _ _ _ _ _ _ _)
   | (with_reducible exact LeO.refl _)
   | (with_reducible exact LeO.none _)
   | (with_reducible refine LeO.ite ?_ ?_)
   | (with_reducible refine LeO.bind ?_ (fun _=>?_))
   | exact ih0 _ _ _ _ _ _ _ _ _ _
   | exact LeO.none _
   | refine LeO.ite ?_ ?_
   | refine LeO.bind ?_ (fun _=>?_)
set_option maxHeartbeats 8000000 in
set_option maxRecDepth 100000 in
theorem versalref14_Curve.calls (k : Nat) (a0_0 : Int) (a0_1 : Int) (a1_0 : Int) (a1_1 : Int) (a2_0 : Int) (a2_1 : Int) (r : List (S34)) (w : World) (h : versalref14_Curve.f k a0_0 a0_1 a1_0 a1_1 a2_0 a2_1=some r) :
  Calls Try.prog 17 #[.agg #[.int .i64 a0_0,.int .i64 a0_1],.agg #[.int .i64 a1_0,.int .i64 a1_1],.agg #[.int .i64 a2_0,.int .i64 a2_1]] w fun e w'=>∃ v0_ : Value,e=.returned (v0_)∧Kd.R k34 34 w' w.heap.size (fun _=>True) v0_ r∧Below w.heap.size w w':=by
 have hu41:=Try.underlying41
 have hu34:=Try.underlying34
 have HB:=amk (Below.refl w.heap.size w)
 have H : ((versalref2_Clip.f a0_0).bind fun t367=>((versalref2_Clip.f a0_1).bind fun t368=>(versalref14_Curve.l0 k ([] : List (S34)) t367 t368 1 a0_0 a0_1 a1_0 a1_1 a2_0 a2_1)))=some r:=h
 clear h
 replace H:=Option.bind_eq_some_iff.mp H
 obtain ⟨t367,A40,H⟩:=H
 replace H : ((versalref2_Clip.f a0_1).bind fun t368=>(versalref14_Curve.l0 k ([] : List (S34)) t367 t368 1 a0_0 a0_1 a1_0 a1_1 a2_0 a2_1))=some r:=H
 have A4:=amk A40
 clear A40
 replace H:=Option.bind_eq_some_iff.mp H
 obtain ⟨t368,A50,H⟩:=H
 replace H : (versalref14_Curve.l0 k ([] : List (S34)) t367 t368 1 a0_0 a0_1 a1_0 a1_1 a2_0 a2_1)=some r:=H
 have A5:=amk A50
 clear A50
 have H':=amk H
 clear H
 go_enter Try.func17,Try.ntmps17
 go_wp2_with (first|((with_reducible refine gate_dst (N:=3) rfl ?_);refine box_event ?hg (N:=3) ?hd (cs:=#[.int .i64 a0_0,.int .i64 a0_1]) (t:=41) ?hr ?_;(case hd=>rfl);(case hg=>rfl);(case hr=>first|(go_simp;done)|(go_simp;rfl));intro gb364 hg w6 hbox hb;have n0_:=amk (below_step (by repeat (first|(with_reducible first|exact HB.out|apply bAl|apply bDN|apply bD1)|exact HB.out)) hb);have n1_:=amk (hbox);have n2_:=amk ((by rw [hg];exact (below_size (by repeat (first|(with_reducible first|exact HB.out|apply bAl|apply bDN|apply bD1)|exact HB.out))) : w.heap.size≤gb364));have n3_:=amk ((by rw [hg];exact (below_size (by repeat (first|(with_reducible first|exact HB.out|apply bAl|apply bDN|apply bD1)|exact HB.out))) : w.heap.size≤gb364));clear HB;have HB:=n0_;have BK364:=n1_;have GW364:=n2_;have GE364:=n3_;clear n0_ n1_ n2_ n3_;clear hb hbox hg)|((with_reducible refine gate_dst (N:=4) rfl ?_);refine box_event ?hg (N:=4) ?hd (cs:=#[.int .i64 a1_0,.int .i64 a1_1]) (t:=41) ?hr ?_;(case hd=>rfl);(case hg=>rfl);(case hr=>first|(go_simp;done)|(go_simp;rfl));intro gb365 hg w7 hbox hb;have n0_:=amk (blk_below (g:=gb364) (o:=.cells #[.int .i64 a0_0,.int .i64 a0_1] 41 (0,0)) (by (with_reducible repeat first|apply kN|apply kD|apply kA);exact BK364.out) hb);have n1_:=amk (below_step (by repeat (first|(with_reducible first|exact HB.out|apply bAl|apply bDN|apply bD1|refine bSe ?_ GE364.out)|exact HB.out)) hb);have n2_:=amk (hbox);have n3_:=amk ((by rw [hg];exact (below_size (by repeat (first|(with_reducible first|exact HB.out|apply bAl|apply bDN|apply bD1|refine bSe ?_ GE364.out)|exact HB.out))) : w.heap.size≤gb365));have n4_:=amk ((by rw [hg];exact (below_size (by repeat (first|(with_reducible first|exact HB.out|apply bAl|apply bDN|apply bD1|refine bSe ?_ GE364.out)|exact HB.out))) : w.heap.size≤gb365));have n5_:=amk ((by rw [hg];exact Nat.ne_of_lt (blk_lt (g:=gb364) (o:=.cells #[.int .i64 a0_0,.int .i64 a0_1] 41 (0,0)) (by (with_reducible repeat first|apply kN|apply kD|apply kA);exact BK364.out)) : gb364 ≠ gb365));have n6_:=amk ((by rw [hg];exact Nat.ne_of_gt (blk_lt (g:=gb364) (o:=.cells #[.int .i64 a0_0,.int .i64 a0_1] 41 (0,0)) (by (with_reducible repeat first|apply kN|apply kD|apply kA);exact BK364.out)) : gb365 ≠ gb364));clear BK364;clear HB;have BK364:=n0_;have HB:=n1_;have BK365:=n2_;have GW365:=n3_;have GE365:=n4_;have NB364_365:=n5_;have NB365_364:=n6_;clear n0_ n1_ n2_ n3_ n4_ n5_ n6_;clear hb hbox hg)|((with_reducible refine gate_dst (N:=5) rfl ?_);refine box_event ?hg (N:=5) ?hd (cs:=#[.int .i64 a2_0,.int .i64 a2_1]) (t:=41) ?hr ?_;(case hd=>rfl);(case hg=>rfl);(case hr=>first|(go_simp;done)|(go_simp;rfl));intro gb366 hg w8 hbox hb;have n0_:=amk (blk_below (g:=gb364) (o:=.cells #[.int .i64 a0_0,.int .i64 a0_1] 41 (0,0)) (by (with_reducible repeat first|apply kN|apply kD|apply kA);exact BK364.out) hb);have n1_:=amk (blk_below (g:=gb365) (o:=.cells #[.int .i64 a1_0,.int .i64 a1_1] 41 (0,0)) (by (with_reducible repeat first|apply kN|apply kD|apply kA);exact BK365.out) hb);have n2_:=amk (below_step (by repeat (first|(with_reducible first|exact HB.out|apply bAl|apply bDN|apply bD1|refine bSe ?_ GE364.out|refine bSe ?_ GE365.out)|exact HB.out)) hb);have n3_:=amk (hbox);have n4_:=amk ((by rw [hg];exact (below_size (by repeat (first|(with_reducible first|exact HB.out|apply bAl|apply bDN|apply bD1|refine bSe ?_ GE364.out|refine bSe ?_ GE365.out)|exact HB.out))) : w.heap.size≤gb366));have n5_:=amk ((by rw [hg];exact (below_size (by repeat (first|(with_reducible first|exact HB.out|apply bAl|apply bDN|apply bD1|refine bSe ?_ GE364.out|refine bSe ?_ GE365.out)|exact HB.out))) : w.heap.size≤gb366));have n6_:=amk ((by rw [hg];exact Nat.ne_of_lt (blk_lt (g:=gb364) (o:=.cells #[.int .i64 a0_0,.int .i64 a0_1] 41 (0,0)) (by (with_reducible repeat first|apply kN|apply kD|apply kA);exact BK364.out)) : gb364 ≠ gb366));have n7_:=amk ((by rw [hg];exact Nat.ne_of_gt (blk_lt (g:=gb364) (o:=.cells #[.int .i64 a0_0,.int .i64 a0_1] 41 (0,0)) (by (with_reducible repeat first|apply kN|apply kD|apply kA);exact BK364.out)) : gb366 ≠ gb364));have n8_:=amk ((by rw [hg];exact Nat.ne_of_lt (blk_lt (g:=gb365) (o:=.cells #[.int .i64 a1_0,.int .i64 a1_1] 41 (0,0)) (by (with_reducible repeat first|apply kN|apply kD|apply kA);exact BK365.out)) : gb365 ≠ gb366));have n9_:=amk ((by rw [hg];exact Nat.ne_of_gt (blk_lt (g:=gb365) (o:=.cells #[.int .i64 a1_0,.int .i64 a1_1] 41 (0,0)) (by (with_reducible repeat first|apply kN|apply kD|apply kA);exact BK365.out)) : gb366 ≠ gb365));clear BK364;clear BK365;clear HB;have BK364:=n0_;have BK365:=n1_;have HB:=n2_;have BK366:=n3_;have GW366:=n4_;have GE366:=n5_;have NB364_366:=n6_;have NB366_364:=n7_;have NB365_366:=n8_;have NB366_365:=n9_;clear n0_ n1_ n2_ n3_ n4_ n5_ n6_ n7_ n8_ n9_;clear hb hbox hg;have hnb9:=NB364_365.out;have hnc9:=NB365_364.out;have hnb10:=NB364_366.out;have hnc10:=NB366_364.out;have hcz11_0 : w8.cell? ⟨gb364,0,none⟩=some (.int .i64 a0_0):=(blk_cell BK364.out 0).trans rfl;have hcz11_1 : w8.cell? ⟨gb364,1,none⟩=some (.int .i64 a0_1):=(blk_cell BK364.out 1).trans rfl;have hfz11_0:=blk_frozen BK364.out 0;have hfz11_1:=blk_frozen BK364.out 1)|((with_reducible refine gate_callee (f:=33) rfl ?_);refine goesL_ (some 15) rfl rfl Try.func33 (by kernel_rfl) rfl #[.int .i64 a0_0] rfl (by (try simp only [List.map_toArray,List.map_cons,List.map_nil]);first|done|rfl|(simp only [List.length_drop,List.length_take];rfl)) ?_;(with_reducible refine (versalref2_Clip.calls a0_0 t367 _ A4.out).mono ?_);rintro e w12 ⟨rfl,hb⟩;refine ⟨_,rfl,?_⟩;have n0_:=amk (blk_below (g:=gb364) (o:=.cells #[.int .i64 a0_0,.int .i64 a0_1] 41 (0,0)) (by (with_reducible repeat first|apply kN|apply kD|apply kA);exact BK364.out) hb);have n1_:=amk (blk_below (g:=gb365) (o:=.cells #[.int .i64 a1_0,.int .i64 a1_1] 41 (0,0)) (by (with_reducible repeat first|apply kN|apply kD|apply kA);exact BK365.out) hb);have n2_:=amk (blk_below (g:=gb366) (o:=.cells #[.int .i64 a2_0,.int .i64 a2_1] 41 (0,0)) (by (with_reducible repeat first|apply kN|apply kD|apply kA);exact BK366.out) hb);have n3_:=amk (below_step (by repeat (first|(with_reducible first|exact HB.out|apply bAl|apply bDN|apply bD1|refine bSe ?_ GE364.out|refine bSe ?_ GE365.out|refine bSe ?_ GE366.out)|exact HB.out)) hb);clear BK364;clear BK365;clear BK366;clear HB;have BK364:=n0_;have BK365:=n1_;have BK366:=n2_;have HB:=n3_;clear n0_ n1_ n2_ n3_;(try clear hb);(try clear hb2);(try clear hk);(try clear hi);have hcz13_0 : w12.cell? ⟨gb364,0,none⟩=some (.int .i64 a0_0):=(blk_cell BK364.out 0).trans rfl;have hcz13_1 : w12.cell? ⟨gb364,1,none⟩=some (.int .i64 a0_1):=(blk_cell BK364.out 1).trans rfl;have hfz13_0:=blk_frozen BK364.out 0;have hfz13_1:=blk_frozen BK364.out 1)|((with_reducible refine gate_callee (f:=33) rfl ?_);refine goesL_ (some 18) rfl rfl Try.func33 (by kernel_rfl) rfl #[.int .i64 a0_1] rfl (by (try simp only [List.map_toArray,List.map_cons,List.map_nil]);first|done|rfl|(simp only [List.length_drop,List.length_take];rfl)) ?_;(with_reducible refine (versalref2_Clip.calls a0_1 t368 _ A5.out).mono ?_);rintro e w14 ⟨rfl,hb⟩;refine ⟨_,rfl,?_⟩;have n0_:=amk (blk_below (g:=gb364) (o:=.cells #[.int .i64 a0_0,.int .i64 a0_1] 41 (0,0)) (by (with_reducible repeat first|apply kN|apply kD|apply kA);exact BK364.out) hb);have n1_:=amk (blk_below (g:=gb365) (o:=.cells #[.int .i64 a1_0,.int .i64 a1_1] 41 (0,0)) (by (with_reducible repeat first|apply kN|apply kD|apply kA);exact BK365.out) hb);have n2_:=amk (blk_below (g:=gb366) (o:=.cells #[.int .i64 a2_0,.int .i64 a2_1] 41 (0,0)) (by (with_reducible repeat first|apply kN|apply kD|apply kA);exact BK366.out) hb);have n3_:=amk (below_step (by repeat (first|(with_reducible first|exact HB.out|apply bAl|apply bDN|apply bD1|refine bSe ?_ GE364.out|refine bSe ?_ GE365.out|refine bSe ?_ GE366.out)|exact HB.out)) hb);clear BK364;clear BK365;clear BK366;clear HB;have BK364:=n0_;have BK365:=n1_;have BK366:=n2_;have HB:=n3_;clear n0_ n1_ n2_ n3_;(try clear hb);(try clear hb2);(try clear hk);(try clear hi)))
 go_loopg [7,8,9,10] k (fun kq v7 v8 v9 v10 w'=>∃ (x7_1 : List (S34)) (x8_1 : Int) (x9_1 : Int) (x10_1 : Int),v8=.int .i64 x8_1∧v9=.int .i64 x9_1∧v10=.int .i64 x10_1∧Aside0 (versalref14_Curve.l0 kq x7_1 x8_1 x9_1 x10_1 a0_0 a0_1 a1_0 a1_1 a2_0 a2_1=some r)∧Aside0 (kq≤k)∧Aside0 (Kd.R k34 34 w' w.heap.size (fun _=>True) v7 x7_1)∧Aside0 (w'.heap[gb364]?=some (.cells #[.int .i64 a0_0,.int .i64 a0_1] 41 (0,0)))∧Aside0 (w'.heap[gb365]?=some (.cells #[.int .i64 a1_0,.int .i64 a1_1] 41 (0,0)))∧Aside0 (w'.heap[gb366]?=some (.cells #[.int .i64 a2_0,.int .i64 a2_1] 41 (0,0)))∧Aside0 (Below w.heap.size w w'))
 case atStart=>exact ⟨(([] : List (S34))),(t367),(t368),(1),(by first|rfl|(simp;done)|(simp [*];done)),(by first|rfl|(simp;done)|(simp [*];done)),(by first|rfl|(simp;done)|(simp [*];done)),H',⟨Nat.le_refl _⟩,⟨by first|exact Kd.R_nil _ _ _ _ _|exact Kd.N_nil _ _ _ _ _|exact Kd.V_nil _ _ _ _ _|exact Kd.Q_nil _ _ _ _ _|exact Kd.S_nil _ _ _ _ _⟩,⟨by (with_reducible repeat first|apply kN|apply kD|apply kA);exact BK364.out⟩,⟨by (with_reducible repeat first|apply kN|apply kD|apply kA);exact BK365.out⟩,⟨by (with_reducible repeat first|apply kN|apply kD|apply kA);exact BK366.out⟩,⟨by repeat (first|(with_reducible first|exact HB.out|apply bAl|apply bDN|apply bD1|refine bSe ?_ GE364.out|refine bSe ?_ GE365.out|refine bSe ?_ GE366.out)|exact HB.out)⟩⟩
 case round =>
  clear H'
  try clear c1
  try clear p2
  try clear c3
  try clear c9
  try clear c10
  try clear hcz11_0
  try clear hcz11_1
  try clear hcz13_0
  try clear hcz13_1
  try clear hfz11_0
  try clear hfz11_1
  try clear hfz13_0
  try clear hfz13_1
  obtain ⟨x7_1,x8_1,x9_1,x10_1,rfl,rfl,rfl,HA,HK1,HO_7,BK364,BK365,BK366,HB⟩:=hrel
  cases gk with
  | zero=>exact absurd HA.out (by simp [versalref14_Curve.l0])
  | succ k1 =>
   have H:=HA.out
   clear HA
   simp only [versalref14_Curve.l0] at H
   by_cases c15 : x10_1≤8
   ·rw [if_pos c15] at H
    have c15b0 : decide (x10_1≤8)=true:=decide_eq_true c15
    clear c15
    replace H:=Option.bind_eq_some_iff.mp H
    obtain ⟨t369,A160,H⟩:=H
    replace H : ((versalref14_bent.f a0_1 a1_1 a2_1 x10_1).bind fun t370=>(if x7_1.length < 4398046511104 then (versalref14_Curve.l0 k1 (x7_1 ++ [(⟨x8_1,x9_1,t369,t370⟩ : S34)]) t369 t370 (wrap64 (x10_1+1)) a0_0 a0_1 a1_0 a1_1 a2_0 a2_1) else (none)))=some r:=H
    have A16:=amk A160
    clear A160
    replace H:=Option.bind_eq_some_iff.mp H
    obtain ⟨t370,A170,H⟩:=H
    replace H : (if x7_1.length < 4398046511104 then (versalref14_Curve.l0 k1 (x7_1 ++ [(⟨x8_1,x9_1,t369,t370⟩ : S34)]) t369 t370 (wrap64 (x10_1+1)) a0_0 a0_1 a1_0 a1_1 a2_0 a2_1) else (none))=some r:=H
    have A17:=amk A170
    clear A170
    by_cases c18 : x7_1.length < 4398046511104
    ·rw [if_pos c18] at H
     have LMc18:=amk c18
     clear c18
     obtain ⟨y371,hy371⟩ : ∃ y_ : List (S34),y_=(x7_1 ++ [(⟨x8_1,x9_1,t369,t370⟩ : S34)]):=⟨_,rfl⟩
     replace H : (versalref14_Curve.l0 k1 y371 t369 t370 (wrap64 (x10_1+1)) a0_0 a0_1 a1_0 a1_1 a2_0 a2_1)=some r:=by first|(rw [hy371];with_reducible exact H)|(have H2_:=(Option.bind_some _ _).symm.trans H;rw [hy371];with_reducible exact H2_)|(have H2_:=(Option.bind_some _ _).symm.trans H;with_reducible exact H2_)|with_reducible exact H|(rw [hy371];exact H)|exact H
     have Ny371:=amk hy371
     clear hy371
     have H':=amk H
     clear H
     have hnb19:=NB364_365.out
     have hnc19:=NB365_364.out
     have hnb20:=NB364_366.out
     have hnc20:=NB366_364.out
     have hcz21_0 : wr.cell? ⟨gb364,0,none⟩=some (.int .i64 a0_0):=(blk_cell BK364.out 0).trans rfl
     have hcz21_1 : wr.cell? ⟨gb364,1,none⟩=some (.int .i64 a0_1):=(blk_cell BK364.out 1).trans rfl
     have hfz21_0:=blk_frozen BK364.out 0
     have hfz21_1:=blk_frozen BK364.out 1
     have hnb22:=NB365_366.out
     have hnc22:=NB366_365.out
     have hcz23_0 : wr.cell? ⟨gb365,0,none⟩=some (.int .i64 a1_0):=(blk_cell BK365.out 0).trans rfl
     have hcz23_1 : wr.cell? ⟨gb365,1,none⟩=some (.int .i64 a1_1):=(blk_cell BK365.out 1).trans rfl
     have hfz23_0:=blk_frozen BK365.out 0
     have hfz23_1:=blk_frozen BK365.out 1
     have hcz24_0 : wr.cell? ⟨gb366,0,none⟩=some (.int .i64 a2_0):=(blk_cell BK366.out 0).trans rfl
     have hcz24_1 : wr.cell? ⟨gb366,1,none⟩=some (.int .i64 a2_1):=(blk_cell BK366.out 1).trans rfl
     have hfz24_0:=blk_frozen BK366.out 0
     have hfz24_1:=blk_frozen BK366.out 1
     go_wp2_with (first|((with_reducible refine gate_callee (f:=39) rfl ?_);refine goesL_ (some 30) rfl rfl Try.func39 (by kernel_rfl) rfl #[.int .i64 a0_0,.int .i64 a1_0,.int .i64 a2_0,.int .i64 x10_1] rfl (by (try simp only [List.map_toArray,List.map_cons,List.map_nil]);first|done|rfl|(simp only [List.length_drop,List.length_take];rfl)) ?_;(with_reducible refine (versalref14_bent.calls a0_0 a1_0 a2_0 x10_1 t369 _ A16.out).mono ?_);rintro e w25 ⟨rfl,hb⟩;refine ⟨_,rfl,?_⟩;have n0_:=amk (Kd.R_below (by (with_reducible repeat (first|apply Kd.R_alloc|apply Kd.R_drewN|apply Kd.R_drew));exact HO_7.out) hb);have n1_:=amk (blk_below (g:=gb364) (o:=.cells #[.int .i64 a0_0,.int .i64 a0_1] 41 (0,0)) (by (with_reducible repeat first|apply kN|apply kD|apply kA);exact BK364.out) hb);have n2_:=amk (blk_below (g:=gb365) (o:=.cells #[.int .i64 a1_0,.int .i64 a1_1] 41 (0,0)) (by (with_reducible repeat first|apply kN|apply kD|apply kA);exact BK365.out) hb);have n3_:=amk (blk_below (g:=gb366) (o:=.cells #[.int .i64 a2_0,.int .i64 a2_1] 41 (0,0)) (by (with_reducible repeat first|apply kN|apply kD|apply kA);exact BK366.out) hb);have n4_:=amk (below_step (by repeat (first|(with_reducible first|exact HB.out|apply bAl|apply bDN|apply bD1|refine bSe ?_ GE364.out|refine bSe ?_ GE365.out|refine bSe ?_ GE366.out)|exact HB.out)) hb);clear HO_7;clear BK364;clear BK365;clear BK366;clear HB;have HO_7:=n0_;have BK364:=n1_;have BK365:=n2_;have BK366:=n3_;have HB:=n4_;clear n0_ n1_ n2_ n3_ n4_;(try clear hb);(try clear hb2);(try clear hk);(try clear hi);have hcz26_0 : w25.cell? ⟨gb364,0,none⟩=some (.int .i64 a0_0):=(blk_cell BK364.out 0).trans rfl;have hcz26_1 : w25.cell? ⟨gb364,1,none⟩=some (.int .i64 a0_1):=(blk_cell BK364.out 1).trans rfl;have hfz26_0:=blk_frozen BK364.out 0;have hfz26_1:=blk_frozen BK364.out 1;have hcz27_0 : w25.cell? ⟨gb365,0,none⟩=some (.int .i64 a1_0):=(blk_cell BK365.out 0).trans rfl;have hcz27_1 : w25.cell? ⟨gb365,1,none⟩=some (.int .i64 a1_1):=(blk_cell BK365.out 1).trans rfl;have hfz27_0:=blk_frozen BK365.out 0;have hfz27_1:=blk_frozen BK365.out 1;have hcz28_0 : w25.cell? ⟨gb366,0,none⟩=some (.int .i64 a2_0):=(blk_cell BK366.out 0).trans rfl;have hcz28_1 : w25.cell? ⟨gb366,1,none⟩=some (.int .i64 a2_1):=(blk_cell BK366.out 1).trans rfl;have hfz28_0:=blk_frozen BK366.out 0;have hfz28_1:=blk_frozen BK366.out 1)|((with_reducible refine gate_callee (f:=39) rfl ?_);refine goesL_ (some 38) rfl rfl Try.func39 (by kernel_rfl) rfl #[.int .i64 a0_1,.int .i64 a1_1,.int .i64 a2_1,.int .i64 x10_1] rfl (by (try simp only [List.map_toArray,List.map_cons,List.map_nil]);first|done|rfl|(simp only [List.length_drop,List.length_take];rfl)) ?_;(with_reducible refine (versalref14_bent.calls a0_1 a1_1 a2_1 x10_1 t370 _ A17.out).mono ?_);rintro e w29 ⟨rfl,hb⟩;refine ⟨_,rfl,?_⟩;have n0_:=amk (Kd.R_below (by (with_reducible repeat (first|apply Kd.R_alloc|apply Kd.R_drewN|apply Kd.R_drew));exact HO_7.out) hb);have n1_:=amk (blk_below (g:=gb364) (o:=.cells #[.int .i64 a0_0,.int .i64 a0_1] 41 (0,0)) (by (with_reducible repeat first|apply kN|apply kD|apply kA);exact BK364.out) hb);have n2_:=amk (blk_below (g:=gb365) (o:=.cells #[.int .i64 a1_0,.int .i64 a1_1] 41 (0,0)) (by (with_reducible repeat first|apply kN|apply kD|apply kA);exact BK365.out) hb);have n3_:=amk (blk_below (g:=gb366) (o:=.cells #[.int .i64 a2_0,.int .i64 a2_1] 41 (0,0)) (by (with_reducible repeat first|apply kN|apply kD|apply kA);exact BK366.out) hb);have n4_:=amk (below_step (by repeat (first|(with_reducible first|exact HB.out|apply bAl|apply bDN|apply bD1|refine bSe ?_ GE364.out|refine bSe ?_ GE365.out|refine bSe ?_ GE366.out)|exact HB.out)) hb);clear HO_7;clear BK364;clear BK365;clear BK366;clear HB;have HO_7:=n0_;have BK364:=n1_;have BK365:=n2_;have BK366:=n3_;have HB:=n4_;clear n0_ n1_ n2_ n3_ n4_;(try clear hb);(try clear hb2);(try clear hk);(try clear hi))|((with_reducible refine gate_builtin (b:=.append) (xs:=#[.tmp 39,.tmp 45]) rfl ?_);at_builtin;refine Kd.R_append k34 (w0:=w) w.heap.size rfl (.tmp 39) (.tmp 45) 31 34 (.agg #[(.int .i64 0),(.int .i64 0),(.int .i64 0),(.int .i64 0)]) 32 rfl Try.underlying31 info34 rfl (by decide) (by omega) u7 x7_1 (⟨x8_1,x9_1,t369,t370⟩ : S34) [.int .i64 x8_1,.int .i64 x9_1,.int .i64 t369,.int .i64 t370] (fun _=>True) (fun _=>False) rfl rfl ?aP (fun _ hk=>hk.elim) ?aF ?aO ?aB ?aS ?aL ?_;(case aP=>exact k34_mkM _ _ _ (⟨x8_1,x9_1,t369,t370⟩ : S34));(case aB=>exact (by repeat (first|(with_reducible first|exact HB.out|apply bAl|apply bDN|apply bD1|refine bSe ?_ GE364.out|refine bSe ?_ GE365.out|refine bSe ?_ GE366.out)|exact HB.out)));(case aF=>exact (fun _ _=>trivial));(case aO=>exact (by (with_reducible repeat (first|apply Kd.R_alloc|apply Kd.R_drewN|apply Kd.R_drew));exact HO_7.out));(case aS=>exact (below_size (by repeat (first|(with_reducible first|exact HB.out|apply bAl|apply bDN|apply bD1|refine bSe ?_ GE364.out|refine bSe ?_ GE365.out|refine bSe ?_ GE366.out)|exact HB.out))));(case aL=>have:=LMc18.out;omega);intro v372 w30 ho hb hg hat;rw [← Ny371.out] at ho;have n0_:=amk (blk_grown (g:=gb364) (o:=.cells #[.int .i64 a0_0,.int .i64 a0_1] 41 (0,0)) (by (with_reducible repeat first|apply kN|apply kD|apply kA);exact BK364.out) hg (Kd.R_ne HO_7.out BK364.out (by decide)));have n1_:=amk (blk_grown (g:=gb365) (o:=.cells #[.int .i64 a1_0,.int .i64 a1_1] 41 (0,0)) (by (with_reducible repeat first|apply kN|apply kD|apply kA);exact BK365.out) hg (Kd.R_ne HO_7.out BK365.out (by decide)));have n2_:=amk (blk_grown (g:=gb366) (o:=.cells #[.int .i64 a2_0,.int .i64 a2_1] 41 (0,0)) (by (with_reducible repeat first|apply kN|apply kD|apply kA);exact BK366.out) hg (Kd.R_ne HO_7.out BK366.out (by decide)));have n3_:=amk (hb);have n4_:=amk (ho);clear BK364;clear BK365;clear BK366;clear HB;clear HO_7;have BK364:=n0_;have BK365:=n1_;have BK366:=n2_;have HB:=n3_;have HO373:=n4_;clear n0_ n1_ n2_ n3_ n4_;clear ho hb hg hat))
     go_roundg k1
     case measure=>have:=HK1.out;omega
     case rel=>exact ⟨(y371),(t369),(t370),(wrap64 (x10_1+1)),(by first|rfl|(simp;done)|(simp [*];done)),(by first|rfl|(simp;done)|(simp [*];done)),(by first|rfl|(simp;done)|(simp [*];done)),H',⟨by have:=HK1.out;omega⟩,⟨by (with_reducible repeat (first|apply Kd.R_alloc|apply Kd.R_drewN|apply Kd.R_drew));exact HO373.out⟩,⟨by (with_reducible repeat first|apply kN|apply kD|apply kA);exact BK364.out⟩,⟨by (with_reducible repeat first|apply kN|apply kD|apply kA);exact BK365.out⟩,⟨by (with_reducible repeat first|apply kN|apply kD|apply kA);exact BK366.out⟩,⟨by repeat (first|(with_reducible first|exact HB.out|apply bAl|apply bDN|apply bD1|refine bSe ?_ GE364.out|refine bSe ?_ GE365.out|refine bSe ?_ GE366.out)|exact HB.out)⟩⟩
    ·rw [if_neg c18] at H
     exact absurd H (by simp)
   ·rw [if_neg c15] at H
    have c15b0 : decide (x10_1≤8)=false:=decide_eq_false c15
    clear c15
    obtain rfl:=Option.some.inj H
    go_wp2
    go_ret
    exact ⟨_,by first|rfl|(simp [errW_none,errW_some] <;> rfl)|(simp [*,errW_none,errW_some] <;> rfl),by (with_reducible repeat (first|apply Kd.R_alloc|apply Kd.R_drewN|apply Kd.R_drew));exact HO_7.out,by repeat (first|(with_reducible first|exact HB.out|apply bAl|apply bDN|apply bD1|refine bSe ?_ GE364.out|refine bSe ?_ GE365.out|refine bSe ?_ GE366.out)|exact HB.out)⟩

/-! ### versalref14_middle: function 56 -/
def versalref14_middle.f (a0_0 : Int) (a0_1 : Int) (a1_0 : Int) (a1_1 : Int) : Option (Int × Int):=(versalref2_Floor.f (wrap64 (a0_0+a1_0)) 2).bind fun t377=>((versalref2_Floor.f (wrap64 (a0_1+a1_1)) 2).bind fun t378=>(some (t377,t378)))
def versalref14_middle.T1 : Bool × List (List Nat × List Nat):=(true,[([],[]),([0],[0]),([],[]),([2],[2]),([1,3],[1,3]),([4],[4]),([],[]),([6],[6]),([],[]),([8],[8]),([7,9],[7,9]),([10,5],[10]),([5,11],[5,11]),([12,11,0,1,2,3,4,5,6,7,8,9,10,11,12],[12])])
def versalref14_middle.B1 : List Nat:=[0,1,0,4,15,31,0,64,0,256,960,2047,4095,8191]
theorem versalref14_middle.tab1 : rtab .any (opsOf Try.f56 1)=versalref14_middle.T1:=by kernel_rfl
theorem versalref14_middle.bits1 : waitsOk versalref14_middle.T1.2 versalref14_middle.B1=true:=by kernel_rfl
set_option maxHeartbeats 8000000 in
set_option maxRecDepth 100000 in
theorem versalref14_middle.calls (a0_0 : Int) (a0_1 : Int) (a1_0 : Int) (a1_1 : Int) (r1 : Int) (r2 : Int) (w : World) (h : versalref14_middle.f a0_0 a0_1 a1_0 a1_1=some (r1,r2)) :
  Calls Try.prog 56 #[.agg #[.int .i64 a0_0,.int .i64 a0_1],.agg #[.int .i64 a1_0,.int .i64 a1_1]] w fun e w'=>e=.returned (.agg #[.int .i64 r1,.int .i64 r2])∧Below w.heap.size w w':=by
 have hu41:=Try.underlying41
 have HB:=amk (Below.refl w.heap.size w)
 have H : ((versalref2_Floor.f (wrap64 (a0_0+a1_0)) 2).bind fun t377=>((versalref2_Floor.f (wrap64 (a0_1+a1_1)) 2).bind fun t378=>(some (t377,t378))))=some (r1,r2):=h
 clear h
 replace H:=Option.bind_eq_some_iff.mp H
 obtain ⟨t377,A30,H⟩:=H
 replace H : ((versalref2_Floor.f (wrap64 (a0_1+a1_1)) 2).bind fun t378=>(some (t377,t378)))=some (r1,r2):=H
 have A3:=amk A30
 clear A30
 replace H:=Option.bind_eq_some_iff.mp H
 obtain ⟨t378,A40,H⟩:=H
 replace H : (some (t377,t378))=some (r1,r2):=H
 have A4:=amk A40
 clear A40
 simp only [Option.some.injEq,Prod.mk.injEq] at H
 obtain ⟨rfl,rfl⟩:=H
 go_enter Try.func56,Try.ntmps56
 try go_wp2_with (first|((with_reducible refine gate_dst (N:=2) rfl ?_);refine box_event ?hg (N:=2) ?hd (cs:=#[.int .i64 a0_0,.int .i64 a0_1]) (t:=41) ?hr ?_;(case hd=>rfl);(case hg=>rfl);(case hr=>first|(go_simp;done)|(go_simp;rfl));intro gb374 hg w5 hbox hb;have n0_:=amk (below_step (by repeat (first|(with_reducible first|exact HB.out|apply bAl|apply bDN|apply bD1)|exact HB.out)) hb);have n1_:=amk (hbox);have n2_:=amk ((by rw [hg];exact (below_size (by repeat (first|(with_reducible first|exact HB.out|apply bAl|apply bDN|apply bD1)|exact HB.out))) : w.heap.size≤gb374));have n3_:=amk ((by rw [hg];exact (below_size (by repeat (first|(with_reducible first|exact HB.out|apply bAl|apply bDN|apply bD1)|exact HB.out))) : w.heap.size≤gb374));clear HB;have HB:=n0_;have BK374:=n1_;have GW374:=n2_;have GE374:=n3_;clear n0_ n1_ n2_ n3_;clear hb hbox hg)|((with_reducible refine gate_dst (N:=3) rfl ?_);refine box_event ?hg (N:=3) ?hd (cs:=#[.int .i64 a1_0,.int .i64 a1_1]) (t:=41) ?hr ?_;(case hd=>rfl);(case hg=>rfl);(case hr=>first|(go_simp;done)|(go_simp;rfl));intro gb375 hg w6 hbox hb;have n0_:=amk (blk_below (g:=gb374) (o:=.cells #[.int .i64 a0_0,.int .i64 a0_1] 41 (0,0)) (by (with_reducible repeat first|apply kN|apply kD|apply kA);exact BK374.out) hb);have n1_:=amk (below_step (by repeat (first|(with_reducible first|exact HB.out|apply bAl|apply bDN|apply bD1|refine bSe ?_ GE374.out)|exact HB.out)) hb);have n2_:=amk (hbox);have n3_:=amk ((by rw [hg];exact (below_size (by repeat (first|(with_reducible first|exact HB.out|apply bAl|apply bDN|apply bD1|refine bSe ?_ GE374.out)|exact HB.out))) : w.heap.size≤gb375));have n4_:=amk ((by rw [hg];exact (below_size (by repeat (first|(with_reducible first|exact HB.out|apply bAl|apply bDN|apply bD1|refine bSe ?_ GE374.out)|exact HB.out))) : w.heap.size≤gb375));have n5_:=amk ((by rw [hg];exact Nat.ne_of_lt (blk_lt (g:=gb374) (o:=.cells #[.int .i64 a0_0,.int .i64 a0_1] 41 (0,0)) (by (with_reducible repeat first|apply kN|apply kD|apply kA);exact BK374.out)) : gb374 ≠ gb375));have n6_:=amk ((by rw [hg];exact Nat.ne_of_gt (blk_lt (g:=gb374) (o:=.cells #[.int .i64 a0_0,.int .i64 a0_1] 41 (0,0)) (by (with_reducible repeat first|apply kN|apply kD|apply kA);exact BK374.out)) : gb375 ≠ gb374));clear BK374;clear HB;have BK374:=n0_;have HB:=n1_;have BK375:=n2_;have GW375:=n3_;have GE375:=n4_;have NB374_375:=n5_;have NB375_374:=n6_;clear n0_ n1_ n2_ n3_ n4_ n5_ n6_;clear hb hbox hg)|((with_reducible refine gate_dst (N:=4) rfl ?_);refine box_event ?hg (N:=4) ?hd (cs:=#[.int .i64 0,.int .i64 0]) (t:=41) ?hr ?_;(case hd=>rfl);(case hg=>rfl);(case hr=>first|(go_simp;done)|(go_simp;rfl));intro gb376 hg w7 hbox hb;have n0_:=amk (blk_below (g:=gb374) (o:=.cells #[.int .i64 a0_0,.int .i64 a0_1] 41 (0,0)) (by (with_reducible repeat first|apply kN|apply kD|apply kA);exact BK374.out) hb);have n1_:=amk (blk_below (g:=gb375) (o:=.cells #[.int .i64 a1_0,.int .i64 a1_1] 41 (0,0)) (by (with_reducible repeat first|apply kN|apply kD|apply kA);exact BK375.out) hb);have n2_:=amk (below_step (by repeat (first|(with_reducible first|exact HB.out|apply bAl|apply bDN|apply bD1|refine bSe ?_ GE374.out|refine bSe ?_ GE375.out)|exact HB.out)) hb);have n3_:=amk (hbox);have n4_:=amk ((by rw [hg];exact (below_size (by repeat (first|(with_reducible first|exact HB.out|apply bAl|apply bDN|apply bD1|refine bSe ?_ GE374.out|refine bSe ?_ GE375.out)|exact HB.out))) : w.heap.size≤gb376));have n5_:=amk ((by rw [hg];exact (below_size (by repeat (first|(with_reducible first|exact HB.out|apply bAl|apply bDN|apply bD1|refine bSe ?_ GE374.out|refine bSe ?_ GE375.out)|exact HB.out))) : w.heap.size≤gb376));have n6_:=amk ((by rw [hg];exact Nat.ne_of_lt (blk_lt (g:=gb374) (o:=.cells #[.int .i64 a0_0,.int .i64 a0_1] 41 (0,0)) (by (with_reducible repeat first|apply kN|apply kD|apply kA);exact BK374.out)) : gb374 ≠ gb376));have n7_:=amk ((by rw [hg];exact Nat.ne_of_gt (blk_lt (g:=gb374) (o:=.cells #[.int .i64 a0_0,.int .i64 a0_1] 41 (0,0)) (by (with_reducible repeat first|apply kN|apply kD|apply kA);exact BK374.out)) : gb376 ≠ gb374));have n8_:=amk ((by rw [hg];exact Nat.ne_of_lt (blk_lt (g:=gb375) (o:=.cells #[.int .i64 a1_0,.int .i64 a1_1] 41 (0,0)) (by (with_reducible repeat first|apply kN|apply kD|apply kA);exact BK375.out)) : gb375 ≠ gb376));have n9_:=amk ((by rw [hg];exact Nat.ne_of_gt (blk_lt (g:=gb375) (o:=.cells #[.int .i64 a1_0,.int .i64 a1_1] 41 (0,0)) (by (with_reducible repeat first|apply kN|apply kD|apply kA);exact BK375.out)) : gb376 ≠ gb375));clear BK374;clear BK375;clear HB;have BK374:=n0_;have BK375:=n1_;have HB:=n2_;have BK376:=n3_;have GW376:=n4_;have GE376:=n5_;have NB374_376:=n6_;have NB376_374:=n7_;have NB375_376:=n8_;have NB376_375:=n9_;clear n0_ n1_ n2_ n3_ n4_ n5_ n6_ n7_ n8_ n9_;clear hb hbox hg))
 have n0_:=amk (blk_drew BK374.out)
 have n1_:=amk (blk_drew BK375.out)
 have n2_:=amk (blk_drew BK376.out)
 have n3_:=amk (bD1 HB.out)
 clear BK374
 clear BK375
 clear BK376
 clear HB
 have BK374:=n0_
 have BK375:=n1_
 have BK376:=n2_
 have HB:=n3_
 clear n0_ n1_ n2_ n3_
 refine start_ (n:=14) (S:=fun w'=>w'.cell? ⟨gb374,0,none⟩=some (.int .i64 a0_0)∧w'.cell? ⟨gb374,1,none⟩=some (.int .i64 a0_1)∧w'.cell? ⟨gb375,0,none⟩=some (.int .i64 a1_0)∧w'.cell? ⟨gb375,1,none⟩=some (.int .i64 a1_1)) (ds:=[]) #[false,false,false,false,false,false,false,false,false,false,false,false,false,false] (by kernel_rfl) rfl rfl ⟨(blk_cell BK374.out 0).trans rfl,(blk_cell BK374.out 1).trans rfl,(blk_cell BK375.out 0).trans rfl,(blk_cell BK375.out 1).trans rfl⟩ (fun hHeld=>?_);refine with_tabW versalref14_middle.tab1 versalref14_middle.bits1 (fun HT_ HW_=>?_)
 generalize w7.drew=w8 at BK374 BK375 BK376 HB hHeld ⊢
 refine pure_ (i:=0) (N:=some 5) (v:=?_) (a':=?_) #[true,false,false,false,false,false,false,false,false,false,false,false,false,false] rfl rfl (any_of HT_.out (by kernel_rfl)) (fun _ _ _ h=>h) (Or.inl ⟨by rfl,?_⟩) ?_ ?_
 rotate_left
 ·intro w'
  go_simp
  with_reducible rfl
 rotate_left
 ·simp only [Act.put,sTA,sCZ,sCS,i64_w,i32_w]
  rfl
 refine pure_ (i:=2) (N:=some 7) (v:=?_) (a':=?_) #[true,false,true,false,false,false,false,false,false,false,false,false,false,false] rfl rfl (any_of HT_.out (by kernel_rfl)) (fun _ _ _ h=>h) (Or.inl ⟨by rfl,?_⟩) ?_ ?_
 rotate_left
 ·intro w'
  go_simp
  with_reducible rfl
 rotate_left
 ·simp only [Act.put,sTA,sCZ,sCS,i64_w,i32_w]
  rfl
 refine pure_ (i:=6) (N:=some 11) (v:=?_) (a':=?_) #[true,false,true,false,false,false,true,false,false,false,false,false,false,false] rfl rfl (any_of HT_.out (by kernel_rfl)) (fun _ _ _ h=>h) (Or.inl ⟨by rfl,?_⟩) ?_ ?_
 rotate_left
 ·intro w'
  go_simp
  with_reducible rfl
 rotate_left
 ·simp only [Act.put,sTA,sCZ,sCS,i64_w,i32_w]
  rfl
 refine pure_ (i:=8) (N:=some 13) (v:=?_) (a':=?_) #[true,false,true,false,false,false,true,false,true,false,false,false,false,false] rfl rfl (any_of HT_.out (by kernel_rfl)) (fun _ _ _ h=>h) (Or.inl ⟨by rfl,?_⟩) ?_ ?_
 rotate_left
 ·intro w'
  go_simp
  with_reducible rfl
 rotate_left
 ·simp only [Act.put,sTA,sCZ,sCS,i64_w,i32_w]
  rfl
 refine take_ (i:=1) (N:=some 6) (v:=?_) (a':=?_) #[true,true,true,false,false,false,true,false,true,false,false,false,false,false] rfl rfl (take_ofW HT_.out HW_.out (by kernel_rfl)) (fun _ _ _ h=>h) (Or.inl ⟨by rfl,?_⟩) hHeld ?_ ?_
 rotate_left
 ·rintro w' ⟨s0,s1,s2,s3⟩
  go_simp
  with_reducible rfl
 rotate_left
 ·simp only [Act.put,sTA,sCZ,sCS,i64_w,i32_w]
  rfl
 refine take_ (i:=3) (N:=some 8) (v:=?_) (a':=?_) #[true,true,true,true,false,false,true,false,true,false,false,false,false,false] rfl rfl (take_ofW HT_.out HW_.out (by kernel_rfl)) (fun _ _ _ h=>h) (Or.inl ⟨by rfl,?_⟩) hHeld ?_ ?_
 rotate_left
 ·rintro w' ⟨s0,s1,s2,s3⟩
  go_simp
  with_reducible rfl
 rotate_left
 ·simp only [Act.put,sTA,sCZ,sCS,i64_w,i32_w]
  rfl
 refine pure_ (i:=4) (N:=some 9) (v:=?_) (a':=?_) #[true,true,true,true,true,false,true,false,true,false,false,false,false,false] rfl rfl (any_of HT_.out (by kernel_rfl)) (fun _ _ _ h=>h) (Or.inl ⟨by rfl,?_⟩) ?_ ?_
 rotate_left
 ·intro w'
  go_simp
  with_reducible rfl
 rotate_left
 ·simp only [Act.put,sTA,sCZ,sCS,i64_w,i32_w]
  rfl
 refine take_ (i:=7) (N:=some 12) (v:=?_) (a':=?_) #[true,true,true,true,true,false,true,true,true,false,false,false,false,false] rfl rfl (take_ofW HT_.out HW_.out (by kernel_rfl)) (fun _ _ _ h=>h) (Or.inl ⟨by rfl,?_⟩) hHeld ?_ ?_
 rotate_left
 ·rintro w' ⟨s0,s1,s2,s3⟩
  go_simp
  with_reducible rfl
 rotate_left
 ·simp only [Act.put,sTA,sCZ,sCS,i64_w,i32_w]
  rfl
 refine take_ (i:=9) (N:=some 14) (v:=?_) (a':=?_) #[true,true,true,true,true,false,true,true,true,true,false,false,false,false] rfl rfl (take_ofW HT_.out HW_.out (by kernel_rfl)) (fun _ _ _ h=>h) (Or.inl ⟨by rfl,?_⟩) hHeld ?_ ?_
 rotate_left
 ·rintro w' ⟨s0,s1,s2,s3⟩
  go_simp
  with_reducible rfl
 rotate_left
 ·simp only [Act.put,sTA,sCZ,sCS,i64_w,i32_w]
  rfl
 refine pure_ (i:=10) (N:=some 15) (v:=?_) (a':=?_) #[true,true,true,true,true,false,true,true,true,true,true,false,false,false] rfl rfl (any_of HT_.out (by kernel_rfl)) (fun _ _ _ h=>h) (Or.inl ⟨by rfl,?_⟩) ?_ ?_
 rotate_left
 ·intro w'
  go_simp
  with_reducible rfl
 rotate_left
 ·simp only [Act.put,sTA,sCZ,sCS,i64_w,i32_w]
  rfl
 refine one_ (i:=5) (N:=some 10) #[true,true,true,true,true,true,true,true,true,true,true,false,false,false] rfl rfl (one_of HT_.out (by kernel_rfl)) (by decide) (fun K hK=>?_)
 refine goes_ Try.func55 (by kernel_rfl) rfl #[.int .i64 (wrap64 (a0_0+a1_0)),.int .i64 2] (by rfl) rfl rfl (by (try simp only [List.map_toArray,List.map_cons,List.map_nil]);first|done|rfl|(simp only [List.length_drop,List.length_take];rfl)) ?_
 with_reducible refine (versalref2_Floor.calls (wrap64 (a0_0+a1_0)) 2 t377 _ A3.out).mono ?_
 rintro e w' ⟨rfl,⟨nd,rfl⟩⟩
 refine ⟨_,rfl,?_⟩
 refine hK.out _ _ ⟨(blk_cell BK374.out 0).trans rfl,(blk_cell BK374.out 1).trans rfl,(blk_cell BK375.out 0).trans rfl,(blk_cell BK375.out 1).trans rfl⟩ (fun hHeld=>?_)
 clear hK K
 refine norm_ (a':=?_) ?_ ?_
 rotate_left
 ·show Act.put _ (some 10) _=_
  simp only [Act.put,sTA,sCZ,sCS,i64_w,i32_w]
  rfl
 refine one_ (i:=11) (N:=some 16) #[true,true,true,true,true,true,true,true,true,true,true,true,false,false] rfl rfl (one_of HT_.out (by kernel_rfl)) (by decide) (fun K hK=>?_)
 refine goes_ Try.func55 (by kernel_rfl) rfl #[.int .i64 (wrap64 (a0_1+a1_1)),.int .i64 2] (by rfl) rfl rfl (by (try simp only [List.map_toArray,List.map_cons,List.map_nil]);first|done|rfl|(simp only [List.length_drop,List.length_take];rfl)) ?_
 with_reducible refine (versalref2_Floor.calls (wrap64 (a0_1+a1_1)) 2 t378 _ A4.out).mono ?_
 rintro e w' ⟨rfl,⟨nd,rfl⟩⟩
 refine ⟨_,rfl,?_⟩
 refine hK.out _ _ ⟨(blk_cell BK374.out 0).trans rfl,(blk_cell BK374.out 1).trans rfl,(blk_cell BK375.out 0).trans rfl,(blk_cell BK375.out 1).trans rfl⟩ (fun hHeld=>?_)
 clear hK K
 refine norm_ (a':=?_) ?_ ?_
 rotate_left
 ·show Act.put _ (some 16) _=_
  simp only [Act.put,sTA,sCZ,sCS,i64_w,i32_w]
  rfl
 refine pure_ (i:=12) (N:=some 17) (v:=?_) (a':=?_) #[true,true,true,true,true,true,true,true,true,true,true,true,true,false] rfl rfl (any_of HT_.out (by kernel_rfl)) (fun _ _ _ h=>h) (Or.inl ⟨by rfl,?_⟩) ?_ ?_
 rotate_left
 ·intro w'
  go_simp
  with_reducible rfl
 rotate_left
 ·simp only [Act.put,sTA,sCZ,sCS,i64_w,i32_w]
  rfl
 refine one_ (i:=13) (N:=none) #[true,true,true,true,true,true,true,true,true,true,true,true,true,true] rfl rfl (one_of HT_.out (by kernel_rfl)) (by decide) (fun K hK=>?_)
 have hs9 : w8.cell? ⟨gb376,0,none⟩=some (.int .i64 0):=(blk_cell BK376.out 0).trans rfl
 have hfs9:=blk_frozen BK376.out 0
 have hns9_0:=NB374_376.out
 have hns9_1:=NB375_376.out
 have hms9_0:=NB376_374.out
 have hms9_1:=NB376_375.out
 have hs10 : w8.cell? ⟨gb376,1,none⟩=some (.int .i64 0):=(blk_cell BK376.out 1).trans rfl
 have hfs10:=blk_frozen BK376.out 1
 have hns10_0:=NB374_376.out
 have hns10_1:=NB375_376.out
 have hms10_0:=NB376_374.out
 have hms10_1:=NB376_375.out
 refine skip_ (w1:=?_) (by rfl) rfl ?_ ?_
 rotate_left
 ·go_simp
  rfl
 refine hK.out _ _ ⟨((cell_far (p:=⟨gb376,_,none⟩) NB374_376.out _).trans (((cell_far (p:=⟨gb376,_,none⟩) NB374_376.out _).trans (hHeld.1)))),((cell_far (p:=⟨gb376,_,none⟩) NB374_376.out _).trans (((cell_far (p:=⟨gb376,_,none⟩) NB374_376.out _).trans (hHeld.2.1)))),((cell_far (p:=⟨gb376,_,none⟩) NB375_376.out _).trans (((cell_far (p:=⟨gb376,_,none⟩) NB375_376.out _).trans (hHeld.2.2.1)))),((cell_far (p:=⟨gb376,_,none⟩) NB375_376.out _).trans (((cell_far (p:=⟨gb376,_,none⟩) NB375_376.out _).trans (hHeld.2.2.2))))⟩ (fun hHeld=>?_)
 clear hK K
 refine done_ (done_of HT_.out (by kernel_rfl)) ?_
 try go_wp2
 refine bodyPost_ret (results_cell_row rfl _ _ gb376 41 #[.int .i64 t377,.int .i64 t378] (0,0) _ rfl (by (with_reducible repeat first|apply kN|apply kD|apply kA);refine blk_put (cs:=#[.int .i64 t377,.int .i64 0]) ?_ 1 _ rfl;(with_reducible repeat first|apply kN|apply kD|apply kA);refine blk_put (cs:=#[.int .i64 0,.int .i64 0]) ?_ 0 _ rfl;(with_reducible repeat first|apply kN|apply kD|apply kA);exact BK376.out) Try.underlying41 rfl (by kernel_rfl)) rfl ?_
 exact ⟨by first|rfl|(simp [errW_none,errW_some] <;> rfl)|(simp [*,errW_none,errW_some] <;> rfl),by repeat (first|(with_reducible first|exact HB.out|apply bAl|apply bDN|apply bD1|refine bSe ?_ GE374.out|refine bSe ?_ GE375.out|refine bSe ?_ GE376.out)|exact HB.out)⟩

end Go.Proofs.Ytjmflccbddjlhaa.PFm
