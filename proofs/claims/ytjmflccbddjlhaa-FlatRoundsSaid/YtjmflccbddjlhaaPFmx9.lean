-- WRITTEN BY A PROGRAM OF THIS SESSION (wip/xprint) out of the translation. Not trusted: Lean checks it.
import Derived.Test.YtjmflccbddjlhaaPFmx0
import Derived.Test.YtjmflccbddjlhaaPFmx7
namespace Go.Proofs.Ytjmflccbddjlhaa.PFm
open Go.RowKit Go.Proofs.YtjmflccbddjlhaaW.PrintWords Go.Proofs.YtjmflccbddjlhaaW.PrintLast Go.Proofs.YtjmflccbddjlhaaW.PrintMore
attribute [local go_sem] max2_int min2_int max_two min_two max_three min_three max_four min_four   -- for this text's walks alone
set_option linter.unusedVariables false
set_option linter.unusedSimpArgs false

/-! ### versalhand_Contours: function 9 -/
mutual
def versalhand_Contours.l0 : Nat → List Int → List (List (S36)) → List (S36) → Int → Option ((List (List (S36))))
 | 0,_,_,_,_=>none
 | k+1,x0,x3,x4,x5=>if (wrap64 (x5+2)) < (x0.length : Int) then (versalhand_Contours.j1 k x0 x3 x4 x5 (decide (x5 < 90))) else (versalhand_Contours.j1 k x0 x3 x4 x5 false)
def versalhand_Contours.j1 : Nat → List Int → List (List (S36)) → List (S36) → Int → Bool → Option ((List (List (S36))))
 | 0,_,_,_,_,_=>none
 | k+1,x0,x3,x4,x5,x15=>if x15=true then (if 0≤(wrap64 (x5+2)) then (if (wrap64 (x5+2)) < (x0.length : Int) then ((versalhand_Pick.f (rd x0 (wrap64 (x5+2))) 12).bind fun t297=>(if 0≤x5 then (if x5 < (x0.length : Int) then ((versalhand_Pick.f (rd x0 x5) 1201).bind fun t299=>(if 0≤(wrap64 (x5+1)) then (if (wrap64 (x5+1)) < (x0.length : Int) then ((versalhand_Pick.f (rd x0 (wrap64 (x5+1))) 1201).bind fun t301=>(if x4.length < 5864062014805 then ((some (x4 ++ [(⟨wrap64 (t299 - 100),wrap64 (t301 - 300),decide (t297 > 3)⟩ : S36)] : List (S36))).bind fun y302=>(if t297=11 then (if x3.length < 5864062014805 then (versalhand_Contours.l0 k x0 (x3 ++ [y302]) ([] : List (S36)) (wrap64 (x5+3))) else (none)) else (if t297=0 then (if x3.length < 5864062014805 then (versalhand_Contours.l0 k x0 (x3 ++ [y302]) ([] : List (S36)) (wrap64 (x5+3))) else (none)) else (versalhand_Contours.l0 k x0 x3 y302 (wrap64 (x5+3)))))) else (none))) else (none)) else (none))) else (none)) else (none))) else (none)) else (none)) else (if (x4.length : Int) > 0 then (if x3.length < 5864062014805 then (some (x3 ++ [x4])) else (none)) else (some x3))
end
def versalhand_Contours.f (k : Nat) (l0 : List Int) : Option ((List (List (S36)))):=versalhand_Contours.l0 k l0 ([] : List (List (S36))) ([] : List (S36)) 0
theorem versalhand_Contours.mono_l : ∀ k,(∀ y0 y1 y2 y3,LeO (versalhand_Contours.l0 k y0 y1 y2 y3) (versalhand_Contours.l0 (k+1) y0 y1 y2 y3))∧(∀ y0 y1 y2 y3 y4,LeO (versalhand_Contours.j1 k y0 y1 y2 y3 y4) (versalhand_Contours.j1 (k+1) y0 y1 y2 y3 y4))
 | 0=>⟨fun _ _ _ _ r h=>by simp [versalhand_Contours.l0] at h,fun _ _ _ _ _ r h=>by simp [versalhand_Contours.j1] at h⟩
 | k+1=>by
  obtain ⟨ih0,ih1⟩:=versalhand_Contours.mono_l k
  refine ⟨?_,?_⟩
  ·intro y0 y1 y2 y3
   unfold versalhand_Contours.l0
   repeat' first
   | (with_reducible exact ih0 _ _ _ _)
   | (with_reducible exact ih1 _ _ _ _ _)
   | (with_reducible exact LeO.refl _)
   | (with_reducible exact LeO.none _)
   | (with_reducible refine LeO.ite ?_ ?_)
   | (with_reducible refine LeO.bind ?_ (fun _=>?_))
   | exact ih0 _ _ _ _
   | exact ih1 _ _ _ _ _
   | exact LeO.none _
   | refine LeO.ite ?_ ?_
   | refine LeO.bind ?_ (fun _=>?_)
  ·intro y0 y1 y2 y3 y4
   unfold versalhand_Contours.j1
   repeat' first
   | (with_reducible exact ih0 _ _ _ _)
   | (with_reducible exact ih1 _ _ _ _ _)
   | (with_reducible exact LeO.refl _)
   | (with_reducible exact LeO.none _)
   | (with_reducible refine LeO.ite ?_ ?_)
   | (with_reducible refine LeO.bind ?_ (fun _=>?_))
   | exact ih0 _ _ _ _
   | exact ih1 _ _ _ _ _
   | exact LeO.none _
   | refine LeO.ite ?_ ?_
   | refine LeO.bind ?_ (fun _=>?_)
theorem versalhand_Contours.mono : ∀ a0 k,LeO (versalhand_Contours.f k a0) (versalhand_Contours.f (k+1) a0):=by
 intro a0 k
 obtain ⟨ih0,ih1⟩:=versalhand_Contours.mono_l k
 unfold versalhand_Contours.f
 repeat' first
   | (with_reducible exact ih0 _ _ _ _)
   | (with_reducible exact ih1 _ _ _ _ _)
   | (with_reducible exact LeO.refl _)
   | (with_reducible exact LeO.none _)
   | (with_reducible refine LeO.ite ?_ ?_)
   | (with_reducible refine LeO.bind ?_ (fun _=>?_))
   | exact ih0 _ _ _ _
   | exact ih1 _ _ _ _ _
   | exact LeO.none _
   | refine LeO.ite ?_ ?_
   | refine LeO.bind ?_ (fun _=>?_)
def versalhand_Contours.T7 : Bool × List (List Nat × List Nat):=(true,[([],[]),([],[]),([],[]),([1,2],[1,2]),([3],[3]),([4],[4]),([5],[5]),([],[]),([],[]),([8],[8]),([7,9],[7,9]),([10],[10]),([11,5],[11]),([12],[12]),([],[]),([14],[14]),([6,13,15],[6,13,15]),([16],[16]),([0,17,12],[0,17]),([18,18,0,1,2,3,4,5,6,7,8,9,10,11,12,13,14,15,16,17,18],[0,18])])
def versalhand_Contours.B7 : List Nat:=[0,0,0,6,14,30,62,0,0,256,896,1920,4030,8126,0,16384,65534,131070,262143,524287]
theorem versalhand_Contours.tab7 : rtab .any (opsOf Try.f9 7)=versalhand_Contours.T7:=by kernel_rfl
theorem versalhand_Contours.bits7 : waitsOk versalhand_Contours.T7.2 versalhand_Contours.B7=true:=by kernel_rfl
set_option maxHeartbeats 8000000 in
set_option maxRecDepth 100000 in
theorem versalhand_Contours.calls (k : Nat) (A0 : Option Addr) (c0 : Nat) (l0 : List Int) (r : List (List (S36))) (w : World) (hr0 : Kd.C (Kd.int .i64) w A0 l0.length l0) (hc0 : l0.length≤c0) (h : versalhand_Contours.f k l0=some r) :
  Calls Try.prog 9 #[.slice A0 l0.length c0] w fun e w'=>∃ v0_ : Value,e=.returned (v0_)∧Kd.S (Kd.slice 36 k36) 30 w' w.heap.size (fun _=>True) v0_ r∧Below w.heap.size w w':=by
 have hu36:=Try.underlying36
 have HR0:=amk hr0
 have HC0:=amk hc0
 clear hr0 hc0
 have HB:=amk (Below.refl w.heap.size w)
 have H : (versalhand_Contours.l0 k l0 ([] : List (List (S36))) ([] : List (S36)) 0)=some r:=h
 clear h
 have H':=amk H
 clear H
 go_enter Try.func9,Try.ntmps9
 go_wp2
 go_loopg [3,4,5] k (fun kq v3 v4 v5 w'=>∃ (x3_1 : List (List (S36))) (x4_1 : List (S36)) (x5_1 : Int),v5=.int .i64 x5_1∧Aside0 (versalhand_Contours.l0 kq l0 x3_1 x4_1 x5_1=some r)∧Aside0 (kq≤k)∧Aside0 (Kd.S (Kd.slice 36 k36) 30 w' w.heap.size (fun k_=>some k_ ≠ (v4 : Value).ownBlock) v3 x3_1)∧Aside0 (Kd.R k36 36 w' w.heap.size (fun _=>True) v4 x4_1)∧Aside0 (Below w.heap.size w w'))
 case atStart=>exact ⟨(([] : List (List (S36)))),(([] : List (S36))),(0),(by first|rfl|(simp;done)|(simp [*];done)),H',⟨Nat.le_refl _⟩,⟨by first|exact Kd.S_nil _ _ _ _ _|exact Kd.N_nil _ _ _ _ _|exact Kd.V_nil _ _ _ _ _|exact Kd.Q_nil _ _ _ _ _|exact Kd.R_nil _ _ _ _ _⟩,⟨by first|exact Kd.R_nil _ _ _ _ _|exact Kd.N_nil _ _ _ _ _|exact Kd.V_nil _ _ _ _ _|exact Kd.Q_nil _ _ _ _ _|exact Kd.S_nil _ _ _ _ _⟩,⟨by repeat (first|(with_reducible first|exact HB.out|apply bAl|apply bDN|apply bD1)|exact HB.out)⟩⟩
 case round =>
  clear H'
  obtain ⟨x3_1,x4_1,x5_1,rfl,HA,HK1,HO_3,HO_4,HB⟩:=hrel
  cases gk with
  | zero=>exact absurd HA.out (by simp [versalhand_Contours.l0])
  | succ k1 =>
   have H:=HA.out
   clear HA
   simp only [versalhand_Contours.l0] at H
   have HC2:=amk H
   clear H
   go_upto_region 4 with (fail)
   go_cut [15] (fun v15 wc=>∃ (kq : Nat) (x15_1 : Bool),v15=.bool x15_1∧Aside0 (versalhand_Contours.j1 kq l0 x3_1 x4_1 x5_1 x15_1=some r)∧Aside0 (kq≤k1)∧Aside0 (Kd.S (Kd.slice 36 k36) 30 wc w.heap.size (fun k_=>some k_ ≠ (u4 : Value).ownBlock) u3 x3_1)∧Aside0 (Kd.R k36 36 wc w.heap.size (fun _=>True) u4 x4_1)∧Aside0 (Below w.heap.size w wc))
   case first =>
    have H:=HC2.out
    clear HC2
    by_cases c3 : (wrap64 (x5_1+2)) < (l0.length : Int)
    ·rw [if_pos c3] at H
     have c3b0 : decide ((wrap64 (x5_1+2)) < (l0.length : Int))=true:=decide_eq_true c3
     clear c3
     (first|rw [c3b0]|(simp only [i64_w,i32_w];rw [c3b0])|skip)
     have H':=amk H
     clear H
     go_wp2
     go_meet
     case rel=>exact ⟨_,(decide (x5_1 < 90)),(by first|rfl|(simp;done)|(simp [*];done)),H',⟨by have:=HK1.out;first|omega|exact Nat.le_refl _⟩,⟨by (with_reducible repeat (first|apply Kd.S_alloc|apply Kd.S_drewN|apply Kd.S_drew));exact HO_3.out⟩,⟨by (with_reducible repeat (first|apply Kd.R_alloc|apply Kd.R_drewN|apply Kd.R_drew));exact HO_4.out⟩,⟨by repeat (first|(with_reducible first|exact HB.out|apply bAl|apply bDN|apply bD1)|exact HB.out)⟩⟩
    ·rw [if_neg c3] at H
     have c3b0 : decide ((wrap64 (x5_1+2)) < (l0.length : Int))=false:=decide_eq_false c3
     clear c3
     (first|rw [c3b0]|(simp only [i64_w,i32_w];rw [c3b0])|skip)
     have H':=amk H
     clear H
     go_wp2
     go_meet
     case rel=>exact ⟨_,(false),(by first|rfl|(simp;done)|(simp [*];done)),H',⟨by have:=HK1.out;first|omega|exact Nat.le_refl _⟩,⟨by (with_reducible repeat (first|apply Kd.S_alloc|apply Kd.S_drewN|apply Kd.S_drew));exact HO_3.out⟩,⟨by (with_reducible repeat (first|apply Kd.R_alloc|apply Kd.R_drewN|apply Kd.R_drew));exact HO_4.out⟩,⟨by repeat (first|(with_reducible first|exact HB.out|apply bAl|apply bDN|apply bD1)|exact HB.out)⟩⟩
   case rest =>
    clear HC2
    try clear p2
    try clear c3
    try clear c3b0
    obtain ⟨kq,x15_1,rfl,HA,HJ1,HO_3,HO_4,HB⟩:=hcut
    cases kq with
    | zero=>exact absurd HA.out (by simp [versalhand_Contours.j1])
    | succ kj1 =>
     have H:=HA.out
     clear HA
     simp only [versalhand_Contours.j1] at H
     by_cases c4 : x15_1=true
     ·subst c4
      have H1 : (if 0≤(wrap64 (x5_1+2)) then (if (wrap64 (x5_1+2)) < (l0.length : Int) then ((versalhand_Pick.f (rd l0 (wrap64 (x5_1+2))) 12).bind fun t297=>(if 0≤x5_1 then (if x5_1 < (l0.length : Int) then ((versalhand_Pick.f (rd l0 x5_1) 1201).bind fun t299=>(if 0≤(wrap64 (x5_1+1)) then (if (wrap64 (x5_1+1)) < (l0.length : Int) then ((versalhand_Pick.f (rd l0 (wrap64 (x5_1+1))) 1201).bind fun t301=>(if x4_1.length < 5864062014805 then ((some (x4_1 ++ [(⟨wrap64 (t299 - 100),wrap64 (t301 - 300),decide (t297 > 3)⟩ : S36)] : List (S36))).bind fun y302=>(if t297=11 then (if x3_1.length < 5864062014805 then (versalhand_Contours.l0 kj1 l0 (x3_1 ++ [y302]) ([] : List (S36)) (wrap64 (x5_1+3))) else (none)) else (if t297=0 then (if x3_1.length < 5864062014805 then (versalhand_Contours.l0 kj1 l0 (x3_1 ++ [y302]) ([] : List (S36)) (wrap64 (x5_1+3))) else (none)) else (versalhand_Contours.l0 kj1 l0 x3_1 y302 (wrap64 (x5_1+3)))))) else (none))) else (none)) else (none))) else (none)) else (none))) else (none)) else (none))=some r:=by rw [if_pos rfl] at H;exact H
      clear H
      have H:=H1
      clear H1
      obtain ⟨ji5,hji5⟩ : ∃ j_ : Int,(wrap64 (x5_1+2))=j_:=⟨_,rfl⟩
      replace H : (if 0≤(ji5) then (if (ji5) < (l0.length : Int) then ((versalhand_Pick.f (rd l0 (ji5)) 12).bind fun t297=>(if 0≤x5_1 then (if x5_1 < (l0.length : Int) then ((versalhand_Pick.f (rd l0 x5_1) 1201).bind fun t299=>(if 0≤(wrap64 (x5_1+1)) then (if (wrap64 (x5_1+1)) < (l0.length : Int) then ((versalhand_Pick.f (rd l0 (wrap64 (x5_1+1))) 1201).bind fun t301=>(if x4_1.length < 5864062014805 then ((some (x4_1 ++ [(⟨wrap64 (t299 - 100),wrap64 (t301 - 300),decide (t297 > 3)⟩ : S36)] : List (S36))).bind fun y302=>(if t297=11 then (if x3_1.length < 5864062014805 then (versalhand_Contours.l0 kj1 l0 (x3_1 ++ [y302]) ([] : List (S36)) (wrap64 (x5_1+3))) else (none)) else (if t297=0 then (if x3_1.length < 5864062014805 then (versalhand_Contours.l0 kj1 l0 (x3_1 ++ [y302]) ([] : List (S36)) (wrap64 (x5_1+3))) else (none)) else (versalhand_Contours.l0 kj1 l0 x3_1 y302 (wrap64 (x5_1+3)))))) else (none))) else (none)) else (none))) else (none)) else (none))) else (none)) else (none))=some r:=by first|(rw [hji5] at H;exact H)|(simp only [hji5] at H ⊢;exact H)
      have hji5w : (IntKind.i64.wrap (x5_1+2))=ji5:=(i64_w _).trans hji5
      by_cases c6 : 0≤(ji5)
      ·rw [if_pos c6] at H
       have c6b0 : decide (0≤(ji5))=true:=decide_eq_true c6
       clear c6
       by_cases c7 : (ji5) < (l0.length : Int)
       ·rw [if_pos c7] at H
        have c7b0 : decide ((ji5) < (l0.length : Int))=true:=decide_eq_true c7
        clear c7
        replace H:=Option.bind_eq_some_iff.mp H
        obtain ⟨t297,A80,H⟩:=H
        replace H : (if 0≤x5_1 then (if x5_1 < (l0.length : Int) then ((versalhand_Pick.f (rd l0 x5_1) 1201).bind fun t299=>(if 0≤(wrap64 (x5_1+1)) then (if (wrap64 (x5_1+1)) < (l0.length : Int) then ((versalhand_Pick.f (rd l0 (wrap64 (x5_1+1))) 1201).bind fun t301=>(if x4_1.length < 5864062014805 then ((some (x4_1 ++ [(⟨wrap64 (t299 - 100),wrap64 (t301 - 300),decide (t297 > 3)⟩ : S36)] : List (S36))).bind fun y302=>(if t297=11 then (if x3_1.length < 5864062014805 then (versalhand_Contours.l0 kj1 l0 (x3_1 ++ [y302]) ([] : List (S36)) (wrap64 (x5_1+3))) else (none)) else (if t297=0 then (if x3_1.length < 5864062014805 then (versalhand_Contours.l0 kj1 l0 (x3_1 ++ [y302]) ([] : List (S36)) (wrap64 (x5_1+3))) else (none)) else (versalhand_Contours.l0 kj1 l0 x3_1 y302 (wrap64 (x5_1+3)))))) else (none))) else (none)) else (none))) else (none)) else (none))=some r:=H
        have A8:=amk A80
        clear A80
        by_cases c9 : 0≤x5_1
        ·rw [if_pos c9] at H
         have c9b0 : decide (0≤x5_1)=true:=decide_eq_true c9
         clear c9
         by_cases c10 : x5_1 < (l0.length : Int)
         ·rw [if_pos c10] at H
          have c10b0 : decide (x5_1 < (l0.length : Int))=true:=decide_eq_true c10
          clear c10
          replace H:=Option.bind_eq_some_iff.mp H
          obtain ⟨t299,A110,H⟩:=H
          replace H : (if 0≤(wrap64 (x5_1+1)) then (if (wrap64 (x5_1+1)) < (l0.length : Int) then ((versalhand_Pick.f (rd l0 (wrap64 (x5_1+1))) 1201).bind fun t301=>(if x4_1.length < 5864062014805 then ((some (x4_1 ++ [(⟨wrap64 (t299 - 100),wrap64 (t301 - 300),decide (t297 > 3)⟩ : S36)] : List (S36))).bind fun y302=>(if t297=11 then (if x3_1.length < 5864062014805 then (versalhand_Contours.l0 kj1 l0 (x3_1 ++ [y302]) ([] : List (S36)) (wrap64 (x5_1+3))) else (none)) else (if t297=0 then (if x3_1.length < 5864062014805 then (versalhand_Contours.l0 kj1 l0 (x3_1 ++ [y302]) ([] : List (S36)) (wrap64 (x5_1+3))) else (none)) else (versalhand_Contours.l0 kj1 l0 x3_1 y302 (wrap64 (x5_1+3)))))) else (none))) else (none)) else (none))=some r:=H
          have A11:=amk A110
          clear A110
          obtain ⟨ji12,hji12⟩ : ∃ j_ : Int,(wrap64 (x5_1+1))=j_:=⟨_,rfl⟩
          replace H : (if 0≤(ji12) then (if (ji12) < (l0.length : Int) then ((versalhand_Pick.f (rd l0 (ji12)) 1201).bind fun t301=>(if x4_1.length < 5864062014805 then ((some (x4_1 ++ [(⟨wrap64 (t299 - 100),wrap64 (t301 - 300),decide (t297 > 3)⟩ : S36)] : List (S36))).bind fun y302=>(if t297=11 then (if x3_1.length < 5864062014805 then (versalhand_Contours.l0 kj1 l0 (x3_1 ++ [y302]) ([] : List (S36)) (wrap64 (x5_1+3))) else (none)) else (if t297=0 then (if x3_1.length < 5864062014805 then (versalhand_Contours.l0 kj1 l0 (x3_1 ++ [y302]) ([] : List (S36)) (wrap64 (x5_1+3))) else (none)) else (versalhand_Contours.l0 kj1 l0 x3_1 y302 (wrap64 (x5_1+3)))))) else (none))) else (none)) else (none))=some r:=by first|(rw [hji12] at H;exact H)|(simp only [hji12] at H ⊢;exact H)
          (try rw [hji12] at A8)
          (try rw [hji12] at A11)
          have hji12w : (IntKind.i64.wrap (x5_1+1))=ji12:=(i64_w _).trans hji12
          by_cases c13 : 0≤(ji12)
          ·rw [if_pos c13] at H
           have c13b0 : decide (0≤(ji12))=true:=decide_eq_true c13
           clear c13
           by_cases c14 : (ji12) < (l0.length : Int)
           ·rw [if_pos c14] at H
            have c14b0 : decide ((ji12) < (l0.length : Int))=true:=decide_eq_true c14
            clear c14
            replace H:=Option.bind_eq_some_iff.mp H
            obtain ⟨t301,A150,H⟩:=H
            replace H : (if x4_1.length < 5864062014805 then ((some (x4_1 ++ [(⟨wrap64 (t299 - 100),wrap64 (t301 - 300),decide (t297 > 3)⟩ : S36)] : List (S36))).bind fun y302=>(if t297=11 then (if x3_1.length < 5864062014805 then (versalhand_Contours.l0 kj1 l0 (x3_1 ++ [y302]) ([] : List (S36)) (wrap64 (x5_1+3))) else (none)) else (if t297=0 then (if x3_1.length < 5864062014805 then (versalhand_Contours.l0 kj1 l0 (x3_1 ++ [y302]) ([] : List (S36)) (wrap64 (x5_1+3))) else (none)) else (versalhand_Contours.l0 kj1 l0 x3_1 y302 (wrap64 (x5_1+3)))))) else (none))=some r:=H
            have A15:=amk A150
            clear A150
            by_cases c16 : x4_1.length < 5864062014805
            ·rw [if_pos c16] at H
             have LMc16:=amk c16
             clear c16
             obtain ⟨y302,hy302⟩ : ∃ y_ : List (S36),y_=(x4_1 ++ [(⟨wrap64 (t299 - 100),wrap64 (t301 - 300),decide (t297 > 3)⟩ : S36)]):=⟨_,rfl⟩
             replace H : (if t297=11 then (if x3_1.length < 5864062014805 then (versalhand_Contours.l0 kj1 l0 (x3_1 ++ [y302]) ([] : List (S36)) (wrap64 (x5_1+3))) else (none)) else (if t297=0 then (if x3_1.length < 5864062014805 then (versalhand_Contours.l0 kj1 l0 (x3_1 ++ [y302]) ([] : List (S36)) (wrap64 (x5_1+3))) else (none)) else (versalhand_Contours.l0 kj1 l0 x3_1 y302 (wrap64 (x5_1+3)))))=some r:=by first|(rw [hy302];with_reducible exact H)|(have H2_:=(Option.bind_some _ _).symm.trans H;rw [hy302];with_reducible exact H2_)|(have H2_:=(Option.bind_some _ _).symm.trans H;with_reducible exact H2_)|with_reducible exact H|(rw [hy302];exact H)|exact H
             have Ny302:=amk hy302
             clear hy302
             by_cases c17 : t297=11
             ·rw [if_pos c17] at H
              have c17b0 : (t297 == 11)=true:=beq_iff_eq.mpr c17
              have c17b1 : (t297 != 11)=false:=bne_eq_false_iff_eq.mpr c17
              clear c17
              by_cases c18 : x3_1.length < 5864062014805
              ·rw [if_pos c18] at H
               have LMc18:=amk c18
               clear c18
               obtain ⟨y305,hy305⟩ : ∃ y_ : List (List (S36)),y_=(x3_1 ++ [y302]):=⟨_,rfl⟩
               replace H : (versalhand_Contours.l0 kj1 l0 y305 ([] : List (S36)) (wrap64 (x5_1+3)))=some r:=by first|(rw [hy305];with_reducible exact H)|(have H2_:=(Option.bind_some _ _).symm.trans H;rw [hy305];with_reducible exact H2_)|(have H2_:=(Option.bind_some _ _).symm.trans H;with_reducible exact H2_)|with_reducible exact H|(rw [hy305];exact H)|exact H
               have Ny305:=amk hy305
               clear hy305
               have H':=amk H
               clear H
               have p296 : 0≤((ji5) : Int):=of_decide_eq_true (by first|(with_reducible assumption)|assumption)
               have q296 : (ji5) < (l0.length : Int):=of_decide_eq_true (by first|(with_reducible assumption)|assumption)
               obtain ⟨ad296,e296,hx296_0⟩:=Kd.at_int HR0.out (ji5) p296 q296
               cases e296
               replace hx296_0:=(HB.out.cell (cLt w _ hx296_0)).trans hx296_0
               replace p296:=eq_true p296
               replace q296:=eq_true q296
               try go_wp2_with (first|((with_reducible refine gate_callee (f:=28) rfl ?_);refine goesL_ (some 23) rfl rfl Try.func28 (by kernel_rfl) rfl #[.int .i64 (rd l0 (ji5)),.int .i64 12] rfl (by (try simp only [List.map_toArray,List.map_cons,List.map_nil]);first|done|(simp only [hji5];rfl)|rfl|(simp only [List.length_drop,List.length_take];rfl)) ?_;(with_reducible refine (versalhand_Pick.calls (rd l0 (ji5)) 12 t297 _ A8.out).mono ?_);rintro e w' ⟨rfl,⟨nd,rfl⟩⟩;refine ⟨_,rfl,?_⟩))
               (try (rw [drewN_self wc];generalize hq_ : World.drewN wc _=wc;have n0_ : Aside0 (Kd.S (Kd.slice 36 k36) 30 wc w.heap.size (fun k_=>some k_ ≠ (u4 : Value).ownBlock) u3 x3_1):=⟨by rw [← hq_];exact (by (with_reducible repeat (first|apply Kd.S_alloc|apply Kd.S_drewN|apply Kd.S_drew));exact HO_3.out)⟩;have n1_ : Aside0 (Kd.R k36 36 wc w.heap.size (fun _=>True) u4 x4_1):=⟨by rw [← hq_];exact (by (with_reducible repeat (first|apply Kd.R_alloc|apply Kd.R_drewN|apply Kd.R_drew));exact HO_4.out)⟩;have n2_ : Aside0 (Below w.heap.size w wc):=⟨by rw [← hq_];exact (by repeat (first|(with_reducible first|exact HB.out|apply bAl|apply bDN|apply bD1)|exact HB.out))⟩;clear HO_3 HO_4 HB hq_;have HO_3:=n0_;have HO_4:=n1_;have HB:=n2_;clear n0_ n1_ n2_))
               have n0_:=amk (Kd.S_drew HO_3.out)
               have n1_:=amk (Kd.R_drew HO_4.out)
               have n2_:=amk (bD1 HB.out)
               clear HO_3
               clear HO_4
               clear HB
               have HO_3:=n0_
               have HO_4:=n1_
               have HB:=n2_
               clear n0_ n1_ n2_
               have p298 : 0≤(x5_1 : Int):=of_decide_eq_true (by first|(with_reducible assumption)|assumption)
               have q298 : x5_1 < (l0.length : Int):=of_decide_eq_true (by first|(with_reducible assumption)|assumption)
               obtain ⟨ad298,e298,hx298_0⟩:=Kd.at_int HR0.out x5_1 p298 q298
               have hw298_0:=hx298_0
               obtain rfl : ad296=ad298:=(by injection e298)
               replace hx298_0:=(HB.out.cell (cLt w _ hx298_0)).trans hx298_0
               replace p298:=eq_true p298
               replace q298:=eq_true q298
               have p300 : 0≤((ji12) : Int):=of_decide_eq_true (by first|(with_reducible assumption)|assumption)
               have q300 : (ji12) < (l0.length : Int):=of_decide_eq_true (by first|(with_reducible assumption)|assumption)
               obtain ⟨ad300,e300,hx300_0⟩:=Kd.at_int HR0.out (ji12) p300 q300
               have hw300_0:=hx300_0
               obtain rfl : ad296=ad300:=(by injection e300)
               replace hx300_0:=(HB.out.cell (cLt w _ hx300_0)).trans hx300_0
               replace p300:=eq_true p300
               replace q300:=eq_true q300
               refine start_ (n:=20) (S:=fun w'=>w'.cell? (ad296.add (x5_1).toNat)=some (.int .i64 (rd l0 x5_1))∧w'.cell? (ad296.add ((ji12)).toNat)=some (.int .i64 (rd l0 (ji12)))) (ds:=[]) #[false,false,false,false,false,false,false,false,false,false,false,false,false,false,false,false,false,false,false,false] (by kernel_rfl) rfl rfl ⟨((HB.out.cell (cLt w _ hw298_0)).trans hw298_0),((HB.out.cell (cLt w _ hw300_0)).trans hw300_0)⟩ (fun hHeld=>?_);refine with_tabW versalhand_Contours.tab7 versalhand_Contours.bits7 (fun HT_ HW_=>?_)
               generalize wc.drew=w19 at HO_3 HO_4 HB hx298_0 hx300_0 hHeld ⊢
               refine pure_ (i:=0) (N:=some 24) (v:=?_) (a':=?_) #[true,false,false,false,false,false,false,false,false,false,false,false,false,false,false,false,false,false,false,false] rfl rfl (any_of HT_.out (by kernel_rfl)) (fun _ _ _ h=>h) (Or.inl ⟨by rfl,?_⟩) ?_ ?_
               rotate_left
               ·intro w'
                go_simp
                with_reducible rfl
               rotate_left
               ·simp only [Act.put,sTA,sCZ,sCS,i64_w,i32_w]
                rfl
               refine pure_ (i:=1) (N:=some 25) (v:=?_) (a':=?_) #[true,true,false,false,false,false,false,false,false,false,false,false,false,false,false,false,false,false,false,false] rfl rfl (any_of HT_.out (by kernel_rfl)) (fun _ _ _ h=>h) (Or.inl ⟨by rfl,?_⟩) ?_ ?_
               rotate_left
               ·intro w'
                go_simp
                with_reducible rfl
               rotate_left
               ·simp only [Act.put,sTA,sCZ,sCS,i64_w,i32_w]
                rfl
               refine pure_ (i:=2) (N:=some 26) (v:=?_) (a':=?_) #[true,true,true,false,false,false,false,false,false,false,false,false,false,false,false,false,false,false,false,false] rfl rfl (any_of HT_.out (by kernel_rfl)) (fun _ _ _ h=>h) (Or.inl ⟨by rfl,?_⟩) ?_ ?_
               rotate_left
               ·intro w'
                go_simp
                with_reducible rfl
               rotate_left
               ·simp only [Act.put,sTA,sCZ,sCS,i64_w,i32_w]
                rfl
               refine pure_ (i:=3) (N:=some 27) (v:=?_) (a':=?_) #[true,true,true,true,false,false,false,false,false,false,false,false,false,false,false,false,false,false,false,false] rfl rfl (any_of HT_.out (by kernel_rfl)) (fun _ _ _ h=>h) (Or.inl ⟨by rfl,?_⟩) ?_ ?_
               rotate_left
               ·intro w'
                go_simp
                with_reducible rfl
               rotate_left
               ·simp only [Act.put,sTA,sCZ,sCS,i64_w,i32_w]
                rfl
               refine pure_ (i:=7) (N:=some 31) (v:=?_) (a':=?_) #[true,true,true,true,false,false,false,true,false,false,false,false,false,false,false,false,false,false,false,false] rfl rfl (any_of HT_.out (by kernel_rfl)) (fun _ _ _ h=>h) (Or.inl ⟨by rfl,?_⟩) ?_ ?_
               rotate_left
               ·intro w'
                go_simp
                with_reducible rfl
               rotate_left
               ·simp only [Act.put,sTA,sCZ,sCS,i64_w,i32_w]
                rfl
               refine pure_ (i:=8) (N:=some 32) (v:=?_) (a':=?_) #[true,true,true,true,false,false,false,true,true,false,false,false,false,false,false,false,false,false,false,false] rfl rfl (any_of HT_.out (by kernel_rfl)) (fun _ _ _ h=>h) (Or.inl ⟨by rfl,?_⟩) ?_ ?_
               rotate_left
               ·intro w'
                go_simp
                with_reducible rfl
               rotate_left
               ·simp only [Act.put,sTA,sCZ,sCS,i64_w,i32_w]
                rfl
               refine pure_ (i:=9) (N:=some 33) (v:=?_) (a':=?_) #[true,true,true,true,false,false,false,true,true,true,false,false,false,false,false,false,false,false,false,false] rfl rfl (any_of HT_.out (by kernel_rfl)) (fun _ _ _ h=>h) (Or.inl ⟨by rfl,?_⟩) ?_ ?_
               rotate_left
               ·intro w'
                go_simp
                with_reducible rfl
               rotate_left
               ·simp only [Act.put,sTA,sCZ,sCS,i64_w,i32_w]
                rfl
               refine pure_ (i:=10) (N:=some 34) (v:=?_) (a':=?_) #[true,true,true,true,false,false,false,true,true,true,true,false,false,false,false,false,false,false,false,false] rfl rfl (any_of HT_.out (by kernel_rfl)) (fun _ _ _ h=>h) (Or.inl ⟨by rfl,?_⟩) ?_ ?_
               rotate_left
               ·intro w'
                go_simp
                with_reducible rfl
               rotate_left
               ·simp only [Act.put,sTA,sCZ,sCS,i64_w,i32_w]
                rfl
               refine pure_ (i:=14) (N:=some 38) (v:=?_) (a':=?_) #[true,true,true,true,false,false,false,true,true,true,true,false,false,false,true,false,false,false,false,false] rfl rfl (any_of HT_.out (by kernel_rfl)) (fun _ _ _ h=>h) (Or.inl ⟨by rfl,?_⟩) ?_ ?_
               rotate_left
               ·intro w'
                go_simp
                with_reducible rfl
               rotate_left
               ·simp only [Act.put,sTA,sCZ,sCS,i64_w,i32_w]
                rfl
               refine pure_ (i:=15) (N:=some 39) (v:=?_) (a':=?_) #[true,true,true,true,false,false,false,true,true,true,true,false,false,false,true,true,false,false,false,false] rfl rfl (any_of HT_.out (by kernel_rfl)) (fun _ _ _ h=>h) (Or.inl ⟨by rfl,?_⟩) ?_ ?_
               rotate_left
               ·intro w'
                go_simp
                with_reducible rfl
               rotate_left
               ·simp only [Act.put,sTA,sCZ,sCS,i64_w,i32_w]
                rfl
               refine take_ (i:=4) (N:=some 28) (v:=?_) (a':=?_) #[true,true,true,true,true,false,false,true,true,true,true,false,false,false,true,true,false,false,false,false] rfl rfl (take_ofW HT_.out HW_.out (by kernel_rfl)) (fun _ _ _ h=>h) (Or.inl ⟨by rfl,?_⟩) hHeld ?_ ?_
               rotate_left
               ·rintro w' ⟨s0,s1⟩
                go_simp
                with_reducible rfl
               rotate_left
               ·simp only [Act.put,sTA,sCZ,sCS,i64_w,i32_w]
                rfl
               refine take_ (i:=11) (N:=some 35) (v:=?_) (a':=?_) #[true,true,true,true,true,false,false,true,true,true,true,true,false,false,true,true,false,false,false,false] rfl rfl (take_ofW HT_.out HW_.out (by kernel_rfl)) (fun _ _ _ h=>h) (Or.inl ⟨by rfl,?_⟩) hHeld ?_ ?_
               rotate_left
               ·rintro w' ⟨s0,s1⟩
                go_simp
                with_reducible rfl
               rotate_left
               ·simp only [Act.put,sTA,sCZ,sCS,i64_w,i32_w]
                rfl
               refine one_ (i:=5) (N:=some 29) #[true,true,true,true,true,true,false,true,true,true,true,true,false,false,true,true,false,false,false,false] rfl rfl (one_of HT_.out (by kernel_rfl)) (by decide) (fun K hK=>?_)
               refine goes_ Try.func28 (by kernel_rfl) rfl #[.int .i64 (rd l0 x5_1),.int .i64 1201] (by rfl) rfl rfl (by (try simp only [List.map_toArray,List.map_cons,List.map_nil]);first|done|rfl|(simp only [List.length_drop,List.length_take];rfl)) ?_
               with_reducible refine (versalhand_Pick.calls (rd l0 x5_1) 1201 t299 _ A11.out).mono ?_
               rintro e w' ⟨rfl,⟨nd,rfl⟩⟩
               refine ⟨_,rfl,?_⟩
               refine hK.out _ _ ⟨((HB.out.cell (cLt w _ hw298_0)).trans hw298_0),((HB.out.cell (cLt w _ hw300_0)).trans hw300_0)⟩ (fun hHeld=>?_)
               clear hK K
               refine norm_ (a':=?_) ?_ ?_
               rotate_left
               ·show Act.put _ (some 29) _=_
                simp only [Act.put,sTA,sCZ,sCS,i64_w,i32_w]
                rfl
               refine pure_ (i:=6) (N:=some 30) (v:=?_) (a':=?_) #[true,true,true,true,true,true,true,true,true,true,true,true,false,false,true,true,false,false,false,false] rfl rfl (any_of HT_.out (by kernel_rfl)) (fun _ _ _ h=>h) (Or.inl ⟨by rfl,?_⟩) ?_ ?_
               rotate_left
               ·intro w'
                go_simp
                with_reducible rfl
               rotate_left
               ·simp only [Act.put,sTA,sCZ,sCS,i64_w,i32_w]
                rfl
               refine one_ (i:=12) (N:=some 36) #[true,true,true,true,true,true,true,true,true,true,true,true,true,false,true,true,false,false,false,false] rfl rfl (one_of HT_.out (by kernel_rfl)) (by decide) (fun K hK=>?_)
               refine goes_ Try.func28 (by kernel_rfl) rfl #[.int .i64 (rd l0 (ji12)),.int .i64 1201] (by rfl) rfl rfl (by (try simp only [List.map_toArray,List.map_cons,List.map_nil]);first|done|(simp only [hji12];rfl)|rfl|(simp only [List.length_drop,List.length_take];rfl)) ?_
               with_reducible refine (versalhand_Pick.calls (rd l0 (ji12)) 1201 t301 _ A15.out).mono ?_
               rintro e w' ⟨rfl,⟨nd,rfl⟩⟩
               refine ⟨_,rfl,?_⟩
               refine hK.out _ _ ⟨((HB.out.cell (cLt w _ hw298_0)).trans hw298_0),((HB.out.cell (cLt w _ hw300_0)).trans hw300_0)⟩ (fun hHeld=>?_)
               clear hK K
               refine norm_ (a':=?_) ?_ ?_
               rotate_left
               ·show Act.put _ (some 36) _=_
                simp only [Act.put,sTA,sCZ,sCS,i64_w,i32_w]
                rfl
               refine pure_ (i:=13) (N:=some 37) (v:=?_) (a':=?_) #[true,true,true,true,true,true,true,true,true,true,true,true,true,true,true,true,false,false,false,false] rfl rfl (any_of HT_.out (by kernel_rfl)) (fun _ _ _ h=>h) (Or.inl ⟨by rfl,?_⟩) ?_ ?_
               rotate_left
               ·intro w'
                go_simp
                with_reducible rfl
               rotate_left
               ·simp only [Act.put,sTA,sCZ,sCS,i64_w,i32_w]
                rfl
               refine pure_ (i:=16) (N:=some 40) (v:=?_) (a':=?_) #[true,true,true,true,true,true,true,true,true,true,true,true,true,true,true,true,true,false,false,false] rfl rfl (any_of HT_.out (by kernel_rfl)) (fun _ _ _ h=>h) (Or.inl ⟨by rfl,?_⟩) ?_ ?_
               rotate_left
               ·intro w'
                go_simp
                with_reducible rfl
               rotate_left
               ·simp only [Act.put,sTA,sCZ,sCS,i64_w,i32_w]
                rfl
               refine one_ (i:=17) (N:=some 41) #[true,true,true,true,true,true,true,true,true,true,true,true,true,true,true,true,true,true,false,false] rfl rfl (one_of HT_.out (by kernel_rfl)) (by decide) (fun K hK=>?_)
               refine value_ (w1:=?_) (v:=?_) (by rfl) rfl ?_ ?_
               rotate_left 2
               ·go_simp
                constructor
                ·rfl
                ·rfl
               refine hK.out _ _ ⟨(World.cell?_alloc_lt _ _ _ (cLt _ _ (((HB.out.cell (cLt w _ hw298_0)).trans hw298_0)))).trans (((HB.out.cell (cLt w _ hw298_0)).trans hw298_0)),(World.cell?_alloc_lt _ _ _ (cLt _ _ (((HB.out.cell (cLt w _ hw300_0)).trans hw300_0)))).trans (((HB.out.cell (cLt w _ hw300_0)).trans hw300_0))⟩ (fun hHeld=>?_)
               clear hK K
               refine norm_ (a':=?_) ?_ ?_
               rotate_left
               ·show Act.put _ (some 41) _=_
                simp only [Act.put,sTA,sCZ,sCS,i64_w,i32_w]
                rfl
               refine one_ (i:=18) (N:=some 42) #[true,true,true,true,true,true,true,true,true,true,true,true,true,true,true,true,true,true,true,false] rfl rfl (one_of HT_.out (by kernel_rfl)) (by decide) (fun K hK=>?_)
               refine Kd.R_append_step k36 (w0:=w) w.heap.size (by rfl) (.tmp 24) (.tmp 41) 30 36 (.agg #[(.int .i64 0),(.int .i64 0),(.bool false)]) 24 rfl Try.underlying30 info36 rfl (by decide) (by omega) u4 x4_1 (⟨wrap64 (t299 - 100),wrap64 (t301 - 300),decide (t297 > 3)⟩ : S36) [.int .i64 (wrap64 (t299 - 100)),.int .i64 (wrap64 (t301 - 300)),.bool (decide (t297 > 3))] (fun _=>True) (fun _=>False) rfl rfl ?aP (fun _ hk=>hk.elim) ?aF ?aO ?aB ?aS ?aL ?_
               (case aP=>exact k36_mkM _ _ _ (⟨wrap64 (t299 - 100),wrap64 (t301 - 300),decide (t297 > 3)⟩ : S36))
               (case aB=>exact (by repeat (first|(with_reducible first|exact HB.out|apply bAl|apply bDN|apply bD1)|exact HB.out)))
               (case aF=>exact (fun _ _=>trivial))
               (case aO=>exact (by (with_reducible repeat (first|apply Kd.R_alloc|apply Kd.R_drewN|apply Kd.R_drew));exact HO_4.out))
               (case aS=>exact (below_size (by repeat (first|(with_reducible first|exact HB.out|apply bAl|apply bDN|apply bD1)|exact HB.out))))
               (case aL=>have:=LMc16.out;omega)
               intro v303 w20 ho hb hg hat
               rw [← Ny302.out] at ho
               have n0_:=amk (Kd.S_after (ok:=(fun _=>True)) (by (with_reducible repeat (first|apply Kd.S_alloc|apply Kd.S_drewN|apply Kd.S_drew));exact Kd.S_mono HO_3.out (fun _ hk=>⟨trivial,hk⟩)) hg hat)
               have n1_:=amk (hb)
               have n2_:=amk (ho)
               clear HO_3
               clear HB
               clear HO_4
               have HO_3:=n0_
               have HB:=n1_
               have HO304:=n2_
               clear n0_ n1_ n2_
               clear ho hb hg hat
               refine hK.out _ _ ⟨((HB.out.cell (cLt w _ hw298_0)).trans hw298_0),((HB.out.cell (cLt w _ hw300_0)).trans hw300_0)⟩ (fun hHeld=>?_)
               clear hK K
               refine norm_ (a':=?_) ?_ ?_
               rotate_left
               ·show Act.put _ (some 42) _=_
                simp only [Act.put,sTA,sCZ,sCS,i64_w,i32_w]
                rfl
               refine pure_ (i:=19) (N:=some 4) (v:=?_) (a':=?_) #[true,true,true,true,true,true,true,true,true,true,true,true,true,true,true,true,true,true,true,true] rfl rfl (any_of HT_.out (by kernel_rfl)) (fun _ _ _ h=>h) (Or.inl ⟨by rfl,?_⟩) ?_ ?_
               rotate_left
               ·intro w'
                go_simp
                with_reducible rfl
               rotate_left
               ·simp only [Act.put,sTA,sCZ,sCS,i64_w,i32_w]
                rfl
               refine done_ (done_of HT_.out (by kernel_rfl)) ?_
               obtain ⟨Ao22,co22,eo22⟩:=Kd.R_slice HO304.out
               subst eo22
               try go_wp2_with (first|((with_reducible refine gate_builtin (b:=.append) (xs:=#[.tmp 49,.tmp 51]) rfl ?_);at_builtin;refine Kd.S_append (Kd.slice 36 k36) (w0:=w) w.heap.size rfl (.tmp 49) (.tmp 51) 28 30 (.slice none 0 0) 24 rfl Try.underlying28 info30 rfl (by decide) (by omega) u3 x3_1 y302 [.slice Ao22 y302.length co22] (fun _=>True) (fun k_=>some k_=(.slice Ao22 y302.length co22 : Value).ownBlock) rfl rfl ?aP (fun k_ hk_=>((Kd.R_mono (ok':=fun k_=>((fun _=>True)) k_∧some k_ ≠ (u3 : Value).ownBlock) (Kd.R_apart' (HO304.out) (Kd.S_typed HO_3.out) (by decide)) (fun k_ hk=>⟨trivial,hk.2⟩))).1 k_ hk_.symm) ?aF ?aO ?aB ?aS ?aL ?_;(case aP=>exact Kd.M_row (Kd.R_mono (Kd.R_tight rfl (Kd.R_mono (ok':=fun k_=>((fun _=>True)) k_∧some k_ ≠ (u3 : Value).ownBlock) (Kd.R_apart' (HO304.out) (Kd.S_typed HO_3.out) (by decide)) (fun k_ hk=>⟨trivial,hk.2⟩))) (fun _ h_=>h_)));(case aB=>exact (by repeat (first|(with_reducible first|exact HB.out|apply bAl|apply bDN|apply bD1)|exact HB.out)));(case aF=>exact (fun _ _=>trivial));(case aO=>exact (by (with_reducible repeat (first|apply Kd.S_alloc|apply Kd.S_drewN|apply Kd.S_drew));exact Kd.S_mono HO_3.out (fun k_ hk=>⟨trivial,fun e_=>hk.2 e_⟩)));(case aS=>exact (below_size (by repeat (first|(with_reducible first|exact HB.out|apply bAl|apply bDN|apply bD1)|exact HB.out))));(case aL=>have:=LMc18.out;omega);intro v306 w21 ho hb hg hat;rw [← Ny305.out] at ho;have n0_:=amk (hb);have n1_:=amk (ho);clear HB;clear HO_3;clear HO304;have HB:=n0_;have HO307:=n1_;clear n0_ n1_;clear ho hb hg hat))
               go_roundg kj1
               case measure=>have:=HK1.out;have:=HJ1.out;omega
               case rel=>exact ⟨(y305),(([] : List (S36))),(wrap64 (x5_1+3)),(by first|rfl|(simp;done)|(simp [*];done)),H',⟨by have:=HK1.out;have:=HJ1.out;omega⟩,⟨by (with_reducible repeat (first|apply Kd.S_alloc|apply Kd.S_drewN|apply Kd.S_drew));exact Kd.S_mono HO307.out (fun _ hk=>(by simp [Value.ownBlock]))⟩,⟨by first|exact Kd.R_nil _ _ _ _ _|exact Kd.N_nil _ _ _ _ _|exact Kd.V_nil _ _ _ _ _|exact Kd.Q_nil _ _ _ _ _|exact Kd.S_nil _ _ _ _ _⟩,⟨by repeat (first|(with_reducible first|exact HB.out|apply bAl|apply bDN|apply bD1)|exact HB.out)⟩⟩
              ·rw [if_neg c18] at H
               exact absurd H (by simp)
             ·rw [if_neg c17] at H
              have c17b0 : (t297 == 11)=false:=beq_eq_false_iff_ne.mpr c17
              have c17b1 : (t297 != 11)=true:=bne_iff_ne.mpr c17
              by_cases c23 : t297=0
              ·rw [if_pos c23] at H
               have c23b0 : (t297 == 0)=true:=beq_iff_eq.mpr c23
               have c23b1 : (t297 != 0)=false:=bne_eq_false_iff_eq.mpr c23
               clear c23
               by_cases c24 : x3_1.length < 5864062014805
               ·rw [if_pos c24] at H
                have LMc24:=amk c24
                clear c24
                obtain ⟨y308,hy308⟩ : ∃ y_ : List (List (S36)),y_=(x3_1 ++ [y302]):=⟨_,rfl⟩
                replace H : (versalhand_Contours.l0 kj1 l0 y308 ([] : List (S36)) (wrap64 (x5_1+3)))=some r:=by first|(rw [hy308];with_reducible exact H)|(have H2_:=(Option.bind_some _ _).symm.trans H;rw [hy308];with_reducible exact H2_)|(have H2_:=(Option.bind_some _ _).symm.trans H;with_reducible exact H2_)|with_reducible exact H|(rw [hy308];exact H)|exact H
                have Ny308:=amk hy308
                clear hy308
                have H':=amk H
                clear H
                have p296 : 0≤((ji5) : Int):=of_decide_eq_true (by first|(with_reducible assumption)|assumption)
                have q296 : (ji5) < (l0.length : Int):=of_decide_eq_true (by first|(with_reducible assumption)|assumption)
                obtain ⟨ad296,e296,hx296_0⟩:=Kd.at_int HR0.out (ji5) p296 q296
                cases e296
                replace hx296_0:=(HB.out.cell (cLt w _ hx296_0)).trans hx296_0
                replace p296:=eq_true p296
                replace q296:=eq_true q296
                try go_wp2_with (first|((with_reducible refine gate_callee (f:=28) rfl ?_);refine goesL_ (some 23) rfl rfl Try.func28 (by kernel_rfl) rfl #[.int .i64 (rd l0 (ji5)),.int .i64 12] rfl (by (try simp only [List.map_toArray,List.map_cons,List.map_nil]);first|done|(simp only [hji5];rfl)|rfl|(simp only [List.length_drop,List.length_take];rfl)) ?_;(with_reducible refine (versalhand_Pick.calls (rd l0 (ji5)) 12 t297 _ A8.out).mono ?_);rintro e w' ⟨rfl,⟨nd,rfl⟩⟩;refine ⟨_,rfl,?_⟩))
                (try (rw [drewN_self wc];generalize hq_ : World.drewN wc _=wc;have n0_ : Aside0 (Kd.S (Kd.slice 36 k36) 30 wc w.heap.size (fun k_=>some k_ ≠ (u4 : Value).ownBlock) u3 x3_1):=⟨by rw [← hq_];exact (by (with_reducible repeat (first|apply Kd.S_alloc|apply Kd.S_drewN|apply Kd.S_drew));exact HO_3.out)⟩;have n1_ : Aside0 (Kd.R k36 36 wc w.heap.size (fun _=>True) u4 x4_1):=⟨by rw [← hq_];exact (by (with_reducible repeat (first|apply Kd.R_alloc|apply Kd.R_drewN|apply Kd.R_drew));exact HO_4.out)⟩;have n2_ : Aside0 (Below w.heap.size w wc):=⟨by rw [← hq_];exact (by repeat (first|(with_reducible first|exact HB.out|apply bAl|apply bDN|apply bD1)|exact HB.out))⟩;clear HO_3 HO_4 HB hq_;have HO_3:=n0_;have HO_4:=n1_;have HB:=n2_;clear n0_ n1_ n2_))
                have n0_:=amk (Kd.S_drew HO_3.out)
                have n1_:=amk (Kd.R_drew HO_4.out)
                have n2_:=amk (bD1 HB.out)
                clear HO_3
                clear HO_4
                clear HB
                have HO_3:=n0_
                have HO_4:=n1_
                have HB:=n2_
                clear n0_ n1_ n2_
                have p298 : 0≤(x5_1 : Int):=of_decide_eq_true (by first|(with_reducible assumption)|assumption)
                have q298 : x5_1 < (l0.length : Int):=of_decide_eq_true (by first|(with_reducible assumption)|assumption)
                obtain ⟨ad298,e298,hx298_0⟩:=Kd.at_int HR0.out x5_1 p298 q298
                have hw298_0:=hx298_0
                obtain rfl : ad296=ad298:=(by injection e298)
                replace hx298_0:=(HB.out.cell (cLt w _ hx298_0)).trans hx298_0
                replace p298:=eq_true p298
                replace q298:=eq_true q298
                have p300 : 0≤((ji12) : Int):=of_decide_eq_true (by first|(with_reducible assumption)|assumption)
                have q300 : (ji12) < (l0.length : Int):=of_decide_eq_true (by first|(with_reducible assumption)|assumption)
                obtain ⟨ad300,e300,hx300_0⟩:=Kd.at_int HR0.out (ji12) p300 q300
                have hw300_0:=hx300_0
                obtain rfl : ad296=ad300:=(by injection e300)
                replace hx300_0:=(HB.out.cell (cLt w _ hx300_0)).trans hx300_0
                replace p300:=eq_true p300
                replace q300:=eq_true q300
                refine start_ (n:=20) (S:=fun w'=>w'.cell? (ad296.add (x5_1).toNat)=some (.int .i64 (rd l0 x5_1))∧w'.cell? (ad296.add ((ji12)).toNat)=some (.int .i64 (rd l0 (ji12)))) (ds:=[]) #[false,false,false,false,false,false,false,false,false,false,false,false,false,false,false,false,false,false,false,false] (by kernel_rfl) rfl rfl ⟨((HB.out.cell (cLt w _ hw298_0)).trans hw298_0),((HB.out.cell (cLt w _ hw300_0)).trans hw300_0)⟩ (fun hHeld=>?_);refine with_tabW versalhand_Contours.tab7 versalhand_Contours.bits7 (fun HT_ HW_=>?_)
                generalize wc.drew=w25 at HO_3 HO_4 HB hx298_0 hx300_0 hHeld ⊢
                refine pure_ (i:=0) (N:=some 24) (v:=?_) (a':=?_) #[true,false,false,false,false,false,false,false,false,false,false,false,false,false,false,false,false,false,false,false] rfl rfl (any_of HT_.out (by kernel_rfl)) (fun _ _ _ h=>h) (Or.inl ⟨by rfl,?_⟩) ?_ ?_
                rotate_left
                ·intro w'
                 go_simp
                 with_reducible rfl
                rotate_left
                ·simp only [Act.put,sTA,sCZ,sCS,i64_w,i32_w]
                 rfl
                refine pure_ (i:=1) (N:=some 25) (v:=?_) (a':=?_) #[true,true,false,false,false,false,false,false,false,false,false,false,false,false,false,false,false,false,false,false] rfl rfl (any_of HT_.out (by kernel_rfl)) (fun _ _ _ h=>h) (Or.inl ⟨by rfl,?_⟩) ?_ ?_
                rotate_left
                ·intro w'
                 go_simp
                 with_reducible rfl
                rotate_left
                ·simp only [Act.put,sTA,sCZ,sCS,i64_w,i32_w]
                 rfl
                refine pure_ (i:=2) (N:=some 26) (v:=?_) (a':=?_) #[true,true,true,false,false,false,false,false,false,false,false,false,false,false,false,false,false,false,false,false] rfl rfl (any_of HT_.out (by kernel_rfl)) (fun _ _ _ h=>h) (Or.inl ⟨by rfl,?_⟩) ?_ ?_
                rotate_left
                ·intro w'
                 go_simp
                 with_reducible rfl
                rotate_left
                ·simp only [Act.put,sTA,sCZ,sCS,i64_w,i32_w]
                 rfl
                refine pure_ (i:=3) (N:=some 27) (v:=?_) (a':=?_) #[true,true,true,true,false,false,false,false,false,false,false,false,false,false,false,false,false,false,false,false] rfl rfl (any_of HT_.out (by kernel_rfl)) (fun _ _ _ h=>h) (Or.inl ⟨by rfl,?_⟩) ?_ ?_
                rotate_left
                ·intro w'
                 go_simp
                 with_reducible rfl
                rotate_left
                ·simp only [Act.put,sTA,sCZ,sCS,i64_w,i32_w]
                 rfl
                refine pure_ (i:=7) (N:=some 31) (v:=?_) (a':=?_) #[true,true,true,true,false,false,false,true,false,false,false,false,false,false,false,false,false,false,false,false] rfl rfl (any_of HT_.out (by kernel_rfl)) (fun _ _ _ h=>h) (Or.inl ⟨by rfl,?_⟩) ?_ ?_
                rotate_left
                ·intro w'
                 go_simp
                 with_reducible rfl
                rotate_left
                ·simp only [Act.put,sTA,sCZ,sCS,i64_w,i32_w]
                 rfl
                refine pure_ (i:=8) (N:=some 32) (v:=?_) (a':=?_) #[true,true,true,true,false,false,false,true,true,false,false,false,false,false,false,false,false,false,false,false] rfl rfl (any_of HT_.out (by kernel_rfl)) (fun _ _ _ h=>h) (Or.inl ⟨by rfl,?_⟩) ?_ ?_
                rotate_left
                ·intro w'
                 go_simp
                 with_reducible rfl
                rotate_left
                ·simp only [Act.put,sTA,sCZ,sCS,i64_w,i32_w]
                 rfl
                refine pure_ (i:=9) (N:=some 33) (v:=?_) (a':=?_) #[true,true,true,true,false,false,false,true,true,true,false,false,false,false,false,false,false,false,false,false] rfl rfl (any_of HT_.out (by kernel_rfl)) (fun _ _ _ h=>h) (Or.inl ⟨by rfl,?_⟩) ?_ ?_
                rotate_left
                ·intro w'
                 go_simp
                 with_reducible rfl
                rotate_left
                ·simp only [Act.put,sTA,sCZ,sCS,i64_w,i32_w]
                 rfl
                refine pure_ (i:=10) (N:=some 34) (v:=?_) (a':=?_) #[true,true,true,true,false,false,false,true,true,true,true,false,false,false,false,false,false,false,false,false] rfl rfl (any_of HT_.out (by kernel_rfl)) (fun _ _ _ h=>h) (Or.inl ⟨by rfl,?_⟩) ?_ ?_
                rotate_left
                ·intro w'
                 go_simp
                 with_reducible rfl
                rotate_left
                ·simp only [Act.put,sTA,sCZ,sCS,i64_w,i32_w]
                 rfl
                refine pure_ (i:=14) (N:=some 38) (v:=?_) (a':=?_) #[true,true,true,true,false,false,false,true,true,true,true,false,false,false,true,false,false,false,false,false] rfl rfl (any_of HT_.out (by kernel_rfl)) (fun _ _ _ h=>h) (Or.inl ⟨by rfl,?_⟩) ?_ ?_
                rotate_left
                ·intro w'
                 go_simp
                 with_reducible rfl
                rotate_left
                ·simp only [Act.put,sTA,sCZ,sCS,i64_w,i32_w]
                 rfl
                refine pure_ (i:=15) (N:=some 39) (v:=?_) (a':=?_) #[true,true,true,true,false,false,false,true,true,true,true,false,false,false,true,true,false,false,false,false] rfl rfl (any_of HT_.out (by kernel_rfl)) (fun _ _ _ h=>h) (Or.inl ⟨by rfl,?_⟩) ?_ ?_
                rotate_left
                ·intro w'
                 go_simp
                 with_reducible rfl
                rotate_left
                ·simp only [Act.put,sTA,sCZ,sCS,i64_w,i32_w]
                 rfl
                refine take_ (i:=4) (N:=some 28) (v:=?_) (a':=?_) #[true,true,true,true,true,false,false,true,true,true,true,false,false,false,true,true,false,false,false,false] rfl rfl (take_ofW HT_.out HW_.out (by kernel_rfl)) (fun _ _ _ h=>h) (Or.inl ⟨by rfl,?_⟩) hHeld ?_ ?_
                rotate_left
                ·rintro w' ⟨s0,s1⟩
                 go_simp
                 with_reducible rfl
                rotate_left
                ·simp only [Act.put,sTA,sCZ,sCS,i64_w,i32_w]
                 rfl
                refine take_ (i:=11) (N:=some 35) (v:=?_) (a':=?_) #[true,true,true,true,true,false,false,true,true,true,true,true,false,false,true,true,false,false,false,false] rfl rfl (take_ofW HT_.out HW_.out (by kernel_rfl)) (fun _ _ _ h=>h) (Or.inl ⟨by rfl,?_⟩) hHeld ?_ ?_
                rotate_left
                ·rintro w' ⟨s0,s1⟩
                 go_simp
                 with_reducible rfl
                rotate_left
                ·simp only [Act.put,sTA,sCZ,sCS,i64_w,i32_w]
                 rfl
                refine one_ (i:=5) (N:=some 29) #[true,true,true,true,true,true,false,true,true,true,true,true,false,false,true,true,false,false,false,false] rfl rfl (one_of HT_.out (by kernel_rfl)) (by decide) (fun K hK=>?_)
                refine goes_ Try.func28 (by kernel_rfl) rfl #[.int .i64 (rd l0 x5_1),.int .i64 1201] (by rfl) rfl rfl (by (try simp only [List.map_toArray,List.map_cons,List.map_nil]);first|done|rfl|(simp only [List.length_drop,List.length_take];rfl)) ?_
                with_reducible refine (versalhand_Pick.calls (rd l0 x5_1) 1201 t299 _ A11.out).mono ?_
                rintro e w' ⟨rfl,⟨nd,rfl⟩⟩
                refine ⟨_,rfl,?_⟩
                refine hK.out _ _ ⟨((HB.out.cell (cLt w _ hw298_0)).trans hw298_0),((HB.out.cell (cLt w _ hw300_0)).trans hw300_0)⟩ (fun hHeld=>?_)
                clear hK K
                refine norm_ (a':=?_) ?_ ?_
                rotate_left
                ·show Act.put _ (some 29) _=_
                 simp only [Act.put,sTA,sCZ,sCS,i64_w,i32_w]
                 rfl
                refine pure_ (i:=6) (N:=some 30) (v:=?_) (a':=?_) #[true,true,true,true,true,true,true,true,true,true,true,true,false,false,true,true,false,false,false,false] rfl rfl (any_of HT_.out (by kernel_rfl)) (fun _ _ _ h=>h) (Or.inl ⟨by rfl,?_⟩) ?_ ?_
                rotate_left
                ·intro w'
                 go_simp
                 with_reducible rfl
                rotate_left
                ·simp only [Act.put,sTA,sCZ,sCS,i64_w,i32_w]
                 rfl
                refine one_ (i:=12) (N:=some 36) #[true,true,true,true,true,true,true,true,true,true,true,true,true,false,true,true,false,false,false,false] rfl rfl (one_of HT_.out (by kernel_rfl)) (by decide) (fun K hK=>?_)
                refine goes_ Try.func28 (by kernel_rfl) rfl #[.int .i64 (rd l0 (ji12)),.int .i64 1201] (by rfl) rfl rfl (by (try simp only [List.map_toArray,List.map_cons,List.map_nil]);first|done|(simp only [hji12];rfl)|rfl|(simp only [List.length_drop,List.length_take];rfl)) ?_
                with_reducible refine (versalhand_Pick.calls (rd l0 (ji12)) 1201 t301 _ A15.out).mono ?_
                rintro e w' ⟨rfl,⟨nd,rfl⟩⟩
                refine ⟨_,rfl,?_⟩
                refine hK.out _ _ ⟨((HB.out.cell (cLt w _ hw298_0)).trans hw298_0),((HB.out.cell (cLt w _ hw300_0)).trans hw300_0)⟩ (fun hHeld=>?_)
                clear hK K
                refine norm_ (a':=?_) ?_ ?_
                rotate_left
                ·show Act.put _ (some 36) _=_
                 simp only [Act.put,sTA,sCZ,sCS,i64_w,i32_w]
                 rfl
                refine pure_ (i:=13) (N:=some 37) (v:=?_) (a':=?_) #[true,true,true,true,true,true,true,true,true,true,true,true,true,true,true,true,false,false,false,false] rfl rfl (any_of HT_.out (by kernel_rfl)) (fun _ _ _ h=>h) (Or.inl ⟨by rfl,?_⟩) ?_ ?_
                rotate_left
                ·intro w'
                 go_simp
                 with_reducible rfl
                rotate_left
                ·simp only [Act.put,sTA,sCZ,sCS,i64_w,i32_w]
                 rfl
                refine pure_ (i:=16) (N:=some 40) (v:=?_) (a':=?_) #[true,true,true,true,true,true,true,true,true,true,true,true,true,true,true,true,true,false,false,false] rfl rfl (any_of HT_.out (by kernel_rfl)) (fun _ _ _ h=>h) (Or.inl ⟨by rfl,?_⟩) ?_ ?_
                rotate_left
                ·intro w'
                 go_simp
                 with_reducible rfl
                rotate_left
                ·simp only [Act.put,sTA,sCZ,sCS,i64_w,i32_w]
                 rfl
                refine one_ (i:=17) (N:=some 41) #[true,true,true,true,true,true,true,true,true,true,true,true,true,true,true,true,true,true,false,false] rfl rfl (one_of HT_.out (by kernel_rfl)) (by decide) (fun K hK=>?_)
                refine value_ (w1:=?_) (v:=?_) (by rfl) rfl ?_ ?_
                rotate_left 2
                ·go_simp
                 constructor
                 ·rfl
                 ·rfl
                refine hK.out _ _ ⟨(World.cell?_alloc_lt _ _ _ (cLt _ _ (((HB.out.cell (cLt w _ hw298_0)).trans hw298_0)))).trans (((HB.out.cell (cLt w _ hw298_0)).trans hw298_0)),(World.cell?_alloc_lt _ _ _ (cLt _ _ (((HB.out.cell (cLt w _ hw300_0)).trans hw300_0)))).trans (((HB.out.cell (cLt w _ hw300_0)).trans hw300_0))⟩ (fun hHeld=>?_)
                clear hK K
                refine norm_ (a':=?_) ?_ ?_
                rotate_left
                ·show Act.put _ (some 41) _=_
                 simp only [Act.put,sTA,sCZ,sCS,i64_w,i32_w]
                 rfl
                refine one_ (i:=18) (N:=some 42) #[true,true,true,true,true,true,true,true,true,true,true,true,true,true,true,true,true,true,true,false] rfl rfl (one_of HT_.out (by kernel_rfl)) (by decide) (fun K hK=>?_)
                refine Kd.R_append_step k36 (w0:=w) w.heap.size (by rfl) (.tmp 24) (.tmp 41) 30 36 (.agg #[(.int .i64 0),(.int .i64 0),(.bool false)]) 24 rfl Try.underlying30 info36 rfl (by decide) (by omega) u4 x4_1 (⟨wrap64 (t299 - 100),wrap64 (t301 - 300),decide (t297 > 3)⟩ : S36) [.int .i64 (wrap64 (t299 - 100)),.int .i64 (wrap64 (t301 - 300)),.bool (decide (t297 > 3))] (fun _=>True) (fun _=>False) rfl rfl ?aP (fun _ hk=>hk.elim) ?aF ?aO ?aB ?aS ?aL ?_
                (case aP=>exact k36_mkM _ _ _ (⟨wrap64 (t299 - 100),wrap64 (t301 - 300),decide (t297 > 3)⟩ : S36))
                (case aB=>exact (by repeat (first|(with_reducible first|exact HB.out|apply bAl|apply bDN|apply bD1)|exact HB.out)))
                (case aF=>exact (fun _ _=>trivial))
                (case aO=>exact (by (with_reducible repeat (first|apply Kd.R_alloc|apply Kd.R_drewN|apply Kd.R_drew));exact HO_4.out))
                (case aS=>exact (below_size (by repeat (first|(with_reducible first|exact HB.out|apply bAl|apply bDN|apply bD1)|exact HB.out))))
                (case aL=>have:=LMc16.out;omega)
                intro v303 w26 ho hb hg hat
                rw [← Ny302.out] at ho
                have n0_:=amk (Kd.S_after (ok:=(fun _=>True)) (by (with_reducible repeat (first|apply Kd.S_alloc|apply Kd.S_drewN|apply Kd.S_drew));exact Kd.S_mono HO_3.out (fun _ hk=>⟨trivial,hk⟩)) hg hat)
                have n1_:=amk (hb)
                have n2_:=amk (ho)
                clear HO_3
                clear HB
                clear HO_4
                have HO_3:=n0_
                have HB:=n1_
                have HO304:=n2_
                clear n0_ n1_ n2_
                clear ho hb hg hat
                refine hK.out _ _ ⟨((HB.out.cell (cLt w _ hw298_0)).trans hw298_0),((HB.out.cell (cLt w _ hw300_0)).trans hw300_0)⟩ (fun hHeld=>?_)
                clear hK K
                refine norm_ (a':=?_) ?_ ?_
                rotate_left
                ·show Act.put _ (some 42) _=_
                 simp only [Act.put,sTA,sCZ,sCS,i64_w,i32_w]
                 rfl
                refine pure_ (i:=19) (N:=some 4) (v:=?_) (a':=?_) #[true,true,true,true,true,true,true,true,true,true,true,true,true,true,true,true,true,true,true,true] rfl rfl (any_of HT_.out (by kernel_rfl)) (fun _ _ _ h=>h) (Or.inl ⟨by rfl,?_⟩) ?_ ?_
                rotate_left
                ·intro w'
                 go_simp
                 with_reducible rfl
                rotate_left
                ·simp only [Act.put,sTA,sCZ,sCS,i64_w,i32_w]
                 rfl
                refine done_ (done_of HT_.out (by kernel_rfl)) ?_
                obtain ⟨Ao28,co28,eo28⟩:=Kd.R_slice HO304.out
                subst eo28
                try go_wp2_with (first|((with_reducible refine gate_builtin (b:=.append) (xs:=#[.tmp 49,.tmp 51]) rfl ?_);at_builtin;refine Kd.S_append (Kd.slice 36 k36) (w0:=w) w.heap.size rfl (.tmp 49) (.tmp 51) 28 30 (.slice none 0 0) 24 rfl Try.underlying28 info30 rfl (by decide) (by omega) u3 x3_1 y302 [.slice Ao28 y302.length co28] (fun _=>True) (fun k_=>some k_=(.slice Ao28 y302.length co28 : Value).ownBlock) rfl rfl ?aP (fun k_ hk_=>((Kd.R_mono (ok':=fun k_=>((fun _=>True)) k_∧some k_ ≠ (u3 : Value).ownBlock) (Kd.R_apart' (HO304.out) (Kd.S_typed HO_3.out) (by decide)) (fun k_ hk=>⟨trivial,hk.2⟩))).1 k_ hk_.symm) ?aF ?aO ?aB ?aS ?aL ?_;(case aP=>exact Kd.M_row (Kd.R_mono (Kd.R_tight rfl (Kd.R_mono (ok':=fun k_=>((fun _=>True)) k_∧some k_ ≠ (u3 : Value).ownBlock) (Kd.R_apart' (HO304.out) (Kd.S_typed HO_3.out) (by decide)) (fun k_ hk=>⟨trivial,hk.2⟩))) (fun _ h_=>h_)));(case aB=>exact (by repeat (first|(with_reducible first|exact HB.out|apply bAl|apply bDN|apply bD1)|exact HB.out)));(case aF=>exact (fun _ _=>trivial));(case aO=>exact (by (with_reducible repeat (first|apply Kd.S_alloc|apply Kd.S_drewN|apply Kd.S_drew));exact Kd.S_mono HO_3.out (fun k_ hk=>⟨trivial,fun e_=>hk.2 e_⟩)));(case aS=>exact (below_size (by repeat (first|(with_reducible first|exact HB.out|apply bAl|apply bDN|apply bD1)|exact HB.out))));(case aL=>have:=LMc24.out;omega);intro v309 w27 ho hb hg hat;rw [← Ny308.out] at ho;have n0_:=amk (hb);have n1_:=amk (ho);clear HB;clear HO_3;clear HO304;have HB:=n0_;have HO310:=n1_;clear n0_ n1_;clear ho hb hg hat))
                go_roundg kj1
                case measure=>have:=HK1.out;have:=HJ1.out;omega
                case rel=>exact ⟨(y308),(([] : List (S36))),(wrap64 (x5_1+3)),(by first|rfl|(simp;done)|(simp [*];done)),H',⟨by have:=HK1.out;have:=HJ1.out;omega⟩,⟨by (with_reducible repeat (first|apply Kd.S_alloc|apply Kd.S_drewN|apply Kd.S_drew));exact Kd.S_mono HO310.out (fun _ hk=>(by simp [Value.ownBlock]))⟩,⟨by first|exact Kd.R_nil _ _ _ _ _|exact Kd.N_nil _ _ _ _ _|exact Kd.V_nil _ _ _ _ _|exact Kd.Q_nil _ _ _ _ _|exact Kd.S_nil _ _ _ _ _⟩,⟨by repeat (first|(with_reducible first|exact HB.out|apply bAl|apply bDN|apply bD1)|exact HB.out)⟩⟩
               ·rw [if_neg c24] at H
                exact absurd H (by simp)
              ·rw [if_neg c23] at H
               have c23b0 : (t297 == 0)=false:=beq_eq_false_iff_ne.mpr c23
               have c23b1 : (t297 != 0)=true:=bne_iff_ne.mpr c23
               have H':=amk H
               clear H
               have p296 : 0≤((ji5) : Int):=of_decide_eq_true (by first|(with_reducible assumption)|assumption)
               have q296 : (ji5) < (l0.length : Int):=of_decide_eq_true (by first|(with_reducible assumption)|assumption)
               obtain ⟨ad296,e296,hx296_0⟩:=Kd.at_int HR0.out (ji5) p296 q296
               cases e296
               replace hx296_0:=(HB.out.cell (cLt w _ hx296_0)).trans hx296_0
               replace p296:=eq_true p296
               replace q296:=eq_true q296
               try go_wp2_with (first|((with_reducible refine gate_callee (f:=28) rfl ?_);refine goesL_ (some 23) rfl rfl Try.func28 (by kernel_rfl) rfl #[.int .i64 (rd l0 (ji5)),.int .i64 12] rfl (by (try simp only [List.map_toArray,List.map_cons,List.map_nil]);first|done|(simp only [hji5];rfl)|rfl|(simp only [List.length_drop,List.length_take];rfl)) ?_;(with_reducible refine (versalhand_Pick.calls (rd l0 (ji5)) 12 t297 _ A8.out).mono ?_);rintro e w' ⟨rfl,⟨nd,rfl⟩⟩;refine ⟨_,rfl,?_⟩))
               (try (rw [drewN_self wc];generalize hq_ : World.drewN wc _=wc;have n0_ : Aside0 (Kd.S (Kd.slice 36 k36) 30 wc w.heap.size (fun k_=>some k_ ≠ (u4 : Value).ownBlock) u3 x3_1):=⟨by rw [← hq_];exact (by (with_reducible repeat (first|apply Kd.S_alloc|apply Kd.S_drewN|apply Kd.S_drew));exact HO_3.out)⟩;have n1_ : Aside0 (Kd.R k36 36 wc w.heap.size (fun _=>True) u4 x4_1):=⟨by rw [← hq_];exact (by (with_reducible repeat (first|apply Kd.R_alloc|apply Kd.R_drewN|apply Kd.R_drew));exact HO_4.out)⟩;have n2_ : Aside0 (Below w.heap.size w wc):=⟨by rw [← hq_];exact (by repeat (first|(with_reducible first|exact HB.out|apply bAl|apply bDN|apply bD1)|exact HB.out))⟩;clear HO_3 HO_4 HB hq_;have HO_3:=n0_;have HO_4:=n1_;have HB:=n2_;clear n0_ n1_ n2_))
               have n0_:=amk (Kd.S_drew HO_3.out)
               have n1_:=amk (Kd.R_drew HO_4.out)
               have n2_:=amk (bD1 HB.out)
               clear HO_3
               clear HO_4
               clear HB
               have HO_3:=n0_
               have HO_4:=n1_
               have HB:=n2_
               clear n0_ n1_ n2_
               have p298 : 0≤(x5_1 : Int):=of_decide_eq_true (by first|(with_reducible assumption)|assumption)
               have q298 : x5_1 < (l0.length : Int):=of_decide_eq_true (by first|(with_reducible assumption)|assumption)
               obtain ⟨ad298,e298,hx298_0⟩:=Kd.at_int HR0.out x5_1 p298 q298
               have hw298_0:=hx298_0
               obtain rfl : ad296=ad298:=(by injection e298)
               replace hx298_0:=(HB.out.cell (cLt w _ hx298_0)).trans hx298_0
               replace p298:=eq_true p298
               replace q298:=eq_true q298
               have p300 : 0≤((ji12) : Int):=of_decide_eq_true (by first|(with_reducible assumption)|assumption)
               have q300 : (ji12) < (l0.length : Int):=of_decide_eq_true (by first|(with_reducible assumption)|assumption)
               obtain ⟨ad300,e300,hx300_0⟩:=Kd.at_int HR0.out (ji12) p300 q300
               have hw300_0:=hx300_0
               obtain rfl : ad296=ad300:=(by injection e300)
               replace hx300_0:=(HB.out.cell (cLt w _ hx300_0)).trans hx300_0
               replace p300:=eq_true p300
               replace q300:=eq_true q300
               refine start_ (n:=20) (S:=fun w'=>w'.cell? (ad296.add (x5_1).toNat)=some (.int .i64 (rd l0 x5_1))∧w'.cell? (ad296.add ((ji12)).toNat)=some (.int .i64 (rd l0 (ji12)))) (ds:=[]) #[false,false,false,false,false,false,false,false,false,false,false,false,false,false,false,false,false,false,false,false] (by kernel_rfl) rfl rfl ⟨((HB.out.cell (cLt w _ hw298_0)).trans hw298_0),((HB.out.cell (cLt w _ hw300_0)).trans hw300_0)⟩ (fun hHeld=>?_);refine with_tabW versalhand_Contours.tab7 versalhand_Contours.bits7 (fun HT_ HW_=>?_)
               generalize wc.drew=w29 at HO_3 HO_4 HB hx298_0 hx300_0 hHeld ⊢
               refine pure_ (i:=0) (N:=some 24) (v:=?_) (a':=?_) #[true,false,false,false,false,false,false,false,false,false,false,false,false,false,false,false,false,false,false,false] rfl rfl (any_of HT_.out (by kernel_rfl)) (fun _ _ _ h=>h) (Or.inl ⟨by rfl,?_⟩) ?_ ?_
               rotate_left
               ·intro w'
                go_simp
                with_reducible rfl
               rotate_left
               ·simp only [Act.put,sTA,sCZ,sCS,i64_w,i32_w]
                rfl
               refine pure_ (i:=1) (N:=some 25) (v:=?_) (a':=?_) #[true,true,false,false,false,false,false,false,false,false,false,false,false,false,false,false,false,false,false,false] rfl rfl (any_of HT_.out (by kernel_rfl)) (fun _ _ _ h=>h) (Or.inl ⟨by rfl,?_⟩) ?_ ?_
               rotate_left
               ·intro w'
                go_simp
                with_reducible rfl
               rotate_left
               ·simp only [Act.put,sTA,sCZ,sCS,i64_w,i32_w]
                rfl
               refine pure_ (i:=2) (N:=some 26) (v:=?_) (a':=?_) #[true,true,true,false,false,false,false,false,false,false,false,false,false,false,false,false,false,false,false,false] rfl rfl (any_of HT_.out (by kernel_rfl)) (fun _ _ _ h=>h) (Or.inl ⟨by rfl,?_⟩) ?_ ?_
               rotate_left
               ·intro w'
                go_simp
                with_reducible rfl
               rotate_left
               ·simp only [Act.put,sTA,sCZ,sCS,i64_w,i32_w]
                rfl
               refine pure_ (i:=3) (N:=some 27) (v:=?_) (a':=?_) #[true,true,true,true,false,false,false,false,false,false,false,false,false,false,false,false,false,false,false,false] rfl rfl (any_of HT_.out (by kernel_rfl)) (fun _ _ _ h=>h) (Or.inl ⟨by rfl,?_⟩) ?_ ?_
               rotate_left
               ·intro w'
                go_simp
                with_reducible rfl
               rotate_left
               ·simp only [Act.put,sTA,sCZ,sCS,i64_w,i32_w]
                rfl
               refine pure_ (i:=7) (N:=some 31) (v:=?_) (a':=?_) #[true,true,true,true,false,false,false,true,false,false,false,false,false,false,false,false,false,false,false,false] rfl rfl (any_of HT_.out (by kernel_rfl)) (fun _ _ _ h=>h) (Or.inl ⟨by rfl,?_⟩) ?_ ?_
               rotate_left
               ·intro w'
                go_simp
                with_reducible rfl
               rotate_left
               ·simp only [Act.put,sTA,sCZ,sCS,i64_w,i32_w]
                rfl
               refine pure_ (i:=8) (N:=some 32) (v:=?_) (a':=?_) #[true,true,true,true,false,false,false,true,true,false,false,false,false,false,false,false,false,false,false,false] rfl rfl (any_of HT_.out (by kernel_rfl)) (fun _ _ _ h=>h) (Or.inl ⟨by rfl,?_⟩) ?_ ?_
               rotate_left
               ·intro w'
                go_simp
                with_reducible rfl
               rotate_left
               ·simp only [Act.put,sTA,sCZ,sCS,i64_w,i32_w]
                rfl
               refine pure_ (i:=9) (N:=some 33) (v:=?_) (a':=?_) #[true,true,true,true,false,false,false,true,true,true,false,false,false,false,false,false,false,false,false,false] rfl rfl (any_of HT_.out (by kernel_rfl)) (fun _ _ _ h=>h) (Or.inl ⟨by rfl,?_⟩) ?_ ?_
               rotate_left
               ·intro w'
                go_simp
                with_reducible rfl
               rotate_left
               ·simp only [Act.put,sTA,sCZ,sCS,i64_w,i32_w]
                rfl
               refine pure_ (i:=10) (N:=some 34) (v:=?_) (a':=?_) #[true,true,true,true,false,false,false,true,true,true,true,false,false,false,false,false,false,false,false,false] rfl rfl (any_of HT_.out (by kernel_rfl)) (fun _ _ _ h=>h) (Or.inl ⟨by rfl,?_⟩) ?_ ?_
               rotate_left
               ·intro w'
                go_simp
                with_reducible rfl
               rotate_left
               ·simp only [Act.put,sTA,sCZ,sCS,i64_w,i32_w]
                rfl
               refine pure_ (i:=14) (N:=some 38) (v:=?_) (a':=?_) #[true,true,true,true,false,false,false,true,true,true,true,false,false,false,true,false,false,false,false,false] rfl rfl (any_of HT_.out (by kernel_rfl)) (fun _ _ _ h=>h) (Or.inl ⟨by rfl,?_⟩) ?_ ?_
               rotate_left
               ·intro w'
                go_simp
                with_reducible rfl
               rotate_left
               ·simp only [Act.put,sTA,sCZ,sCS,i64_w,i32_w]
                rfl
               refine pure_ (i:=15) (N:=some 39) (v:=?_) (a':=?_) #[true,true,true,true,false,false,false,true,true,true,true,false,false,false,true,true,false,false,false,false] rfl rfl (any_of HT_.out (by kernel_rfl)) (fun _ _ _ h=>h) (Or.inl ⟨by rfl,?_⟩) ?_ ?_
               rotate_left
               ·intro w'
                go_simp
                with_reducible rfl
               rotate_left
               ·simp only [Act.put,sTA,sCZ,sCS,i64_w,i32_w]
                rfl
               refine take_ (i:=4) (N:=some 28) (v:=?_) (a':=?_) #[true,true,true,true,true,false,false,true,true,true,true,false,false,false,true,true,false,false,false,false] rfl rfl (take_ofW HT_.out HW_.out (by kernel_rfl)) (fun _ _ _ h=>h) (Or.inl ⟨by rfl,?_⟩) hHeld ?_ ?_
               rotate_left
               ·rintro w' ⟨s0,s1⟩
                go_simp
                with_reducible rfl
               rotate_left
               ·simp only [Act.put,sTA,sCZ,sCS,i64_w,i32_w]
                rfl
               refine take_ (i:=11) (N:=some 35) (v:=?_) (a':=?_) #[true,true,true,true,true,false,false,true,true,true,true,true,false,false,true,true,false,false,false,false] rfl rfl (take_ofW HT_.out HW_.out (by kernel_rfl)) (fun _ _ _ h=>h) (Or.inl ⟨by rfl,?_⟩) hHeld ?_ ?_
               rotate_left
               ·rintro w' ⟨s0,s1⟩
                go_simp
                with_reducible rfl
               rotate_left
               ·simp only [Act.put,sTA,sCZ,sCS,i64_w,i32_w]
                rfl
               refine one_ (i:=5) (N:=some 29) #[true,true,true,true,true,true,false,true,true,true,true,true,false,false,true,true,false,false,false,false] rfl rfl (one_of HT_.out (by kernel_rfl)) (by decide) (fun K hK=>?_)
               refine goes_ Try.func28 (by kernel_rfl) rfl #[.int .i64 (rd l0 x5_1),.int .i64 1201] (by rfl) rfl rfl (by (try simp only [List.map_toArray,List.map_cons,List.map_nil]);first|done|rfl|(simp only [List.length_drop,List.length_take];rfl)) ?_
               with_reducible refine (versalhand_Pick.calls (rd l0 x5_1) 1201 t299 _ A11.out).mono ?_
               rintro e w' ⟨rfl,⟨nd,rfl⟩⟩
               refine ⟨_,rfl,?_⟩
               refine hK.out _ _ ⟨((HB.out.cell (cLt w _ hw298_0)).trans hw298_0),((HB.out.cell (cLt w _ hw300_0)).trans hw300_0)⟩ (fun hHeld=>?_)
               clear hK K
               refine norm_ (a':=?_) ?_ ?_
               rotate_left
               ·show Act.put _ (some 29) _=_
                simp only [Act.put,sTA,sCZ,sCS,i64_w,i32_w]
                rfl
               refine pure_ (i:=6) (N:=some 30) (v:=?_) (a':=?_) #[true,true,true,true,true,true,true,true,true,true,true,true,false,false,true,true,false,false,false,false] rfl rfl (any_of HT_.out (by kernel_rfl)) (fun _ _ _ h=>h) (Or.inl ⟨by rfl,?_⟩) ?_ ?_
               rotate_left
               ·intro w'
                go_simp
                with_reducible rfl
               rotate_left
               ·simp only [Act.put,sTA,sCZ,sCS,i64_w,i32_w]
                rfl
               refine one_ (i:=12) (N:=some 36) #[true,true,true,true,true,true,true,true,true,true,true,true,true,false,true,true,false,false,false,false] rfl rfl (one_of HT_.out (by kernel_rfl)) (by decide) (fun K hK=>?_)
               refine goes_ Try.func28 (by kernel_rfl) rfl #[.int .i64 (rd l0 (ji12)),.int .i64 1201] (by rfl) rfl rfl (by (try simp only [List.map_toArray,List.map_cons,List.map_nil]);first|done|(simp only [hji12];rfl)|rfl|(simp only [List.length_drop,List.length_take];rfl)) ?_
               with_reducible refine (versalhand_Pick.calls (rd l0 (ji12)) 1201 t301 _ A15.out).mono ?_
               rintro e w' ⟨rfl,⟨nd,rfl⟩⟩
               refine ⟨_,rfl,?_⟩
               refine hK.out _ _ ⟨((HB.out.cell (cLt w _ hw298_0)).trans hw298_0),((HB.out.cell (cLt w _ hw300_0)).trans hw300_0)⟩ (fun hHeld=>?_)
               clear hK K
               refine norm_ (a':=?_) ?_ ?_
               rotate_left
               ·show Act.put _ (some 36) _=_
                simp only [Act.put,sTA,sCZ,sCS,i64_w,i32_w]
                rfl
               refine pure_ (i:=13) (N:=some 37) (v:=?_) (a':=?_) #[true,true,true,true,true,true,true,true,true,true,true,true,true,true,true,true,false,false,false,false] rfl rfl (any_of HT_.out (by kernel_rfl)) (fun _ _ _ h=>h) (Or.inl ⟨by rfl,?_⟩) ?_ ?_
               rotate_left
               ·intro w'
                go_simp
                with_reducible rfl
               rotate_left
               ·simp only [Act.put,sTA,sCZ,sCS,i64_w,i32_w]
                rfl
               refine pure_ (i:=16) (N:=some 40) (v:=?_) (a':=?_) #[true,true,true,true,true,true,true,true,true,true,true,true,true,true,true,true,true,false,false,false] rfl rfl (any_of HT_.out (by kernel_rfl)) (fun _ _ _ h=>h) (Or.inl ⟨by rfl,?_⟩) ?_ ?_
               rotate_left
               ·intro w'
                go_simp
                with_reducible rfl
               rotate_left
               ·simp only [Act.put,sTA,sCZ,sCS,i64_w,i32_w]
                rfl
               refine one_ (i:=17) (N:=some 41) #[true,true,true,true,true,true,true,true,true,true,true,true,true,true,true,true,true,true,false,false] rfl rfl (one_of HT_.out (by kernel_rfl)) (by decide) (fun K hK=>?_)
               refine value_ (w1:=?_) (v:=?_) (by rfl) rfl ?_ ?_
               rotate_left 2
               ·go_simp
                constructor
                ·rfl
                ·rfl
               refine hK.out _ _ ⟨(World.cell?_alloc_lt _ _ _ (cLt _ _ (((HB.out.cell (cLt w _ hw298_0)).trans hw298_0)))).trans (((HB.out.cell (cLt w _ hw298_0)).trans hw298_0)),(World.cell?_alloc_lt _ _ _ (cLt _ _ (((HB.out.cell (cLt w _ hw300_0)).trans hw300_0)))).trans (((HB.out.cell (cLt w _ hw300_0)).trans hw300_0))⟩ (fun hHeld=>?_)
               clear hK K
               refine norm_ (a':=?_) ?_ ?_
               rotate_left
               ·show Act.put _ (some 41) _=_
                simp only [Act.put,sTA,sCZ,sCS,i64_w,i32_w]
                rfl
               refine one_ (i:=18) (N:=some 42) #[true,true,true,true,true,true,true,true,true,true,true,true,true,true,true,true,true,true,true,false] rfl rfl (one_of HT_.out (by kernel_rfl)) (by decide) (fun K hK=>?_)
               refine Kd.R_append_step k36 (w0:=w) w.heap.size (by rfl) (.tmp 24) (.tmp 41) 30 36 (.agg #[(.int .i64 0),(.int .i64 0),(.bool false)]) 24 rfl Try.underlying30 info36 rfl (by decide) (by omega) u4 x4_1 (⟨wrap64 (t299 - 100),wrap64 (t301 - 300),decide (t297 > 3)⟩ : S36) [.int .i64 (wrap64 (t299 - 100)),.int .i64 (wrap64 (t301 - 300)),.bool (decide (t297 > 3))] (fun _=>True) (fun _=>False) rfl rfl ?aP (fun _ hk=>hk.elim) ?aF ?aO ?aB ?aS ?aL ?_
               (case aP=>exact k36_mkM _ _ _ (⟨wrap64 (t299 - 100),wrap64 (t301 - 300),decide (t297 > 3)⟩ : S36))
               (case aB=>exact (by repeat (first|(with_reducible first|exact HB.out|apply bAl|apply bDN|apply bD1)|exact HB.out)))
               (case aF=>exact (fun _ _=>trivial))
               (case aO=>exact (by (with_reducible repeat (first|apply Kd.R_alloc|apply Kd.R_drewN|apply Kd.R_drew));exact HO_4.out))
               (case aS=>exact (below_size (by repeat (first|(with_reducible first|exact HB.out|apply bAl|apply bDN|apply bD1)|exact HB.out))))
               (case aL=>have:=LMc16.out;omega)
               intro v303 w30 ho hb hg hat
               rw [← Ny302.out] at ho
               have n0_:=amk (Kd.S_after (ok:=(fun _=>True)) (by (with_reducible repeat (first|apply Kd.S_alloc|apply Kd.S_drewN|apply Kd.S_drew));exact Kd.S_mono HO_3.out (fun _ hk=>⟨trivial,hk⟩)) hg hat)
               have n1_:=amk (hb)
               have n2_:=amk (ho)
               clear HO_3
               clear HB
               clear HO_4
               have HO_3:=n0_
               have HB:=n1_
               have HO304:=n2_
               clear n0_ n1_ n2_
               clear ho hb hg hat
               refine hK.out _ _ ⟨((HB.out.cell (cLt w _ hw298_0)).trans hw298_0),((HB.out.cell (cLt w _ hw300_0)).trans hw300_0)⟩ (fun hHeld=>?_)
               clear hK K
               refine norm_ (a':=?_) ?_ ?_
               rotate_left
               ·show Act.put _ (some 42) _=_
                simp only [Act.put,sTA,sCZ,sCS,i64_w,i32_w]
                rfl
               refine pure_ (i:=19) (N:=some 4) (v:=?_) (a':=?_) #[true,true,true,true,true,true,true,true,true,true,true,true,true,true,true,true,true,true,true,true] rfl rfl (any_of HT_.out (by kernel_rfl)) (fun _ _ _ h=>h) (Or.inl ⟨by rfl,?_⟩) ?_ ?_
               rotate_left
               ·intro w'
                go_simp
                with_reducible rfl
               rotate_left
               ·simp only [Act.put,sTA,sCZ,sCS,i64_w,i32_w]
                rfl
               refine done_ (done_of HT_.out (by kernel_rfl)) ?_
               try go_wp2
               go_roundg kj1
               case measure=>have:=HK1.out;have:=HJ1.out;omega
               case rel=>exact ⟨(x3_1),(y302),(wrap64 (x5_1+3)),(by first|rfl|(simp;done)|(simp [*];done)),H',⟨by have:=HK1.out;have:=HJ1.out;omega⟩,⟨by (with_reducible repeat (first|apply Kd.S_alloc|apply Kd.S_drewN|apply Kd.S_drew));exact Kd.S_mono HO_3.out (fun _ hk=>hk.2)⟩,⟨by (with_reducible repeat (first|apply Kd.R_alloc|apply Kd.R_drewN|apply Kd.R_drew));exact HO304.out⟩,⟨by repeat (first|(with_reducible first|exact HB.out|apply bAl|apply bDN|apply bD1)|exact HB.out)⟩⟩
            ·rw [if_neg c16] at H
             exact absurd H (by simp)
           ·rw [if_neg c14] at H
            exact absurd H (by simp)
          ·rw [if_neg c13] at H
           exact absurd H (by simp)
         ·rw [if_neg c10] at H
          exact absurd H (by simp)
        ·rw [if_neg c9] at H
         exact absurd H (by simp)
       ·rw [if_neg c7] at H
        exact absurd H (by simp)
      ·rw [if_neg c6] at H
       exact absurd H (by simp)
     ·replace c4:=Bool.eq_false_iff.mpr c4
      subst c4
      have H1 : (if (x4_1.length : Int) > 0 then (if x3_1.length < 5864062014805 then (some (x3_1 ++ [x4_1])) else (none)) else (some x3_1))=some r:=by rw [if_neg (show ¬ (false=true) by decide)] at H;exact H
      clear H
      have H:=H1
      clear H1
      by_cases c31 : (x4_1.length : Int) > 0
      ·rw [if_pos c31] at H
       have c31b0 : decide (0 < (x4_1.length : Int))=true:=decide_eq_true c31
       have c31b1 : decide (0 < x4_1.length)=true:=decide_eq_true (by omega)
       clear c31
       by_cases c32 : x3_1.length < 5864062014805
       ·rw [if_pos c32] at H
        have LMc32:=amk c32
        clear c32
        obtain ⟨y293,hy293⟩ : ∃ y_ : List (List (S36)),y_=(x3_1 ++ [x4_1]):=⟨_,rfl⟩
        replace H : (some y293)=some r:=by first|(rw [hy293];with_reducible exact H)|(have H2_:=(Option.bind_some _ _).symm.trans H;rw [hy293];with_reducible exact H2_)|(have H2_:=(Option.bind_some _ _).symm.trans H;with_reducible exact H2_)|with_reducible exact H|(rw [hy293];exact H)|exact H
        have Ny293:=amk hy293
        clear hy293
        obtain rfl:=Option.some.inj H
        obtain ⟨Ao33,co33,eo33⟩:=Kd.R_slice HO_4.out
        subst eo33
        go_wp2_with (first|((with_reducible refine gate_builtin (b:=.append) (xs:=#[.tmp 56,.tmp 58]) rfl ?_);at_builtin;refine Kd.S_append (Kd.slice 36 k36) (w0:=w) w.heap.size rfl (.tmp 56) (.tmp 58) 28 30 (.slice none 0 0) 24 rfl Try.underlying28 info30 rfl (by decide) (by omega) u3 x3_1 x4_1 [.slice Ao33 x4_1.length co33] (fun _=>True) (fun k_=>some k_=(.slice Ao33 x4_1.length co33 : Value).ownBlock) rfl rfl ?aP (fun k_ hk_=>((Kd.R_mono (ok':=fun k_=>((fun _=>True)) k_∧some k_ ≠ (u3 : Value).ownBlock) (Kd.R_apart' (HO_4.out) (Kd.S_typed HO_3.out) (by decide)) (fun k_ hk=>⟨trivial,hk.2⟩))).1 k_ hk_.symm) ?aF ?aO ?aB ?aS ?aL ?_;(case aP=>exact Kd.M_row (Kd.R_mono (Kd.R_tight rfl (Kd.R_mono (ok':=fun k_=>((fun _=>True)) k_∧some k_ ≠ (u3 : Value).ownBlock) (Kd.R_apart' (HO_4.out) (Kd.S_typed HO_3.out) (by decide)) (fun k_ hk=>⟨trivial,hk.2⟩))) (fun _ h_=>h_)));(case aB=>exact (by repeat (first|(with_reducible first|exact HB.out|apply bAl|apply bDN|apply bD1)|exact HB.out)));(case aF=>exact (fun _ _=>trivial));(case aO=>exact (by (with_reducible repeat (first|apply Kd.S_alloc|apply Kd.S_drewN|apply Kd.S_drew));exact Kd.S_mono HO_3.out (fun k_ hk=>⟨trivial,fun e_=>hk e_⟩)));(case aS=>exact (below_size (by repeat (first|(with_reducible first|exact HB.out|apply bAl|apply bDN|apply bD1)|exact HB.out))));(case aL=>have:=LMc32.out;omega);intro v294 w34 ho hb hg hat;rw [← Ny293.out] at ho;have n0_:=amk (hb);have n1_:=amk (ho);clear HB;clear HO_3;clear HO_4;have HB:=n0_;have HO295:=n1_;clear n0_ n1_;clear ho hb hg hat))
        go_ret
        exact ⟨_,by first|rfl|(simp [errW_none,errW_some] <;> rfl)|(simp [*,errW_none,errW_some] <;> rfl),by (with_reducible repeat (first|apply Kd.S_alloc|apply Kd.S_drewN|apply Kd.S_drew));exact HO295.out,by repeat (first|(with_reducible first|exact HB.out|apply bAl|apply bDN|apply bD1)|exact HB.out)⟩
       ·rw [if_neg c32] at H
        exact absurd H (by simp)
      ·rw [if_neg c31] at H
       have c31b0 : decide (0 < (x4_1.length : Int))=false:=decide_eq_false c31
       have c31b1 : decide (0 < x4_1.length)=false:=decide_eq_false (by omega)
       clear c31
       obtain rfl:=Option.some.inj H
       obtain ⟨Ao35,co35,eo35⟩:=Kd.R_slice HO_4.out
       subst eo35
       go_wp2
       go_ret
       exact ⟨_,by first|rfl|(simp [errW_none,errW_some] <;> rfl)|(simp [*,errW_none,errW_some] <;> rfl),by (with_reducible repeat (first|apply Kd.S_alloc|apply Kd.S_drewN|apply Kd.S_drew));exact Kd.S_mono HO_3.out (fun _ hk=>trivial),by repeat (first|(with_reducible first|exact HB.out|apply bAl|apply bDN|apply bD1)|exact HB.out)⟩

end Go.Proofs.Ytjmflccbddjlhaa.PFm
