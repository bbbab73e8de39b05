-- WRITTEN BY A PROGRAM OF THIS SESSION (wip/xprint) out of the translation. Not trusted: Lean checks it.
import Derived.Test.YtjmflccbddjlhaaPFmx0
import Derived.Test.YtjmflccbddjlhaaPFmx1
import Derived.Test.YtjmflccbddjlhaaPFmx3
import Derived.Test.YtjmflccbddjlhaaPFmx5
import Derived.Test.YtjmflccbddjlhaaPFmx6
namespace Go.Proofs.Ytjmflccbddjlhaa.PFm
open Go.RowKit Go.Proofs.YtjmflccbddjlhaaW.PrintWords Go.Proofs.YtjmflccbddjlhaaW.PrintLast Go.Proofs.YtjmflccbddjlhaaW.PrintMore
attribute [local go_sem] max2_int min2_int max_two min_two max_three min_three max_four min_four   -- for this text's walks alone
set_option linter.unusedVariables false
set_option linter.unusedSimpArgs false

attribute [local go_sem high] eqA34
/-! ### flat_turned: function 32 -/
def flat_turned.l0 : Nat → List (S78) → List (S36) → Int → Int → Int → Int → Int → Int → Int → Int → Option ((List (S78)))
 | 0, _, _, _, _, _, _, _, _, _, _ => none
 | k + 1, x5, x10, x11, x12, x232000, x232001, x232002, x232003, x232004, x232005 => if x12 < x11 then (if 0 ≤ x12 then (if x12 < (x10.length : Int) then ((fixed_Whole.f ((rd_T36 x10 x12).f0)).bind fun t234 => ((fixed_Whole.f ((rd_T36 x10 x12).f1)).bind fun t235 => ((affine_Apply.f x232000 x232001 x232002 x232003 x232004 x232005 t234 t235).bind fun bt236 => (if x5.length < 5864062014805 then (flat_turned.l0 k (x5 ++ [(⟨bt236.1, bt236.2, (rd_T36 x10 x12).f2⟩ : S78)]) x10 x11 (wrap64 (x12 + 1)) x232000 x232001 x232002 x232003 x232004 x232005) else (none))))) else (none)) else (none)) else (some x5)
def flat_turned.f (k : Nat) (l0 : List (S36)) (a1_0 : Int) (a1_1 : Int) (a1_2 : Int) (a1_3 : Int) (a1_4 : Int) (a1_5 : Int) : Option ((List (S78))) := flat_turned.l0 k ([] : List (S78)) l0 (l0.length : Int) 0 a1_0 a1_1 a1_2 a1_3 a1_4 a1_5
theorem flat_turned.mono_l : ∀ k, (∀ y0 y1 y2 y3 y4 y5 y6 y7 y8 y9, LeO (flat_turned.l0 k y0 y1 y2 y3 y4 y5 y6 y7 y8 y9) (flat_turned.l0 (k + 1) y0 y1 y2 y3 y4 y5 y6 y7 y8 y9))
 | 0 => fun _ _ _ _ _ _ _ _ _ _ r h => by simp [flat_turned.l0] at h
 | k + 1 => by
  have ih0 := flat_turned.mono_l k
  ·intro y0 y1 y2 y3 y4 y5 y6 y7 y8 y9
   unfold flat_turned.l0
   repeat' first
   | (with_reducible exact ih0 _ _ _ _ _ _ _ _ _ _)
   | (with_reducible exact LeO.refl _)
   | (with_reducible exact LeO.none _)
   | (with_reducible refine LeO.ite ?_ ?_)
   | (with_reducible refine LeO.bind ?_ (fun _ => ?_))
   | exact ih0 _ _ _ _ _ _ _ _ _ _
   | exact LeO.none _
   | refine LeO.ite ?_ ?_
   | refine LeO.bind ?_ (fun _ => ?_)
theorem flat_turned.mono : ∀ a0 a1 a2 a3 a4 a5 a6 k, LeO (flat_turned.f k a0 a1 a2 a3 a4 a5 a6) (flat_turned.f (k + 1) a0 a1 a2 a3 a4 a5 a6) := by
 intro a0 a1 a2 a3 a4 a5 a6 k
 have ih0 := flat_turned.mono_l k
 unfold flat_turned.f
 repeat' first
   | (with_reducible exact ih0 _ _ _ _ _ _ _ _ _ _)
   | (with_reducible exact LeO.refl _)
   | (with_reducible exact LeO.none _)
   | (with_reducible refine LeO.ite ?_ ?_)
   | (with_reducible refine LeO.bind ?_ (fun _ => ?_))
   | exact ih0 _ _ _ _ _ _ _ _ _ _
   | exact LeO.none _
   | refine LeO.ite ?_ ?_
   | refine LeO.bind ?_ (fun _ => ?_)
def flat_turned.T5 : Bool × List (List Nat × List Nat) := (true, [([], []), ([], []), ([1], [1]), ([2], [2]), ([], []), ([4], [4]), ([5, 3], [5]), ([0, 3, 6, 6], [0, 3, 6]), ([7], [7]), ([8], [8]), ([8], [8]), ([9, 7, 0, 1, 2, 3, 4, 5, 6, 7, 8, 9], [9]), ([10, 11, 0, 1, 2, 3, 4, 5, 6, 7, 8, 9, 10, 11], [10])])
def flat_turned.B5 : List Nat := [0, 0, 2, 6, 0, 16, 62, 127, 255, 511, 511, 1023, 4095]
theorem flat_turned.tab5 : rtab .any (opsOf Try.f32 5) = flat_turned.T5 := by kernel_rfl
theorem flat_turned.bits5 : waitsOk flat_turned.T5.2 flat_turned.B5 = true := by kernel_rfl
set_option maxHeartbeats 8000000 in
set_option maxRecDepth 100000 in
theorem flat_turned.calls (k : Nat) (A0 : Option Addr) (c0 : Nat) (l0 : List (S36)) (a1_0 : Int) (a1_1 : Int) (a1_2 : Int) (a1_3 : Int) (a1_4 : Int) (a1_5 : Int) (r : List (S78)) (w : World) (hr0 : Kd.C k36 w A0 l0.length l0) (hc0 : l0.length ≤ c0) (h : flat_turned.f k l0 a1_0 a1_1 a1_2 a1_3 a1_4 a1_5 = some r) :
  Calls Try.prog 32 #[.slice A0 l0.length c0, .agg #[.int .i64 a1_0, .int .i64 a1_1, .int .i64 a1_2, .int .i64 a1_3, .int .i64 a1_4, .int .i64 a1_5]] w fun e w' => ∃ v0_ : Value, e = .returned (v0_) ∧ Kd.R k78 78 w' w.heap.size (fun _ => True) v0_ r ∧ Below w.heap.size w w' := by
 have hu26 := Try.underlying26
 have hu36 := Try.underlying36
 have hu78 := Try.underlying78
 have HR0 := amk hr0
 have HC0 := amk hc0
 clear hr0 hc0
 have HB := amk (Below.refl w.heap.size w)
 have H : (flat_turned.l0 k ([] : List (S78)) l0 (l0.length : Int) 0 a1_0 a1_1 a1_2 a1_3 a1_4 a1_5) = some r := h
 clear h
 have H' := amk H
 clear H
 go_enter Try.func32, Try.ntmps32
 go_wp2_with (first | ((with_reducible refine gate_dst (N := 3) rfl ?_); refine box_event ?hg (N := 3) ?hd (cs := #[.int .i64 a1_0, .int .i64 a1_1, .int .i64 a1_2, .int .i64 a1_3, .int .i64 a1_4, .int .i64 a1_5]) (t := 26) ?hr ?_; (case hd => rfl); (case hg => rfl); (case hr => first | (go_simp; done) | (go_simp; rfl)); intro gb231 hg w3 hbox hb; have n0_ := amk (below_step (by repeat (first | (with_reducible first | exact HB.out | apply bAl | apply bDN | apply bD1) | exact HB.out)) hb); have n1_ := amk (hbox); have n2_ := amk ((by rw [hg]; exact (below_size (by repeat (first | (with_reducible first | exact HB.out | apply bAl | apply bDN | apply bD1) | exact HB.out))) : w.heap.size ≤ gb231)); have n3_ := amk ((by rw [hg]; exact (below_size (by repeat (first | (with_reducible first | exact HB.out | apply bAl | apply bDN | apply bD1) | exact HB.out))) : w.heap.size ≤ gb231)); clear HB; have HB := n0_; have BK231 := n1_; have GW231 := n2_; have GE231 := n3_; clear n0_ n1_ n2_ n3_; clear hb hbox hg))
 go_loopg [5, 12] k (fun kq v5 v12 w' => ∃ (x5_1 : List (S78)) (x12_1 : Int), v12 = .int .i64 x12_1 ∧ Aside0 (flat_turned.l0 kq x5_1 l0 (l0.length : Int) x12_1 a1_0 a1_1 a1_2 a1_3 a1_4 a1_5 = some r) ∧ Aside0 (kq ≤ k) ∧ Aside0 (Kd.R k78 78 w' w.heap.size (fun _ => True) v5 x5_1) ∧ Aside0 (w'.heap[gb231]? = some (.cells #[.int .i64 a1_0, .int .i64 a1_1, .int .i64 a1_2, .int .i64 a1_3, .int .i64 a1_4, .int .i64 a1_5] 26 (0, 0))) ∧ Aside0 (Below w.heap.size w w'))
 case atStart => exact ⟨(([] : List (S78))), (0), (by first | rfl | (simp; done) | (simp [*]; done)), H', ⟨Nat.le_refl _⟩, ⟨by first | exact Kd.R_nil _ _ _ _ _ | exact Kd.N_nil _ _ _ _ _ | exact Kd.V_nil _ _ _ _ _ | exact Kd.Q_nil _ _ _ _ _ | exact Kd.S_nil _ _ _ _ _⟩, ⟨by (with_reducible repeat first | apply kN | apply kD | apply kA); exact BK231.out⟩, ⟨by repeat (first | (with_reducible first | exact HB.out | apply bAl | apply bDN | apply bD1 | refine bSe ?_ GE231.out) | exact HB.out)⟩⟩
 case round =>
  clear H'
  try clear p2
  try clear c3
  obtain ⟨x5_1, x12_1, rfl, HA, HK1, HO_5, BK231, HB⟩ := hrel
  cases gk with
  | zero => exact absurd HA.out (by simp [flat_turned.l0])
  | succ k1 =>
   have H := HA.out
   clear HA
   simp only [flat_turned.l0] at H
   by_cases c4 : x12_1 < (l0.length : Int)
   ·rw [if_pos c4] at H
    have c4b0 : decide (x12_1 < (l0.length : Int)) = true := decide_eq_true c4
    clear c4
    by_cases c5 : 0 ≤ x12_1
    ·rw [if_pos c5] at H
     have c5b0 : decide (0 ≤ x12_1) = true := decide_eq_true c5
     clear c5
     by_cases c6 : x12_1 < (l0.length : Int)
     ·rw [if_pos c6] at H
      have c6b0 : decide (x12_1 < (l0.length : Int)) = true := decide_eq_true c6
      clear c6
      replace H := Option.bind_eq_some_iff.mp H
      obtain ⟨t234, A70, H⟩ := H
      replace H : ((fixed_Whole.f ((rd_T36 l0 x12_1).f1)).bind fun t235 => ((affine_Apply.f a1_0 a1_1 a1_2 a1_3 a1_4 a1_5 t234 t235).bind fun bt236 => (if x5_1.length < 5864062014805 then (flat_turned.l0 k1 (x5_1 ++ [(⟨bt236.1, bt236.2, (rd_T36 l0 x12_1).f2⟩ : S78)]) l0 (l0.length : Int) (wrap64 (x12_1 + 1)) a1_0 a1_1 a1_2 a1_3 a1_4 a1_5) else (none)))) = some r := H
      have A7 := amk A70
      clear A70
      replace H := Option.bind_eq_some_iff.mp H
      obtain ⟨t235, A80, H⟩ := H
      replace H : ((affine_Apply.f a1_0 a1_1 a1_2 a1_3 a1_4 a1_5 t234 t235).bind fun bt236 => (if x5_1.length < 5864062014805 then (flat_turned.l0 k1 (x5_1 ++ [(⟨bt236.1, bt236.2, (rd_T36 l0 x12_1).f2⟩ : S78)]) l0 (l0.length : Int) (wrap64 (x12_1 + 1)) a1_0 a1_1 a1_2 a1_3 a1_4 a1_5) else (none))) = some r := H
      have A8 := amk A80
      clear A80
      replace H := Option.bind_eq_some_iff.mp H
      obtain ⟨⟨t236, t237⟩, A90, H⟩ := H
      replace H : (if x5_1.length < 5864062014805 then (flat_turned.l0 k1 (x5_1 ++ [(⟨t236, t237, (rd_T36 l0 x12_1).f2⟩ : S78)]) l0 (l0.length : Int) (wrap64 (x12_1 + 1)) a1_0 a1_1 a1_2 a1_3 a1_4 a1_5) else (none)) = some r := H
      have A9 := amk A90
      clear A90
      by_cases c10 : x5_1.length < 5864062014805
      ·rw [if_pos c10] at H
       have LMc10 := amk c10
       clear c10
       obtain ⟨y238, hy238⟩ : ∃ y_ : List (S78), y_ = (x5_1 ++ [(⟨t236, t237, (rd_T36 l0 x12_1).f2⟩ : S78)]) := ⟨_, rfl⟩
       replace H : (flat_turned.l0 k1 y238 l0 (l0.length : Int) (wrap64 (x12_1 + 1)) a1_0 a1_1 a1_2 a1_3 a1_4 a1_5) = some r := by first | (rw [hy238]; with_reducible exact H) | (have H2_ := (Option.bind_some _ _).symm.trans H; rw [hy238]; with_reducible exact H2_) | (have H2_ := (Option.bind_some _ _).symm.trans H; with_reducible exact H2_) | with_reducible exact H | (rw [hy238]; exact H) | exact H
       have Ny238 := amk hy238
       clear hy238
       have H' := amk H
       clear H
       have p232 : 0 ≤ (x12_1 : Int) := of_decide_eq_true (by first | (with_reducible assumption) | assumption)
       have q232 : x12_1 < (l0.length : Int) := of_decide_eq_true (by first | (with_reducible assumption) | assumption)
       obtain ⟨ad232, e232, hx232_0, hx232_1, hx232_2⟩ := at_T36 HR0.out x12_1 p232 q232
       cases e232
       replace hx232_0 := (HB.out.cell (cLt w _ hx232_0)).trans hx232_0
       replace hx232_1 := (HB.out.cell (cLt w _ hx232_1)).trans hx232_1
       replace hx232_2 := (HB.out.cell (cLt w _ hx232_2)).trans hx232_2
       replace p232 := eq_true p232
       replace q232 := eq_true q232
       try go_wp2_with (first | ((with_reducible refine gate_dst (N := 7) rfl ?_); refine box_event ?hg (N := 7) ?hd (cs := #[.int .i64 0, .int .i64 0, .bool false]) (t := 36) ?hr ?_; (case hd => rfl); (case hg => rfl); (case hr => first | (go_simp; done) | (go_simp; rfl)); intro gb233 hg w11 hbox hb; have n0_ := amk (Kd.R_below (by (with_reducible repeat (first | apply Kd.R_alloc | apply Kd.R_drewN | apply Kd.R_drew)); exact HO_5.out) hb); have n1_ := amk (blk_below (g := gb231) (o := .cells #[.int .i64 a1_0, .int .i64 a1_1, .int .i64 a1_2, .int .i64 a1_3, .int .i64 a1_4, .int .i64 a1_5] 26 (0, 0)) (by (with_reducible repeat first | apply kN | apply kD | apply kA); exact BK231.out) hb); have n2_ := amk (below_step (by repeat (first | (with_reducible first | exact HB.out | apply bAl | apply bDN | apply bD1 | refine bSe ?_ GE231.out) | exact HB.out)) hb); have n3_ := amk (hbox); have n4_ := amk ((by rw [hg]; exact (below_size (by repeat (first | (with_reducible first | exact HB.out | apply bAl | apply bDN | apply bD1 | refine bSe ?_ GE231.out) | exact HB.out))) : w.heap.size ≤ gb233)); have n5_ := amk ((by rw [hg]; exact (below_size (by repeat (first | (with_reducible first | exact HB.out | apply bAl | apply bDN | apply bD1 | refine bSe ?_ GE231.out) | exact HB.out))) : w.heap.size ≤ gb233)); have n6_ := amk ((by rw [hg]; exact Nat.ne_of_lt (blk_lt (g := gb231) (o := .cells #[.int .i64 a1_0, .int .i64 a1_1, .int .i64 a1_2, .int .i64 a1_3, .int .i64 a1_4, .int .i64 a1_5] 26 (0, 0)) (by (with_reducible repeat first | apply kN | apply kD | apply kA); exact BK231.out)) : gb231 ≠ gb233)); have n7_ := amk ((by rw [hg]; exact Nat.ne_of_gt (blk_lt (g := gb231) (o := .cells #[.int .i64 a1_0, .int .i64 a1_1, .int .i64 a1_2, .int .i64 a1_3, .int .i64 a1_4, .int .i64 a1_5] 26 (0, 0)) (by (with_reducible repeat first | apply kN | apply kD | apply kA); exact BK231.out)) : gb233 ≠ gb231)); clear HO_5; clear BK231; clear HB; have HO_5 := n0_; have BK231 := n1_; have HB := n2_; have BK233 := n3_; have GW233 := n4_; have GE233 := n5_; have NB231_233 := n6_; have NB233_231 := n7_; clear n0_ n1_ n2_ n3_ n4_ n5_ n6_ n7_; clear hb hbox hg; have hnb12 := NB233_231.out; have hnc12 := NB231_233.out; have hcz13_0 : w11.cell? ⟨gb233, 0, none⟩ = some (.int .i64 0) := (blk_cell BK233.out 0).trans rfl; have hcz13_1 : w11.cell? ⟨gb233, 1, none⟩ = some (.int .i64 0) := (blk_cell BK233.out 1).trans rfl; have hcz13_2 : w11.cell? ⟨gb233, 2, none⟩ = some (.bool false) := (blk_cell BK233.out 2).trans rfl; have hfz13_0 := blk_frozen BK233.out 0; have hfz13_1 := blk_frozen BK233.out 1; have hfz13_2 := blk_frozen BK233.out 2))
       have n0_ : Aside0 (Kd.R k78 78 (((w11.setCell ⟨gb233, 0, none⟩ (.int .i64 ((rd_T36 l0 x12_1).f0))).setCell ⟨gb233, 1, none⟩ (.int .i64 ((rd_T36 l0 x12_1).f1))).setCell ⟨gb233, 2, none⟩ (.bool ((rd_T36 l0 x12_1).f2))) w.heap.size (fun _ => True) u5 x5_1) := ⟨by (with_reducible repeat (first | apply Kd.R_alloc | apply Kd.R_drewN | apply Kd.R_drew)); exact Kd.R_mono (Kd.R_far (p := ⟨gb233, 2, none⟩) (Kd.R_far (p := ⟨gb233, 1, none⟩) (Kd.R_far (p := ⟨gb233, 0, none⟩) (Kd.R_types HO_5.out BK233.out (by decide)) (fun _ hk => hk.2) (.int .i64 ((rd_T36 l0 x12_1).f0))) (fun _ hk => hk.2) (.int .i64 ((rd_T36 l0 x12_1).f1))) (fun _ hk => hk.2) (.bool ((rd_T36 l0 x12_1).f2))) (fun _ hk => trivial)⟩
       have n1_ : Aside0 ((((w11.setCell ⟨gb233, 0, none⟩ (.int .i64 ((rd_T36 l0 x12_1).f0))).setCell ⟨gb233, 1, none⟩ (.int .i64 ((rd_T36 l0 x12_1).f1))).setCell ⟨gb233, 2, none⟩ (.bool ((rd_T36 l0 x12_1).f2))).heap[gb231]? = some (.cells #[.int .i64 a1_0, .int .i64 a1_1, .int .i64 a1_2, .int .i64 a1_3, .int .i64 a1_4, .int .i64 a1_5] 26 (0, 0))) := ⟨by (with_reducible repeat first | apply kN | apply kD | apply kA); refine blk_far ?_ NB231_233.out _; (with_reducible repeat first | apply kN | apply kD | apply kA); refine blk_far ?_ NB231_233.out _; (with_reducible repeat first | apply kN | apply kD | apply kA); refine blk_far ?_ NB231_233.out _; (with_reducible repeat first | apply kN | apply kD | apply kA); exact BK231.out⟩
       have n2_ : Aside0 ((((w11.setCell ⟨gb233, 0, none⟩ (.int .i64 ((rd_T36 l0 x12_1).f0))).setCell ⟨gb233, 1, none⟩ (.int .i64 ((rd_T36 l0 x12_1).f1))).setCell ⟨gb233, 2, none⟩ (.bool ((rd_T36 l0 x12_1).f2))).heap[gb233]? = some (.cells #[.int .i64 ((rd_T36 l0 x12_1).f0), .int .i64 ((rd_T36 l0 x12_1).f1), .bool ((rd_T36 l0 x12_1).f2)] 36 (0, 0))) := ⟨by (with_reducible repeat first | apply kN | apply kD | apply kA); refine blk_put (cs := #[.int .i64 ((rd_T36 l0 x12_1).f0), .int .i64 ((rd_T36 l0 x12_1).f1), .bool false]) ?_ 2 _ rfl; (with_reducible repeat first | apply kN | apply kD | apply kA); refine blk_put (cs := #[.int .i64 ((rd_T36 l0 x12_1).f0), .int .i64 0, .bool false]) ?_ 1 _ rfl; (with_reducible repeat first | apply kN | apply kD | apply kA); refine blk_put (cs := #[.int .i64 0, .int .i64 0, .bool false]) ?_ 0 _ rfl; (with_reducible repeat first | apply kN | apply kD | apply kA); exact BK233.out⟩
       have n3_ : Aside0 (Below w.heap.size w (((w11.setCell ⟨gb233, 0, none⟩ (.int .i64 ((rd_T36 l0 x12_1).f0))).setCell ⟨gb233, 1, none⟩ (.int .i64 ((rd_T36 l0 x12_1).f1))).setCell ⟨gb233, 2, none⟩ (.bool ((rd_T36 l0 x12_1).f2)))) := ⟨by repeat (first | (with_reducible first | exact HB.out | apply bAl | apply bDN | apply bD1 | refine bSe ?_ GE231.out | refine bSe ?_ GE233.out) | exact HB.out)⟩
       (try clear HO_5)
       (try clear BK231)
       (try clear BK233)
       (try clear HB)
       generalize (((w11.setCell ⟨gb233, 0, none⟩ (.int .i64 ((rd_T36 l0 x12_1).f0))).setCell ⟨gb233, 1, none⟩ (.int .i64 ((rd_T36 l0 x12_1).f1))).setCell ⟨gb233, 2, none⟩ (.bool ((rd_T36 l0 x12_1).f2))) = w14 at n0_ n1_ n2_ n3_ ⊢
       have HO_5 := n0_
       have BK231 := n1_
       have BK233 := n2_
       have HB := n3_
       clear n0_ n1_ n2_ n3_
       have n0_ := amk (Kd.R_drew HO_5.out)
       have n1_ := amk (blk_drew BK231.out)
       have n2_ := amk (blk_drew BK233.out)
       have n3_ := amk (bD1 HB.out)
       clear HO_5
       clear BK231
       clear BK233
       clear HB
       have HO_5 := n0_
       have BK231 := n1_
       have BK233 := n2_
       have HB := n3_
       clear n0_ n1_ n2_ n3_
       refine start_ (n := 13) (S := fun w' => w'.cell? ⟨gb231, 0, none⟩ = some (.int .i64 a1_0) ∧ w'.cell? ⟨gb231, 1, none⟩ = some (.int .i64 a1_1) ∧ w'.cell? ⟨gb231, 2, none⟩ = some (.int .i64 a1_2) ∧ w'.cell? ⟨gb231, 3, none⟩ = some (.int .i64 a1_3) ∧ w'.cell? ⟨gb231, 4, none⟩ = some (.int .i64 a1_4) ∧ w'.cell? ⟨gb231, 5, none⟩ = some (.int .i64 a1_5) ∧ w'.cell? ⟨gb233, 0, none⟩ = some (.int .i64 ((rd_T36 l0 x12_1).f0)) ∧ w'.cell? ⟨gb233, 1, none⟩ = some (.int .i64 ((rd_T36 l0 x12_1).f1)) ∧ w'.cell? ⟨gb233, 2, none⟩ = some (.bool ((rd_T36 l0 x12_1).f2))) (ds := []) #[false, false, false, false, false, false, false, false, false, false, false, false, false] (by kernel_rfl) rfl rfl ⟨(blk_cell BK231.out 0).trans rfl, (blk_cell BK231.out 1).trans rfl, (blk_cell BK231.out 2).trans rfl, (blk_cell BK231.out 3).trans rfl, (blk_cell BK231.out 4).trans rfl, (blk_cell BK231.out 5).trans rfl, (blk_cell BK233.out 0).trans rfl, (blk_cell BK233.out 1).trans rfl, (blk_cell BK233.out 2).trans rfl⟩ (fun hHeld => ?_); refine with_tabW flat_turned.tab5 flat_turned.bits5 (fun HT_ HW_ => ?_)
       generalize w14.drew = w15 at HO_5 BK231 BK233 HB hHeld ⊢
       refine pure_ (i := 1) (N := some 18) (v := ?_) (a' := ?_) #[false, true, false, false, false, false, false, false, false, false, false, false, false] rfl rfl (any_of HT_.out (by kernel_rfl)) (fun _ _ _ h => h) (Or.inl ⟨by rfl, ?_⟩) ?_ ?_
       rotate_left
       ·intro w'
        go_simp
        with_reducible rfl
       rotate_left
       ·simp only [Act.put, sTA, sCZ, sCS, i64_w, i32_w]
        rfl
       refine pure_ (i := 4) (N := some 21) (v := ?_) (a' := ?_) #[false, true, false, false, true, false, false, false, false, false, false, false, false] rfl rfl (any_of HT_.out (by kernel_rfl)) (fun _ _ _ h => h) (Or.inl ⟨by rfl, ?_⟩) ?_ ?_
       rotate_left
       ·intro w'
        go_simp
        with_reducible rfl
       rotate_left
       ·simp only [Act.put, sTA, sCZ, sCS, i64_w, i32_w]
        rfl
       refine take_ (i := 0) (N := some 17) (v := ?_) (a' := ?_) #[true, true, false, false, true, false, false, false, false, false, false, false, false] rfl rfl (take_ofW HT_.out HW_.out (by kernel_rfl)) (fun _ _ _ h => h) (Or.inl ⟨by rfl, ?_⟩) hHeld ?_ ?_
       rotate_left
       ·rintro w' ⟨s0, s1, s2, s3, s4, s5, s6, s7, s8⟩
        go_simp
        with_reducible rfl
       rotate_left
       ·simp only [Act.put, sTA, sCZ, sCS, i64_w, i32_w]
        rfl
       refine take_ (i := 2) (N := some 19) (v := ?_) (a' := ?_) #[true, true, true, false, true, false, false, false, false, false, false, false, false] rfl rfl (take_ofW HT_.out HW_.out (by kernel_rfl)) (fun _ _ _ h => h) (Or.inl ⟨by rfl, ?_⟩) hHeld ?_ ?_
       rotate_left
       ·rintro w' ⟨s0, s1, s2, s3, s4, s5, s6, s7, s8⟩
        go_simp
        with_reducible rfl
       rotate_left
       ·simp only [Act.put, sTA, sCZ, sCS, i64_w, i32_w]
        rfl
       refine take_ (i := 5) (N := some 22) (v := ?_) (a' := ?_) #[true, true, true, false, true, true, false, false, false, false, false, false, false] rfl rfl (take_ofW HT_.out HW_.out (by kernel_rfl)) (fun _ _ _ h => h) (Or.inl ⟨by rfl, ?_⟩) hHeld ?_ ?_
       rotate_left
       ·rintro w' ⟨s0, s1, s2, s3, s4, s5, s6, s7, s8⟩
        go_simp
        with_reducible rfl
       rotate_left
       ·simp only [Act.put, sTA, sCZ, sCS, i64_w, i32_w]
        rfl
       refine one_ (i := 3) (N := some 20) #[true, true, true, true, true, true, false, false, false, false, false, false, false] rfl rfl (one_of HT_.out (by kernel_rfl)) (by decide) (fun K hK => ?_)
       refine goes_ Try.func53 (by kernel_rfl) rfl #[.int .i64 ((rd_T36 l0 x12_1).f0)] (by rfl) rfl rfl (by (try simp only [List.map_toArray, List.map_cons, List.map_nil]); first | done | rfl | (simp only [List.length_drop, List.length_take]; rfl)) ?_
       with_reducible refine (fixed_Whole.calls ((rd_T36 l0 x12_1).f0) t234 _ A7.out).mono ?_
       rintro e w16 ⟨rfl, hb⟩
       refine ⟨_, rfl, ?_⟩
       have n0_ := amk (Kd.R_below (by (with_reducible repeat (first | apply Kd.R_alloc | apply Kd.R_drewN | apply Kd.R_drew)); exact HO_5.out) hb)
       have n1_ := amk (blk_below (g := gb231) (o := .cells #[.int .i64 a1_0, .int .i64 a1_1, .int .i64 a1_2, .int .i64 a1_3, .int .i64 a1_4, .int .i64 a1_5] 26 (0, 0)) (by (with_reducible repeat first | apply kN | apply kD | apply kA); exact BK231.out) hb)
       have n2_ := amk (blk_below (g := gb233) (o := .cells #[.int .i64 ((rd_T36 l0 x12_1).f0), .int .i64 ((rd_T36 l0 x12_1).f1), .bool ((rd_T36 l0 x12_1).f2)] 36 (0, 0)) (by (with_reducible repeat first | apply kN | apply kD | apply kA); exact BK233.out) hb)
       have n3_ := amk (below_step (by repeat (first | (with_reducible first | exact HB.out | apply bAl | apply bDN | apply bD1 | refine bSe ?_ GE231.out | refine bSe ?_ GE233.out) | exact HB.out)) hb)
       clear HO_5
       clear BK231
       clear BK233
       clear HB
       have HO_5 := n0_
       have BK231 := n1_
       have BK233 := n2_
       have HB := n3_
       clear n0_ n1_ n2_ n3_
       (try clear hb)
       (try clear hb2)
       (try clear hk)
       (try clear hi)
       refine hK.out _ _ ⟨(blk_cell BK231.out 0).trans rfl, (blk_cell BK231.out 1).trans rfl, (blk_cell BK231.out 2).trans rfl, (blk_cell BK231.out 3).trans rfl, (blk_cell BK231.out 4).trans rfl, (blk_cell BK231.out 5).trans rfl, (blk_cell BK233.out 0).trans rfl, (blk_cell BK233.out 1).trans rfl, (blk_cell BK233.out 2).trans rfl⟩ (fun hHeld => ?_)
       clear hK K
       refine norm_ (a' := ?_) ?_ ?_
       rotate_left
       ·show Act.put _ (some 20) _ = _
        simp only [Act.put, sTA, sCZ, sCS, i64_w, i32_w]
        rfl
       refine one_ (i := 6) (N := some 23) #[true, true, true, true, true, true, true, false, false, false, false, false, false] rfl rfl (one_of HT_.out (by kernel_rfl)) (by decide) (fun K hK => ?_)
       refine goes_ Try.func53 (by kernel_rfl) rfl #[.int .i64 ((rd_T36 l0 x12_1).f1)] (by rfl) rfl rfl (by (try simp only [List.map_toArray, List.map_cons, List.map_nil]); first | done | rfl | (simp only [List.length_drop, List.length_take]; rfl)) ?_
       with_reducible refine (fixed_Whole.calls ((rd_T36 l0 x12_1).f1) t235 _ A8.out).mono ?_
       rintro e w17 ⟨rfl, hb⟩
       refine ⟨_, rfl, ?_⟩
       have n0_ := amk (Kd.R_below (by (with_reducible repeat (first | apply Kd.R_alloc | apply Kd.R_drewN | apply Kd.R_drew)); exact HO_5.out) hb)
       have n1_ := amk (blk_below (g := gb231) (o := .cells #[.int .i64 a1_0, .int .i64 a1_1, .int .i64 a1_2, .int .i64 a1_3, .int .i64 a1_4, .int .i64 a1_5] 26 (0, 0)) (by (with_reducible repeat first | apply kN | apply kD | apply kA); exact BK231.out) hb)
       have n2_ := amk (blk_below (g := gb233) (o := .cells #[.int .i64 ((rd_T36 l0 x12_1).f0), .int .i64 ((rd_T36 l0 x12_1).f1), .bool ((rd_T36 l0 x12_1).f2)] 36 (0, 0)) (by (with_reducible repeat first | apply kN | apply kD | apply kA); exact BK233.out) hb)
       have n3_ := amk (below_step (by repeat (first | (with_reducible first | exact HB.out | apply bAl | apply bDN | apply bD1 | refine bSe ?_ GE231.out | refine bSe ?_ GE233.out) | exact HB.out)) hb)
       clear HO_5
       clear BK231
       clear BK233
       clear HB
       have HO_5 := n0_
       have BK231 := n1_
       have BK233 := n2_
       have HB := n3_
       clear n0_ n1_ n2_ n3_
       (try clear hb)
       (try clear hb2)
       (try clear hk)
       (try clear hi)
       refine hK.out _ _ ⟨(blk_cell BK231.out 0).trans rfl, (blk_cell BK231.out 1).trans rfl, (blk_cell BK231.out 2).trans rfl, (blk_cell BK231.out 3).trans rfl, (blk_cell BK231.out 4).trans rfl, (blk_cell BK231.out 5).trans rfl, (blk_cell BK233.out 0).trans rfl, (blk_cell BK233.out 1).trans rfl, (blk_cell BK233.out 2).trans rfl⟩ (fun hHeld => ?_)
       clear hK K
       refine norm_ (a' := ?_) ?_ ?_
       rotate_left
       ·show Act.put _ (some 23) _ = _
        simp only [Act.put, sTA, sCZ, sCS, i64_w, i32_w]
        rfl
       refine one_ (i := 7) (N := some 24) #[true, true, true, true, true, true, true, true, false, false, false, false, false] rfl rfl (one_of HT_.out (by kernel_rfl)) (by decide) (fun K hK => ?_)
       refine goes_ Try.func52 (by kernel_rfl) rfl #[.agg #[.int .i64 a1_0, .int .i64 a1_1, .int .i64 a1_2, .int .i64 a1_3, .int .i64 a1_4, .int .i64 a1_5], .int .i64 t234, .int .i64 t235] (by rfl) rfl rfl (by (try simp only [List.map_toArray, List.map_cons, List.map_nil]); first | done | rfl | (simp only [List.length_drop, List.length_take]; rfl)) ?_
       with_reducible refine (affine_Apply.calls a1_0 a1_1 a1_2 a1_3 a1_4 a1_5 t234 t235 t236 t237 _ A9.out).mono ?_
       rintro e w18 ⟨rfl, hb⟩
       refine ⟨_, rfl, ?_⟩
       have n0_ := amk (Kd.R_below (by (with_reducible repeat (first | apply Kd.R_alloc | apply Kd.R_drewN | apply Kd.R_drew)); exact HO_5.out) hb)
       have n1_ := amk (blk_below (g := gb231) (o := .cells #[.int .i64 a1_0, .int .i64 a1_1, .int .i64 a1_2, .int .i64 a1_3, .int .i64 a1_4, .int .i64 a1_5] 26 (0, 0)) (by (with_reducible repeat first | apply kN | apply kD | apply kA); exact BK231.out) hb)
       have n2_ := amk (blk_below (g := gb233) (o := .cells #[.int .i64 ((rd_T36 l0 x12_1).f0), .int .i64 ((rd_T36 l0 x12_1).f1), .bool ((rd_T36 l0 x12_1).f2)] 36 (0, 0)) (by (with_reducible repeat first | apply kN | apply kD | apply kA); exact BK233.out) hb)
       have n3_ := amk (below_step (by repeat (first | (with_reducible first | exact HB.out | apply bAl | apply bDN | apply bD1 | refine bSe ?_ GE231.out | refine bSe ?_ GE233.out) | exact HB.out)) hb)
       clear HO_5
       clear BK231
       clear BK233
       clear HB
       have HO_5 := n0_
       have BK231 := n1_
       have BK233 := n2_
       have HB := n3_
       clear n0_ n1_ n2_ n3_
       (try clear hb)
       (try clear hb2)
       (try clear hk)
       (try clear hi)
       refine hK.out _ _ ⟨(blk_cell BK231.out 0).trans rfl, (blk_cell BK231.out 1).trans rfl, (blk_cell BK231.out 2).trans rfl, (blk_cell BK231.out 3).trans rfl, (blk_cell BK231.out 4).trans rfl, (blk_cell BK231.out 5).trans rfl, (blk_cell BK233.out 0).trans rfl, (blk_cell BK233.out 1).trans rfl, (blk_cell BK233.out 2).trans rfl⟩ (fun hHeld => ?_)
       clear hK K
       refine norm_ (a' := ?_) ?_ ?_
       rotate_left
       ·show Act.put _ (some 24) _ = _
        simp only [Act.put, sTA, sCZ, sCS, i64_w, i32_w]
        rfl
       refine pure_ (i := 8) (N := some 16) (v := ?_) (a' := ?_) #[true, true, true, true, true, true, true, true, true, false, false, false, false] rfl rfl (any_of HT_.out (by kernel_rfl)) (fun _ _ _ h => h) (Or.inl ⟨by rfl, ?_⟩) ?_ ?_
       rotate_left
       ·intro w'
        go_simp
        with_reducible rfl
       rotate_left
       ·simp only [Act.put, sTA, sCZ, sCS, i64_w, i32_w]
        rfl
       refine pure_ (i := 9) (N := some 25) (v := ?_) (a' := ?_) #[true, true, true, true, true, true, true, true, true, true, false, false, false] rfl rfl (any_of HT_.out (by kernel_rfl)) (fun _ _ _ h => h) (Or.inl ⟨by rfl, ?_⟩) ?_ ?_
       rotate_left
       ·intro w'
        go_simp
        with_reducible rfl
       rotate_left
       ·simp only [Act.put, sTA, sCZ, sCS, i64_w, i32_w]
        rfl
       refine pure_ (i := 10) (N := some 26) (v := ?_) (a' := ?_) #[true, true, true, true, true, true, true, true, true, true, true, false, false] rfl rfl (any_of HT_.out (by kernel_rfl)) (fun _ _ _ h => h) (Or.inl ⟨by rfl, ?_⟩) ?_ ?_
       rotate_left
       ·intro w'
        go_simp
        with_reducible rfl
       rotate_left
       ·simp only [Act.put, sTA, sCZ, sCS, i64_w, i32_w]
        rfl
       refine pure_ (i := 11) (N := some 8) (v := ?_) (a' := ?_) #[true, true, true, true, true, true, true, true, true, true, true, true, false] rfl rfl (any_of HT_.out (by kernel_rfl)) (fun _ _ _ h => h) (Or.inl ⟨by rfl, ?_⟩) ?_ ?_
       rotate_left
       ·intro w'
        go_simp
        with_reducible rfl
       rotate_left
       ·simp only [Act.put, sTA, sCZ, sCS, i64_w, i32_w]
        rfl
       refine pure_ (i := 12) (N := some 9) (v := ?_) (a' := ?_) #[true, true, true, true, true, true, true, true, true, true, true, true, true] rfl rfl (any_of HT_.out (by kernel_rfl)) (fun _ _ _ h => h) (Or.inl ⟨by rfl, ?_⟩) ?_ ?_
       rotate_left
       ·intro w'
        go_simp
        with_reducible rfl
       rotate_left
       ·simp only [Act.put, sTA, sCZ, sCS, i64_w, i32_w]
        rfl
       refine done_ (done_of HT_.out (by kernel_rfl)) ?_
       have hcz19_0 : w18.cell? ⟨gb233, 0, none⟩ = some (.int .i64 ((rd_T36 l0 x12_1).f0)) := (blk_cell BK233.out 0).trans rfl
       have hcz19_1 : w18.cell? ⟨gb233, 1, none⟩ = some (.int .i64 ((rd_T36 l0 x12_1).f1)) := (blk_cell BK233.out 1).trans rfl
       have hcz19_2 : w18.cell? ⟨gb233, 2, none⟩ = some (.bool ((rd_T36 l0 x12_1).f2)) := (blk_cell BK233.out 2).trans rfl
       have hfz19_0 := blk_frozen BK233.out 0
       have hfz19_1 := blk_frozen BK233.out 1
       have hfz19_2 := blk_frozen BK233.out 2
       try go_wp2_with (first | ((with_reducible refine gate_builtin (b := .append) (xs := #[.tmp 27, .tmp 33]) rfl ?_); at_builtin; refine Kd.R_append k78 (w0 := w) w.heap.size rfl (.tmp 27) (.tmp 33) 72 78 (.agg #[(.int .i64 0), (.int .i64 0), (.bool false)]) 24 rfl Try.underlying72 info78 rfl (by decide) (by omega) u5 x5_1 (⟨t236, t237, (rd_T36 l0 x12_1).f2⟩ : S78) [.int .i64 t236, .int .i64 t237, .bool ((rd_T36 l0 x12_1).f2)] (fun _ => True) (fun _ => False) rfl rfl ?aP (fun _ hk => hk.elim) ?aF ?aO ?aB ?aS ?aL ?_; (case aP => exact k78_mkM _ _ _ (⟨t236, t237, (rd_T36 l0 x12_1).f2⟩ : S78)); (case aB => exact (by repeat (first | (with_reducible first | exact HB.out | apply bAl | apply bDN | apply bD1 | refine bSe ?_ GE231.out | refine bSe ?_ GE233.out) | exact HB.out))); (case aF => exact (fun _ _ => trivial)); (case aO => exact (by (with_reducible repeat (first | apply Kd.R_alloc | apply Kd.R_drewN | apply Kd.R_drew)); exact HO_5.out)); (case aS => exact (below_size (by repeat (first | (with_reducible first | exact HB.out | apply bAl | apply bDN | apply bD1 | refine bSe ?_ GE231.out | refine bSe ?_ GE233.out) | exact HB.out)))); (case aL => have := LMc10.out; omega); intro v239 w20 ho hb hg hat; rw [← Ny238.out] at ho; have n0_ := amk (blk_grown (g := gb231) (o := .cells #[.int .i64 a1_0, .int .i64 a1_1, .int .i64 a1_2, .int .i64 a1_3, .int .i64 a1_4, .int .i64 a1_5] 26 (0, 0)) (by (with_reducible repeat first | apply kN | apply kD | apply kA); exact BK231.out) hg (Kd.R_ne HO_5.out BK231.out (by decide))); have n1_ := amk (blk_grown (g := gb233) (o := .cells #[.int .i64 ((rd_T36 l0 x12_1).f0), .int .i64 ((rd_T36 l0 x12_1).f1), .bool ((rd_T36 l0 x12_1).f2)] 36 (0, 0)) (by (with_reducible repeat first | apply kN | apply kD | apply kA); exact BK233.out) hg (Kd.R_ne HO_5.out BK233.out (by decide))); have n2_ := amk (hb); have n3_ := amk (ho); clear BK231; clear BK233; clear HB; clear HO_5; have BK231 := n0_; have BK233 := n1_; have HB := n2_; have HO240 := n3_; clear n0_ n1_ n2_ n3_; clear ho hb hg hat))
       go_roundg k1
       case measure => have := HK1.out; omega
       case rel => exact ⟨(y238), (wrap64 (x12_1 + 1)), (by first | rfl | (simp; done) | (simp [*]; done)), H', ⟨by have := HK1.out; omega⟩, ⟨by (with_reducible repeat (first | apply Kd.R_alloc | apply Kd.R_drewN | apply Kd.R_drew)); exact HO240.out⟩, ⟨by (with_reducible repeat first | apply kN | apply kD | apply kA); exact BK231.out⟩, ⟨by repeat (first | (with_reducible first | exact HB.out | apply bAl | apply bDN | apply bD1 | refine bSe ?_ GE231.out | refine bSe ?_ GE233.out) | exact HB.out)⟩⟩
      ·rw [if_neg c10] at H
       exact absurd H (by simp)
     ·rw [if_neg c6] at H
      exact absurd H (by simp)
    ·rw [if_neg c5] at H
     exact absurd H (by simp)
   ·rw [if_neg c4] at H
    have c4b0 : decide (x12_1 < (l0.length : Int)) = false := decide_eq_false c4
    clear c4
    obtain rfl := Option.some.inj H
    go_wp2
    go_ret
    exact ⟨_, by first | rfl | (simp [errW_none, errW_some] <;> rfl) | (simp [*, errW_none, errW_some] <;> rfl), by (with_reducible repeat (first | apply Kd.R_alloc | apply Kd.R_drewN | apply Kd.R_drew)); exact HO_5.out, by repeat (first | (with_reducible first | exact HB.out | apply bAl | apply bDN | apply bD1 | refine bSe ?_ GE231.out) | exact HB.out)⟩

/-! ### flat_Segs: function 10 -/
def flat_Segs.l0 : Nat → List (S34) → List (List (S36)) → Int → Int → Int → Int → Int → Int → Int → Int → Option ((List (S34)))
 | 0, _, _, _, _, _, _, _, _, _, _ => none
 | k + 1, x5, x8, x9, x10, x242000, x242001, x242002, x242003, x242004, x242005 => if x10 < x9 then (if 0 ≤ x10 then (if x10 < (x8.length : Int) then (if ((rd_L6 x8 x10).length : Int) ≥ 2 then ((flat_turned.f k (rd_L6 x8 x10) x242000 x242001 x242002 x242003 x242004 x242005).bind fun t243 => ((flat_begun.f k t243).bind fun t246 => ((flat_lines.f k t246).bind fun t249 => (if x5.length + t249.length < 4398046511104 then (flat_Segs.l0 k (x5 ++ t249) x8 x9 (wrap64 (x10 + 1)) x242000 x242001 x242002 x242003 x242004 x242005) else (none))))) else (flat_Segs.l0 k x5 x8 x9 (wrap64 (x10 + 1)) x242000 x242001 x242002 x242003 x242004 x242005)) else (none)) else (none)) else (some x5)
def flat_Segs.f (k : Nat) (l0 : List (List (S36))) (a1_0 : Int) (a1_1 : Int) (a1_2 : Int) (a1_3 : Int) (a1_4 : Int) (a1_5 : Int) : Option ((List (S34))) := flat_Segs.l0 k ([] : List (S34)) l0 (l0.length : Int) 0 a1_0 a1_1 a1_2 a1_3 a1_4 a1_5
theorem flat_Segs.mono_l : ∀ k, (∀ y0 y1 y2 y3 y4 y5 y6 y7 y8 y9, LeO (flat_Segs.l0 k y0 y1 y2 y3 y4 y5 y6 y7 y8 y9) (flat_Segs.l0 (k + 1) y0 y1 y2 y3 y4 y5 y6 y7 y8 y9))
 | 0 => fun _ _ _ _ _ _ _ _ _ _ r h => by simp [flat_Segs.l0] at h
 | k + 1 => by
  have ih0 := flat_Segs.mono_l k
  ·intro y0 y1 y2 y3 y4 y5 y6 y7 y8 y9
   unfold flat_Segs.l0
   repeat' first
   | (with_reducible exact ih0 _ _ _ _ _ _ _ _ _ _)
   | (with_reducible exact flat_begun.mono _ _)
   | (with_reducible exact flat_lines.mono _ _)
   | (with_reducible exact flat_turned.mono _ _ _ _ _ _ _ _)
   | (with_reducible exact LeO.refl _)
   | (with_reducible exact LeO.none _)
   | (with_reducible refine LeO.ite ?_ ?_)
   | (with_reducible refine LeO.bind ?_ (fun _ => ?_))
   | exact ih0 _ _ _ _ _ _ _ _ _ _
   | exact flat_begun.mono _ _
   | exact flat_lines.mono _ _
   | exact flat_turned.mono _ _ _ _ _ _ _ _
   | exact LeO.none _
   | refine LeO.ite ?_ ?_
   | refine LeO.bind ?_ (fun _ => ?_)
theorem flat_Segs.mono : ∀ a0 a1 a2 a3 a4 a5 a6 k, LeO (flat_Segs.f k a0 a1 a2 a3 a4 a5 a6) (flat_Segs.f (k + 1) a0 a1 a2 a3 a4 a5 a6) := by
 intro a0 a1 a2 a3 a4 a5 a6 k
 have ih0 := flat_Segs.mono_l k
 unfold flat_Segs.f
 repeat' first
   | (with_reducible exact ih0 _ _ _ _ _ _ _ _ _ _)
   | (with_reducible exact flat_begun.mono _ _)
   | (with_reducible exact flat_lines.mono _ _)
   | (with_reducible exact flat_turned.mono _ _ _ _ _ _ _ _)
   | (with_reducible exact LeO.refl _)
   | (with_reducible exact LeO.none _)
   | (with_reducible refine LeO.ite ?_ ?_)
   | (with_reducible refine LeO.bind ?_ (fun _ => ?_))
   | exact ih0 _ _ _ _ _ _ _ _ _ _
   | exact flat_begun.mono _ _
   | exact flat_lines.mono _ _
   | exact flat_turned.mono _ _ _ _ _ _ _ _
   | exact LeO.none _
   | refine LeO.ite ?_ ?_
   | refine LeO.bind ?_ (fun _ => ?_)
set_option maxHeartbeats 8000000 in
set_option maxRecDepth 100000 in
theorem flat_Segs.calls (k : Nat) (A0 : Option Addr) (c0 : Nat) (l0 : List (List (S36))) (a1_0 : Int) (a1_1 : Int) (a1_2 : Int) (a1_3 : Int) (a1_4 : Int) (a1_5 : Int) (r : List (S34)) (w : World) (hr0 : Kd.C (Kd.slice 36 k36) w A0 l0.length l0) (hc0 : l0.length ≤ c0) (h : flat_Segs.f k l0 a1_0 a1_1 a1_2 a1_3 a1_4 a1_5 = some r) :
  Calls Try.prog 10 #[.slice A0 l0.length c0, .agg #[.int .i64 a1_0, .int .i64 a1_1, .int .i64 a1_2, .int .i64 a1_3, .int .i64 a1_4, .int .i64 a1_5]] w fun e w' => ∃ v0_ : Value, e = .returned (v0_) ∧ Kd.R k34 34 w' w.heap.size (fun _ => True) v0_ r ∧ Below w.heap.size w w' := by
 have hu26 := Try.underlying26
 have HR0 := amk hr0
 have HC0 := amk hc0
 clear hr0 hc0
 have HB := amk (Below.refl w.heap.size w)
 have H : (flat_Segs.l0 k ([] : List (S34)) l0 (l0.length : Int) 0 a1_0 a1_1 a1_2 a1_3 a1_4 a1_5) = some r := h
 clear h
 have H' := amk H
 clear H
 go_enter Try.func10, Try.ntmps10
 go_wp2_with (first | ((with_reducible refine gate_dst (N := 3) rfl ?_); refine box_event ?hg (N := 3) ?hd (cs := #[.int .i64 a1_0, .int .i64 a1_1, .int .i64 a1_2, .int .i64 a1_3, .int .i64 a1_4, .int .i64 a1_5]) (t := 26) ?hr ?_; (case hd => rfl); (case hg => rfl); (case hr => first | (go_simp; done) | (go_simp; rfl)); intro gb241 hg w3 hbox hb; have n0_ := amk (below_step (by repeat (first | (with_reducible first | exact HB.out | apply bAl | apply bDN | apply bD1) | exact HB.out)) hb); have n1_ := amk (hbox); have n2_ := amk ((by rw [hg]; exact (below_size (by repeat (first | (with_reducible first | exact HB.out | apply bAl | apply bDN | apply bD1) | exact HB.out))) : w.heap.size ≤ gb241)); have n3_ := amk ((by rw [hg]; exact (below_size (by repeat (first | (with_reducible first | exact HB.out | apply bAl | apply bDN | apply bD1) | exact HB.out))) : w.heap.size ≤ gb241)); clear HB; have HB := n0_; have BK241 := n1_; have GW241 := n2_; have GE241 := n3_; clear n0_ n1_ n2_ n3_; clear hb hbox hg))
 go_loopg [5, 10] k (fun kq v5 v10 w' => ∃ (x5_1 : List (S34)) (x10_1 : Int), v10 = .int .i64 x10_1 ∧ Aside0 (flat_Segs.l0 kq x5_1 l0 (l0.length : Int) x10_1 a1_0 a1_1 a1_2 a1_3 a1_4 a1_5 = some r) ∧ Aside0 (kq ≤ k) ∧ Aside0 (Kd.R k34 34 w' w.heap.size (fun _ => True) v5 x5_1) ∧ Aside0 (w'.heap[gb241]? = some (.cells #[.int .i64 a1_0, .int .i64 a1_1, .int .i64 a1_2, .int .i64 a1_3, .int .i64 a1_4, .int .i64 a1_5] 26 (0, 0))) ∧ Aside0 (Below w.heap.size w w'))
 case atStart => exact ⟨(([] : List (S34))), (0), (by first | rfl | (simp; done) | (simp [*]; done)), H', ⟨Nat.le_refl _⟩, ⟨by first | exact Kd.R_nil _ _ _ _ _ | exact Kd.N_nil _ _ _ _ _ | exact Kd.V_nil _ _ _ _ _ | exact Kd.Q_nil _ _ _ _ _ | exact Kd.S_nil _ _ _ _ _⟩, ⟨by (with_reducible repeat first | apply kN | apply kD | apply kA); exact BK241.out⟩, ⟨by repeat (first | (with_reducible first | exact HB.out | apply bAl | apply bDN | apply bD1 | refine bSe ?_ GE241.out) | exact HB.out)⟩⟩
 case round =>
  clear H'
  try clear c1
  try clear p2
  obtain ⟨x5_1, x10_1, rfl, HA, HK1, HO_5, BK241, HB⟩ := hrel
  cases gk with
  | zero => exact absurd HA.out (by simp [flat_Segs.l0])
  | succ k1 =>
   have H := HA.out
   clear HA
   simp only [flat_Segs.l0] at H
   by_cases c4 : x10_1 < (l0.length : Int)
   ·rw [if_pos c4] at H
    have c4b0 : decide (x10_1 < (l0.length : Int)) = true := decide_eq_true c4
    clear c4
    by_cases c5 : 0 ≤ x10_1
    ·rw [if_pos c5] at H
     have c5b0 : decide (0 ≤ x10_1) = true := decide_eq_true c5
     clear c5
     by_cases c6 : x10_1 < (l0.length : Int)
     ·rw [if_pos c6] at H
      have c6b0 : decide (x10_1 < (l0.length : Int)) = true := decide_eq_true c6
      clear c6
      by_cases c7 : ((rd_L6 l0 x10_1).length : Int) ≥ 2
      ·rw [if_pos c7] at H
       have c7b0 : decide (2 ≤ ((rd_L6 l0 x10_1).length : Int)) = true := decide_eq_true c7
       have c7b1 : decide (2 ≤ (rd_L6 l0 x10_1).length) = true := decide_eq_true (by omega)
       clear c7
       replace H := Option.bind_eq_some_iff.mp H
       obtain ⟨t243, A80, H⟩ := H
       replace H : ((flat_begun.f k1 t243).bind fun t246 => ((flat_lines.f k1 t246).bind fun t249 => (if x5_1.length + t249.length < 4398046511104 then (flat_Segs.l0 k1 (x5_1 ++ t249) l0 (l0.length : Int) (wrap64 (x10_1 + 1)) a1_0 a1_1 a1_2 a1_3 a1_4 a1_5) else (none)))) = some r := H
       have A8 := amk A80
       clear A80
       replace H := Option.bind_eq_some_iff.mp H
       obtain ⟨t246, A90, H⟩ := H
       replace H : ((flat_lines.f k1 t246).bind fun t249 => (if x5_1.length + t249.length < 4398046511104 then (flat_Segs.l0 k1 (x5_1 ++ t249) l0 (l0.length : Int) (wrap64 (x10_1 + 1)) a1_0 a1_1 a1_2 a1_3 a1_4 a1_5) else (none))) = some r := H
       have A9 := amk A90
       clear A90
       replace H := Option.bind_eq_some_iff.mp H
       obtain ⟨t249, A100, H⟩ := H
       replace H : (if x5_1.length + t249.length < 4398046511104 then (flat_Segs.l0 k1 (x5_1 ++ t249) l0 (l0.length : Int) (wrap64 (x10_1 + 1)) a1_0 a1_1 a1_2 a1_3 a1_4 a1_5) else (none)) = some r := H
       have A10 := amk A100
       clear A100
       by_cases c11 : x5_1.length + t249.length < 4398046511104
       ·rw [if_pos c11] at H
        have LMc11 := amk c11
        clear c11
        obtain ⟨y252, hy252⟩ : ∃ y_ : List (S34), y_ = (x5_1 ++ t249) := ⟨_, rfl⟩
        replace H : (flat_Segs.l0 k1 y252 l0 (l0.length : Int) (wrap64 (x10_1 + 1)) a1_0 a1_1 a1_2 a1_3 a1_4 a1_5) = some r := by first | (rw [hy252]; with_reducible exact H) | (have H2_ := (Option.bind_some _ _).symm.trans H; rw [hy252]; with_reducible exact H2_) | (have H2_ := (Option.bind_some _ _).symm.trans H; with_reducible exact H2_) | with_reducible exact H | (rw [hy252]; exact H) | exact H
        have Ny252 := amk hy252
        clear hy252
        have H' := amk H
        clear H
        have p242 : 0 ≤ (x10_1 : Int) := of_decide_eq_true (by first | (with_reducible assumption) | assumption)
        have q242 : x10_1 < (l0.length : Int) := of_decide_eq_true (by first | (with_reducible assumption) | assumption)
        obtain ⟨ad242, A242_0, c242_0, e242, hx242_0, hl242_0, hi242_0⟩ := at_L6 HR0.out x10_1 p242 q242
        cases e242
        replace hx242_0 := (HB.out.cell (cLt w _ hx242_0)).trans hx242_0
        have HR242_0 := amk hi242_0
        have HC242_0 := amk hl242_0
        clear hi242_0 hl242_0
        replace p242 := eq_true p242
        replace q242 := eq_true q242
        have hcz12_0 : wr.cell? ⟨gb241, 0, none⟩ = some (.int .i64 a1_0) := (blk_cell BK241.out 0).trans rfl
        have hcz12_1 : wr.cell? ⟨gb241, 1, none⟩ = some (.int .i64 a1_1) := (blk_cell BK241.out 1).trans rfl
        have hcz12_2 : wr.cell? ⟨gb241, 2, none⟩ = some (.int .i64 a1_2) := (blk_cell BK241.out 2).trans rfl
        have hcz12_3 : wr.cell? ⟨gb241, 3, none⟩ = some (.int .i64 a1_3) := (blk_cell BK241.out 3).trans rfl
        have hcz12_4 : wr.cell? ⟨gb241, 4, none⟩ = some (.int .i64 a1_4) := (blk_cell BK241.out 4).trans rfl
        have hcz12_5 : wr.cell? ⟨gb241, 5, none⟩ = some (.int .i64 a1_5) := (blk_cell BK241.out 5).trans rfl
        have hfz12_0 := blk_frozen BK241.out 0
        have hfz12_1 := blk_frozen BK241.out 1
        have hfz12_2 := blk_frozen BK241.out 2
        have hfz12_3 := blk_frozen BK241.out 3
        have hfz12_4 := blk_frozen BK241.out 4
        have hfz12_5 := blk_frozen BK241.out 5
        go_wp2_with (first | ((with_reducible refine gate_callee (f := 32) rfl ?_); refine goesL_ (some 20) rfl rfl Try.func32 (by kernel_rfl) rfl #[.slice A242_0 (rd_L6 l0 x10_1).length c242_0, .agg #[.int .i64 a1_0, .int .i64 a1_1, .int .i64 a1_2, .int .i64 a1_3, .int .i64 a1_4, .int .i64 a1_5]] rfl (by (try simp only [List.map_toArray, List.map_cons, List.map_nil]); first | done | rfl | (simp only [List.length_drop, List.length_take]; rfl)) ?_; (with_reducible refine (flat_turned.calls k1 _ _ (rd_L6 l0 x10_1) a1_0 a1_1 a1_2 a1_3 a1_4 a1_5 t243 _ ?side1 ?side2 A8.out).mono ?_); (case side1 => repeat (first | exact (Kd.C_below HR242_0.out HB.out) | (with_reducible refine Kd.C_alloc ?_ _) | (with_reducible refine Kd.C_drewN ?_ _) | (with_reducible refine Kd.C_drew ?_))); (case side2 => exact HC242_0.out); rintro e w13 ⟨v244, rfl, ho0, hb⟩; refine ⟨_, rfl, ?_⟩; have n0_ := amk (Kd.R_below (by (with_reducible repeat (first | apply Kd.R_alloc | apply Kd.R_drewN | apply Kd.R_drew)); exact HO_5.out) hb); have n1_ := amk (Kd.R_lower ho0 (below_size (by repeat (first | (with_reducible first | exact HB.out | apply bAl | apply bDN | apply bD1 | refine bSe ?_ GE241.out) | exact HB.out)))); have n2_ := amk (blk_below (g := gb241) (o := .cells #[.int .i64 a1_0, .int .i64 a1_1, .int .i64 a1_2, .int .i64 a1_3, .int .i64 a1_4, .int .i64 a1_5] 26 (0, 0)) (by (with_reducible repeat first | apply kN | apply kD | apply kA); exact BK241.out) hb); have n3_ := amk (below_step (by repeat (first | (with_reducible first | exact HB.out | apply bAl | apply bDN | apply bD1 | refine bSe ?_ GE241.out) | exact HB.out)) hb); clear HO_5; clear BK241; clear HB; have HO_5 := n0_; have HO245 := n1_; have BK241 := n2_; have HB := n3_; clear n0_ n1_ n2_ n3_; (try clear hb); (try clear hb2); (try clear hk); (try clear hi); (try clear ho0); obtain ⟨Ao14, co14, eo14⟩ := Kd.R_slice HO245.out; subst eo14) | ((with_reducible refine gate_callee (f := 31) rfl ?_); refine goesL_ (some 21) rfl rfl Try.func31 (by kernel_rfl) rfl #[.slice Ao14 t243.length co14] rfl (by (try simp only [List.map_toArray, List.map_cons, List.map_nil]); first | done | rfl | (simp only [List.length_drop, List.length_take]; rfl)) ?_; (with_reducible refine (flat_begun.calls k1 (fun k_ => some k_ = (.slice Ao14 t243.length co14 : Value).ownBlock) _ _ t243 t246 _ ?side1 A9.out).mono ?_); (case side1 => exact Kd.R_V (Kd.R_tight rfl (Kd.R_types (Kd.R_apart' (HO245.out) (Kd.R_typed HO_5.out) (by decide)) BK241.out (by decide)))); rintro e w15 ⟨v247, rfl, ho0, hb⟩; refine ⟨_, rfl, ?_⟩; have n0_ := amk (Kd.R_below (by (with_reducible repeat (first | apply Kd.R_alloc | apply Kd.R_drewN | apply Kd.R_drew)); exact HO_5.out) hb); have n1_ := amk (Kd.R_elder' (by (with_reducible repeat (first | apply Kd.R_alloc | apply Kd.R_drewN | apply Kd.R_drew)); exact HO245.out) (Kd.R_base ho0) hb); have n2_ := amk (Kd.R_lower (Kd.R_new' (Kd.R_mono (ok' := fun k_ => True) ho0 (fun _ hk_ => trivial)) (Kd.R_lt (by (with_reducible repeat (first | apply Kd.R_alloc | apply Kd.R_drewN | apply Kd.R_drew)); exact HO245.out))) (below_size (by repeat (first | (with_reducible first | exact HB.out | apply bAl | apply bDN | apply bD1 | refine bSe ?_ GE241.out) | exact HB.out)))); have n3_ := amk (blk_below (g := gb241) (o := .cells #[.int .i64 a1_0, .int .i64 a1_1, .int .i64 a1_2, .int .i64 a1_3, .int .i64 a1_4, .int .i64 a1_5] 26 (0, 0)) (by (with_reducible repeat first | apply kN | apply kD | apply kA); exact BK241.out) hb); have n4_ := amk (below_step (by repeat (first | (with_reducible first | exact HB.out | apply bAl | apply bDN | apply bD1 | refine bSe ?_ GE241.out) | exact HB.out)) hb); clear HO_5; clear HO245; clear BK241; clear HB; have HO_5 := n0_; have HO245 := n1_; have HO248 := n2_; have BK241 := n3_; have HB := n4_; clear n0_ n1_ n2_ n3_ n4_; (try clear hb); (try clear hb2); (try clear hk); (try clear hi); (try clear ho0); obtain ⟨Ao16, co16, eo16⟩ := Kd.R_slice HO248.out; subst eo16) | ((with_reducible refine gate_callee (f := 30) rfl ?_); refine goesL_ (some 22) rfl rfl Try.func30 (by kernel_rfl) rfl #[.slice Ao16 t246.length co16] rfl (by (try simp only [List.map_toArray, List.map_cons, List.map_nil]); first | done | rfl | (simp only [List.length_drop, List.length_take]; rfl)) ?_; (with_reducible refine (flat_lines.calls k1 _ _ t246 t249 _ ?side1 ?side2 A10.out).mono ?_); (case side1 => repeat (first | exact (Kd.R_reads' HO248.out).2.2 | (with_reducible refine Kd.C_alloc ?_ _) | (with_reducible refine Kd.C_drewN ?_ _) | (with_reducible refine Kd.C_drew ?_))); (case side2 => exact (Kd.R_reads' HO248.out).2.1); rintro e w17 ⟨v250, rfl, ho0, hb⟩; refine ⟨_, rfl, ?_⟩; have n0_ := amk (Kd.R_elder' (by (with_reducible repeat (first | apply Kd.R_alloc | apply Kd.R_drewN | apply Kd.R_drew)); exact HO_5.out) (Kd.R_base ho0) hb); have n1_ := amk (Kd.R_below (by (with_reducible repeat (first | apply Kd.R_alloc | apply Kd.R_drewN | apply Kd.R_drew)); exact HO245.out) hb); have n2_ := amk (Kd.R_below (by (with_reducible repeat (first | apply Kd.R_alloc | apply Kd.R_drewN | apply Kd.R_drew)); exact HO248.out) hb); have n3_ := amk (Kd.R_lower (Kd.R_new' ho0 (Kd.R_lt (by (with_reducible repeat (first | apply Kd.R_alloc | apply Kd.R_drewN | apply Kd.R_drew)); exact HO_5.out))) (below_size (by repeat (first | (with_reducible first | exact HB.out | apply bAl | apply bDN | apply bD1 | refine bSe ?_ GE241.out) | exact HB.out)))); have n4_ := amk (blk_below (g := gb241) (o := .cells #[.int .i64 a1_0, .int .i64 a1_1, .int .i64 a1_2, .int .i64 a1_3, .int .i64 a1_4, .int .i64 a1_5] 26 (0, 0)) (by (with_reducible repeat first | apply kN | apply kD | apply kA); exact BK241.out) hb); have n5_ := amk (below_step (by repeat (first | (with_reducible first | exact HB.out | apply bAl | apply bDN | apply bD1 | refine bSe ?_ GE241.out) | exact HB.out)) hb); clear HO_5; clear HO245; clear HO248; clear BK241; clear HB; have HO_5 := n0_; have HO245 := n1_; have HO248 := n2_; have HO251 := n3_; have BK241 := n4_; have HB := n5_; clear n0_ n1_ n2_ n3_ n4_ n5_; (try clear hb); (try clear hb2); (try clear hk); (try clear hi); (try clear ho0); obtain ⟨Ao19, co19, eo19⟩ := Kd.R_slice HO251.out; subst eo19) | ((with_reducible refine gate_builtin (b := .append) (xs := #[.tmp 17, .tmp 22]) rfl ?_); at_builtin; refine Kd.R_append_rows k34 (w0 := w) w.heap.size rfl (.tmp 17) (.tmp 22) 31 34 (.agg #[(.int .i64 0), (.int .i64 0), (.int .i64 0), (.int .i64 0)]) 32 rfl Try.underlying31 info34 rfl (by decide) (by omega) u5 x5_1 t249 _ _ _ (fun k_ => some k_ ≠ (.slice Ao19 t249.length co19 : Value).ownBlock) (fun _ => False) rfl rfl ?aO ?aR (fun _ _ h => h) (fun _ h => h.elim) ?aF ?aB ?aS ?aL ?_; (case aR => repeat (first | exact (Kd.R_reads' HO251.out).2.2 | (with_reducible refine Kd.C_alloc ?_ _) | (with_reducible refine Kd.C_drewN ?_ _) | (with_reducible refine Kd.C_drew ?_))); (case aB => exact (by repeat (first | (with_reducible first | exact HB.out | apply bAl | apply bDN | apply bD1 | refine bSe ?_ GE241.out) | exact HB.out))); (case aF => exact (fun k_ hk => Kd.fresh' (Kd.R_lt (by (with_reducible repeat (first | apply Kd.R_alloc | apply Kd.R_drewN | apply Kd.R_drew)); exact HO251.out)) k_ hk)); (case aO => exact (by (with_reducible repeat (first | apply Kd.R_alloc | apply Kd.R_drewN | apply Kd.R_drew)); exact Kd.R_mono HO_5.out (fun _ hk => hk.2))); (case aS => exact (below_size (by repeat (first | (with_reducible first | exact HB.out | apply bAl | apply bDN | apply bD1 | refine bSe ?_ GE241.out) | exact HB.out)))); (case aL => have := LMc11.out; omega); intro v253 w18 ho hb hg hat; rw [← Ny252.out] at ho; have n0_ := amk (blk_grown (g := gb241) (o := .cells #[.int .i64 a1_0, .int .i64 a1_1, .int .i64 a1_2, .int .i64 a1_3, .int .i64 a1_4, .int .i64 a1_5] 26 (0, 0)) (by (with_reducible repeat first | apply kN | apply kD | apply kA); exact BK241.out) hg (Kd.R_ne HO_5.out BK241.out (by decide))); have n1_ := amk (Kd.R_over' (by (with_reducible repeat (first | apply Kd.R_alloc | apply Kd.R_drewN | apply Kd.R_drew)); exact HO245.out) (Kd.R_typed (by (with_reducible repeat (first | apply Kd.R_alloc | apply Kd.R_drewN | apply Kd.R_drew)); exact HO_5.out)) (by decide) hg); have n2_ := amk (Kd.R_over' (by (with_reducible repeat (first | apply Kd.R_alloc | apply Kd.R_drewN | apply Kd.R_drew)); exact HO248.out) (Kd.R_typed (by (with_reducible repeat (first | apply Kd.R_alloc | apply Kd.R_drewN | apply Kd.R_drew)); exact HO_5.out)) (by decide) hg); have n3_ := amk (Kd.R_after (ok := (fun _ => True)) (by (with_reducible repeat (first | apply Kd.R_alloc | apply Kd.R_drewN | apply Kd.R_drew)); exact HO251.out) hg hat); have n4_ := amk (hb); have n5_ := amk (ho); clear BK241; clear HO245; clear HO248; clear HO251; clear HB; clear HO_5; have BK241 := n0_; have HO245 := n1_; have HO248 := n2_; have HO251 := n3_; have HB := n4_; have HO254 := n5_; clear n0_ n1_ n2_ n3_ n4_ n5_; clear ho hb hg hat))
        go_roundg k1
        case measure => have := HK1.out; omega
        case rel => exact ⟨(y252), (wrap64 (x10_1 + 1)), (by first | rfl | (simp; done) | (simp [*]; done)), H', ⟨by have := HK1.out; omega⟩, ⟨by (with_reducible repeat (first | apply Kd.R_alloc | apply Kd.R_drewN | apply Kd.R_drew)); exact Kd.R_mono HO254.out (fun _ hk => trivial)⟩, ⟨by (with_reducible repeat first | apply kN | apply kD | apply kA); exact BK241.out⟩, ⟨by repeat (first | (with_reducible first | exact HB.out | apply bAl | apply bDN | apply bD1 | refine bSe ?_ GE241.out) | exact HB.out)⟩⟩
       ·rw [if_neg c11] at H
        exact absurd H (by simp)
      ·rw [if_neg c7] at H
       have c7b0 : decide (2 ≤ ((rd_L6 l0 x10_1).length : Int)) = false := decide_eq_false c7
       have c7b1 : decide (2 ≤ (rd_L6 l0 x10_1).length) = false := decide_eq_false (by omega)
       clear c7
       have H' := amk H
       clear H
       have p242 : 0 ≤ (x10_1 : Int) := of_decide_eq_true (by first | (with_reducible assumption) | assumption)
       have q242 : x10_1 < (l0.length : Int) := of_decide_eq_true (by first | (with_reducible assumption) | assumption)
       obtain ⟨ad242, A242_0, c242_0, e242, hx242_0, hl242_0, hi242_0⟩ := at_L6 HR0.out x10_1 p242 q242
       cases e242
       replace hx242_0 := (HB.out.cell (cLt w _ hx242_0)).trans hx242_0
       have HR242_0 := amk hi242_0
       have HC242_0 := amk hl242_0
       clear hi242_0 hl242_0
       replace p242 := eq_true p242
       replace q242 := eq_true q242
       go_wp2
       go_roundg k1
       case measure => have := HK1.out; omega
       case rel => exact ⟨(x5_1), (wrap64 (x10_1 + 1)), (by first | rfl | (simp; done) | (simp [*]; done)), H', ⟨by have := HK1.out; omega⟩, ⟨by (with_reducible repeat (first | apply Kd.R_alloc | apply Kd.R_drewN | apply Kd.R_drew)); exact HO_5.out⟩, ⟨by (with_reducible repeat first | apply kN | apply kD | apply kA); exact BK241.out⟩, ⟨by repeat (first | (with_reducible first | exact HB.out | apply bAl | apply bDN | apply bD1 | refine bSe ?_ GE241.out) | exact HB.out)⟩⟩
     ·rw [if_neg c6] at H
      exact absurd H (by simp)
    ·rw [if_neg c5] at H
     exact absurd H (by simp)
   ·rw [if_neg c4] at H
    have c4b0 : decide (x10_1 < (l0.length : Int)) = false := decide_eq_false c4
    clear c4
    obtain rfl := Option.some.inj H
    go_wp2
    go_ret
    exact ⟨_, by first | rfl | (simp [errW_none, errW_some] <;> rfl) | (simp [*, errW_none, errW_some] <;> rfl), by (with_reducible repeat (first | apply Kd.R_alloc | apply Kd.R_drewN | apply Kd.R_drew)); exact HO_5.out, by repeat (first | (with_reducible first | exact HB.out | apply bAl | apply bDN | apply bD1 | refine bSe ?_ GE241.out) | exact HB.out)⟩

/-! ### versalref2_One: function 35 -/
def versalref2_One.f  : Option (Int × Int × Int × Int × Int × Int) := some (65536, 0, 0, 65536, 0, 0)
set_option maxHeartbeats 8000000 in
set_option maxRecDepth 100000 in
theorem versalref2_One.calls  (r1 : Int) (r2 : Int) (r3 : Int) (r4 : Int) (r5 : Int) (r6 : Int) (w : World) (h : versalref2_One.f  = some (r1, r2, r3, r4, r5, r6)) :
  Calls Try.prog 35 #[] w fun e w' => e = .returned (.agg #[.int .i64 r1, .int .i64 r2, .int .i64 r3, .int .i64 r4, .int .i64 r5, .int .i64 r6]) ∧ Below w.heap.size w w' := by
 have hu26 := Try.underlying26
 have HB := amk (Below.refl w.heap.size w)
 have H : (some (65536, 0, 0, 65536, 0, 0)) = some (r1, r2, r3, r4, r5, r6) := h
 clear h
 simp only [Option.some.injEq, Prod.mk.injEq] at H
 obtain ⟨rfl, rfl, rfl, rfl, rfl, rfl⟩ := H
 go_enter Try.func35, Try.ntmps35
 go_wp2_with (first | ((with_reducible refine gate_dst (N := 0) rfl ?_); refine box_event ?hg (N := 0) ?hd (cs := #[.int .i64 0, .int .i64 0, .int .i64 0, .int .i64 0, .int .i64 0, .int .i64 0]) (t := 26) ?hr ?_; (case hd => rfl); (case hg => rfl); (case hr => first | (go_simp; done) | (go_simp; rfl)); intro gb255 hg w1 hbox hb; have n0_ := amk (below_step (by repeat (first | (with_reducible first | exact HB.out | apply bAl | apply bDN | apply bD1) | exact HB.out)) hb); have n1_ := amk (hbox); have n2_ := amk ((by rw [hg]; exact (below_size (by repeat (first | (with_reducible first | exact HB.out | apply bAl | apply bDN | apply bD1) | exact HB.out))) : w.heap.size ≤ gb255)); have n3_ := amk ((by rw [hg]; exact (below_size (by repeat (first | (with_reducible first | exact HB.out | apply bAl | apply bDN | apply bD1) | exact HB.out))) : w.heap.size ≤ gb255)); clear HB; have HB := n0_; have BK255 := n1_; have GW255 := n2_; have GE255 := n3_; clear n0_ n1_ n2_ n3_; clear hb hbox hg; have hcz2_0 : w1.cell? ⟨gb255, 0, none⟩ = some (.int .i64 0) := (blk_cell BK255.out 0).trans rfl; have hcz2_1 : w1.cell? ⟨gb255, 1, none⟩ = some (.int .i64 0) := (blk_cell BK255.out 1).trans rfl; have hcz2_2 : w1.cell? ⟨gb255, 2, none⟩ = some (.int .i64 0) := (blk_cell BK255.out 2).trans rfl; have hcz2_3 : w1.cell? ⟨gb255, 3, none⟩ = some (.int .i64 0) := (blk_cell BK255.out 3).trans rfl; have hcz2_4 : w1.cell? ⟨gb255, 4, none⟩ = some (.int .i64 0) := (blk_cell BK255.out 4).trans rfl; have hcz2_5 : w1.cell? ⟨gb255, 5, none⟩ = some (.int .i64 0) := (blk_cell BK255.out 5).trans rfl; have hfz2_0 := blk_frozen BK255.out 0; have hfz2_1 := blk_frozen BK255.out 1; have hfz2_2 := blk_frozen BK255.out 2; have hfz2_3 := blk_frozen BK255.out 3; have hfz2_4 := blk_frozen BK255.out 4; have hfz2_5 := blk_frozen BK255.out 5))
 refine bodyPost_ret (results_cell_row rfl _ _ gb255 26 #[.int .i64 65536, .int .i64 0, .int .i64 0, .int .i64 65536, .int .i64 0, .int .i64 0] (0, 0) _ rfl (by (with_reducible repeat first | apply kN | apply kD | apply kA); refine blk_put (cs := #[.int .i64 65536, .int .i64 0, .int .i64 0, .int .i64 65536, .int .i64 0, .int .i64 0]) ?_ 5 _ rfl; (with_reducible repeat first | apply kN | apply kD | apply kA); refine blk_put (cs := #[.int .i64 65536, .int .i64 0, .int .i64 0, .int .i64 65536, .int .i64 0, .int .i64 0]) ?_ 4 _ rfl; (with_reducible repeat first | apply kN | apply kD | apply kA); refine blk_put (cs := #[.int .i64 65536, .int .i64 0, .int .i64 0, .int .i64 0, .int .i64 0, .int .i64 0]) ?_ 3 _ rfl; (with_reducible repeat first | apply kN | apply kD | apply kA); refine blk_put (cs := #[.int .i64 65536, .int .i64 0, .int .i64 0, .int .i64 0, .int .i64 0, .int .i64 0]) ?_ 2 _ rfl; (with_reducible repeat first | apply kN | apply kD | apply kA); refine blk_put (cs := #[.int .i64 65536, .int .i64 0, .int .i64 0, .int .i64 0, .int .i64 0, .int .i64 0]) ?_ 1 _ rfl; (with_reducible repeat first | apply kN | apply kD | apply kA); refine blk_put (cs := #[.int .i64 0, .int .i64 0, .int .i64 0, .int .i64 0, .int .i64 0, .int .i64 0]) ?_ 0 _ rfl; (with_reducible repeat first | apply kN | apply kD | apply kA); exact BK255.out) Try.underlying26 rfl (by kernel_rfl)) rfl ?_
 exact ⟨by first | rfl | (simp [errW_none, errW_some] <;> rfl) | (simp [*, errW_none, errW_some] <;> rfl), by repeat (first | (with_reducible first | exact HB.out | apply bAl | apply bDN | apply bD1 | refine bSe ?_ GE255.out) | exact HB.out)⟩

/-! ### versallaw17_one: function 13 -/
def versallaw17_one.f  : Option (Int × Int × Int × Int × Int × Int) := (versalref2_One.f).bind fun bt257 => (some (bt257.1, bt257.2.1, bt257.2.2.1, bt257.2.2.2.1, bt257.2.2.2.2.1, bt257.2.2.2.2.2))
set_option maxHeartbeats 8000000 in
set_option maxRecDepth 100000 in
theorem versallaw17_one.calls  (r1 : Int) (r2 : Int) (r3 : Int) (r4 : Int) (r5 : Int) (r6 : Int) (w : World) (h : versallaw17_one.f  = some (r1, r2, r3, r4, r5, r6)) :
  Calls Try.prog 13 #[] w fun e w' => e = .returned (.agg #[.int .i64 r1, .int .i64 r2, .int .i64 r3, .int .i64 r4, .int .i64 r5, .int .i64 r6]) ∧ Below w.heap.size w w' := by
 have hu26 := Try.underlying26
 have HB := amk (Below.refl w.heap.size w)
 have H : ((versalref2_One.f).bind fun bt257 => (some (bt257.1, bt257.2.1, bt257.2.2.1, bt257.2.2.2.1, bt257.2.2.2.2.1, bt257.2.2.2.2.2))) = some (r1, r2, r3, r4, r5, r6) := h
 clear h
 replace H := Option.bind_eq_some_iff.mp H
 obtain ⟨⟨t257, t258, t259, t260, t261, t262⟩, A10, H⟩ := H
 replace H : (some (t257, t258, t259, t260, t261, t262)) = some (r1, r2, r3, r4, r5, r6) := H
 have A1 := amk A10
 clear A10
 simp only [Option.some.injEq, Prod.mk.injEq] at H
 obtain ⟨rfl, rfl, rfl, rfl, rfl, rfl⟩ := H
 go_enter Try.func13, Try.ntmps13
 go_wp2_with (first | ((with_reducible refine gate_dst (N := 0) rfl ?_); refine box_event ?hg (N := 0) ?hd (cs := #[.int .i64 0, .int .i64 0, .int .i64 0, .int .i64 0, .int .i64 0, .int .i64 0]) (t := 26) ?hr ?_; (case hd => rfl); (case hg => rfl); (case hr => first | (go_simp; done) | (go_simp; rfl)); intro gb256 hg w2 hbox hb; have n0_ := amk (below_step (by repeat (first | (with_reducible first | exact HB.out | apply bAl | apply bDN | apply bD1) | exact HB.out)) hb); have n1_ := amk (hbox); have n2_ := amk ((by rw [hg]; exact (below_size (by repeat (first | (with_reducible first | exact HB.out | apply bAl | apply bDN | apply bD1) | exact HB.out))) : w.heap.size ≤ gb256)); have n3_ := amk ((by rw [hg]; exact (below_size (by repeat (first | (with_reducible first | exact HB.out | apply bAl | apply bDN | apply bD1) | exact HB.out))) : w.heap.size ≤ gb256)); clear HB; have HB := n0_; have BK256 := n1_; have GW256 := n2_; have GE256 := n3_; clear n0_ n1_ n2_ n3_; clear hb hbox hg) | ((with_reducible refine gate_callee (f := 35) rfl ?_); refine goesL_ (some 1) rfl rfl Try.func35 (by kernel_rfl) rfl #[] rfl (by (try simp only [List.map_toArray, List.map_cons, List.map_nil]); first | done | rfl | (simp only [List.length_drop, List.length_take]; rfl)) ?_; (with_reducible refine (versalref2_One.calls  t257 t258 t259 t260 t261 t262 _ A1.out).mono ?_); rintro e w3 ⟨rfl, hb⟩; refine ⟨_, rfl, ?_⟩; have n0_ := amk (blk_below (g := gb256) (o := .cells #[.int .i64 0, .int .i64 0, .int .i64 0, .int .i64 0, .int .i64 0, .int .i64 0] 26 (0, 0)) (by (with_reducible repeat first | apply kN | apply kD | apply kA); exact BK256.out) hb); have n1_ := amk (below_step (by repeat (first | (with_reducible first | exact HB.out | apply bAl | apply bDN | apply bD1 | refine bSe ?_ GE256.out) | exact HB.out)) hb); clear BK256; clear HB; have BK256 := n0_; have HB := n1_; clear n0_ n1_; (try clear hb); (try clear hb2); (try clear hk); (try clear hi); have hcz4_0 : w3.cell? ⟨gb256, 0, none⟩ = some (.int .i64 0) := (blk_cell BK256.out 0).trans rfl; have hcz4_1 : w3.cell? ⟨gb256, 1, none⟩ = some (.int .i64 0) := (blk_cell BK256.out 1).trans rfl; have hcz4_2 : w3.cell? ⟨gb256, 2, none⟩ = some (.int .i64 0) := (blk_cell BK256.out 2).trans rfl; have hcz4_3 : w3.cell? ⟨gb256, 3, none⟩ = some (.int .i64 0) := (blk_cell BK256.out 3).trans rfl; have hcz4_4 : w3.cell? ⟨gb256, 4, none⟩ = some (.int .i64 0) := (blk_cell BK256.out 4).trans rfl; have hcz4_5 : w3.cell? ⟨gb256, 5, none⟩ = some (.int .i64 0) := (blk_cell BK256.out 5).trans rfl; have hfz4_0 := blk_frozen BK256.out 0; have hfz4_1 := blk_frozen BK256.out 1; have hfz4_2 := blk_frozen BK256.out 2; have hfz4_3 := blk_frozen BK256.out 3; have hfz4_4 := blk_frozen BK256.out 4; have hfz4_5 := blk_frozen BK256.out 5))
 refine bodyPost_ret (results_cell_row rfl _ _ gb256 26 #[.int .i64 t257, .int .i64 t258, .int .i64 t259, .int .i64 t260, .int .i64 t261, .int .i64 t262] (0, 0) _ rfl (by (with_reducible repeat first | apply kN | apply kD | apply kA); refine blk_put (cs := #[.int .i64 t257, .int .i64 t258, .int .i64 t259, .int .i64 t260, .int .i64 t261, .int .i64 0]) ?_ 5 _ rfl; (with_reducible repeat first | apply kN | apply kD | apply kA); refine blk_put (cs := #[.int .i64 t257, .int .i64 t258, .int .i64 t259, .int .i64 t260, .int .i64 0, .int .i64 0]) ?_ 4 _ rfl; (with_reducible repeat first | apply kN | apply kD | apply kA); refine blk_put (cs := #[.int .i64 t257, .int .i64 t258, .int .i64 t259, .int .i64 0, .int .i64 0, .int .i64 0]) ?_ 3 _ rfl; (with_reducible repeat first | apply kN | apply kD | apply kA); refine blk_put (cs := #[.int .i64 t257, .int .i64 t258, .int .i64 0, .int .i64 0, .int .i64 0, .int .i64 0]) ?_ 2 _ rfl; (with_reducible repeat first | apply kN | apply kD | apply kA); refine blk_put (cs := #[.int .i64 t257, .int .i64 0, .int .i64 0, .int .i64 0, .int .i64 0, .int .i64 0]) ?_ 1 _ rfl; (with_reducible repeat first | apply kN | apply kD | apply kA); refine blk_put (cs := #[.int .i64 0, .int .i64 0, .int .i64 0, .int .i64 0, .int .i64 0, .int .i64 0]) ?_ 0 _ rfl; (with_reducible repeat first | apply kN | apply kD | apply kA); exact BK256.out) Try.underlying26 rfl (by kernel_rfl)) rfl ?_
 exact ⟨by first | rfl | (simp [errW_none, errW_some] <;> rfl) | (simp [*, errW_none, errW_some] <;> rfl), by repeat (first | (with_reducible first | exact HB.out | apply bAl | apply bDN | apply bD1 | refine bSe ?_ GE256.out) | exact HB.out)⟩

/-! ### versallaw17_known: function 7 -/
def versallaw17_known.f (k : Nat)  : Option (Bool) := (versallaw17_one.f).bind fun bt269 => ((flat_Segs.f k (([(([(⟨0, 0, true⟩ : S36), (⟨0, 9, true⟩ : S36), (⟨9, 0, true⟩ : S36)] : List (S36)))] : List (List (S36)))) bt269.1 bt269.2.1 bt269.2.2.1 bt269.2.2.2.1 bt269.2.2.2.2.1 bt269.2.2.2.2.2).bind fun t275 => (if (t275.length : Int) = 3 then (if 0 < (t275.length : Int) then (if (((rd_T34 t275 0).f0) == 0 && (((rd_T34 t275 0).f1) == 0 && (((rd_T34 t275 0).f2) == 0 && (((rd_T34 t275 0).f3) == 589824)))) = true then (if 2 < (t275.length : Int) then (some (((rd_T34 t275 2).f0) == 589824 && (((rd_T34 t275 2).f1) == 0 && (((rd_T34 t275 2).f2) == 0 && (((rd_T34 t275 2).f3) == 0))))) else (none)) else (some false)) else (none)) else (some false)))
theorem versallaw17_known.mono : ∀ k, LeO (versallaw17_known.f k ) (versallaw17_known.f (k + 1) ) := by
 intro  k
 unfold versallaw17_known.f
 repeat' first
   | (with_reducible exact flat_Segs.mono _ _ _ _ _ _ _ _)
   | (with_reducible exact LeO.refl _)
   | (with_reducible exact LeO.none _)
   | (with_reducible refine LeO.ite ?_ ?_)
   | (with_reducible refine LeO.bind ?_ (fun _ => ?_))
   | exact flat_Segs.mono _ _ _ _ _ _ _ _
   | exact LeO.none _
   | refine LeO.ite ?_ ?_
   | refine LeO.bind ?_ (fun _ => ?_)
set_option maxHeartbeats 8000000 in
set_option maxRecDepth 100000 in
theorem versallaw17_known.calls (k : Nat)  (r : Bool) (w : World) (h : versallaw17_known.f k  = some r) :
  Calls Try.prog 7 #[] w fun e w' => e = .returned (.bool r) ∧ Below w.heap.size w w' := by
 have hu36 := Try.underlying36
 have hu34 := Try.underlying34
 have HB := amk (Below.refl w.heap.size w)
 have H : ((versallaw17_one.f).bind fun bt269 => ((flat_Segs.f k (([(([(⟨0, 0, true⟩ : S36), (⟨0, 9, true⟩ : S36), (⟨9, 0, true⟩ : S36)] : List (S36)))] : List (List (S36)))) bt269.1 bt269.2.1 bt269.2.2.1 bt269.2.2.2.1 bt269.2.2.2.2.1 bt269.2.2.2.2.2).bind fun t275 => (if (t275.length : Int) = 3 then (if 0 < (t275.length : Int) then (if (((rd_T34 t275 0).f0) == 0 && (((rd_T34 t275 0).f1) == 0 && (((rd_T34 t275 0).f2) == 0 && (((rd_T34 t275 0).f3) == 589824)))) = true then (if 2 < (t275.length : Int) then (some (((rd_T34 t275 2).f0) == 589824 && (((rd_T34 t275 2).f1) == 0 && (((rd_T34 t275 2).f2) == 0 && (((rd_T34 t275 2).f3) == 0))))) else (none)) else (some false)) else (none)) else (some false)))) = some r := h
 clear h
 obtain ⟨y263, hy263⟩ : ∃ y_ : List (S36), y_ = (([(⟨0, 0, true⟩ : S36), (⟨0, 9, true⟩ : S36), (⟨9, 0, true⟩ : S36)] : List (S36))) := ⟨_, rfl⟩
 replace H : ((versallaw17_one.f).bind fun bt269 => ((flat_Segs.f k (([y263] : List (List (S36)))) bt269.1 bt269.2.1 bt269.2.2.1 bt269.2.2.2.1 bt269.2.2.2.2.1 bt269.2.2.2.2.2).bind fun t275 => (if (t275.length : Int) = 3 then (if 0 < (t275.length : Int) then (if (((rd_T34 t275 0).f0) == 0 && (((rd_T34 t275 0).f1) == 0 && (((rd_T34 t275 0).f2) == 0 && (((rd_T34 t275 0).f3) == 589824)))) = true then (if 2 < (t275.length : Int) then (some (((rd_T34 t275 2).f0) == 589824 && (((rd_T34 t275 2).f1) == 0 && (((rd_T34 t275 2).f2) == 0 && (((rd_T34 t275 2).f3) == 0))))) else (none)) else (some false)) else (none)) else (some false)))) = some r := by first | (rw [hy263]; with_reducible exact H) | (have H2_ := (Option.bind_some _ _).symm.trans H; rw [hy263]; with_reducible exact H2_) | (have H2_ := (Option.bind_some _ _).symm.trans H; with_reducible exact H2_) | with_reducible exact H | (rw [hy263]; exact H) | exact H
 have Ny263 := amk hy263
 clear hy263
 obtain ⟨y266, hy266⟩ : ∃ y_ : List (List (S36)), y_ = (([y263] : List (List (S36)))) := ⟨_, rfl⟩
 replace H : ((versallaw17_one.f).bind fun bt269 => ((flat_Segs.f k y266 bt269.1 bt269.2.1 bt269.2.2.1 bt269.2.2.2.1 bt269.2.2.2.2.1 bt269.2.2.2.2.2).bind fun t275 => (if (t275.length : Int) = 3 then (if 0 < (t275.length : Int) then (if (((rd_T34 t275 0).f0) == 0 && (((rd_T34 t275 0).f1) == 0 && (((rd_T34 t275 0).f2) == 0 && (((rd_T34 t275 0).f3) == 589824)))) = true then (if 2 < (t275.length : Int) then (some (((rd_T34 t275 2).f0) == 589824 && (((rd_T34 t275 2).f1) == 0 && (((rd_T34 t275 2).f2) == 0 && (((rd_T34 t275 2).f3) == 0))))) else (none)) else (some false)) else (none)) else (some false)))) = some r := by first | (rw [hy266]; with_reducible exact H) | (have H2_ := (Option.bind_some _ _).symm.trans H; rw [hy266]; with_reducible exact H2_) | (have H2_ := (Option.bind_some _ _).symm.trans H; with_reducible exact H2_) | with_reducible exact H | (rw [hy266]; exact H) | exact H
 have Ny266 := amk hy266
 clear hy266
 replace H := Option.bind_eq_some_iff.mp H
 obtain ⟨⟨t269, t270, t271, t272, t273, t274⟩, A10, H⟩ := H
 replace H : ((flat_Segs.f k y266 t269 t270 t271 t272 t273 t274).bind fun t275 => (if (t275.length : Int) = 3 then (if 0 < (t275.length : Int) then (if (((rd_T34 t275 0).f0) == 0 && (((rd_T34 t275 0).f1) == 0 && (((rd_T34 t275 0).f2) == 0 && (((rd_T34 t275 0).f3) == 589824)))) = true then (if 2 < (t275.length : Int) then (some (((rd_T34 t275 2).f0) == 589824 && (((rd_T34 t275 2).f1) == 0 && (((rd_T34 t275 2).f2) == 0 && (((rd_T34 t275 2).f3) == 0))))) else (none)) else (some false)) else (none)) else (some false))) = some r := H
 have A1 := amk A10
 clear A10
 replace H := Option.bind_eq_some_iff.mp H
 obtain ⟨t275, A20, H⟩ := H
 replace H : (if (t275.length : Int) = 3 then (if 0 < (t275.length : Int) then (if (((rd_T34 t275 0).f0) == 0 && (((rd_T34 t275 0).f1) == 0 && (((rd_T34 t275 0).f2) == 0 && (((rd_T34 t275 0).f3) == 589824)))) = true then (if 2 < (t275.length : Int) then (some (((rd_T34 t275 2).f0) == 589824 && (((rd_T34 t275 2).f1) == 0 && (((rd_T34 t275 2).f2) == 0 && (((rd_T34 t275 2).f3) == 0))))) else (none)) else (some false)) else (none)) else (some false)) = some r := H
 have A2 := amk A20
 clear A20
 by_cases c3 : (t275.length : Int) = 3
 ·rw [if_pos c3] at H
  have c3b0 : ((t275.length : Int) == 3) = true := beq_iff_eq.mpr c3
  have c3b1 : ((t275.length : Int) != 3) = false := bne_eq_false_iff_eq.mpr c3
  clear c3
  by_cases c4 : 0 < (t275.length : Int)
  ·rw [if_pos c4] at H
   have c4b0 : decide (0 < (t275.length : Int)) = true := decide_eq_true c4
   have c4b1 : decide (0 < t275.length) = true := decide_eq_true (by omega)
   clear c4
   by_cases c5 : (((rd_T34 t275 0).f0) == 0 && (((rd_T34 t275 0).f1) == 0 && (((rd_T34 t275 0).f2) == 0 && (((rd_T34 t275 0).f3) == 589824)))) = true
   ·rw [if_pos c5] at H
    have c5b0 : (((rd_T34 t275 0).f0) == 0 && (((rd_T34 t275 0).f1) == 0 && (((rd_T34 t275 0).f2) == 0 && (((rd_T34 t275 0).f3) == 589824)))) = true := c5
    (try (have c5b1 : decide (((rd_T34 t275 0).f0) = 0 && (((rd_T34 t275 0).f1) == 0 && (((rd_T34 t275 0).f2) == 0 && (((rd_T34 t275 0).f3) == 589824)))) = true := by simpa using c5))
    (try (have c5b2 : (((rd_T34 t275 0).f0) == 0 && (((rd_T34 t275 0).f1) == 0 && (((rd_T34 t275 0).f2) == 0 && (((rd_T34 t275 0).f3) == 589824)))) = true := by simpa using c5))
    clear c5
    by_cases c6 : 2 < (t275.length : Int)
    ·rw [if_pos c6] at H
     have c6b0 : decide (2 < (t275.length : Int)) = true := decide_eq_true c6
     have c6b1 : decide (2 < t275.length) = true := decide_eq_true (by omega)
     clear c6
     obtain rfl := Option.some.inj H
     go_enter Try.func7, Try.ntmps7
     go_wp2_with (first | ((with_reducible refine gate_dst (N := 5) rfl ?_); refine Kd.R_lit k36 _ 36 ?hg (N := 5) ?hd (xs := ([(⟨0, 0, true⟩ : S36), (⟨0, 9, true⟩ : S36), (⟨9, 0, true⟩ : S36)] : List (S36))) (inner := [.int .i64 0, .int .i64 0, .bool true, .int .i64 0, .int .i64 9, .bool true, .int .i64 9, .int .i64 0, .bool true]) (ok := fun _ => True) (okp := fun _ => True) ?hr ?hp (fun _ hk => hk) trivial (Below.refl _ _) (Nat.le_refl _) (by simp) ?_; (case hd => rfl); (case hg => rfl); (case hr => first | (go_simp; done) | (go_simp; rfl)); (case hp => exact (Reps.c3 (show Kd.M k36 _ _ _ (⟨0, 0, true⟩ : S36) [.int .i64 0, .int .i64 0, .bool true] from (k36_mkM _ _ _ (⟨0, 0, true⟩ : S36) )) (Reps.c3 (show Kd.M k36 _ _ _ (⟨0, 9, true⟩ : S36) [.int .i64 0, .int .i64 9, .bool true] from (k36_mkM _ _ _ (⟨0, 9, true⟩ : S36) )) (Reps.c3 (show Kd.M k36 _ _ _ (⟨9, 0, true⟩ : S36) [.int .i64 9, .int .i64 0, .bool true] from (k36_mkM _ _ _ (⟨9, 0, true⟩ : S36) )) (Reps.none _ _))))); intro v264 w7 ho8 hb hg_ hnew_; clear hg_ hnew_; (first | rw [← Ny263.out] at ho8 | (simp only [Int.reduceToNat] at ho8; rw [← Ny263.out] at ho8)); have n0_ := amk (Kd.R_lower ho8 (below_size (by repeat (first | (with_reducible first | exact HB.out | apply bAl | apply bDN | apply bD1) | exact HB.out)))); have n1_ := amk (below_step (by repeat (first | (with_reducible first | exact HB.out | apply bAl | apply bDN | apply bD1) | exact HB.out)) hb); clear HB; have HO265 := n0_; have HB := n1_; clear n0_ n1_; clear hb ho8; obtain ⟨Ao9, co9, eo9⟩ := Kd.R_slice HO265.out; subst eo9) | ((with_reducible refine gate_dst (N := 6) rfl ?_); refine Kd.N_lit (Kd.slice 36 k36) _ 30 ?hg (N' := 6) ?hd (xs := ([y263] : List (List (S36)))) (inner := [.slice Ao9 y263.length co9]) (ok := (fun _ => True)) (okp := (fun _ => True)) ?hr ?hp (fun _ hk => hk) ((show ∀ k_, w7.heap.size ≤ k_ → (fun _ => True) k_ from fun k_ hk => trivial) _ (Nat.le_refl _)) (Below.refl _ _) (Nat.le_refl _) (by simp) ?_; (case hd => rfl); (case hg => rfl); (case hr => first | (go_simp; done) | (go_simp; rfl)); (case hp => exact (Reps.one (show Kd.FK (Kd.slice 36 k36) _ _ y263 [.slice Ao9 y263.length co9] from (Kd.FK_slice_mk (Kd.R_reads' (Kd.R_mono (ok' := (fun _ => True)) (HO265.out) (fun k_ hk => trivial))).2.1 (Kd.R_F (Kd.R_mono (ok' := (fun _ => True)) (HO265.out) (fun k_ hk => trivial))))) (Reps.none _ _))); intro v267 w10 ho11 hb hg_ hnew_; clear hg_ hnew_; (first | rw [← Ny266.out] at ho11 | (simp only [Int.reduceToNat] at ho11; rw [← Ny266.out] at ho11)); have n0_ := amk (Kd.N_lower ho11 (below_size (by repeat (first | (with_reducible first | exact HB.out | apply bAl | apply bDN | apply bD1) | exact HB.out)))); have n1_ := amk (below_step (by repeat (first | (with_reducible first | exact HB.out | apply bAl | apply bDN | apply bD1) | exact HB.out)) hb); clear HB; clear HO265; have HO268 := n0_; have HB := n1_; clear n0_ n1_; clear hb ho11) | ((with_reducible refine gate_callee (f := 13) rfl ?_); refine goesL_ (some 7) rfl rfl Try.func13 (by kernel_rfl) rfl #[] rfl (by (try simp only [List.map_toArray, List.map_cons, List.map_nil]); first | done | rfl | (simp only [List.length_drop, List.length_take]; rfl)) ?_; (with_reducible refine (versallaw17_one.calls  t269 t270 t271 t272 t273 t274 _ A1.out).mono ?_); rintro e w12 ⟨rfl, hb⟩; refine ⟨_, rfl, ?_⟩; have n0_ := amk (Kd.N_below (by (with_reducible repeat (first | apply Kd.N_alloc | apply Kd.N_drewN | apply Kd.N_drew)); exact HO268.out) hb); have n1_ := amk (below_step (by repeat (first | (with_reducible first | exact HB.out | apply bAl | apply bDN | apply bD1) | exact HB.out)) hb); clear HO268; clear HB; have HO268 := n0_; have HB := n1_; clear n0_ n1_; (try clear hb); (try clear hb2); (try clear hk); (try clear hi); obtain ⟨Ao13, co13, eo13⟩ := Kd.N_slice HO268.out; subst eo13) | ((with_reducible refine gate_callee (f := 10) rfl ?_); refine goesL_ (some 8) rfl rfl Try.func10 (by kernel_rfl) rfl #[.slice Ao13 y266.length co13, .agg #[.int .i64 t269, .int .i64 t270, .int .i64 t271, .int .i64 t272, .int .i64 t273, .int .i64 t274]] rfl (by (try simp only [List.map_toArray, List.map_cons, List.map_nil]); first | done | rfl | (simp only [List.length_drop, List.length_take]; rfl)) ?_; (with_reducible refine (flat_Segs.calls k _ _ y266 t269 t270 t271 t272 t273 t274 t275 _ ?side1 ?side2 A2.out).mono ?_); (case side1 => repeat (first | exact (Kd.N_reads' HO268.out).2.2 | (with_reducible refine Kd.C_alloc ?_ _) | (with_reducible refine Kd.C_drewN ?_ _) | (with_reducible refine Kd.C_drew ?_))); (case side2 => exact (Kd.N_reads' HO268.out).2.1); rintro e w14 ⟨v276, rfl, ho0, hb⟩; refine ⟨_, rfl, ?_⟩; have n0_ := amk (Kd.N_elder' (by (with_reducible repeat (first | apply Kd.N_alloc | apply Kd.N_drewN | apply Kd.N_drew)); exact HO268.out) (Kd.R_base ho0) hb); have n1_ := amk (Kd.R_lower ho0 (below_size (by repeat (first | (with_reducible first | exact HB.out | apply bAl | apply bDN | apply bD1) | exact HB.out)))); have n2_ := amk (below_step (by repeat (first | (with_reducible first | exact HB.out | apply bAl | apply bDN | apply bD1) | exact HB.out)) hb); clear HO268; clear HB; have HO268 := n0_; have HO277 := n1_; have HB := n2_; clear n0_ n1_ n2_; (try clear hb); (try clear hb2); (try clear hk); (try clear hi); (try clear ho0); obtain ⟨Ao15, co15, eo15⟩ := Kd.R_slice HO277.out; subst eo15; have p278 : 0 ≤ (0 : Int) := (by omega); have q278 : 0 < (t275.length : Int) := of_decide_eq_true (by first | (with_reducible assumption) | assumption); obtain ⟨ad278, e278, hx278_0, hx278_1, hx278_2, hx278_3⟩ := at_T34 (Kd.R_reads' HO277.out).2.2 0 p278 q278; cases e278; have qi278 : (0 < t275.length) = True := eq_true (by omega); (try rw [show ((0 : Int)).toNat = 0 from rfl] at hx278_0); (try rw [show 0 * 4 = 0 from rfl] at hx278_0); (try rw [Addr.add_zero'] at hx278_0); (try rw [show ((0 : Int)).toNat = 0 from rfl] at hx278_1); (try rw [show 0 * 4 = 0 from rfl] at hx278_1); (try rw [Addr.add_zero'] at hx278_1); (try rw [show ((0 : Int)).toNat = 0 from rfl] at hx278_2); (try rw [show 0 * 4 = 0 from rfl] at hx278_2); (try rw [Addr.add_zero'] at hx278_2); (try rw [show ((0 : Int)).toNat = 0 from rfl] at hx278_3); (try rw [show 0 * 4 = 0 from rfl] at hx278_3); (try rw [Addr.add_zero'] at hx278_3); replace p278 := eq_true p278; replace q278 := eq_true q278; have p279 : 0 ≤ (2 : Int) := (by omega); have q279 : 2 < (t275.length : Int) := of_decide_eq_true (by first | (with_reducible assumption) | assumption); obtain ⟨ad279, e279, hx279_0, hx279_1, hx279_2, hx279_3⟩ := at_T34 (Kd.R_reads' HO277.out).2.2 2 p279 q279; obtain rfl : ad278 = ad279 := (by injection e279); (try simp only [show (2 : Int).toNat = 2 from rfl, Nat.reduceMul, Nat.reduceEqDiff, Go.Addr.add, ↓reduceIte] at hx279_0); (try simp only [show (2 : Int).toNat = 2 from rfl, Nat.reduceMul, Nat.reduceEqDiff, Go.Addr.add, ↓reduceIte] at hx279_1); (try simp only [show (2 : Int).toNat = 2 from rfl, Nat.reduceMul, Nat.reduceEqDiff, Go.Addr.add, ↓reduceIte] at hx279_2); (try simp only [show (2 : Int).toNat = 2 from rfl, Nat.reduceMul, Nat.reduceEqDiff, Go.Addr.add, ↓reduceIte] at hx279_3); have qi279 : (2 < t275.length) = True := eq_true (by omega); (try rw [show ((2 : Int)).toNat = 2 from rfl] at hx279_0); (try rw [show 2 * 4 = 8 from rfl] at hx279_0); (try rw [show ((2 : Int)).toNat = 2 from rfl] at hx279_1); (try rw [show 2 * 4 = 8 from rfl] at hx279_1); (try rw [show ((2 : Int)).toNat = 2 from rfl] at hx279_2); (try rw [show 2 * 4 = 8 from rfl] at hx279_2); (try rw [show ((2 : Int)).toNat = 2 from rfl] at hx279_3); (try rw [show 2 * 4 = 8 from rfl] at hx279_3); replace p279 := eq_true p279; replace q279 := eq_true q279))
     go_ret
     exact ⟨by first | rfl | (simp [errW_none, errW_some] <;> rfl) | (simp [*, errW_none, errW_some] <;> rfl), by repeat (first | (with_reducible first | exact HB.out | apply bAl | apply bDN | apply bD1) | exact HB.out)⟩
    ·rw [if_neg c6] at H
     exact absurd H (by simp)
   ·rw [if_neg c5] at H
    have c5b0 : (((rd_T34 t275 0).f0) == 0 && (((rd_T34 t275 0).f1) == 0 && (((rd_T34 t275 0).f2) == 0 && (((rd_T34 t275 0).f3) == 589824)))) = false := by simpa using c5
    (try (have c5b1 : decide (((rd_T34 t275 0).f0) = 0 && (((rd_T34 t275 0).f1) == 0 && (((rd_T34 t275 0).f2) == 0 && (((rd_T34 t275 0).f3) == 589824)))) = false := by simpa using c5))
    (try (have c5b2 : (((rd_T34 t275 0).f0) == 0 && (((rd_T34 t275 0).f1) == 0 && (((rd_T34 t275 0).f2) == 0 && (((rd_T34 t275 0).f3) == 589824)))) = false := by simpa using c5))
    (try (have c5b3 : ¬ (((rd_T34 t275 0).f0) = 0 && (((rd_T34 t275 0).f1) == 0 && (((rd_T34 t275 0).f2) == 0 && (((rd_T34 t275 0).f3) == 589824)))) := by simpa using c5))
    clear c5
    obtain rfl := Option.some.inj H
    go_enter Try.func7, Try.ntmps7
    go_wp2_with (first | ((with_reducible refine gate_dst (N := 5) rfl ?_); refine Kd.R_lit k36 _ 36 ?hg (N := 5) ?hd (xs := ([(⟨0, 0, true⟩ : S36), (⟨0, 9, true⟩ : S36), (⟨9, 0, true⟩ : S36)] : List (S36))) (inner := [.int .i64 0, .int .i64 0, .bool true, .int .i64 0, .int .i64 9, .bool true, .int .i64 9, .int .i64 0, .bool true]) (ok := fun _ => True) (okp := fun _ => True) ?hr ?hp (fun _ hk => hk) trivial (Below.refl _ _) (Nat.le_refl _) (by simp) ?_; (case hd => rfl); (case hg => rfl); (case hr => first | (go_simp; done) | (go_simp; rfl)); (case hp => exact (Reps.c3 (show Kd.M k36 _ _ _ (⟨0, 0, true⟩ : S36) [.int .i64 0, .int .i64 0, .bool true] from (k36_mkM _ _ _ (⟨0, 0, true⟩ : S36) )) (Reps.c3 (show Kd.M k36 _ _ _ (⟨0, 9, true⟩ : S36) [.int .i64 0, .int .i64 9, .bool true] from (k36_mkM _ _ _ (⟨0, 9, true⟩ : S36) )) (Reps.c3 (show Kd.M k36 _ _ _ (⟨9, 0, true⟩ : S36) [.int .i64 9, .int .i64 0, .bool true] from (k36_mkM _ _ _ (⟨9, 0, true⟩ : S36) )) (Reps.none _ _))))); intro v264 w16 ho17 hb hg_ hnew_; clear hg_ hnew_; (first | rw [← Ny263.out] at ho17 | (simp only [Int.reduceToNat] at ho17; rw [← Ny263.out] at ho17)); have n0_ := amk (Kd.R_lower ho17 (below_size (by repeat (first | (with_reducible first | exact HB.out | apply bAl | apply bDN | apply bD1) | exact HB.out)))); have n1_ := amk (below_step (by repeat (first | (with_reducible first | exact HB.out | apply bAl | apply bDN | apply bD1) | exact HB.out)) hb); clear HB; have HO265 := n0_; have HB := n1_; clear n0_ n1_; clear hb ho17; obtain ⟨Ao18, co18, eo18⟩ := Kd.R_slice HO265.out; subst eo18) | ((with_reducible refine gate_dst (N := 6) rfl ?_); refine Kd.N_lit (Kd.slice 36 k36) _ 30 ?hg (N' := 6) ?hd (xs := ([y263] : List (List (S36)))) (inner := [.slice Ao18 y263.length co18]) (ok := (fun _ => True)) (okp := (fun _ => True)) ?hr ?hp (fun _ hk => hk) ((show ∀ k_, w16.heap.size ≤ k_ → (fun _ => True) k_ from fun k_ hk => trivial) _ (Nat.le_refl _)) (Below.refl _ _) (Nat.le_refl _) (by simp) ?_; (case hd => rfl); (case hg => rfl); (case hr => first | (go_simp; done) | (go_simp; rfl)); (case hp => exact (Reps.one (show Kd.FK (Kd.slice 36 k36) _ _ y263 [.slice Ao18 y263.length co18] from (Kd.FK_slice_mk (Kd.R_reads' (Kd.R_mono (ok' := (fun _ => True)) (HO265.out) (fun k_ hk => trivial))).2.1 (Kd.R_F (Kd.R_mono (ok' := (fun _ => True)) (HO265.out) (fun k_ hk => trivial))))) (Reps.none _ _))); intro v267 w19 ho20 hb hg_ hnew_; clear hg_ hnew_; (first | rw [← Ny266.out] at ho20 | (simp only [Int.reduceToNat] at ho20; rw [← Ny266.out] at ho20)); have n0_ := amk (Kd.N_lower ho20 (below_size (by repeat (first | (with_reducible first | exact HB.out | apply bAl | apply bDN | apply bD1) | exact HB.out)))); have n1_ := amk (below_step (by repeat (first | (with_reducible first | exact HB.out | apply bAl | apply bDN | apply bD1) | exact HB.out)) hb); clear HB; clear HO265; have HO268 := n0_; have HB := n1_; clear n0_ n1_; clear hb ho20) | ((with_reducible refine gate_callee (f := 13) rfl ?_); refine goesL_ (some 7) rfl rfl Try.func13 (by kernel_rfl) rfl #[] rfl (by (try simp only [List.map_toArray, List.map_cons, List.map_nil]); first | done | rfl | (simp only [List.length_drop, List.length_take]; rfl)) ?_; (with_reducible refine (versallaw17_one.calls  t269 t270 t271 t272 t273 t274 _ A1.out).mono ?_); rintro e w21 ⟨rfl, hb⟩; refine ⟨_, rfl, ?_⟩; have n0_ := amk (Kd.N_below (by (with_reducible repeat (first | apply Kd.N_alloc | apply Kd.N_drewN | apply Kd.N_drew)); exact HO268.out) hb); have n1_ := amk (below_step (by repeat (first | (with_reducible first | exact HB.out | apply bAl | apply bDN | apply bD1) | exact HB.out)) hb); clear HO268; clear HB; have HO268 := n0_; have HB := n1_; clear n0_ n1_; (try clear hb); (try clear hb2); (try clear hk); (try clear hi); obtain ⟨Ao22, co22, eo22⟩ := Kd.N_slice HO268.out; subst eo22) | ((with_reducible refine gate_callee (f := 10) rfl ?_); refine goesL_ (some 8) rfl rfl Try.func10 (by kernel_rfl) rfl #[.slice Ao22 y266.length co22, .agg #[.int .i64 t269, .int .i64 t270, .int .i64 t271, .int .i64 t272, .int .i64 t273, .int .i64 t274]] rfl (by (try simp only [List.map_toArray, List.map_cons, List.map_nil]); first | done | rfl | (simp only [List.length_drop, List.length_take]; rfl)) ?_; (with_reducible refine (flat_Segs.calls k _ _ y266 t269 t270 t271 t272 t273 t274 t275 _ ?side1 ?side2 A2.out).mono ?_); (case side1 => repeat (first | exact (Kd.N_reads' HO268.out).2.2 | (with_reducible refine Kd.C_alloc ?_ _) | (with_reducible refine Kd.C_drewN ?_ _) | (with_reducible refine Kd.C_drew ?_))); (case side2 => exact (Kd.N_reads' HO268.out).2.1); rintro e w23 ⟨v276, rfl, ho0, hb⟩; refine ⟨_, rfl, ?_⟩; have n0_ := amk (Kd.N_elder' (by (with_reducible repeat (first | apply Kd.N_alloc | apply Kd.N_drewN | apply Kd.N_drew)); exact HO268.out) (Kd.R_base ho0) hb); have n1_ := amk (Kd.R_lower ho0 (below_size (by repeat (first | (with_reducible first | exact HB.out | apply bAl | apply bDN | apply bD1) | exact HB.out)))); have n2_ := amk (below_step (by repeat (first | (with_reducible first | exact HB.out | apply bAl | apply bDN | apply bD1) | exact HB.out)) hb); clear HO268; clear HB; have HO268 := n0_; have HO277 := n1_; have HB := n2_; clear n0_ n1_ n2_; (try clear hb); (try clear hb2); (try clear hk); (try clear hi); (try clear ho0); obtain ⟨Ao24, co24, eo24⟩ := Kd.R_slice HO277.out; subst eo24; have p278 : 0 ≤ (0 : Int) := (by omega); have q278 : 0 < (t275.length : Int) := of_decide_eq_true (by first | (with_reducible assumption) | assumption); obtain ⟨ad278, e278, hx278_0, hx278_1, hx278_2, hx278_3⟩ := at_T34 (Kd.R_reads' HO277.out).2.2 0 p278 q278; cases e278; have qi278 : (0 < t275.length) = True := eq_true (by omega); (try rw [show ((0 : Int)).toNat = 0 from rfl] at hx278_0); (try rw [show 0 * 4 = 0 from rfl] at hx278_0); (try rw [Addr.add_zero'] at hx278_0); (try rw [show ((0 : Int)).toNat = 0 from rfl] at hx278_1); (try rw [show 0 * 4 = 0 from rfl] at hx278_1); (try rw [Addr.add_zero'] at hx278_1); (try rw [show ((0 : Int)).toNat = 0 from rfl] at hx278_2); (try rw [show 0 * 4 = 0 from rfl] at hx278_2); (try rw [Addr.add_zero'] at hx278_2); (try rw [show ((0 : Int)).toNat = 0 from rfl] at hx278_3); (try rw [show 0 * 4 = 0 from rfl] at hx278_3); (try rw [Addr.add_zero'] at hx278_3); replace p278 := eq_true p278; replace q278 := eq_true q278))
    go_ret
    exact ⟨by first | rfl | (simp [errW_none, errW_some] <;> rfl) | (simp [*, errW_none, errW_some] <;> rfl), by repeat (first | (with_reducible first | exact HB.out | apply bAl | apply bDN | apply bD1) | exact HB.out)⟩
  ·rw [if_neg c4] at H
   exact absurd H (by simp)
 ·rw [if_neg c3] at H
  have c3b0 : ((t275.length : Int) == 3) = false := beq_eq_false_iff_ne.mpr c3
  have c3b1 : ((t275.length : Int) != 3) = true := bne_iff_ne.mpr c3
  obtain rfl := Option.some.inj H
  go_enter Try.func7, Try.ntmps7
  go_wp2_with (first | ((with_reducible refine gate_dst (N := 5) rfl ?_); refine Kd.R_lit k36 _ 36 ?hg (N := 5) ?hd (xs := ([(⟨0, 0, true⟩ : S36), (⟨0, 9, true⟩ : S36), (⟨9, 0, true⟩ : S36)] : List (S36))) (inner := [.int .i64 0, .int .i64 0, .bool true, .int .i64 0, .int .i64 9, .bool true, .int .i64 9, .int .i64 0, .bool true]) (ok := fun _ => True) (okp := fun _ => True) ?hr ?hp (fun _ hk => hk) trivial (Below.refl _ _) (Nat.le_refl _) (by simp) ?_; (case hd => rfl); (case hg => rfl); (case hr => first | (go_simp; done) | (go_simp; rfl)); (case hp => exact (Reps.c3 (show Kd.M k36 _ _ _ (⟨0, 0, true⟩ : S36) [.int .i64 0, .int .i64 0, .bool true] from (k36_mkM _ _ _ (⟨0, 0, true⟩ : S36) )) (Reps.c3 (show Kd.M k36 _ _ _ (⟨0, 9, true⟩ : S36) [.int .i64 0, .int .i64 9, .bool true] from (k36_mkM _ _ _ (⟨0, 9, true⟩ : S36) )) (Reps.c3 (show Kd.M k36 _ _ _ (⟨9, 0, true⟩ : S36) [.int .i64 9, .int .i64 0, .bool true] from (k36_mkM _ _ _ (⟨9, 0, true⟩ : S36) )) (Reps.none _ _))))); intro v264 w25 ho26 hb hg_ hnew_; clear hg_ hnew_; (first | rw [← Ny263.out] at ho26 | (simp only [Int.reduceToNat] at ho26; rw [← Ny263.out] at ho26)); have n0_ := amk (Kd.R_lower ho26 (below_size (by repeat (first | (with_reducible first | exact HB.out | apply bAl | apply bDN | apply bD1) | exact HB.out)))); have n1_ := amk (below_step (by repeat (first | (with_reducible first | exact HB.out | apply bAl | apply bDN | apply bD1) | exact HB.out)) hb); clear HB; have HO265 := n0_; have HB := n1_; clear n0_ n1_; clear hb ho26; obtain ⟨Ao27, co27, eo27⟩ := Kd.R_slice HO265.out; subst eo27) | ((with_reducible refine gate_dst (N := 6) rfl ?_); refine Kd.N_lit (Kd.slice 36 k36) _ 30 ?hg (N' := 6) ?hd (xs := ([y263] : List (List (S36)))) (inner := [.slice Ao27 y263.length co27]) (ok := (fun _ => True)) (okp := (fun _ => True)) ?hr ?hp (fun _ hk => hk) ((show ∀ k_, w25.heap.size ≤ k_ → (fun _ => True) k_ from fun k_ hk => trivial) _ (Nat.le_refl _)) (Below.refl _ _) (Nat.le_refl _) (by simp) ?_; (case hd => rfl); (case hg => rfl); (case hr => first | (go_simp; done) | (go_simp; rfl)); (case hp => exact (Reps.one (show Kd.FK (Kd.slice 36 k36) _ _ y263 [.slice Ao27 y263.length co27] from (Kd.FK_slice_mk (Kd.R_reads' (Kd.R_mono (ok' := (fun _ => True)) (HO265.out) (fun k_ hk => trivial))).2.1 (Kd.R_F (Kd.R_mono (ok' := (fun _ => True)) (HO265.out) (fun k_ hk => trivial))))) (Reps.none _ _))); intro v267 w28 ho29 hb hg_ hnew_; clear hg_ hnew_; (first | rw [← Ny266.out] at ho29 | (simp only [Int.reduceToNat] at ho29; rw [← Ny266.out] at ho29)); have n0_ := amk (Kd.N_lower ho29 (below_size (by repeat (first | (with_reducible first | exact HB.out | apply bAl | apply bDN | apply bD1) | exact HB.out)))); have n1_ := amk (below_step (by repeat (first | (with_reducible first | exact HB.out | apply bAl | apply bDN | apply bD1) | exact HB.out)) hb); clear HB; clear HO265; have HO268 := n0_; have HB := n1_; clear n0_ n1_; clear hb ho29) | ((with_reducible refine gate_callee (f := 13) rfl ?_); refine goesL_ (some 7) rfl rfl Try.func13 (by kernel_rfl) rfl #[] rfl (by (try simp only [List.map_toArray, List.map_cons, List.map_nil]); first | done | rfl | (simp only [List.length_drop, List.length_take]; rfl)) ?_; (with_reducible refine (versallaw17_one.calls  t269 t270 t271 t272 t273 t274 _ A1.out).mono ?_); rintro e w30 ⟨rfl, hb⟩; refine ⟨_, rfl, ?_⟩; have n0_ := amk (Kd.N_below (by (with_reducible repeat (first | apply Kd.N_alloc | apply Kd.N_drewN | apply Kd.N_drew)); exact HO268.out) hb); have n1_ := amk (below_step (by repeat (first | (with_reducible first | exact HB.out | apply bAl | apply bDN | apply bD1) | exact HB.out)) hb); clear HO268; clear HB; have HO268 := n0_; have HB := n1_; clear n0_ n1_; (try clear hb); (try clear hb2); (try clear hk); (try clear hi); obtain ⟨Ao31, co31, eo31⟩ := Kd.N_slice HO268.out; subst eo31) | ((with_reducible refine gate_callee (f := 10) rfl ?_); refine goesL_ (some 8) rfl rfl Try.func10 (by kernel_rfl) rfl #[.slice Ao31 y266.length co31, .agg #[.int .i64 t269, .int .i64 t270, .int .i64 t271, .int .i64 t272, .int .i64 t273, .int .i64 t274]] rfl (by (try simp only [List.map_toArray, List.map_cons, List.map_nil]); first | done | rfl | (simp only [List.length_drop, List.length_take]; rfl)) ?_; (with_reducible refine (flat_Segs.calls k _ _ y266 t269 t270 t271 t272 t273 t274 t275 _ ?side1 ?side2 A2.out).mono ?_); (case side1 => repeat (first | exact (Kd.N_reads' HO268.out).2.2 | (with_reducible refine Kd.C_alloc ?_ _) | (with_reducible refine Kd.C_drewN ?_ _) | (with_reducible refine Kd.C_drew ?_))); (case side2 => exact (Kd.N_reads' HO268.out).2.1); rintro e w32 ⟨v276, rfl, ho0, hb⟩; refine ⟨_, rfl, ?_⟩; have n0_ := amk (Kd.N_elder' (by (with_reducible repeat (first | apply Kd.N_alloc | apply Kd.N_drewN | apply Kd.N_drew)); exact HO268.out) (Kd.R_base ho0) hb); have n1_ := amk (Kd.R_lower ho0 (below_size (by repeat (first | (with_reducible first | exact HB.out | apply bAl | apply bDN | apply bD1) | exact HB.out)))); have n2_ := amk (below_step (by repeat (first | (with_reducible first | exact HB.out | apply bAl | apply bDN | apply bD1) | exact HB.out)) hb); clear HO268; clear HB; have HO268 := n0_; have HO277 := n1_; have HB := n2_; clear n0_ n1_ n2_; (try clear hb); (try clear hb2); (try clear hk); (try clear hi); (try clear ho0); obtain ⟨Ao33, co33, eo33⟩ := Kd.R_slice HO277.out; subst eo33))
  go_ret
  exact ⟨by first | rfl | (simp [errW_none, errW_some] <;> rfl) | (simp [*, errW_none, errW_some] <;> rfl), by repeat (first | (with_reducible first | exact HB.out | apply bAl | apply bDN | apply bD1) | exact HB.out)⟩

/-! ### versalhand_Pick: function 28 -/
def versalhand_Pick.f (a0 : Int) (a1 : Int) : Option (Int) := if a1 = 0 then (none) else (if (Int.tmod a0 a1) < 0 then (some (wrap64 ((Int.tmod a0 a1) + a1))) else (some (Int.tmod a0 a1)))
set_option maxHeartbeats 8000000 in
set_option maxRecDepth 100000 in
theorem versalhand_Pick.calls (a0 : Int) (a1 : Int) (r : Int) (w : World) (h : versalhand_Pick.f a0 a1 = some r) :
  Calls Try.prog 28 #[.int .i64 a0, .int .i64 a1] w fun e w' => e = .returned (.int .i64 r) ∧ Drawn0 w w' := by
 have H : (if a1 = 0 then (none) else (if (Int.tmod a0 a1) < 0 then (some (wrap64 ((Int.tmod a0 a1) + a1))) else (some (Int.tmod a0 a1)))) = some r := h
 clear h
 by_cases c3 : a1 = 0
 ·rw [if_pos c3] at H
  exact absurd H (by simp)
 ·rw [if_neg c3] at H
  have c3b0 : (a1 == 0) = false := beq_eq_false_iff_ne.mpr c3
  have c3b1 : (a1 != 0) = true := bne_iff_ne.mpr c3
  by_cases c4 : (Int.tmod a0 a1) < 0
  ·rw [if_pos c4] at H
   have c4b0 : decide ((Int.tmod a0 a1) < 0) = true := decide_eq_true c4
   clear c4
   obtain rfl := Option.some.inj H
   go_enter Try.func28, Try.ntmps28
   go_wp2
   go_ret
   exact ⟨by first | rfl | (simp; done) | (simp [*]; done), by repeat (first | exact Drawn0.refl _ | apply Drawn0.step)⟩
  ·rw [if_neg c4] at H
   have c4b0 : decide ((Int.tmod a0 a1) < 0) = false := decide_eq_false c4
   clear c4
   obtain rfl := Option.some.inj H
   go_enter Try.func28, Try.ntmps28
   go_wp2
   go_ret
   exact ⟨by first | rfl | (simp; done) | (simp [*]; done), by repeat (first | exact Drawn0.refl _ | apply Drawn0.step)⟩

/-! ### versalhand_Num: function 29 -/
def versalhand_Num.f (a0 : Int) : Option (Int) := (versalhand_Pick.f a0 8).bind fun t280 => (if t280 = 0 then (some a0) else (if t280 = 1 then ((versalhand_Pick.f (wrap64 (Int.tdiv a0 8)) 2001).bind fun t281 => (some (wrap64 ((wrap64 (t281 - 1000)) * 65536)))) else (if t280 = 2 then ((versalhand_Pick.f (wrap64 (Int.tdiv a0 8)) 9).bind fun t282 => (some (wrap64 (t282 - 4)))) else (if t280 = 3 then ((versalhand_Pick.f (wrap64 (Int.tdiv a0 8)) 9).bind fun t283 => (some (wrap64 ((wrap64 (t283 - 4)) * 32768)))) else ((versalhand_Pick.f (wrap64 (Int.tdiv a0 8)) 1310720).bind fun t284 => (some (wrap64 (t284 - 655360))))))))
set_option maxHeartbeats 8000000 in
set_option maxRecDepth 100000 in
theorem versalhand_Num.calls (a0 : Int) (r : Int) (w : World) (h : versalhand_Num.f a0 = some r) :
  Calls Try.prog 29 #[.int .i64 a0] w fun e w' => e = .returned (.int .i64 r) ∧ Drawn0 w w' := by
 have H : ((versalhand_Pick.f a0 8).bind fun t280 => (if t280 = 0 then (some a0) else (if t280 = 1 then ((versalhand_Pick.f (wrap64 (Int.tdiv a0 8)) 2001).bind fun t281 => (some (wrap64 ((wrap64 (t281 - 1000)) * 65536)))) else (if t280 = 2 then ((versalhand_Pick.f (wrap64 (Int.tdiv a0 8)) 9).bind fun t282 => (some (wrap64 (t282 - 4)))) else (if t280 = 3 then ((versalhand_Pick.f (wrap64 (Int.tdiv a0 8)) 9).bind fun t283 => (some (wrap64 ((wrap64 (t283 - 4)) * 32768)))) else ((versalhand_Pick.f (wrap64 (Int.tdiv a0 8)) 1310720).bind fun t284 => (some (wrap64 (t284 - 655360))))))))) = some r := h
 clear h
 replace H := Option.bind_eq_some_iff.mp H
 obtain ⟨t280, A20, H⟩ := H
 replace H : (if t280 = 0 then (some a0) else (if t280 = 1 then ((versalhand_Pick.f (wrap64 (Int.tdiv a0 8)) 2001).bind fun t281 => (some (wrap64 ((wrap64 (t281 - 1000)) * 65536)))) else (if t280 = 2 then ((versalhand_Pick.f (wrap64 (Int.tdiv a0 8)) 9).bind fun t282 => (some (wrap64 (t282 - 4)))) else (if t280 = 3 then ((versalhand_Pick.f (wrap64 (Int.tdiv a0 8)) 9).bind fun t283 => (some (wrap64 ((wrap64 (t283 - 4)) * 32768)))) else ((versalhand_Pick.f (wrap64 (Int.tdiv a0 8)) 1310720).bind fun t284 => (some (wrap64 (t284 - 655360)))))))) = some r := H
 have A2 := amk A20
 clear A20
 by_cases c3 : t280 = 0
 ·rw [if_pos c3] at H
  have c3b0 : (t280 == 0) = true := beq_iff_eq.mpr c3
  have c3b1 : (t280 != 0) = false := bne_eq_false_iff_eq.mpr c3
  clear c3
  obtain rfl := Option.some.inj H
  go_enter Try.func29, Try.ntmps29
  go_wp2_with (first | ((with_reducible refine gate_callee (f := 28) rfl ?_); refine goesL_ (some 4) rfl rfl Try.func28 (by kernel_rfl) rfl #[.int .i64 a0, .int .i64 8] rfl (by (try simp only [List.map_toArray, List.map_cons, List.map_nil]); first | done | rfl | (simp only [List.length_drop, List.length_take]; rfl)) ?_; (with_reducible refine (versalhand_Pick.calls a0 8 t280 _ A2.out).mono ?_); rintro e w' ⟨rfl, ⟨nd, rfl⟩⟩; refine ⟨_, rfl, ?_⟩))
  go_ret
  exact ⟨by first | rfl | (simp; done) | (simp [*]; done), by repeat (first | exact Drawn0.refl _ | apply Drawn0.step)⟩
 ·rw [if_neg c3] at H
  have c3b0 : (t280 == 0) = false := beq_eq_false_iff_ne.mpr c3
  have c3b1 : (t280 != 0) = true := bne_iff_ne.mpr c3
  by_cases c4 : t280 = 1
  ·rw [if_pos c4] at H
   have c4b0 : (t280 == 1) = true := beq_iff_eq.mpr c4
   have c4b1 : (t280 != 1) = false := bne_eq_false_iff_eq.mpr c4
   clear c4
   replace H := Option.bind_eq_some_iff.mp H
   obtain ⟨t281, A50, H⟩ := H
   replace H : (some (wrap64 ((wrap64 (t281 - 1000)) * 65536))) = some r := H
   have A5 := amk A50
   clear A50
   obtain rfl := Option.some.inj H
   go_enter Try.func29, Try.ntmps29
   go_wp2_with (first | ((with_reducible refine gate_callee (f := 28) rfl ?_); refine goesL_ (some 4) rfl rfl Try.func28 (by kernel_rfl) rfl #[.int .i64 a0, .int .i64 8] rfl (by (try simp only [List.map_toArray, List.map_cons, List.map_nil]); first | done | rfl | (simp only [List.length_drop, List.length_take]; rfl)) ?_; (with_reducible refine (versalhand_Pick.calls a0 8 t280 _ A2.out).mono ?_); rintro e w' ⟨rfl, ⟨nd, rfl⟩⟩; refine ⟨_, rfl, ?_⟩) | ((with_reducible refine gate_callee (f := 28) rfl ?_); refine goesL_ (some 12) rfl rfl Try.func28 (by kernel_rfl) rfl #[.int .i64 (wrap64 (Int.tdiv a0 8)), .int .i64 2001] rfl (by (try simp only [List.map_toArray, List.map_cons, List.map_nil]); first | done | rfl | (simp only [List.length_drop, List.length_take]; rfl)) ?_; (with_reducible refine (versalhand_Pick.calls (wrap64 (Int.tdiv a0 8)) 2001 t281 _ A5.out).mono ?_); rintro e w' ⟨rfl, ⟨nd, rfl⟩⟩; refine ⟨_, rfl, ?_⟩))
   go_ret
   exact ⟨by first | rfl | (simp; done) | (simp [*]; done), by repeat (first | exact Drawn0.refl _ | apply Drawn0.step)⟩
  ·rw [if_neg c4] at H
   have c4b0 : (t280 == 1) = false := beq_eq_false_iff_ne.mpr c4
   have c4b1 : (t280 != 1) = true := bne_iff_ne.mpr c4
   by_cases c6 : t280 = 2
   ·rw [if_pos c6] at H
    have c6b0 : (t280 == 2) = true := beq_iff_eq.mpr c6
    have c6b1 : (t280 != 2) = false := bne_eq_false_iff_eq.mpr c6
    clear c6
    replace H := Option.bind_eq_some_iff.mp H
    obtain ⟨t282, A70, H⟩ := H
    replace H : (some (wrap64 (t282 - 4))) = some r := H
    have A7 := amk A70
    clear A70
    obtain rfl := Option.some.inj H
    go_enter Try.func29, Try.ntmps29
    go_wp2_with (first | ((with_reducible refine gate_callee (f := 28) rfl ?_); refine goesL_ (some 4) rfl rfl Try.func28 (by kernel_rfl) rfl #[.int .i64 a0, .int .i64 8] rfl (by (try simp only [List.map_toArray, List.map_cons, List.map_nil]); first | done | rfl | (simp only [List.length_drop, List.length_take]; rfl)) ?_; (with_reducible refine (versalhand_Pick.calls a0 8 t280 _ A2.out).mono ?_); rintro e w' ⟨rfl, ⟨nd, rfl⟩⟩; refine ⟨_, rfl, ?_⟩) | ((with_reducible refine gate_callee (f := 28) rfl ?_); refine goesL_ (some 19) rfl rfl Try.func28 (by kernel_rfl) rfl #[.int .i64 (wrap64 (Int.tdiv a0 8)), .int .i64 9] rfl (by (try simp only [List.map_toArray, List.map_cons, List.map_nil]); first | done | rfl | (simp only [List.length_drop, List.length_take]; rfl)) ?_; (with_reducible refine (versalhand_Pick.calls (wrap64 (Int.tdiv a0 8)) 9 t282 _ A7.out).mono ?_); rintro e w' ⟨rfl, ⟨nd, rfl⟩⟩; refine ⟨_, rfl, ?_⟩))
    go_ret
    exact ⟨by first | rfl | (simp; done) | (simp [*]; done), by repeat (first | exact Drawn0.refl _ | apply Drawn0.step)⟩
   ·rw [if_neg c6] at H
    have c6b0 : (t280 == 2) = false := beq_eq_false_iff_ne.mpr c6
    have c6b1 : (t280 != 2) = true := bne_iff_ne.mpr c6
    by_cases c8 : t280 = 3
    ·rw [if_pos c8] at H
     have c8b0 : (t280 == 3) = true := beq_iff_eq.mpr c8
     have c8b1 : (t280 != 3) = false := bne_eq_false_iff_eq.mpr c8
     clear c8
     replace H := Option.bind_eq_some_iff.mp H
     obtain ⟨t283, A90, H⟩ := H
     replace H : (some (wrap64 ((wrap64 (t283 - 4)) * 32768))) = some r := H
     have A9 := amk A90
     clear A90
     obtain rfl := Option.some.inj H
     go_enter Try.func29, Try.ntmps29
     go_wp2_with (first | ((with_reducible refine gate_callee (f := 28) rfl ?_); refine goesL_ (some 4) rfl rfl Try.func28 (by kernel_rfl) rfl #[.int .i64 a0, .int .i64 8] rfl (by (try simp only [List.map_toArray, List.map_cons, List.map_nil]); first | done | rfl | (simp only [List.length_drop, List.length_take]; rfl)) ?_; (with_reducible refine (versalhand_Pick.calls a0 8 t280 _ A2.out).mono ?_); rintro e w' ⟨rfl, ⟨nd, rfl⟩⟩; refine ⟨_, rfl, ?_⟩) | ((with_reducible refine gate_callee (f := 28) rfl ?_); refine goesL_ (some 25) rfl rfl Try.func28 (by kernel_rfl) rfl #[.int .i64 (wrap64 (Int.tdiv a0 8)), .int .i64 9] rfl (by (try simp only [List.map_toArray, List.map_cons, List.map_nil]); first | done | rfl | (simp only [List.length_drop, List.length_take]; rfl)) ?_; (with_reducible refine (versalhand_Pick.calls (wrap64 (Int.tdiv a0 8)) 9 t283 _ A9.out).mono ?_); rintro e w' ⟨rfl, ⟨nd, rfl⟩⟩; refine ⟨_, rfl, ?_⟩))
     go_ret
     exact ⟨by first | rfl | (simp; done) | (simp [*]; done), by repeat (first | exact Drawn0.refl _ | apply Drawn0.step)⟩
    ·rw [if_neg c8] at H
     have c8b0 : (t280 == 3) = false := beq_eq_false_iff_ne.mpr c8
     have c8b1 : (t280 != 3) = true := bne_iff_ne.mpr c8
     replace H := Option.bind_eq_some_iff.mp H
     obtain ⟨t284, A100, H⟩ := H
     replace H : (some (wrap64 (t284 - 655360))) = some r := H
     have A10 := amk A100
     clear A100
     obtain rfl := Option.some.inj H
     go_enter Try.func29, Try.ntmps29
     go_wp2_with (first | ((with_reducible refine gate_callee (f := 28) rfl ?_); refine goesL_ (some 4) rfl rfl Try.func28 (by kernel_rfl) rfl #[.int .i64 a0, .int .i64 8] rfl (by (try simp only [List.map_toArray, List.map_cons, List.map_nil]); first | done | rfl | (simp only [List.length_drop, List.length_take]; rfl)) ?_; (with_reducible refine (versalhand_Pick.calls a0 8 t280 _ A2.out).mono ?_); rintro e w' ⟨rfl, ⟨nd, rfl⟩⟩; refine ⟨_, rfl, ?_⟩) | ((with_reducible refine gate_callee (f := 28) rfl ?_); refine goesL_ (some 30) rfl rfl Try.func28 (by kernel_rfl) rfl #[.int .i64 (wrap64 (Int.tdiv a0 8)), .int .i64 1310720] rfl (by (try simp only [List.map_toArray, List.map_cons, List.map_nil]); first | done | rfl | (simp only [List.length_drop, List.length_take]; rfl)) ?_; (with_reducible refine (versalhand_Pick.calls (wrap64 (Int.tdiv a0 8)) 1310720 t284 _ A10.out).mono ?_); rintro e w' ⟨rfl, ⟨nd, rfl⟩⟩; refine ⟨_, rfl, ?_⟩))
     go_ret
     exact ⟨by first | rfl | (simp; done) | (simp [*]; done), by repeat (first | exact Drawn0.refl _ | apply Drawn0.step)⟩

end Go.Proofs.Ytjmflccbddjlhaa.PFm
