-- WRITTEN BY A PROGRAM OF THIS SESSION (wip/xprint) out of the translation. Not trusted: Lean checks it.
import Derived.Test.YtjmflccbddjlhaaPFmx0
namespace Go.Proofs.Ytjmflccbddjlhaa.PFm
open Go.RowKit Go.Proofs.YtjmflccbddjlhaaW.PrintWords Go.Proofs.YtjmflccbddjlhaaW.PrintLast Go.Proofs.YtjmflccbddjlhaaW.PrintMore
attribute [local go_sem] max2_int min2_int max_two min_two max_three min_three max_four min_four   -- for this text's walks alone
set_option linter.unusedVariables false
set_option linter.unusedSimpArgs false

/-! ### flat_seg: function 48 -/
def flat_seg.f (a0_0 : Int) (a0_1 : Int) (a0_2 : Bool) (a1_0 : Int) (a1_1 : Int) (a1_2 : Bool) : Option (Int × Int × Int × Int) := some (a0_0, a0_1, a1_0, a1_1)
set_option maxHeartbeats 8000000 in
set_option maxRecDepth 100000 in
theorem flat_seg.calls (a0_0 : Int) (a0_1 : Int) (a0_2 : Bool) (a1_0 : Int) (a1_1 : Int) (a1_2 : Bool) (r1 : Int) (r2 : Int) (r3 : Int) (r4 : Int) (w : World) (h : flat_seg.f a0_0 a0_1 a0_2 a1_0 a1_1 a1_2 = some (r1, r2, r3, r4)) :
  Calls Try.prog 48 #[.agg #[.int .i64 a0_0, .int .i64 a0_1, .bool a0_2], .agg #[.int .i64 a1_0, .int .i64 a1_1, .bool a1_2]] w fun e w' => e = .returned (.agg #[.int .i64 r1, .int .i64 r2, .int .i64 r3, .int .i64 r4]) ∧ Below w.heap.size w w' := by
 have hu78 := Try.underlying78
 have hu34 := Try.underlying34
 have HB := amk (Below.refl w.heap.size w)
 have H : (some (a0_0, a0_1, a1_0, a1_1)) = some (r1, r2, r3, r4) := h
 clear h
 simp only [Option.some.injEq, Prod.mk.injEq] at H
 obtain ⟨rfl, rfl, rfl, rfl⟩ := H
 go_enter Try.func48, Try.ntmps48
 go_wp2_with (first | ((with_reducible refine gate_dst (N := 2) rfl ?_); refine box_event ?hg (N := 2) ?hd (cs := #[.int .i64 a0_0, .int .i64 a0_1, .bool a0_2]) (t := 78) ?hr ?_; (case hd => rfl); (case hg => rfl); (case hr => first | (go_simp; done) | (go_simp; rfl)); intro gb101 hg w3 hbox hb; have n0_ := amk (below_step (by repeat (first | (with_reducible first | exact HB.out | apply bAl | apply bDN | apply bD1) | exact HB.out)) hb); have n1_ := amk (hbox); have n2_ := amk ((by rw [hg]; exact (below_size (by repeat (first | (with_reducible first | exact HB.out | apply bAl | apply bDN | apply bD1) | exact HB.out))) : w.heap.size ≤ gb101)); have n3_ := amk ((by rw [hg]; exact (below_size (by repeat (first | (with_reducible first | exact HB.out | apply bAl | apply bDN | apply bD1) | exact HB.out))) : w.heap.size ≤ gb101)); clear HB; have HB := n0_; have BK101 := n1_; have GW101 := n2_; have GE101 := n3_; clear n0_ n1_ n2_ n3_; clear hb hbox hg) | ((with_reducible refine gate_dst (N := 3) rfl ?_); refine box_event ?hg (N := 3) ?hd (cs := #[.int .i64 a1_0, .int .i64 a1_1, .bool a1_2]) (t := 78) ?hr ?_; (case hd => rfl); (case hg => rfl); (case hr => first | (go_simp; done) | (go_simp; rfl)); intro gb102 hg w4 hbox hb; have n0_ := amk (blk_below (g := gb101) (o := .cells #[.int .i64 a0_0, .int .i64 a0_1, .bool a0_2] 78 (0, 0)) (by (with_reducible repeat first | apply kN | apply kD | apply kA); exact BK101.out) hb); have n1_ := amk (below_step (by repeat (first | (with_reducible first | exact HB.out | apply bAl | apply bDN | apply bD1 | refine bSe ?_ GE101.out) | exact HB.out)) hb); have n2_ := amk (hbox); have n3_ := amk ((by rw [hg]; exact (below_size (by repeat (first | (with_reducible first | exact HB.out | apply bAl | apply bDN | apply bD1 | refine bSe ?_ GE101.out) | exact HB.out))) : w.heap.size ≤ gb102)); have n4_ := amk ((by rw [hg]; exact (below_size (by repeat (first | (with_reducible first | exact HB.out | apply bAl | apply bDN | apply bD1 | refine bSe ?_ GE101.out) | exact HB.out))) : w.heap.size ≤ gb102)); have n5_ := amk ((by rw [hg]; exact Nat.ne_of_lt (blk_lt (g := gb101) (o := .cells #[.int .i64 a0_0, .int .i64 a0_1, .bool a0_2] 78 (0, 0)) (by (with_reducible repeat first | apply kN | apply kD | apply kA); exact BK101.out)) : gb101 ≠ gb102)); have n6_ := amk ((by rw [hg]; exact Nat.ne_of_gt (blk_lt (g := gb101) (o := .cells #[.int .i64 a0_0, .int .i64 a0_1, .bool a0_2] 78 (0, 0)) (by (with_reducible repeat first | apply kN | apply kD | apply kA); exact BK101.out)) : gb102 ≠ gb101)); clear BK101; clear HB; have BK101 := n0_; have HB := n1_; have BK102 := n2_; have GW102 := n3_; have GE102 := n4_; have NB101_102 := n5_; have NB102_101 := n6_; clear n0_ n1_ n2_ n3_ n4_ n5_ n6_; clear hb hbox hg) | ((with_reducible refine gate_dst (N := 4) rfl ?_); refine box_event ?hg (N := 4) ?hd (cs := #[.int .i64 0, .int .i64 0, .int .i64 0, .int .i64 0]) (t := 34) ?hr ?_; (case hd => rfl); (case hg => rfl); (case hr => first | (go_simp; done) | (go_simp; rfl)); intro gb103 hg w5 hbox hb; have n0_ := amk (blk_below (g := gb101) (o := .cells #[.int .i64 a0_0, .int .i64 a0_1, .bool a0_2] 78 (0, 0)) (by (with_reducible repeat first | apply kN | apply kD | apply kA); exact BK101.out) hb); have n1_ := amk (blk_below (g := gb102) (o := .cells #[.int .i64 a1_0, .int .i64 a1_1, .bool a1_2] 78 (0, 0)) (by (with_reducible repeat first | apply kN | apply kD | apply kA); exact BK102.out) hb); have n2_ := amk (below_step (by repeat (first | (with_reducible first | exact HB.out | apply bAl | apply bDN | apply bD1 | refine bSe ?_ GE101.out | refine bSe ?_ GE102.out) | exact HB.out)) hb); have n3_ := amk (hbox); have n4_ := amk ((by rw [hg]; exact (below_size (by repeat (first | (with_reducible first | exact HB.out | apply bAl | apply bDN | apply bD1 | refine bSe ?_ GE101.out | refine bSe ?_ GE102.out) | exact HB.out))) : w.heap.size ≤ gb103)); have n5_ := amk ((by rw [hg]; exact (below_size (by repeat (first | (with_reducible first | exact HB.out | apply bAl | apply bDN | apply bD1 | refine bSe ?_ GE101.out | refine bSe ?_ GE102.out) | exact HB.out))) : w.heap.size ≤ gb103)); have n6_ := amk ((by rw [hg]; exact Nat.ne_of_lt (blk_lt (g := gb101) (o := .cells #[.int .i64 a0_0, .int .i64 a0_1, .bool a0_2] 78 (0, 0)) (by (with_reducible repeat first | apply kN | apply kD | apply kA); exact BK101.out)) : gb101 ≠ gb103)); have n7_ := amk ((by rw [hg]; exact Nat.ne_of_gt (blk_lt (g := gb101) (o := .cells #[.int .i64 a0_0, .int .i64 a0_1, .bool a0_2] 78 (0, 0)) (by (with_reducible repeat first | apply kN | apply kD | apply kA); exact BK101.out)) : gb103 ≠ gb101)); have n8_ := amk ((by rw [hg]; exact Nat.ne_of_lt (blk_lt (g := gb102) (o := .cells #[.int .i64 a1_0, .int .i64 a1_1, .bool a1_2] 78 (0, 0)) (by (with_reducible repeat first | apply kN | apply kD | apply kA); exact BK102.out)) : gb102 ≠ gb103)); have n9_ := amk ((by rw [hg]; exact Nat.ne_of_gt (blk_lt (g := gb102) (o := .cells #[.int .i64 a1_0, .int .i64 a1_1, .bool a1_2] 78 (0, 0)) (by (with_reducible repeat first | apply kN | apply kD | apply kA); exact BK102.out)) : gb103 ≠ gb102)); clear BK101; clear BK102; clear HB; have BK101 := n0_; have BK102 := n1_; have HB := n2_; have BK103 := n3_; have GW103 := n4_; have GE103 := n5_; have NB101_103 := n6_; have NB103_101 := n7_; have NB102_103 := n8_; have NB103_102 := n9_; clear n0_ n1_ n2_ n3_ n4_ n5_ n6_ n7_ n8_ n9_; clear hb hbox hg; have hnb6 := NB101_102.out; have hnc6 := NB102_101.out; have hnb7 := NB101_103.out; have hnc7 := NB103_101.out; have hcz8_0 : w5.cell? ⟨gb101, 0, none⟩ = some (.int .i64 a0_0) := (blk_cell BK101.out 0).trans rfl; have hcz8_1 : w5.cell? ⟨gb101, 1, none⟩ = some (.int .i64 a0_1) := (blk_cell BK101.out 1).trans rfl; have hcz8_2 : w5.cell? ⟨gb101, 2, none⟩ = some (.bool a0_2) := (blk_cell BK101.out 2).trans rfl; have hfz8_0 := blk_frozen BK101.out 0; have hfz8_1 := blk_frozen BK101.out 1; have hfz8_2 := blk_frozen BK101.out 2; have hnb9 := NB102_103.out; have hnc9 := NB103_102.out; have hcz10_0 : w5.cell? ⟨gb102, 0, none⟩ = some (.int .i64 a1_0) := (blk_cell BK102.out 0).trans rfl; have hcz10_1 : w5.cell? ⟨gb102, 1, none⟩ = some (.int .i64 a1_1) := (blk_cell BK102.out 1).trans rfl; have hcz10_2 : w5.cell? ⟨gb102, 2, none⟩ = some (.bool a1_2) := (blk_cell BK102.out 2).trans rfl; have hfz10_0 := blk_frozen BK102.out 0; have hfz10_1 := blk_frozen BK102.out 1; have hfz10_2 := blk_frozen BK102.out 2; have hcz11_0 : w5.cell? ⟨gb103, 0, none⟩ = some (.int .i64 0) := (blk_cell BK103.out 0).trans rfl; have hcz11_1 : w5.cell? ⟨gb103, 1, none⟩ = some (.int .i64 0) := (blk_cell BK103.out 1).trans rfl; have hcz11_2 : w5.cell? ⟨gb103, 2, none⟩ = some (.int .i64 0) := (blk_cell BK103.out 2).trans rfl; have hcz11_3 : w5.cell? ⟨gb103, 3, none⟩ = some (.int .i64 0) := (blk_cell BK103.out 3).trans rfl; have hfz11_0 := blk_frozen BK103.out 0; have hfz11_1 := blk_frozen BK103.out 1; have hfz11_2 := blk_frozen BK103.out 2; have hfz11_3 := blk_frozen BK103.out 3))
 refine bodyPost_ret (results_cell_row rfl _ _ gb103 34 #[.int .i64 a0_0, .int .i64 a0_1, .int .i64 a1_0, .int .i64 a1_1] (0, 0) _ rfl (by (with_reducible repeat first | apply kN | apply kD | apply kA); refine blk_put (cs := #[.int .i64 a0_0, .int .i64 a0_1, .int .i64 a1_0, .int .i64 0]) ?_ 3 _ rfl; (with_reducible repeat first | apply kN | apply kD | apply kA); refine blk_put (cs := #[.int .i64 a0_0, .int .i64 a0_1, .int .i64 0, .int .i64 0]) ?_ 2 _ rfl; (with_reducible repeat first | apply kN | apply kD | apply kA); refine blk_put (cs := #[.int .i64 a0_0, .int .i64 0, .int .i64 0, .int .i64 0]) ?_ 1 _ rfl; (with_reducible repeat first | apply kN | apply kD | apply kA); refine blk_put (cs := #[.int .i64 0, .int .i64 0, .int .i64 0, .int .i64 0]) ?_ 0 _ rfl; (with_reducible repeat first | apply kN | apply kD | apply kA); exact BK103.out) Try.underlying34 rfl (by kernel_rfl)) rfl ?_
 exact ⟨by first | rfl | (simp [errW_none, errW_some] <;> rfl) | (simp [*, errW_none, errW_some] <;> rfl), by repeat (first | (with_reducible first | exact HB.out | apply bAl | apply bDN | apply bD1 | refine bSe ?_ GE101.out | refine bSe ?_ GE102.out | refine bSe ?_ GE103.out) | exact HB.out)⟩

/-! ### flat_bent: function 57 -/
def flat_bent.f (a0 : Int) (a1 : Int) (a2 : Int) (a3 : Int) : Option (Int) := some ((wrap64 ((wrap64 ((wrap64 ((wrap64 (a0 * (wrap64 (8 - a3)))) * (wrap64 (8 - a3)))) + (wrap64 ((wrap64 ((wrap64 (2 * a1)) * a3)) * (wrap64 (8 - a3)))))) + (wrap64 ((wrap64 (a2 * a3)) * a3)))) / 64)
set_option maxHeartbeats 8000000 in
set_option maxRecDepth 100000 in
theorem flat_bent.calls (a0 : Int) (a1 : Int) (a2 : Int) (a3 : Int) (r : Int) (w : World) (h : flat_bent.f a0 a1 a2 a3 = some r) :
  Calls Try.prog 57 #[.int .i64 a0, .int .i64 a1, .int .i64 a2, .int .i64 a3] w fun e w' => e = .returned (.int .i64 r) ∧ Drawn0 w w' := by
 have H : (some ((wrap64 ((wrap64 ((wrap64 ((wrap64 (a0 * (wrap64 (8 - a3)))) * (wrap64 (8 - a3)))) + (wrap64 ((wrap64 ((wrap64 (2 * a1)) * a3)) * (wrap64 (8 - a3)))))) + (wrap64 ((wrap64 (a2 * a3)) * a3)))) / 64)) = some r := h
 clear h
 obtain rfl := Option.some.inj H
 go_enter Try.func57, Try.ntmps57
 go_wp2
 go_ret
 exact ⟨by first | rfl | (simp; done) | (simp [*]; done), by repeat (first | exact Drawn0.refl _ | apply Drawn0.step)⟩

/-! ### flat_curve: function 37 -/
def flat_curve.l0 : Nat → List (S34) → Int → Int → Int → Bool → Int → Int → Bool → Int → Int → Bool → Int → Int → Bool → Option ((List (S34)))
 | 0, _, _, _, _, _, _, _, _, _, _, _, _, _, _ => none
 | k + 1, x7, x9, x105000, x105001, x105002, x106000, x106001, x106002, x107000, x107001, x107002, x108000, x108001, x108002 => if x9 ≤ 8 then ((flat_bent.f x105000 x106000 x107000 x9).bind fun t108 => ((flat_bent.f x105001 x106001 x107001 x9).bind fun t109 => ((flat_seg.f x108000 x108001 x108002 t108 t109 true).bind fun bt111 => (if x7.length < 4398046511104 then (flat_curve.l0 k (x7 ++ [(⟨bt111.1, bt111.2.1, bt111.2.2.1, bt111.2.2.2⟩ : S34)]) (wrap64 (x9 + 1)) x105000 x105001 x105002 x106000 x106001 x106002 x107000 x107001 x107002 t108 t109 true) else (none))))) else (some x7)
def flat_curve.f (k : Nat) (a0_0 : Int) (a0_1 : Int) (a0_2 : Bool) (a1_0 : Int) (a1_1 : Int) (a1_2 : Bool) (a2_0 : Int) (a2_1 : Int) (a2_2 : Bool) : Option ((List (S34))) := flat_curve.l0 k ([] : List (S34)) 1 a0_0 a0_1 a0_2 a1_0 a1_1 a1_2 a2_0 a2_1 a2_2 a0_0 a0_1 a0_2
theorem flat_curve.mono_l : ∀ k, (∀ y0 y1 y2 y3 y4 y5 y6 y7 y8 y9 y10 y11 y12 y13, LeO (flat_curve.l0 k y0 y1 y2 y3 y4 y5 y6 y7 y8 y9 y10 y11 y12 y13) (flat_curve.l0 (k + 1) y0 y1 y2 y3 y4 y5 y6 y7 y8 y9 y10 y11 y12 y13))
 | 0 => fun _ _ _ _ _ _ _ _ _ _ _ _ _ _ r h => by simp [flat_curve.l0] at h
 | k + 1 => by
  have ih0 := flat_curve.mono_l k
  ·intro y0 y1 y2 y3 y4 y5 y6 y7 y8 y9 y10 y11 y12 y13
   unfold flat_curve.l0
   repeat' first
   | (with_reducible exact ih0 _ _ _ _ _ _ _ _ _ _ _ _ _ _)
   | (with_reducible exact LeO.refl _)
   | (with_reducible exact LeO.none _)
   | (with_reducible refine LeO.ite ?_ ?_)
   | (with_reducible refine LeO.bind ?_ (fun _ => ?_))
   | exact ih0 _ _ _ _ _ _ _ _ _ _ _ _ _ _
   | exact LeO.none _
   | refine LeO.ite ?_ ?_
   | refine LeO.bind ?_ (fun _ => ?_)
theorem flat_curve.mono : ∀ a0 a1 a2 a3 a4 a5 a6 a7 a8 k, LeO (flat_curve.f k a0 a1 a2 a3 a4 a5 a6 a7 a8) (flat_curve.f (k + 1) a0 a1 a2 a3 a4 a5 a6 a7 a8) := by
 intro a0 a1 a2 a3 a4 a5 a6 a7 a8 k
 have ih0 := flat_curve.mono_l k
 unfold flat_curve.f
 repeat' first
   | (with_reducible exact ih0 _ _ _ _ _ _ _ _ _ _ _ _ _ _)
   | (with_reducible exact LeO.refl _)
   | (with_reducible exact LeO.none _)
   | (with_reducible refine LeO.ite ?_ ?_)
   | (with_reducible refine LeO.bind ?_ (fun _ => ?_))
   | exact ih0 _ _ _ _ _ _ _ _ _ _ _ _ _ _
   | exact LeO.none _
   | refine LeO.ite ?_ ?_
   | refine LeO.bind ?_ (fun _ => ?_)
def flat_curve.T6 : Bool × List (List Nat × List Nat) := (true, [([], []), ([0], [0]), ([], []), ([2], [2]), ([], []), ([4], [4]), ([], []), ([1, 3, 5, 6], [1, 3, 5, 6]), ([], []), ([8], [8]), ([], []), ([10], [10]), ([], []), ([12], [12]), ([], []), ([9, 11, 13, 14, 7], [9, 11, 13, 14]), ([7, 15], [7, 15]), ([], []), ([17, 16, 15, 0, 1, 2, 3, 4, 5, 6, 7, 8, 9, 10, 11, 12, 13, 14, 15, 16, 17], [16, 17])])
def flat_curve.B6 : List Nat := [0, 1, 0, 4, 0, 16, 0, 127, 0, 256, 0, 1024, 0, 4096, 0, 32767, 65535, 0, 262143]
theorem flat_curve.tab6 : rtab .any (opsOf Try.f37 6) = flat_curve.T6 := by kernel_rfl
theorem flat_curve.bits6 : waitsOk flat_curve.T6.2 flat_curve.B6 = true := by kernel_rfl
def flat_curve.T7 : Bool × List (List Nat × List Nat) := (true, [([], []), ([], []), ([], []), ([1, 2], [1, 2]), ([3], [3]), ([0, 4, 3], [0, 4]), ([], []), ([5, 5, 0, 1, 2, 3, 4, 5], [0, 5]), ([6, 7, 0, 1, 2, 3, 4, 5, 6, 7], [6])])
def flat_curve.B7 : List Nat := [0, 0, 0, 6, 14, 31, 0, 63, 255]
theorem flat_curve.tab7 : rtab .any (opsOf Try.f37 7) = flat_curve.T7 := by kernel_rfl
theorem flat_curve.bits7 : waitsOk flat_curve.T7.2 flat_curve.B7 = true := by kernel_rfl
set_option maxHeartbeats 8000000 in
set_option maxRecDepth 100000 in
theorem flat_curve.calls (k : Nat) (a0_0 : Int) (a0_1 : Int) (a0_2 : Bool) (a1_0 : Int) (a1_1 : Int) (a1_2 : Bool) (a2_0 : Int) (a2_1 : Int) (a2_2 : Bool) (r : List (S34)) (w : World) (h : flat_curve.f k a0_0 a0_1 a0_2 a1_0 a1_1 a1_2 a2_0 a2_1 a2_2 = some r) :
  Calls Try.prog 37 #[.agg #[.int .i64 a0_0, .int .i64 a0_1, .bool a0_2], .agg #[.int .i64 a1_0, .int .i64 a1_1, .bool a1_2], .agg #[.int .i64 a2_0, .int .i64 a2_1, .bool a2_2]] w fun e w' => ∃ v0_ : Value, e = .returned (v0_) ∧ Kd.R k34 34 w' w.heap.size (fun _ => True) v0_ r ∧ Below w.heap.size w w' := by
 have hu78 := Try.underlying78
 have HB := amk (Below.refl w.heap.size w)
 have H : (flat_curve.l0 k ([] : List (S34)) 1 a0_0 a0_1 a0_2 a1_0 a1_1 a1_2 a2_0 a2_1 a2_2 a0_0 a0_1 a0_2) = some r := h
 clear h
 have H' := amk H
 clear H
 go_enter Try.func37, Try.ntmps37
 go_wp2_with (first | ((with_reducible refine gate_dst (N := 3) rfl ?_); refine box_event ?hg (N := 3) ?hd (cs := #[.int .i64 a0_0, .int .i64 a0_1, .bool a0_2]) (t := 78) ?hr ?_; (case hd => rfl); (case hg => rfl); (case hr => first | (go_simp; done) | (go_simp; rfl)); intro gb104 hg w4 hbox hb; have n0_ := amk (below_step (by repeat (first | (with_reducible first | exact HB.out | apply bAl | apply bDN | apply bD1) | exact HB.out)) hb); have n1_ := amk (hbox); have n2_ := amk ((by rw [hg]; exact (below_size (by repeat (first | (with_reducible first | exact HB.out | apply bAl | apply bDN | apply bD1) | exact HB.out))) : w.heap.size ≤ gb104)); have n3_ := amk ((by rw [hg]; exact (below_size (by repeat (first | (with_reducible first | exact HB.out | apply bAl | apply bDN | apply bD1) | exact HB.out))) : w.heap.size ≤ gb104)); clear HB; have HB := n0_; have BK104 := n1_; have GW104 := n2_; have GE104 := n3_; clear n0_ n1_ n2_ n3_; clear hb hbox hg) | ((with_reducible refine gate_dst (N := 4) rfl ?_); refine box_event ?hg (N := 4) ?hd (cs := #[.int .i64 a1_0, .int .i64 a1_1, .bool a1_2]) (t := 78) ?hr ?_; (case hd => rfl); (case hg => rfl); (case hr => first | (go_simp; done) | (go_simp; rfl)); intro gb105 hg w5 hbox hb; have n0_ := amk (blk_below (g := gb104) (o := .cells #[.int .i64 a0_0, .int .i64 a0_1, .bool a0_2] 78 (0, 0)) (by (with_reducible repeat first | apply kN | apply kD | apply kA); exact BK104.out) hb); have n1_ := amk (below_step (by repeat (first | (with_reducible first | exact HB.out | apply bAl | apply bDN | apply bD1 | refine bSe ?_ GE104.out) | exact HB.out)) hb); have n2_ := amk (hbox); have n3_ := amk ((by rw [hg]; exact (below_size (by repeat (first | (with_reducible first | exact HB.out | apply bAl | apply bDN | apply bD1 | refine bSe ?_ GE104.out) | exact HB.out))) : w.heap.size ≤ gb105)); have n4_ := amk ((by rw [hg]; exact (below_size (by repeat (first | (with_reducible first | exact HB.out | apply bAl | apply bDN | apply bD1 | refine bSe ?_ GE104.out) | exact HB.out))) : w.heap.size ≤ gb105)); have n5_ := amk ((by rw [hg]; exact Nat.ne_of_lt (blk_lt (g := gb104) (o := .cells #[.int .i64 a0_0, .int .i64 a0_1, .bool a0_2] 78 (0, 0)) (by (with_reducible repeat first | apply kN | apply kD | apply kA); exact BK104.out)) : gb104 ≠ gb105)); have n6_ := amk ((by rw [hg]; exact Nat.ne_of_gt (blk_lt (g := gb104) (o := .cells #[.int .i64 a0_0, .int .i64 a0_1, .bool a0_2] 78 (0, 0)) (by (with_reducible repeat first | apply kN | apply kD | apply kA); exact BK104.out)) : gb105 ≠ gb104)); clear BK104; clear HB; have BK104 := n0_; have HB := n1_; have BK105 := n2_; have GW105 := n3_; have GE105 := n4_; have NB104_105 := n5_; have NB105_104 := n6_; clear n0_ n1_ n2_ n3_ n4_ n5_ n6_; clear hb hbox hg) | ((with_reducible refine gate_dst (N := 5) rfl ?_); refine box_event ?hg (N := 5) ?hd (cs := #[.int .i64 a2_0, .int .i64 a2_1, .bool a2_2]) (t := 78) ?hr ?_; (case hd => rfl); (case hg => rfl); (case hr => first | (go_simp; done) | (go_simp; rfl)); intro gb106 hg w6 hbox hb; have n0_ := amk (blk_below (g := gb104) (o := .cells #[.int .i64 a0_0, .int .i64 a0_1, .bool a0_2] 78 (0, 0)) (by (with_reducible repeat first | apply kN | apply kD | apply kA); exact BK104.out) hb); have n1_ := amk (blk_below (g := gb105) (o := .cells #[.int .i64 a1_0, .int .i64 a1_1, .bool a1_2] 78 (0, 0)) (by (with_reducible repeat first | apply kN | apply kD | apply kA); exact BK105.out) hb); have n2_ := amk (below_step (by repeat (first | (with_reducible first | exact HB.out | apply bAl | apply bDN | apply bD1 | refine bSe ?_ GE104.out | refine bSe ?_ GE105.out) | exact HB.out)) hb); have n3_ := amk (hbox); have n4_ := amk ((by rw [hg]; exact (below_size (by repeat (first | (with_reducible first | exact HB.out | apply bAl | apply bDN | apply bD1 | refine bSe ?_ GE104.out | refine bSe ?_ GE105.out) | exact HB.out))) : w.heap.size ≤ gb106)); have n5_ := amk ((by rw [hg]; exact (below_size (by repeat (first | (with_reducible first | exact HB.out | apply bAl | apply bDN | apply bD1 | refine bSe ?_ GE104.out | refine bSe ?_ GE105.out) | exact HB.out))) : w.heap.size ≤ gb106)); have n6_ := amk ((by rw [hg]; exact Nat.ne_of_lt (blk_lt (g := gb104) (o := .cells #[.int .i64 a0_0, .int .i64 a0_1, .bool a0_2] 78 (0, 0)) (by (with_reducible repeat first | apply kN | apply kD | apply kA); exact BK104.out)) : gb104 ≠ gb106)); have n7_ := amk ((by rw [hg]; exact Nat.ne_of_gt (blk_lt (g := gb104) (o := .cells #[.int .i64 a0_0, .int .i64 a0_1, .bool a0_2] 78 (0, 0)) (by (with_reducible repeat first | apply kN | apply kD | apply kA); exact BK104.out)) : gb106 ≠ gb104)); have n8_ := amk ((by rw [hg]; exact Nat.ne_of_lt (blk_lt (g := gb105) (o := .cells #[.int .i64 a1_0, .int .i64 a1_1, .bool a1_2] 78 (0, 0)) (by (with_reducible repeat first | apply kN | apply kD | apply kA); exact BK105.out)) : gb105 ≠ gb106)); have n9_ := amk ((by rw [hg]; exact Nat.ne_of_gt (blk_lt (g := gb105) (o := .cells #[.int .i64 a1_0, .int .i64 a1_1, .bool a1_2] 78 (0, 0)) (by (with_reducible repeat first | apply kN | apply kD | apply kA); exact BK105.out)) : gb106 ≠ gb105)); clear BK104; clear BK105; clear HB; have BK104 := n0_; have BK105 := n1_; have HB := n2_; have BK106 := n3_; have GW106 := n4_; have GE106 := n5_; have NB104_106 := n6_; have NB106_104 := n7_; have NB105_106 := n8_; have NB106_105 := n9_; clear n0_ n1_ n2_ n3_ n4_ n5_ n6_ n7_ n8_ n9_; clear hb hbox hg; have hnb7 := NB104_105.out; have hnc7 := NB105_104.out; have hnb8 := NB104_106.out; have hnc8 := NB106_104.out; have hcz9_0 : w6.cell? ⟨gb104, 0, none⟩ = some (.int .i64 a0_0) := (blk_cell BK104.out 0).trans rfl; have hcz9_1 : w6.cell? ⟨gb104, 1, none⟩ = some (.int .i64 a0_1) := (blk_cell BK104.out 1).trans rfl; have hcz9_2 : w6.cell? ⟨gb104, 2, none⟩ = some (.bool a0_2) := (blk_cell BK104.out 2).trans rfl; have hfz9_0 := blk_frozen BK104.out 0; have hfz9_1 := blk_frozen BK104.out 1; have hfz9_2 := blk_frozen BK104.out 2) | ((with_reducible refine gate_dst (N := 8) rfl ?_); refine box_event ?hg (N := 8) ?hd (cs := #[.int .i64 0, .int .i64 0, .bool false]) (t := 78) ?hr ?_; (case hd => rfl); (case hg => rfl); (case hr => first | (go_simp; done) | (go_simp; rfl)); intro gb107 hg w10 hbox hb; have n0_ := amk (blk_below (g := gb104) (o := .cells #[.int .i64 a0_0, .int .i64 a0_1, .bool a0_2] 78 (0, 0)) (by (with_reducible repeat first | apply kN | apply kD | apply kA); exact BK104.out) hb); have n1_ := amk (blk_below (g := gb105) (o := .cells #[.int .i64 a1_0, .int .i64 a1_1, .bool a1_2] 78 (0, 0)) (by (with_reducible repeat first | apply kN | apply kD | apply kA); exact BK105.out) hb); have n2_ := amk (blk_below (g := gb106) (o := .cells #[.int .i64 a2_0, .int .i64 a2_1, .bool a2_2] 78 (0, 0)) (by (with_reducible repeat first | apply kN | apply kD | apply kA); exact BK106.out) hb); have n3_ := amk (below_step (by repeat (first | (with_reducible first | exact HB.out | apply bAl | apply bDN | apply bD1 | refine bSe ?_ GE104.out | refine bSe ?_ GE105.out | refine bSe ?_ GE106.out) | exact HB.out)) hb); have n4_ := amk (hbox); have n5_ := amk ((by rw [hg]; exact (below_size (by repeat (first | (with_reducible first | exact HB.out | apply bAl | apply bDN | apply bD1 | refine bSe ?_ GE104.out | refine bSe ?_ GE105.out | refine bSe ?_ GE106.out) | exact HB.out))) : w.heap.size ≤ gb107)); have n6_ := amk ((by rw [hg]; exact (below_size (by repeat (first | (with_reducible first | exact HB.out | apply bAl | apply bDN | apply bD1 | refine bSe ?_ GE104.out | refine bSe ?_ GE105.out | refine bSe ?_ GE106.out) | exact HB.out))) : w.heap.size ≤ gb107)); have n7_ := amk ((by rw [hg]; exact Nat.ne_of_lt (blk_lt (g := gb104) (o := .cells #[.int .i64 a0_0, .int .i64 a0_1, .bool a0_2] 78 (0, 0)) (by (with_reducible repeat first | apply kN | apply kD | apply kA); exact BK104.out)) : gb104 ≠ gb107)); have n8_ := amk ((by rw [hg]; exact Nat.ne_of_gt (blk_lt (g := gb104) (o := .cells #[.int .i64 a0_0, .int .i64 a0_1, .bool a0_2] 78 (0, 0)) (by (with_reducible repeat first | apply kN | apply kD | apply kA); exact BK104.out)) : gb107 ≠ gb104)); have n9_ := amk ((by rw [hg]; exact Nat.ne_of_lt (blk_lt (g := gb105) (o := .cells #[.int .i64 a1_0, .int .i64 a1_1, .bool a1_2] 78 (0, 0)) (by (with_reducible repeat first | apply kN | apply kD | apply kA); exact BK105.out)) : gb105 ≠ gb107)); have n10_ := amk ((by rw [hg]; exact Nat.ne_of_gt (blk_lt (g := gb105) (o := .cells #[.int .i64 a1_0, .int .i64 a1_1, .bool a1_2] 78 (0, 0)) (by (with_reducible repeat first | apply kN | apply kD | apply kA); exact BK105.out)) : gb107 ≠ gb105)); have n11_ := amk ((by rw [hg]; exact Nat.ne_of_lt (blk_lt (g := gb106) (o := .cells #[.int .i64 a2_0, .int .i64 a2_1, .bool a2_2] 78 (0, 0)) (by (with_reducible repeat first | apply kN | apply kD | apply kA); exact BK106.out)) : gb106 ≠ gb107)); have n12_ := amk ((by rw [hg]; exact Nat.ne_of_gt (blk_lt (g := gb106) (o := .cells #[.int .i64 a2_0, .int .i64 a2_1, .bool a2_2] 78 (0, 0)) (by (with_reducible repeat first | apply kN | apply kD | apply kA); exact BK106.out)) : gb107 ≠ gb106)); clear BK104; clear BK105; clear BK106; clear HB; have BK104 := n0_; have BK105 := n1_; have BK106 := n2_; have HB := n3_; have BK107 := n4_; have GW107 := n5_; have GE107 := n6_; have NB104_107 := n7_; have NB107_104 := n8_; have NB105_107 := n9_; have NB107_105 := n10_; have NB106_107 := n11_; have NB107_106 := n12_; clear n0_ n1_ n2_ n3_ n4_ n5_ n6_ n7_ n8_ n9_ n10_ n11_ n12_; clear hb hbox hg; have hnb11 := NB107_104.out; have hnc11 := NB104_107.out; have hnb12 := NB107_105.out; have hnc12 := NB105_107.out; have hnb13 := NB107_106.out; have hnc13 := NB106_107.out; have hcz14_0 : w10.cell? ⟨gb107, 0, none⟩ = some (.int .i64 0) := (blk_cell BK107.out 0).trans rfl; have hcz14_1 : w10.cell? ⟨gb107, 1, none⟩ = some (.int .i64 0) := (blk_cell BK107.out 1).trans rfl; have hcz14_2 : w10.cell? ⟨gb107, 2, none⟩ = some (.bool false) := (blk_cell BK107.out 2).trans rfl; have hfz14_0 := blk_frozen BK107.out 0; have hfz14_1 := blk_frozen BK107.out 1; have hfz14_2 := blk_frozen BK107.out 2))
 go_loopg [7, 9] k (fun kq v7 v9 w' => ∃ (x7_1 : List (S34)) (x9_1 : Int) (x108000_1 : Int) (x108001_1 : Int) (x108002_1 : Bool), v9 = .int .i64 x9_1 ∧ Aside0 (flat_curve.l0 kq x7_1 x9_1 a0_0 a0_1 a0_2 a1_0 a1_1 a1_2 a2_0 a2_1 a2_2 x108000_1 x108001_1 x108002_1 = some r) ∧ Aside0 (kq ≤ k) ∧ Aside0 (Kd.R k34 34 w' w.heap.size (fun _ => True) v7 x7_1) ∧ Aside0 (w'.heap[gb104]? = some (.cells #[.int .i64 a0_0, .int .i64 a0_1, .bool a0_2] 78 (0, 0))) ∧ Aside0 (w'.heap[gb105]? = some (.cells #[.int .i64 a1_0, .int .i64 a1_1, .bool a1_2] 78 (0, 0))) ∧ Aside0 (w'.heap[gb106]? = some (.cells #[.int .i64 a2_0, .int .i64 a2_1, .bool a2_2] 78 (0, 0))) ∧ Aside0 (w'.heap[gb107]? = some (.cells #[.int .i64 x108000_1, .int .i64 x108001_1, .bool x108002_1] 78 (0, 0))) ∧ Aside0 (Below w.heap.size w w'))
 case atStart => exact ⟨(([] : List (S34))), (1), (a0_0), (a0_1), (a0_2), (by first | rfl | (simp; done) | (simp [*]; done)), H', ⟨Nat.le_refl _⟩, ⟨by first | exact Kd.R_nil _ _ _ _ _ | exact Kd.N_nil _ _ _ _ _ | exact Kd.V_nil _ _ _ _ _ | exact Kd.Q_nil _ _ _ _ _ | exact Kd.S_nil _ _ _ _ _⟩, ⟨by (with_reducible repeat first | apply kN | apply kD | apply kA); refine blk_far ?_ NB104_107.out _; (with_reducible repeat first | apply kN | apply kD | apply kA); refine blk_far ?_ NB104_107.out _; (with_reducible repeat first | apply kN | apply kD | apply kA); refine blk_far ?_ NB104_107.out _; (with_reducible repeat first | apply kN | apply kD | apply kA); exact BK104.out⟩, ⟨by (with_reducible repeat first | apply kN | apply kD | apply kA); refine blk_far ?_ NB105_107.out _; (with_reducible repeat first | apply kN | apply kD | apply kA); refine blk_far ?_ NB105_107.out _; (with_reducible repeat first | apply kN | apply kD | apply kA); refine blk_far ?_ NB105_107.out _; (with_reducible repeat first | apply kN | apply kD | apply kA); exact BK105.out⟩, ⟨by (with_reducible repeat first | apply kN | apply kD | apply kA); refine blk_far ?_ NB106_107.out _; (with_reducible repeat first | apply kN | apply kD | apply kA); refine blk_far ?_ NB106_107.out _; (with_reducible repeat first | apply kN | apply kD | apply kA); refine blk_far ?_ NB106_107.out _; (with_reducible repeat first | apply kN | apply kD | apply kA); exact BK106.out⟩, ⟨by (with_reducible repeat first | apply kN | apply kD | apply kA); refine blk_put (cs := #[.int .i64 a0_0, .int .i64 a0_1, .bool false]) ?_ 2 _ rfl; (with_reducible repeat first | apply kN | apply kD | apply kA); refine blk_put (cs := #[.int .i64 a0_0, .int .i64 0, .bool false]) ?_ 1 _ rfl; (with_reducible repeat first | apply kN | apply kD | apply kA); refine blk_put (cs := #[.int .i64 0, .int .i64 0, .bool false]) ?_ 0 _ rfl; (with_reducible repeat first | apply kN | apply kD | apply kA); exact BK107.out⟩, ⟨by repeat (first | (with_reducible first | exact HB.out | apply bAl | apply bDN | apply bD1 | refine bSe ?_ GE104.out | refine bSe ?_ GE105.out | refine bSe ?_ GE106.out | refine bSe ?_ GE107.out) | exact HB.out)⟩⟩
 case round =>
  clear H'
  try clear c1
  try clear p2
  try clear c3
  try clear c7
  try clear c8
  try clear c11
  try clear c12
  try clear c13
  try clear hcz14_0
  try clear hcz14_1
  try clear hcz14_2
  try clear hcz9_0
  try clear hcz9_1
  try clear hcz9_2
  try clear hfz14_0
  try clear hfz14_1
  try clear hfz14_2
  try clear hfz9_0
  try clear hfz9_1
  try clear hfz9_2
  obtain ⟨x7_1, x9_1, x108000_1, x108001_1, x108002_1, rfl, HA, HK1, HO_7, BK104, BK105, BK106, BK107, HB⟩ := hrel
  cases gk with
  | zero => exact absurd HA.out (by simp [flat_curve.l0])
  | succ k1 =>
   have H := HA.out
   clear HA
   simp only [flat_curve.l0] at H
   by_cases c15 : x9_1 ≤ 8
   ·rw [if_pos c15] at H
    have c15b0 : decide (x9_1 ≤ 8) = true := decide_eq_true c15
    clear c15
    replace H := Option.bind_eq_some_iff.mp H
    obtain ⟨t108, A160, H⟩ := H
    replace H : ((flat_bent.f a0_1 a1_1 a2_1 x9_1).bind fun t109 => ((flat_seg.f x108000_1 x108001_1 x108002_1 t108 t109 true).bind fun bt111 => (if x7_1.length < 4398046511104 then (flat_curve.l0 k1 (x7_1 ++ [(⟨bt111.1, bt111.2.1, bt111.2.2.1, bt111.2.2.2⟩ : S34)]) (wrap64 (x9_1 + 1)) a0_0 a0_1 a0_2 a1_0 a1_1 a1_2 a2_0 a2_1 a2_2 t108 t109 true) else (none)))) = some r := H
    have A16 := amk A160
    clear A160
    replace H := Option.bind_eq_some_iff.mp H
    obtain ⟨t109, A170, H⟩ := H
    replace H : ((flat_seg.f x108000_1 x108001_1 x108002_1 t108 t109 true).bind fun bt111 => (if x7_1.length < 4398046511104 then (flat_curve.l0 k1 (x7_1 ++ [(⟨bt111.1, bt111.2.1, bt111.2.2.1, bt111.2.2.2⟩ : S34)]) (wrap64 (x9_1 + 1)) a0_0 a0_1 a0_2 a1_0 a1_1 a1_2 a2_0 a2_1 a2_2 t108 t109 true) else (none))) = some r := H
    have A17 := amk A170
    clear A170
    replace H := Option.bind_eq_some_iff.mp H
    obtain ⟨⟨t111, t112, t113, t114⟩, A180, H⟩ := H
    replace H : (if x7_1.length < 4398046511104 then (flat_curve.l0 k1 (x7_1 ++ [(⟨t111, t112, t113, t114⟩ : S34)]) (wrap64 (x9_1 + 1)) a0_0 a0_1 a0_2 a1_0 a1_1 a1_2 a2_0 a2_1 a2_2 t108 t109 true) else (none)) = some r := H
    have A18 := amk A180
    clear A180
    by_cases c19 : x7_1.length < 4398046511104
    ·rw [if_pos c19] at H
     have LMc19 := amk c19
     clear c19
     obtain ⟨y115, hy115⟩ : ∃ y_ : List (S34), y_ = (x7_1 ++ [(⟨t111, t112, t113, t114⟩ : S34)]) := ⟨_, rfl⟩
     replace H : (flat_curve.l0 k1 y115 (wrap64 (x9_1 + 1)) a0_0 a0_1 a0_2 a1_0 a1_1 a1_2 a2_0 a2_1 a2_2 t108 t109 true) = some r := by first | (rw [hy115]; with_reducible exact H) | (have H2_ := (Option.bind_some _ _).symm.trans H; rw [hy115]; with_reducible exact H2_) | (have H2_ := (Option.bind_some _ _).symm.trans H; with_reducible exact H2_) | with_reducible exact H | (rw [hy115]; exact H) | exact H
     have Ny115 := amk hy115
     clear hy115
     have H' := amk H
     clear H
     try go_wp2
     have n0_ := amk (Kd.R_drew HO_7.out)
     have n1_ := amk (blk_drew BK104.out)
     have n2_ := amk (blk_drew BK105.out)
     have n3_ := amk (blk_drew BK106.out)
     have n4_ := amk (blk_drew BK107.out)
     have n5_ := amk (bD1 HB.out)
     clear HO_7
     clear BK104
     clear BK105
     clear BK106
     clear BK107
     clear HB
     have HO_7 := n0_
     have BK104 := n1_
     have BK105 := n2_
     have BK106 := n3_
     have BK107 := n4_
     have HB := n5_
     clear n0_ n1_ n2_ n3_ n4_ n5_
     refine start_ (n := 19) (S := fun w' => w'.cell? ⟨gb104, 0, none⟩ = some (.int .i64 a0_0) ∧ w'.cell? ⟨gb104, 1, none⟩ = some (.int .i64 a0_1) ∧ w'.cell? ⟨gb104, 2, none⟩ = some (.bool a0_2) ∧ w'.cell? ⟨gb105, 0, none⟩ = some (.int .i64 a1_0) ∧ w'.cell? ⟨gb105, 1, none⟩ = some (.int .i64 a1_1) ∧ w'.cell? ⟨gb105, 2, none⟩ = some (.bool a1_2) ∧ w'.cell? ⟨gb106, 0, none⟩ = some (.int .i64 a2_0) ∧ w'.cell? ⟨gb106, 1, none⟩ = some (.int .i64 a2_1) ∧ w'.cell? ⟨gb106, 2, none⟩ = some (.bool a2_2)) (ds := []) #[false, false, false, false, false, false, false, false, false, false, false, false, false, false, false, false, false, false, false] (by kernel_rfl) rfl rfl ⟨(blk_cell BK104.out 0).trans rfl, (blk_cell BK104.out 1).trans rfl, (blk_cell BK104.out 2).trans rfl, (blk_cell BK105.out 0).trans rfl, (blk_cell BK105.out 1).trans rfl, (blk_cell BK105.out 2).trans rfl, (blk_cell BK106.out 0).trans rfl, (blk_cell BK106.out 1).trans rfl, (blk_cell BK106.out 2).trans rfl⟩ (fun hHeld => ?_); refine with_tabW flat_curve.tab6 flat_curve.bits6 (fun HT_ HW_ => ?_)
     generalize wr.drew = w20 at HO_7 BK104 BK105 BK106 BK107 HB hHeld ⊢
     refine pure_ (i := 0) (N := some 16) (v := ?_) (a' := ?_) #[true, false, false, false, false, false, false, false, false, false, false, false, false, false, false, false, false, false, false] rfl rfl (any_of HT_.out (by kernel_rfl)) (fun _ _ _ h => h) (Or.inl ⟨by rfl, ?_⟩) ?_ ?_
     rotate_left
     ·intro w'
      go_simp
      with_reducible rfl
     rotate_left
     ·simp only [Act.put, sTA, sCZ, sCS, i64_w, i32_w]
      rfl
     refine pure_ (i := 2) (N := some 18) (v := ?_) (a' := ?_) #[true, false, true, false, false, false, false, false, false, false, false, false, false, false, false, false, false, false, false] rfl rfl (any_of HT_.out (by kernel_rfl)) (fun _ _ _ h => h) (Or.inl ⟨by rfl, ?_⟩) ?_ ?_
     rotate_left
     ·intro w'
      go_simp
      with_reducible rfl
     rotate_left
     ·simp only [Act.put, sTA, sCZ, sCS, i64_w, i32_w]
      rfl
     refine pure_ (i := 4) (N := some 20) (v := ?_) (a' := ?_) #[true, false, true, false, true, false, false, false, false, false, false, false, false, false, false, false, false, false, false] rfl rfl (any_of HT_.out (by kernel_rfl)) (fun _ _ _ h => h) (Or.inl ⟨by rfl, ?_⟩) ?_ ?_
     rotate_left
     ·intro w'
      go_simp
      with_reducible rfl
     rotate_left
     ·simp only [Act.put, sTA, sCZ, sCS, i64_w, i32_w]
      rfl
     refine pure_ (i := 6) (N := some 22) (v := ?_) (a' := ?_) #[true, false, true, false, true, false, true, false, false, false, false, false, false, false, false, false, false, false, false] rfl rfl (any_of HT_.out (by kernel_rfl)) (fun _ _ _ h => h) (Or.inl ⟨by rfl, ?_⟩) ?_ ?_
     rotate_left
     ·intro w'
      go_simp
      with_reducible rfl
     rotate_left
     ·simp only [Act.put, sTA, sCZ, sCS, i64_w, i32_w]
      rfl
     refine pure_ (i := 8) (N := some 24) (v := ?_) (a' := ?_) #[true, false, true, false, true, false, true, false, true, false, false, false, false, false, false, false, false, false, false] rfl rfl (any_of HT_.out (by kernel_rfl)) (fun _ _ _ h => h) (Or.inl ⟨by rfl, ?_⟩) ?_ ?_
     rotate_left
     ·intro w'
      go_simp
      with_reducible rfl
     rotate_left
     ·simp only [Act.put, sTA, sCZ, sCS, i64_w, i32_w]
      rfl
     refine pure_ (i := 10) (N := some 26) (v := ?_) (a' := ?_) #[true, false, true, false, true, false, true, false, true, false, true, false, false, false, false, false, false, false, false] rfl rfl (any_of HT_.out (by kernel_rfl)) (fun _ _ _ h => h) (Or.inl ⟨by rfl, ?_⟩) ?_ ?_
     rotate_left
     ·intro w'
      go_simp
      with_reducible rfl
     rotate_left
     ·simp only [Act.put, sTA, sCZ, sCS, i64_w, i32_w]
      rfl
     refine pure_ (i := 12) (N := some 28) (v := ?_) (a' := ?_) #[true, false, true, false, true, false, true, false, true, false, true, false, true, false, false, false, false, false, false] rfl rfl (any_of HT_.out (by kernel_rfl)) (fun _ _ _ h => h) (Or.inl ⟨by rfl, ?_⟩) ?_ ?_
     rotate_left
     ·intro w'
      go_simp
      with_reducible rfl
     rotate_left
     ·simp only [Act.put, sTA, sCZ, sCS, i64_w, i32_w]
      rfl
     refine pure_ (i := 14) (N := some 30) (v := ?_) (a' := ?_) #[true, false, true, false, true, false, true, false, true, false, true, false, true, false, true, false, false, false, false] rfl rfl (any_of HT_.out (by kernel_rfl)) (fun _ _ _ h => h) (Or.inl ⟨by rfl, ?_⟩) ?_ ?_
     rotate_left
     ·intro w'
      go_simp
      with_reducible rfl
     rotate_left
     ·simp only [Act.put, sTA, sCZ, sCS, i64_w, i32_w]
      rfl
     refine take_ (i := 1) (N := some 17) (v := ?_) (a' := ?_) #[true, true, true, false, true, false, true, false, true, false, true, false, true, false, true, false, false, false, false] rfl rfl (take_ofW HT_.out HW_.out (by kernel_rfl)) (fun _ _ _ h => h) (Or.inl ⟨by rfl, ?_⟩) hHeld ?_ ?_
     rotate_left
     ·rintro w' ⟨s0, s1, s2, s3, s4, s5, s6, s7, s8⟩
      go_simp
      with_reducible rfl
     rotate_left
     ·simp only [Act.put, sTA, sCZ, sCS, i64_w, i32_w]
      rfl
     refine take_ (i := 3) (N := some 19) (v := ?_) (a' := ?_) #[true, true, true, true, true, false, true, false, true, false, true, false, true, false, true, false, false, false, false] rfl rfl (take_ofW HT_.out HW_.out (by kernel_rfl)) (fun _ _ _ h => h) (Or.inl ⟨by rfl, ?_⟩) hHeld ?_ ?_
     rotate_left
     ·rintro w' ⟨s0, s1, s2, s3, s4, s5, s6, s7, s8⟩
      go_simp
      with_reducible rfl
     rotate_left
     ·simp only [Act.put, sTA, sCZ, sCS, i64_w, i32_w]
      rfl
     refine take_ (i := 5) (N := some 21) (v := ?_) (a' := ?_) #[true, true, true, true, true, true, true, false, true, false, true, false, true, false, true, false, false, false, false] rfl rfl (take_ofW HT_.out HW_.out (by kernel_rfl)) (fun _ _ _ h => h) (Or.inl ⟨by rfl, ?_⟩) hHeld ?_ ?_
     rotate_left
     ·rintro w' ⟨s0, s1, s2, s3, s4, s5, s6, s7, s8⟩
      go_simp
      with_reducible rfl
     rotate_left
     ·simp only [Act.put, sTA, sCZ, sCS, i64_w, i32_w]
      rfl
     refine take_ (i := 9) (N := some 25) (v := ?_) (a' := ?_) #[true, true, true, true, true, true, true, false, true, true, true, false, true, false, true, false, false, false, false] rfl rfl (take_ofW HT_.out HW_.out (by kernel_rfl)) (fun _ _ _ h => h) (Or.inl ⟨by rfl, ?_⟩) hHeld ?_ ?_
     rotate_left
     ·rintro w' ⟨s0, s1, s2, s3, s4, s5, s6, s7, s8⟩
      go_simp
      with_reducible rfl
     rotate_left
     ·simp only [Act.put, sTA, sCZ, sCS, i64_w, i32_w]
      rfl
     refine take_ (i := 11) (N := some 27) (v := ?_) (a' := ?_) #[true, true, true, true, true, true, true, false, true, true, true, true, true, false, true, false, false, false, false] rfl rfl (take_ofW HT_.out HW_.out (by kernel_rfl)) (fun _ _ _ h => h) (Or.inl ⟨by rfl, ?_⟩) hHeld ?_ ?_
     rotate_left
     ·rintro w' ⟨s0, s1, s2, s3, s4, s5, s6, s7, s8⟩
      go_simp
      with_reducible rfl
     rotate_left
     ·simp only [Act.put, sTA, sCZ, sCS, i64_w, i32_w]
      rfl
     refine take_ (i := 13) (N := some 29) (v := ?_) (a' := ?_) #[true, true, true, true, true, true, true, false, true, true, true, true, true, true, true, false, false, false, false] rfl rfl (take_ofW HT_.out HW_.out (by kernel_rfl)) (fun _ _ _ h => h) (Or.inl ⟨by rfl, ?_⟩) hHeld ?_ ?_
     rotate_left
     ·rintro w' ⟨s0, s1, s2, s3, s4, s5, s6, s7, s8⟩
      go_simp
      with_reducible rfl
     rotate_left
     ·simp only [Act.put, sTA, sCZ, sCS, i64_w, i32_w]
      rfl
     refine join_ (σ := Nat) 1 #[true, true, true, true, true, true, true, true, true, true, true, true, true, true, true, true, true, true, false] (fun s_ => [(23, .int .i64 t108), (31, .int .i64 t109), (10, .pointer (some ⟨s_, 0, none⟩)), (32, .agg #[.int .i64 t108, .int .i64 t109, .bool true])]) (fun s_ w' => (w'.cell? ⟨gb104, 0, none⟩ = some (.int .i64 a0_0) ∧ w'.cell? ⟨gb104, 1, none⟩ = some (.int .i64 a0_1) ∧ w'.cell? ⟨gb104, 2, none⟩ = some (.bool a0_2) ∧ w'.cell? ⟨gb105, 0, none⟩ = some (.int .i64 a1_0) ∧ w'.cell? ⟨gb105, 1, none⟩ = some (.int .i64 a1_1) ∧ w'.cell? ⟨gb105, 2, none⟩ = some (.bool a1_2) ∧ w'.cell? ⟨gb106, 0, none⟩ = some (.int .i64 a2_0) ∧ w'.cell? ⟨gb106, 1, none⟩ = some (.int .i64 a2_1) ∧ w'.cell? ⟨gb106, 2, none⟩ = some (.bool a2_2)) ∧ (Kd.R k34 34 w' w.heap.size (fun _ => True) u7 x7_1) ∧ (w'.heap[gb104]? = some (.cells #[.int .i64 a0_0, .int .i64 a0_1, .bool a0_2] 78 (0, 0))) ∧ (w'.heap[gb105]? = some (.cells #[.int .i64 a1_0, .int .i64 a1_1, .bool a1_2] 78 (0, 0))) ∧ (w'.heap[gb106]? = some (.cells #[.int .i64 a2_0, .int .i64 a2_1, .bool a2_2] 78 (0, 0))) ∧ (w'.heap[gb107]? = some (.cells #[.int .i64 x108000_1, .int .i64 x108001_1, .bool x108002_1] 78 (0, 0))) ∧ (w'.heap[s_]? = some (.cells #[.int .i64 0, .int .i64 0, .bool false] 78 (0, 0))) ∧ (w.heap.size ≤ s_) ∧ (w.heap.size ≤ s_) ∧ (gb104 ≠ s_) ∧ (s_ ≠ gb104) ∧ (gb105 ≠ s_) ∧ (s_ ≠ gb105) ∧ (gb106 ≠ s_) ∧ (s_ ≠ gb106) ∧ (gb107 ≠ s_) ∧ (s_ ≠ gb107) ∧ (Below w.heap.size w w')) ?_ ?_
     rotate_left
     ·intro hCont
      refine two_ (i := 7) (j := 17) (Ni := some 23) (Nj := some 10) #[true, true, true, true, true, true, true, true, true, true, true, true, true, true, true, false, false, false, false] #[true, true, true, true, true, true, true, false, true, true, true, true, true, true, true, false, false, true, false] rfl rfl rfl rfl (two_of HT_.out (by kernel_rfl)) (by decide) (by decide) (fun K hK => ?_) (fun K hK => ?_)
      ·skip
       refine goes_ Try.func57 (by kernel_rfl) rfl #[.int .i64 a0_0, .int .i64 a1_0, .int .i64 a2_0, .int .i64 x9_1] (by rfl) rfl rfl (by (try simp only [List.map_toArray, List.map_cons, List.map_nil]); first | done | rfl | (simp only [List.length_drop, List.length_take]; rfl)) ?_
       with_reducible refine (flat_bent.calls a0_0 a1_0 a2_0 x9_1 t108 _ A16.out).mono ?_
       rintro e w' ⟨rfl, ⟨nd, rfl⟩⟩
       refine ⟨_, rfl, ?_⟩
       refine hK.out _ _ ⟨(blk_cell BK104.out 0).trans rfl, (blk_cell BK104.out 1).trans rfl, (blk_cell BK104.out 2).trans rfl, (blk_cell BK105.out 0).trans rfl, (blk_cell BK105.out 1).trans rfl, (blk_cell BK105.out 2).trans rfl, (blk_cell BK106.out 0).trans rfl, (blk_cell BK106.out 1).trans rfl, (blk_cell BK106.out 2).trans rfl⟩ (fun hHeld => ?_)
       clear hK K
       refine norm_ (a' := ?_) ?_ ?_
       rotate_left
       ·show Act.put _ (some 23) _ = _
        simp only [Act.put, sTA, sCZ, sCS, i64_w, i32_w]
        rfl
       refine two_ (i := 15) (j := 17) (Ni := some 31) (Nj := some 10) #[true, true, true, true, true, true, true, true, true, true, true, true, true, true, true, true, false, false, false] #[true, true, true, true, true, true, true, true, true, true, true, true, true, true, true, false, false, true, false] rfl rfl rfl rfl (two_of HT_.out (by kernel_rfl)) (by decide) (by decide) (fun K hK => ?_) (fun K hK => ?_)
       ·skip
        refine goes_ Try.func57 (by kernel_rfl) rfl #[.int .i64 a0_1, .int .i64 a1_1, .int .i64 a2_1, .int .i64 x9_1] (by rfl) rfl rfl (by (try simp only [List.map_toArray, List.map_cons, List.map_nil]); first | done | rfl | (simp only [List.length_drop, List.length_take]; rfl)) ?_
        with_reducible refine (flat_bent.calls a0_1 a1_1 a2_1 x9_1 t109 _ A17.out).mono ?_
        rintro e w' ⟨rfl, ⟨nd, rfl⟩⟩
        refine ⟨_, rfl, ?_⟩
        refine hK.out _ _ ⟨(blk_cell BK104.out 0).trans rfl, (blk_cell BK104.out 1).trans rfl, (blk_cell BK104.out 2).trans rfl, (blk_cell BK105.out 0).trans rfl, (blk_cell BK105.out 1).trans rfl, (blk_cell BK105.out 2).trans rfl, (blk_cell BK106.out 0).trans rfl, (blk_cell BK106.out 1).trans rfl, (blk_cell BK106.out 2).trans rfl⟩ (fun hHeld => ?_)
        clear hK K
        refine norm_ (a' := ?_) ?_ ?_
        rotate_left
        ·show Act.put _ (some 31) _ = _
         simp only [Act.put, sTA, sCZ, sCS, i64_w, i32_w]
         rfl
        refine pure_ (i := 16) (N := some 32) (v := ?_) (a' := ?_) #[true, true, true, true, true, true, true, true, true, true, true, true, true, true, true, true, true, false, false] rfl rfl (any_of HT_.out (by kernel_rfl)) (fun _ _ _ h => h) (Or.inl ⟨by rfl, ?_⟩) ?_ ?_
        rotate_left
        ·intro w'
         go_simp
         with_reducible rfl
        rotate_left
        ·simp only [Act.put, sTA, sCZ, sCS, i64_w, i32_w]
         rfl
        refine one_ (i := 17) (N := some 10) #[true, true, true, true, true, true, true, true, true, true, true, true, true, true, true, true, true, true, false] rfl rfl (one_of HT_.out (by kernel_rfl)) (by decide) (fun K hK => ?_)
        refine box_step ?hg (N := 10) ?hd (cs := #[.int .i64 0, .int .i64 0, .bool false]) (t := 78) ?hr ?_; (case hd => rfl); (case hg => rfl); (case hr => first | (go_simp; done) | (go_simp; rfl))
        intro gb110 hg w21 hbox hb
        have n0_ := amk (Kd.R_below (by (with_reducible repeat (first | apply Kd.R_alloc | apply Kd.R_drewN | apply Kd.R_drew)); exact HO_7.out) hb)
        have n1_ := amk (blk_below (g := gb104) (o := .cells #[.int .i64 a0_0, .int .i64 a0_1, .bool a0_2] 78 (0, 0)) (by (with_reducible repeat first | apply kN | apply kD | apply kA); exact BK104.out) hb)
        have n2_ := amk (blk_below (g := gb105) (o := .cells #[.int .i64 a1_0, .int .i64 a1_1, .bool a1_2] 78 (0, 0)) (by (with_reducible repeat first | apply kN | apply kD | apply kA); exact BK105.out) hb)
        have n3_ := amk (blk_below (g := gb106) (o := .cells #[.int .i64 a2_0, .int .i64 a2_1, .bool a2_2] 78 (0, 0)) (by (with_reducible repeat first | apply kN | apply kD | apply kA); exact BK106.out) hb)
        have n4_ := amk (blk_below (g := gb107) (o := .cells #[.int .i64 x108000_1, .int .i64 x108001_1, .bool x108002_1] 78 (0, 0)) (by (with_reducible repeat first | apply kN | apply kD | apply kA); exact BK107.out) hb)
        have n5_ := amk (below_step (by repeat (first | (with_reducible first | exact HB.out | apply bAl | apply bDN | apply bD1 | refine bSe ?_ GE104.out | refine bSe ?_ GE105.out | refine bSe ?_ GE106.out | refine bSe ?_ GE107.out) | exact HB.out)) hb)
        have n6_ := amk (hbox)
        have n7_ := amk ((by rw [hg]; exact (below_size (by repeat (first | (with_reducible first | exact HB.out | apply bAl | apply bDN | apply bD1 | refine bSe ?_ GE104.out | refine bSe ?_ GE105.out | refine bSe ?_ GE106.out | refine bSe ?_ GE107.out) | exact HB.out))) : w.heap.size ≤ gb110))
        have n8_ := amk ((by rw [hg]; exact (below_size (by repeat (first | (with_reducible first | exact HB.out | apply bAl | apply bDN | apply bD1 | refine bSe ?_ GE104.out | refine bSe ?_ GE105.out | refine bSe ?_ GE106.out | refine bSe ?_ GE107.out) | exact HB.out))) : w.heap.size ≤ gb110))
        have n9_ := amk ((by rw [hg]; exact Nat.ne_of_lt (blk_lt (g := gb104) (o := .cells #[.int .i64 a0_0, .int .i64 a0_1, .bool a0_2] 78 (0, 0)) (by (with_reducible repeat first | apply kN | apply kD | apply kA); exact BK104.out)) : gb104 ≠ gb110))
        have n10_ := amk ((by rw [hg]; exact Nat.ne_of_gt (blk_lt (g := gb104) (o := .cells #[.int .i64 a0_0, .int .i64 a0_1, .bool a0_2] 78 (0, 0)) (by (with_reducible repeat first | apply kN | apply kD | apply kA); exact BK104.out)) : gb110 ≠ gb104))
        have n11_ := amk ((by rw [hg]; exact Nat.ne_of_lt (blk_lt (g := gb105) (o := .cells #[.int .i64 a1_0, .int .i64 a1_1, .bool a1_2] 78 (0, 0)) (by (with_reducible repeat first | apply kN | apply kD | apply kA); exact BK105.out)) : gb105 ≠ gb110))
        have n12_ := amk ((by rw [hg]; exact Nat.ne_of_gt (blk_lt (g := gb105) (o := .cells #[.int .i64 a1_0, .int .i64 a1_1, .bool a1_2] 78 (0, 0)) (by (with_reducible repeat first | apply kN | apply kD | apply kA); exact BK105.out)) : gb110 ≠ gb105))
        have n13_ := amk ((by rw [hg]; exact Nat.ne_of_lt (blk_lt (g := gb106) (o := .cells #[.int .i64 a2_0, .int .i64 a2_1, .bool a2_2] 78 (0, 0)) (by (with_reducible repeat first | apply kN | apply kD | apply kA); exact BK106.out)) : gb106 ≠ gb110))
        have n14_ := amk ((by rw [hg]; exact Nat.ne_of_gt (blk_lt (g := gb106) (o := .cells #[.int .i64 a2_0, .int .i64 a2_1, .bool a2_2] 78 (0, 0)) (by (with_reducible repeat first | apply kN | apply kD | apply kA); exact BK106.out)) : gb110 ≠ gb106))
        have n15_ := amk ((by rw [hg]; exact Nat.ne_of_lt (blk_lt (g := gb107) (o := .cells #[.int .i64 x108000_1, .int .i64 x108001_1, .bool x108002_1] 78 (0, 0)) (by (with_reducible repeat first | apply kN | apply kD | apply kA); exact BK107.out)) : gb107 ≠ gb110))
        have n16_ := amk ((by rw [hg]; exact Nat.ne_of_gt (blk_lt (g := gb107) (o := .cells #[.int .i64 x108000_1, .int .i64 x108001_1, .bool x108002_1] 78 (0, 0)) (by (with_reducible repeat first | apply kN | apply kD | apply kA); exact BK107.out)) : gb110 ≠ gb107))
        clear HO_7
        clear BK104
        clear BK105
        clear BK106
        clear BK107
        clear HB
        have HO_7 := n0_
        have BK104 := n1_
        have BK105 := n2_
        have BK106 := n3_
        have BK107 := n4_
        have HB := n5_
        have BK110 := n6_
        have GW110 := n7_
        have GE110 := n8_
        have NB104_110 := n9_
        have NB110_104 := n10_
        have NB105_110 := n11_
        have NB110_105 := n12_
        have NB106_110 := n13_
        have NB110_106 := n14_
        have NB107_110 := n15_
        have NB110_107 := n16_
        clear n0_ n1_ n2_ n3_ n4_ n5_ n6_ n7_ n8_ n9_ n10_ n11_ n12_ n13_ n14_ n15_ n16_
        clear hb hbox hg
        refine hK.out _ _ ⟨(blk_cell BK104.out 0).trans rfl, (blk_cell BK104.out 1).trans rfl, (blk_cell BK104.out 2).trans rfl, (blk_cell BK105.out 0).trans rfl, (blk_cell BK105.out 1).trans rfl, (blk_cell BK105.out 2).trans rfl, (blk_cell BK106.out 0).trans rfl, (blk_cell BK106.out 1).trans rfl, (blk_cell BK106.out 2).trans rfl⟩ (fun hHeld => ?_)
        clear hK K
        refine norm_ (a' := ?_) ?_ ?_
        rotate_left
        ·show Act.put _ (some 10) _ = _
         simp only [Act.put, sTA, sCZ, sCS, i64_w, i32_w]
         rfl
        exact norm_ (by simp only [putAll, Act.put, sTA, sCZ, sCS]) (hCont (gb110) _ ⟨hHeld, (by (with_reducible repeat (first | apply Kd.R_alloc | apply Kd.R_drewN | apply Kd.R_drew)); exact HO_7.out), (by (with_reducible repeat first | apply kN | apply kD | apply kA); exact BK104.out), (by (with_reducible repeat first | apply kN | apply kD | apply kA); exact BK105.out), (by (with_reducible repeat first | apply kN | apply kD | apply kA); exact BK106.out), (by (with_reducible repeat first | apply kN | apply kD | apply kA); exact BK107.out), (by (with_reducible repeat first | apply kN | apply kD | apply kA); exact BK110.out), GW110.out, GE110.out, NB104_110.out, NB110_104.out, NB105_110.out, NB110_105.out, NB106_110.out, NB110_106.out, NB107_110.out, NB110_107.out, (by repeat (first | (with_reducible first | exact HB.out | apply bAl | apply bDN | apply bD1 | refine bSe ?_ GE104.out | refine bSe ?_ GE105.out | refine bSe ?_ GE106.out | refine bSe ?_ GE107.out | refine bSe ?_ GE110.out) | exact HB.out))⟩)
       ·skip
        refine box_step ?hg (N := 10) ?hd (cs := #[.int .i64 0, .int .i64 0, .bool false]) (t := 78) ?hr ?_; (case hd => rfl); (case hg => rfl); (case hr => first | (go_simp; done) | (go_simp; rfl))
        intro gb110 hg w21 hbox hb
        have n0_ := amk (Kd.R_below (by (with_reducible repeat (first | apply Kd.R_alloc | apply Kd.R_drewN | apply Kd.R_drew)); exact HO_7.out) hb)
        have n1_ := amk (blk_below (g := gb104) (o := .cells #[.int .i64 a0_0, .int .i64 a0_1, .bool a0_2] 78 (0, 0)) (by (with_reducible repeat first | apply kN | apply kD | apply kA); exact BK104.out) hb)
        have n2_ := amk (blk_below (g := gb105) (o := .cells #[.int .i64 a1_0, .int .i64 a1_1, .bool a1_2] 78 (0, 0)) (by (with_reducible repeat first | apply kN | apply kD | apply kA); exact BK105.out) hb)
        have n3_ := amk (blk_below (g := gb106) (o := .cells #[.int .i64 a2_0, .int .i64 a2_1, .bool a2_2] 78 (0, 0)) (by (with_reducible repeat first | apply kN | apply kD | apply kA); exact BK106.out) hb)
        have n4_ := amk (blk_below (g := gb107) (o := .cells #[.int .i64 x108000_1, .int .i64 x108001_1, .bool x108002_1] 78 (0, 0)) (by (with_reducible repeat first | apply kN | apply kD | apply kA); exact BK107.out) hb)
        have n5_ := amk (below_step (by repeat (first | (with_reducible first | exact HB.out | apply bAl | apply bDN | apply bD1 | refine bSe ?_ GE104.out | refine bSe ?_ GE105.out | refine bSe ?_ GE106.out | refine bSe ?_ GE107.out) | exact HB.out)) hb)
        have n6_ := amk (hbox)
        have n7_ := amk ((by rw [hg]; exact (below_size (by repeat (first | (with_reducible first | exact HB.out | apply bAl | apply bDN | apply bD1 | refine bSe ?_ GE104.out | refine bSe ?_ GE105.out | refine bSe ?_ GE106.out | refine bSe ?_ GE107.out) | exact HB.out))) : w.heap.size ≤ gb110))
        have n8_ := amk ((by rw [hg]; exact (below_size (by repeat (first | (with_reducible first | exact HB.out | apply bAl | apply bDN | apply bD1 | refine bSe ?_ GE104.out | refine bSe ?_ GE105.out | refine bSe ?_ GE106.out | refine bSe ?_ GE107.out) | exact HB.out))) : w.heap.size ≤ gb110))
        have n9_ := amk ((by rw [hg]; exact Nat.ne_of_lt (blk_lt (g := gb104) (o := .cells #[.int .i64 a0_0, .int .i64 a0_1, .bool a0_2] 78 (0, 0)) (by (with_reducible repeat first | apply kN | apply kD | apply kA); exact BK104.out)) : gb104 ≠ gb110))
        have n10_ := amk ((by rw [hg]; exact Nat.ne_of_gt (blk_lt (g := gb104) (o := .cells #[.int .i64 a0_0, .int .i64 a0_1, .bool a0_2] 78 (0, 0)) (by (with_reducible repeat first | apply kN | apply kD | apply kA); exact BK104.out)) : gb110 ≠ gb104))
        have n11_ := amk ((by rw [hg]; exact Nat.ne_of_lt (blk_lt (g := gb105) (o := .cells #[.int .i64 a1_0, .int .i64 a1_1, .bool a1_2] 78 (0, 0)) (by (with_reducible repeat first | apply kN | apply kD | apply kA); exact BK105.out)) : gb105 ≠ gb110))
        have n12_ := amk ((by rw [hg]; exact Nat.ne_of_gt (blk_lt (g := gb105) (o := .cells #[.int .i64 a1_0, .int .i64 a1_1, .bool a1_2] 78 (0, 0)) (by (with_reducible repeat first | apply kN | apply kD | apply kA); exact BK105.out)) : gb110 ≠ gb105))
        have n13_ := amk ((by rw [hg]; exact Nat.ne_of_lt (blk_lt (g := gb106) (o := .cells #[.int .i64 a2_0, .int .i64 a2_1, .bool a2_2] 78 (0, 0)) (by (with_reducible repeat first | apply kN | apply kD | apply kA); exact BK106.out)) : gb106 ≠ gb110))
        have n14_ := amk ((by rw [hg]; exact Nat.ne_of_gt (blk_lt (g := gb106) (o := .cells #[.int .i64 a2_0, .int .i64 a2_1, .bool a2_2] 78 (0, 0)) (by (with_reducible repeat first | apply kN | apply kD | apply kA); exact BK106.out)) : gb110 ≠ gb106))
        have n15_ := amk ((by rw [hg]; exact Nat.ne_of_lt (blk_lt (g := gb107) (o := .cells #[.int .i64 x108000_1, .int .i64 x108001_1, .bool x108002_1] 78 (0, 0)) (by (with_reducible repeat first | apply kN | apply kD | apply kA); exact BK107.out)) : gb107 ≠ gb110))
        have n16_ := amk ((by rw [hg]; exact Nat.ne_of_gt (blk_lt (g := gb107) (o := .cells #[.int .i64 x108000_1, .int .i64 x108001_1, .bool x108002_1] 78 (0, 0)) (by (with_reducible repeat first | apply kN | apply kD | apply kA); exact BK107.out)) : gb110 ≠ gb107))
        clear HO_7
        clear BK104
        clear BK105
        clear BK106
        clear BK107
        clear HB
        have HO_7 := n0_
        have BK104 := n1_
        have BK105 := n2_
        have BK106 := n3_
        have BK107 := n4_
        have HB := n5_
        have BK110 := n6_
        have GW110 := n7_
        have GE110 := n8_
        have NB104_110 := n9_
        have NB110_104 := n10_
        have NB105_110 := n11_
        have NB110_105 := n12_
        have NB106_110 := n13_
        have NB110_106 := n14_
        have NB107_110 := n15_
        have NB110_107 := n16_
        clear n0_ n1_ n2_ n3_ n4_ n5_ n6_ n7_ n8_ n9_ n10_ n11_ n12_ n13_ n14_ n15_ n16_
        clear hb hbox hg
        refine hK.out _ _ ⟨(blk_cell BK104.out 0).trans rfl, (blk_cell BK104.out 1).trans rfl, (blk_cell BK104.out 2).trans rfl, (blk_cell BK105.out 0).trans rfl, (blk_cell BK105.out 1).trans rfl, (blk_cell BK105.out 2).trans rfl, (blk_cell BK106.out 0).trans rfl, (blk_cell BK106.out 1).trans rfl, (blk_cell BK106.out 2).trans rfl⟩ (fun hHeld => ?_)
        clear hK K
        refine norm_ (a' := ?_) ?_ ?_
        rotate_left
        ·show Act.put _ (some 10) _ = _
         simp only [Act.put, sTA, sCZ, sCS, i64_w, i32_w]
         rfl
        refine one_ (i := 15) (N := some 31) #[true, true, true, true, true, true, true, true, true, true, true, true, true, true, true, true, false, true, false] rfl rfl (one_of HT_.out (by kernel_rfl)) (by decide) (fun K hK => ?_)
        refine goes_ Try.func57 (by kernel_rfl) rfl #[.int .i64 a0_1, .int .i64 a1_1, .int .i64 a2_1, .int .i64 x9_1] (by rfl) rfl rfl (by (try simp only [List.map_toArray, List.map_cons, List.map_nil]); first | done | rfl | (simp only [List.length_drop, List.length_take]; rfl)) ?_
        with_reducible refine (flat_bent.calls a0_1 a1_1 a2_1 x9_1 t109 _ A17.out).mono ?_
        rintro e w' ⟨rfl, ⟨nd, rfl⟩⟩
        refine ⟨_, rfl, ?_⟩
        refine hK.out _ _ ⟨(blk_cell BK104.out 0).trans rfl, (blk_cell BK104.out 1).trans rfl, (blk_cell BK104.out 2).trans rfl, (blk_cell BK105.out 0).trans rfl, (blk_cell BK105.out 1).trans rfl, (blk_cell BK105.out 2).trans rfl, (blk_cell BK106.out 0).trans rfl, (blk_cell BK106.out 1).trans rfl, (blk_cell BK106.out 2).trans rfl⟩ (fun hHeld => ?_)
        clear hK K
        refine norm_ (a' := ?_) ?_ ?_
        rotate_left
        ·show Act.put _ (some 31) _ = _
         simp only [Act.put, sTA, sCZ, sCS, i64_w, i32_w]
         rfl
        refine pure_ (i := 16) (N := some 32) (v := ?_) (a' := ?_) #[true, true, true, true, true, true, true, true, true, true, true, true, true, true, true, true, true, true, false] rfl rfl (any_of HT_.out (by kernel_rfl)) (fun _ _ _ h => h) (Or.inl ⟨by rfl, ?_⟩) ?_ ?_
        rotate_left
        ·intro w'
         go_simp
         with_reducible rfl
        rotate_left
        ·simp only [Act.put, sTA, sCZ, sCS, i64_w, i32_w]
         rfl
        exact norm_ (by simp only [putAll, Act.put, sTA, sCZ, sCS]) (hCont (gb110) _ ⟨hHeld, (by (with_reducible repeat (first | apply Kd.R_alloc | apply Kd.R_drewN | apply Kd.R_drew)); exact HO_7.out), (by (with_reducible repeat first | apply kN | apply kD | apply kA); exact BK104.out), (by (with_reducible repeat first | apply kN | apply kD | apply kA); exact BK105.out), (by (with_reducible repeat first | apply kN | apply kD | apply kA); exact BK106.out), (by (with_reducible repeat first | apply kN | apply kD | apply kA); exact BK107.out), (by (with_reducible repeat first | apply kN | apply kD | apply kA); exact BK110.out), GW110.out, GE110.out, NB104_110.out, NB110_104.out, NB105_110.out, NB110_105.out, NB106_110.out, NB110_106.out, NB107_110.out, NB110_107.out, (by repeat (first | (with_reducible first | exact HB.out | apply bAl | apply bDN | apply bD1 | refine bSe ?_ GE104.out | refine bSe ?_ GE105.out | refine bSe ?_ GE106.out | refine bSe ?_ GE107.out | refine bSe ?_ GE110.out) | exact HB.out))⟩)
      ·skip
       refine box_step ?hg (N := 10) ?hd (cs := #[.int .i64 0, .int .i64 0, .bool false]) (t := 78) ?hr ?_; (case hd => rfl); (case hg => rfl); (case hr => first | (go_simp; done) | (go_simp; rfl))
       intro gb110 hg w21 hbox hb
       have n0_ := amk (Kd.R_below (by (with_reducible repeat (first | apply Kd.R_alloc | apply Kd.R_drewN | apply Kd.R_drew)); exact HO_7.out) hb)
       have n1_ := amk (blk_below (g := gb104) (o := .cells #[.int .i64 a0_0, .int .i64 a0_1, .bool a0_2] 78 (0, 0)) (by (with_reducible repeat first | apply kN | apply kD | apply kA); exact BK104.out) hb)
       have n2_ := amk (blk_below (g := gb105) (o := .cells #[.int .i64 a1_0, .int .i64 a1_1, .bool a1_2] 78 (0, 0)) (by (with_reducible repeat first | apply kN | apply kD | apply kA); exact BK105.out) hb)
       have n3_ := amk (blk_below (g := gb106) (o := .cells #[.int .i64 a2_0, .int .i64 a2_1, .bool a2_2] 78 (0, 0)) (by (with_reducible repeat first | apply kN | apply kD | apply kA); exact BK106.out) hb)
       have n4_ := amk (blk_below (g := gb107) (o := .cells #[.int .i64 x108000_1, .int .i64 x108001_1, .bool x108002_1] 78 (0, 0)) (by (with_reducible repeat first | apply kN | apply kD | apply kA); exact BK107.out) hb)
       have n5_ := amk (below_step (by repeat (first | (with_reducible first | exact HB.out | apply bAl | apply bDN | apply bD1 | refine bSe ?_ GE104.out | refine bSe ?_ GE105.out | refine bSe ?_ GE106.out | refine bSe ?_ GE107.out) | exact HB.out)) hb)
       have n6_ := amk (hbox)
       have n7_ := amk ((by rw [hg]; exact (below_size (by repeat (first | (with_reducible first | exact HB.out | apply bAl | apply bDN | apply bD1 | refine bSe ?_ GE104.out | refine bSe ?_ GE105.out | refine bSe ?_ GE106.out | refine bSe ?_ GE107.out) | exact HB.out))) : w.heap.size ≤ gb110))
       have n8_ := amk ((by rw [hg]; exact (below_size (by repeat (first | (with_reducible first | exact HB.out | apply bAl | apply bDN | apply bD1 | refine bSe ?_ GE104.out | refine bSe ?_ GE105.out | refine bSe ?_ GE106.out | refine bSe ?_ GE107.out) | exact HB.out))) : w.heap.size ≤ gb110))
       have n9_ := amk ((by rw [hg]; exact Nat.ne_of_lt (blk_lt (g := gb104) (o := .cells #[.int .i64 a0_0, .int .i64 a0_1, .bool a0_2] 78 (0, 0)) (by (with_reducible repeat first | apply kN | apply kD | apply kA); exact BK104.out)) : gb104 ≠ gb110))
       have n10_ := amk ((by rw [hg]; exact Nat.ne_of_gt (blk_lt (g := gb104) (o := .cells #[.int .i64 a0_0, .int .i64 a0_1, .bool a0_2] 78 (0, 0)) (by (with_reducible repeat first | apply kN | apply kD | apply kA); exact BK104.out)) : gb110 ≠ gb104))
       have n11_ := amk ((by rw [hg]; exact Nat.ne_of_lt (blk_lt (g := gb105) (o := .cells #[.int .i64 a1_0, .int .i64 a1_1, .bool a1_2] 78 (0, 0)) (by (with_reducible repeat first | apply kN | apply kD | apply kA); exact BK105.out)) : gb105 ≠ gb110))
       have n12_ := amk ((by rw [hg]; exact Nat.ne_of_gt (blk_lt (g := gb105) (o := .cells #[.int .i64 a1_0, .int .i64 a1_1, .bool a1_2] 78 (0, 0)) (by (with_reducible repeat first | apply kN | apply kD | apply kA); exact BK105.out)) : gb110 ≠ gb105))
       have n13_ := amk ((by rw [hg]; exact Nat.ne_of_lt (blk_lt (g := gb106) (o := .cells #[.int .i64 a2_0, .int .i64 a2_1, .bool a2_2] 78 (0, 0)) (by (with_reducible repeat first | apply kN | apply kD | apply kA); exact BK106.out)) : gb106 ≠ gb110))
       have n14_ := amk ((by rw [hg]; exact Nat.ne_of_gt (blk_lt (g := gb106) (o := .cells #[.int .i64 a2_0, .int .i64 a2_1, .bool a2_2] 78 (0, 0)) (by (with_reducible repeat first | apply kN | apply kD | apply kA); exact BK106.out)) : gb110 ≠ gb106))
       have n15_ := amk ((by rw [hg]; exact Nat.ne_of_lt (blk_lt (g := gb107) (o := .cells #[.int .i64 x108000_1, .int .i64 x108001_1, .bool x108002_1] 78 (0, 0)) (by (with_reducible repeat first | apply kN | apply kD | apply kA); exact BK107.out)) : gb107 ≠ gb110))
       have n16_ := amk ((by rw [hg]; exact Nat.ne_of_gt (blk_lt (g := gb107) (o := .cells #[.int .i64 x108000_1, .int .i64 x108001_1, .bool x108002_1] 78 (0, 0)) (by (with_reducible repeat first | apply kN | apply kD | apply kA); exact BK107.out)) : gb110 ≠ gb107))
       clear HO_7
       clear BK104
       clear BK105
       clear BK106
       clear BK107
       clear HB
       have HO_7 := n0_
       have BK104 := n1_
       have BK105 := n2_
       have BK106 := n3_
       have BK107 := n4_
       have HB := n5_
       have BK110 := n6_
       have GW110 := n7_
       have GE110 := n8_
       have NB104_110 := n9_
       have NB110_104 := n10_
       have NB105_110 := n11_
       have NB110_105 := n12_
       have NB106_110 := n13_
       have NB110_106 := n14_
       have NB107_110 := n15_
       have NB110_107 := n16_
       clear n0_ n1_ n2_ n3_ n4_ n5_ n6_ n7_ n8_ n9_ n10_ n11_ n12_ n13_ n14_ n15_ n16_
       clear hb hbox hg
       refine hK.out _ _ ⟨(blk_cell BK104.out 0).trans rfl, (blk_cell BK104.out 1).trans rfl, (blk_cell BK104.out 2).trans rfl, (blk_cell BK105.out 0).trans rfl, (blk_cell BK105.out 1).trans rfl, (blk_cell BK105.out 2).trans rfl, (blk_cell BK106.out 0).trans rfl, (blk_cell BK106.out 1).trans rfl, (blk_cell BK106.out 2).trans rfl⟩ (fun hHeld => ?_)
       clear hK K
       refine norm_ (a' := ?_) ?_ ?_
       rotate_left
       ·show Act.put _ (some 10) _ = _
        simp only [Act.put, sTA, sCZ, sCS, i64_w, i32_w]
        rfl
       refine one_ (i := 7) (N := some 23) #[true, true, true, true, true, true, true, true, true, true, true, true, true, true, true, false, false, true, false] rfl rfl (one_of HT_.out (by kernel_rfl)) (by decide) (fun K hK => ?_)
       refine goes_ Try.func57 (by kernel_rfl) rfl #[.int .i64 a0_0, .int .i64 a1_0, .int .i64 a2_0, .int .i64 x9_1] (by rfl) rfl rfl (by (try simp only [List.map_toArray, List.map_cons, List.map_nil]); first | done | rfl | (simp only [List.length_drop, List.length_take]; rfl)) ?_
       with_reducible refine (flat_bent.calls a0_0 a1_0 a2_0 x9_1 t108 _ A16.out).mono ?_
       rintro e w' ⟨rfl, ⟨nd, rfl⟩⟩
       refine ⟨_, rfl, ?_⟩
       refine hK.out _ _ ⟨(blk_cell BK104.out 0).trans rfl, (blk_cell BK104.out 1).trans rfl, (blk_cell BK104.out 2).trans rfl, (blk_cell BK105.out 0).trans rfl, (blk_cell BK105.out 1).trans rfl, (blk_cell BK105.out 2).trans rfl, (blk_cell BK106.out 0).trans rfl, (blk_cell BK106.out 1).trans rfl, (blk_cell BK106.out 2).trans rfl⟩ (fun hHeld => ?_)
       clear hK K
       refine norm_ (a' := ?_) ?_ ?_
       rotate_left
       ·show Act.put _ (some 23) _ = _
        simp only [Act.put, sTA, sCZ, sCS, i64_w, i32_w]
        rfl
       refine one_ (i := 15) (N := some 31) #[true, true, true, true, true, true, true, true, true, true, true, true, true, true, true, true, false, true, false] rfl rfl (one_of HT_.out (by kernel_rfl)) (by decide) (fun K hK => ?_)
       refine goes_ Try.func57 (by kernel_rfl) rfl #[.int .i64 a0_1, .int .i64 a1_1, .int .i64 a2_1, .int .i64 x9_1] (by rfl) rfl rfl (by (try simp only [List.map_toArray, List.map_cons, List.map_nil]); first | done | rfl | (simp only [List.length_drop, List.length_take]; rfl)) ?_
       with_reducible refine (flat_bent.calls a0_1 a1_1 a2_1 x9_1 t109 _ A17.out).mono ?_
       rintro e w' ⟨rfl, ⟨nd, rfl⟩⟩
       refine ⟨_, rfl, ?_⟩
       refine hK.out _ _ ⟨(blk_cell BK104.out 0).trans rfl, (blk_cell BK104.out 1).trans rfl, (blk_cell BK104.out 2).trans rfl, (blk_cell BK105.out 0).trans rfl, (blk_cell BK105.out 1).trans rfl, (blk_cell BK105.out 2).trans rfl, (blk_cell BK106.out 0).trans rfl, (blk_cell BK106.out 1).trans rfl, (blk_cell BK106.out 2).trans rfl⟩ (fun hHeld => ?_)
       clear hK K
       refine norm_ (a' := ?_) ?_ ?_
       rotate_left
       ·show Act.put _ (some 31) _ = _
        simp only [Act.put, sTA, sCZ, sCS, i64_w, i32_w]
        rfl
       refine pure_ (i := 16) (N := some 32) (v := ?_) (a' := ?_) #[true, true, true, true, true, true, true, true, true, true, true, true, true, true, true, true, true, true, false] rfl rfl (any_of HT_.out (by kernel_rfl)) (fun _ _ _ h => h) (Or.inl ⟨by rfl, ?_⟩) ?_ ?_
       rotate_left
       ·intro w'
        go_simp
        with_reducible rfl
       rotate_left
       ·simp only [Act.put, sTA, sCZ, sCS, i64_w, i32_w]
        rfl
       exact norm_ (by simp only [putAll, Act.put, sTA, sCZ, sCS]) (hCont (gb110) _ ⟨hHeld, (by (with_reducible repeat (first | apply Kd.R_alloc | apply Kd.R_drewN | apply Kd.R_drew)); exact HO_7.out), (by (with_reducible repeat first | apply kN | apply kD | apply kA); exact BK104.out), (by (with_reducible repeat first | apply kN | apply kD | apply kA); exact BK105.out), (by (with_reducible repeat first | apply kN | apply kD | apply kA); exact BK106.out), (by (with_reducible repeat first | apply kN | apply kD | apply kA); exact BK107.out), (by (with_reducible repeat first | apply kN | apply kD | apply kA); exact BK110.out), GW110.out, GE110.out, NB104_110.out, NB110_104.out, NB105_110.out, NB110_105.out, NB106_110.out, NB110_106.out, NB107_110.out, NB110_107.out, (by repeat (first | (with_reducible first | exact HB.out | apply bAl | apply bDN | apply bD1 | refine bSe ?_ GE104.out | refine bSe ?_ GE105.out | refine bSe ?_ GE106.out | refine bSe ?_ GE107.out | refine bSe ?_ GE110.out) | exact HB.out))⟩)
     rintro gb110 w22 ⟨hS_, h0_, h1_, h2_, h3_, h4_, h5_, h6_, h7_, h8_, h9_, h10_, h11_, h12_, h13_, h14_, h15_, h16_⟩
     have n0_ : Aside0 (Kd.R k34 34 w22 w.heap.size (fun _ => True) u7 x7_1) := ⟨h0_⟩
     have n1_ : Aside0 (w22.heap[gb104]? = some (.cells #[.int .i64 a0_0, .int .i64 a0_1, .bool a0_2] 78 (0, 0))) := ⟨h1_⟩
     have n2_ : Aside0 (w22.heap[gb105]? = some (.cells #[.int .i64 a1_0, .int .i64 a1_1, .bool a1_2] 78 (0, 0))) := ⟨h2_⟩
     have n3_ : Aside0 (w22.heap[gb106]? = some (.cells #[.int .i64 a2_0, .int .i64 a2_1, .bool a2_2] 78 (0, 0))) := ⟨h3_⟩
     have n4_ : Aside0 (w22.heap[gb107]? = some (.cells #[.int .i64 x108000_1, .int .i64 x108001_1, .bool x108002_1] 78 (0, 0))) := ⟨h4_⟩
     have n5_ : Aside0 (w22.heap[gb110]? = some (.cells #[.int .i64 0, .int .i64 0, .bool false] 78 (0, 0))) := ⟨h5_⟩
     have n6_ : Aside0 (w.heap.size ≤ gb110) := ⟨h6_⟩
     have n7_ : Aside0 (w.heap.size ≤ gb110) := ⟨h7_⟩
     have n8_ : Aside0 (gb104 ≠ gb110) := ⟨h8_⟩
     have n9_ : Aside0 (gb110 ≠ gb104) := ⟨h9_⟩
     have n10_ : Aside0 (gb105 ≠ gb110) := ⟨h10_⟩
     have n11_ : Aside0 (gb110 ≠ gb105) := ⟨h11_⟩
     have n12_ : Aside0 (gb106 ≠ gb110) := ⟨h12_⟩
     have n13_ : Aside0 (gb110 ≠ gb106) := ⟨h13_⟩
     have n14_ : Aside0 (gb107 ≠ gb110) := ⟨h14_⟩
     have n15_ : Aside0 (gb110 ≠ gb107) := ⟨h15_⟩
     have n16_ : Aside0 (Below w.heap.size w w22) := ⟨h16_⟩
     clear HO_7
     clear BK104
     clear BK105
     clear BK106
     clear BK107
     clear HB
     clear h0_ h1_ h2_ h3_ h4_ h5_ h6_ h7_ h8_ h9_ h10_ h11_ h12_ h13_ h14_ h15_ h16_
     have HO_7 := n0_
     have BK104 := n1_
     have BK105 := n2_
     have BK106 := n3_
     have BK107 := n4_
     have BK110 := n5_
     have GW110 := n6_
     have GE110 := n7_
     have NB104_110 := n8_
     have NB110_104 := n9_
     have NB105_110 := n10_
     have NB110_105 := n11_
     have NB106_110 := n12_
     have NB110_106 := n13_
     have NB107_110 := n14_
     have NB110_107 := n15_
     have HB := n16_
     clear n0_ n1_ n2_ n3_ n4_ n5_ n6_ n7_ n8_ n9_ n10_ n11_ n12_ n13_ n14_ n15_ n16_
     have hHeld : w22.cell? ⟨gb104, 0, none⟩ = some (.int .i64 a0_0) ∧ w22.cell? ⟨gb104, 1, none⟩ = some (.int .i64 a0_1) ∧ w22.cell? ⟨gb104, 2, none⟩ = some (.bool a0_2) ∧ w22.cell? ⟨gb105, 0, none⟩ = some (.int .i64 a1_0) ∧ w22.cell? ⟨gb105, 1, none⟩ = some (.int .i64 a1_1) ∧ w22.cell? ⟨gb105, 2, none⟩ = some (.bool a1_2) ∧ w22.cell? ⟨gb106, 0, none⟩ = some (.int .i64 a2_0) ∧ w22.cell? ⟨gb106, 1, none⟩ = some (.int .i64 a2_1) ∧ w22.cell? ⟨gb106, 2, none⟩ = some (.bool a2_2) := hS_
     refine norm_ (a' := ?_) ?_ ?_
     rotate_left
     ·simp only [putAll, Act.put, sTA, sCZ, sCS]
      rfl
     refine one_ (i := 18) (N := none) #[true, true, true, true, true, true, true, true, true, true, true, true, true, true, true, true, true, true, true] rfl rfl (one_of HT_.out (by kernel_rfl)) (by decide) (fun K hK => ?_)
     have hs23 : w22.cell? ⟨gb110, 0, none⟩ = some (.int .i64 0) := (blk_cell BK110.out 0).trans rfl
     have hfs23 := blk_frozen BK110.out 0
     have hns23_0 := NB104_110.out
     have hns23_1 := NB105_110.out
     have hns23_2 := NB106_110.out
     have hns23_3 := NB107_110.out
     have hms23_0 := NB110_104.out
     have hms23_1 := NB110_105.out
     have hms23_2 := NB110_106.out
     have hms23_3 := NB110_107.out
     have hs24 : w22.cell? ⟨gb110, 1, none⟩ = some (.int .i64 0) := (blk_cell BK110.out 1).trans rfl
     have hfs24 := blk_frozen BK110.out 1
     have hns24_0 := NB104_110.out
     have hns24_1 := NB105_110.out
     have hns24_2 := NB106_110.out
     have hns24_3 := NB107_110.out
     have hms24_0 := NB110_104.out
     have hms24_1 := NB110_105.out
     have hms24_2 := NB110_106.out
     have hms24_3 := NB110_107.out
     have hs25 : w22.cell? ⟨gb110, 2, none⟩ = some (.bool false) := (blk_cell BK110.out 2).trans rfl
     have hfs25 := blk_frozen BK110.out 2
     have hns25_0 := NB104_110.out
     have hns25_1 := NB105_110.out
     have hns25_2 := NB106_110.out
     have hns25_3 := NB107_110.out
     have hms25_0 := NB110_104.out
     have hms25_1 := NB110_105.out
     have hms25_2 := NB110_106.out
     have hms25_3 := NB110_107.out
     refine skip_ (w1 := ?_) (by rfl) rfl ?_ ?_
     rotate_left
     ·go_simp
      rfl
     refine hK.out _ _ ⟨((cell_far (p := ⟨gb110, _, none⟩) NB104_110.out _).trans (((cell_far (p := ⟨gb110, _, none⟩) NB104_110.out _).trans (((cell_far (p := ⟨gb110, _, none⟩) NB104_110.out _).trans (hHeld.1)))))), ((cell_far (p := ⟨gb110, _, none⟩) NB104_110.out _).trans (((cell_far (p := ⟨gb110, _, none⟩) NB104_110.out _).trans (((cell_far (p := ⟨gb110, _, none⟩) NB104_110.out _).trans (hHeld.2.1)))))), ((cell_far (p := ⟨gb110, _, none⟩) NB104_110.out _).trans (((cell_far (p := ⟨gb110, _, none⟩) NB104_110.out _).trans (((cell_far (p := ⟨gb110, _, none⟩) NB104_110.out _).trans (hHeld.2.2.1)))))), ((cell_far (p := ⟨gb110, _, none⟩) NB105_110.out _).trans (((cell_far (p := ⟨gb110, _, none⟩) NB105_110.out _).trans (((cell_far (p := ⟨gb110, _, none⟩) NB105_110.out _).trans (hHeld.2.2.2.1)))))), ((cell_far (p := ⟨gb110, _, none⟩) NB105_110.out _).trans (((cell_far (p := ⟨gb110, _, none⟩) NB105_110.out _).trans (((cell_far (p := ⟨gb110, _, none⟩) NB105_110.out _).trans (hHeld.2.2.2.2.1)))))), ((cell_far (p := ⟨gb110, _, none⟩) NB105_110.out _).trans (((cell_far (p := ⟨gb110, _, none⟩) NB105_110.out _).trans (((cell_far (p := ⟨gb110, _, none⟩) NB105_110.out _).trans (hHeld.2.2.2.2.2.1)))))), ((cell_far (p := ⟨gb110, _, none⟩) NB106_110.out _).trans (((cell_far (p := ⟨gb110, _, none⟩) NB106_110.out _).trans (((cell_far (p := ⟨gb110, _, none⟩) NB106_110.out _).trans (hHeld.2.2.2.2.2.2.1)))))), ((cell_far (p := ⟨gb110, _, none⟩) NB106_110.out _).trans (((cell_far (p := ⟨gb110, _, none⟩) NB106_110.out _).trans (((cell_far (p := ⟨gb110, _, none⟩) NB106_110.out _).trans (hHeld.2.2.2.2.2.2.2.1)))))), ((cell_far (p := ⟨gb110, _, none⟩) NB106_110.out _).trans (((cell_far (p := ⟨gb110, _, none⟩) NB106_110.out _).trans (((cell_far (p := ⟨gb110, _, none⟩) NB106_110.out _).trans (hHeld.2.2.2.2.2.2.2.2))))))⟩ (fun hHeld => ?_)
     clear hK K
     refine done_ (done_of HT_.out (by kernel_rfl)) ?_
     try go_wp2
     have n0_ : Aside0 (Kd.R k34 34 (((w22.setCell ⟨gb110, 0, none⟩ (.int .i64 t108)).setCell ⟨gb110, 1, none⟩ (.int .i64 t109)).setCell ⟨gb110, 2, none⟩ (.bool true)) w.heap.size (fun _ => True) u7 x7_1) := ⟨by (with_reducible repeat (first | apply Kd.R_alloc | apply Kd.R_drewN | apply Kd.R_drew)); exact Kd.R_mono (Kd.R_far (p := ⟨gb110, 2, none⟩) (Kd.R_far (p := ⟨gb110, 1, none⟩) (Kd.R_far (p := ⟨gb110, 0, none⟩) (Kd.R_types HO_7.out BK110.out (by decide)) (fun _ hk => hk.2) (.int .i64 t108)) (fun _ hk => hk.2) (.int .i64 t109)) (fun _ hk => hk.2) (.bool true)) (fun _ hk => trivial)⟩
     have n1_ : Aside0 ((((w22.setCell ⟨gb110, 0, none⟩ (.int .i64 t108)).setCell ⟨gb110, 1, none⟩ (.int .i64 t109)).setCell ⟨gb110, 2, none⟩ (.bool true)).heap[gb104]? = some (.cells #[.int .i64 a0_0, .int .i64 a0_1, .bool a0_2] 78 (0, 0))) := ⟨by (with_reducible repeat first | apply kN | apply kD | apply kA); refine blk_far ?_ NB104_110.out _; (with_reducible repeat first | apply kN | apply kD | apply kA); refine blk_far ?_ NB104_110.out _; (with_reducible repeat first | apply kN | apply kD | apply kA); refine blk_far ?_ NB104_110.out _; (with_reducible repeat first | apply kN | apply kD | apply kA); exact BK104.out⟩
     have n2_ : Aside0 ((((w22.setCell ⟨gb110, 0, none⟩ (.int .i64 t108)).setCell ⟨gb110, 1, none⟩ (.int .i64 t109)).setCell ⟨gb110, 2, none⟩ (.bool true)).heap[gb105]? = some (.cells #[.int .i64 a1_0, .int .i64 a1_1, .bool a1_2] 78 (0, 0))) := ⟨by (with_reducible repeat first | apply kN | apply kD | apply kA); refine blk_far ?_ NB105_110.out _; (with_reducible repeat first | apply kN | apply kD | apply kA); refine blk_far ?_ NB105_110.out _; (with_reducible repeat first | apply kN | apply kD | apply kA); refine blk_far ?_ NB105_110.out _; (with_reducible repeat first | apply kN | apply kD | apply kA); exact BK105.out⟩
     have n3_ : Aside0 ((((w22.setCell ⟨gb110, 0, none⟩ (.int .i64 t108)).setCell ⟨gb110, 1, none⟩ (.int .i64 t109)).setCell ⟨gb110, 2, none⟩ (.bool true)).heap[gb106]? = some (.cells #[.int .i64 a2_0, .int .i64 a2_1, .bool a2_2] 78 (0, 0))) := ⟨by (with_reducible repeat first | apply kN | apply kD | apply kA); refine blk_far ?_ NB106_110.out _; (with_reducible repeat first | apply kN | apply kD | apply kA); refine blk_far ?_ NB106_110.out _; (with_reducible repeat first | apply kN | apply kD | apply kA); refine blk_far ?_ NB106_110.out _; (with_reducible repeat first | apply kN | apply kD | apply kA); exact BK106.out⟩
     have n4_ : Aside0 ((((w22.setCell ⟨gb110, 0, none⟩ (.int .i64 t108)).setCell ⟨gb110, 1, none⟩ (.int .i64 t109)).setCell ⟨gb110, 2, none⟩ (.bool true)).heap[gb107]? = some (.cells #[.int .i64 x108000_1, .int .i64 x108001_1, .bool x108002_1] 78 (0, 0))) := ⟨by (with_reducible repeat first | apply kN | apply kD | apply kA); refine blk_far ?_ NB107_110.out _; (with_reducible repeat first | apply kN | apply kD | apply kA); refine blk_far ?_ NB107_110.out _; (with_reducible repeat first | apply kN | apply kD | apply kA); refine blk_far ?_ NB107_110.out _; (with_reducible repeat first | apply kN | apply kD | apply kA); exact BK107.out⟩
     have n5_ : Aside0 ((((w22.setCell ⟨gb110, 0, none⟩ (.int .i64 t108)).setCell ⟨gb110, 1, none⟩ (.int .i64 t109)).setCell ⟨gb110, 2, none⟩ (.bool true)).heap[gb110]? = some (.cells #[.int .i64 t108, .int .i64 t109, .bool true] 78 (0, 0))) := ⟨by (with_reducible repeat first | apply kN | apply kD | apply kA); refine blk_put (cs := #[.int .i64 t108, .int .i64 t109, .bool false]) ?_ 2 _ rfl; (with_reducible repeat first | apply kN | apply kD | apply kA); refine blk_put (cs := #[.int .i64 t108, .int .i64 0, .bool false]) ?_ 1 _ rfl; (with_reducible repeat first | apply kN | apply kD | apply kA); refine blk_put (cs := #[.int .i64 0, .int .i64 0, .bool false]) ?_ 0 _ rfl; (with_reducible repeat first | apply kN | apply kD | apply kA); exact BK110.out⟩
     have n6_ : Aside0 (Below w.heap.size w (((w22.setCell ⟨gb110, 0, none⟩ (.int .i64 t108)).setCell ⟨gb110, 1, none⟩ (.int .i64 t109)).setCell ⟨gb110, 2, none⟩ (.bool true))) := ⟨by repeat (first | (with_reducible first | exact HB.out | apply bAl | apply bDN | apply bD1 | refine bSe ?_ GE104.out | refine bSe ?_ GE105.out | refine bSe ?_ GE106.out | refine bSe ?_ GE107.out | refine bSe ?_ GE110.out) | exact HB.out)⟩
     (try clear HO_7)
     (try clear BK104)
     (try clear BK105)
     (try clear BK106)
     (try clear BK107)
     (try clear BK110)
     (try clear HB)
     generalize (((w22.setCell ⟨gb110, 0, none⟩ (.int .i64 t108)).setCell ⟨gb110, 1, none⟩ (.int .i64 t109)).setCell ⟨gb110, 2, none⟩ (.bool true)) = w26 at n0_ n1_ n2_ n3_ n4_ n5_ n6_ ⊢
     have HO_7 := n0_
     have BK104 := n1_
     have BK105 := n2_
     have BK106 := n3_
     have BK107 := n4_
     have BK110 := n5_
     have HB := n6_
     clear n0_ n1_ n2_ n3_ n4_ n5_ n6_
     have n0_ := amk (Kd.R_drew HO_7.out)
     have n1_ := amk (blk_drew BK104.out)
     have n2_ := amk (blk_drew BK105.out)
     have n3_ := amk (blk_drew BK106.out)
     have n4_ := amk (blk_drew BK107.out)
     have n5_ := amk (blk_drew BK110.out)
     have n6_ := amk (bD1 HB.out)
     clear HO_7
     clear BK104
     clear BK105
     clear BK106
     clear BK107
     clear BK110
     clear HB
     have HO_7 := n0_
     have BK104 := n1_
     have BK105 := n2_
     have BK106 := n3_
     have BK107 := n4_
     have BK110 := n5_
     have HB := n6_
     clear n0_ n1_ n2_ n3_ n4_ n5_ n6_
     refine start_ (n := 9) (S := fun w' => w'.cell? ⟨gb107, 0, none⟩ = some (.int .i64 x108000_1) ∧ w'.cell? ⟨gb107, 1, none⟩ = some (.int .i64 x108001_1) ∧ w'.cell? ⟨gb107, 2, none⟩ = some (.bool x108002_1) ∧ w'.cell? ⟨gb110, 0, none⟩ = some (.int .i64 t108) ∧ w'.cell? ⟨gb110, 1, none⟩ = some (.int .i64 t109) ∧ w'.cell? ⟨gb110, 2, none⟩ = some (.bool true)) (ds := [8]) #[false, false, false, false, false, false, false, false, false] (by kernel_rfl) rfl rfl ⟨(blk_cell BK107.out 0).trans rfl, (blk_cell BK107.out 1).trans rfl, (blk_cell BK107.out 2).trans rfl, (blk_cell BK110.out 0).trans rfl, (blk_cell BK110.out 1).trans rfl, (blk_cell BK110.out 2).trans rfl⟩ (fun hHeld => ?_); refine with_tabW flat_curve.tab7 flat_curve.bits7 (fun HT_ HW_ => ?_)
     generalize w26.drew = w27 at HO_7 BK104 BK105 BK106 BK107 BK110 HB hHeld ⊢
     refine pure_ (i := 0) (N := some 33) (v := ?_) (a' := ?_) #[true, false, false, false, false, false, false, false, false] rfl rfl (any_of HT_.out (by kernel_rfl)) (fun _ _ _ h => h) (Or.inl ⟨by rfl, ?_⟩) ?_ ?_
     rotate_left
     ·intro w'
      go_simp
      with_reducible rfl
     rotate_left
     ·simp only [Act.put, sTA, sCZ, sCS, i64_w, i32_w]
      rfl
     refine take_ (i := 1) (N := some 34) (v := ?_) (a' := ?_) #[true, true, false, false, false, false, false, false, false] rfl rfl (take_ofW HT_.out HW_.out (by kernel_rfl)) (fun _ _ _ h => h) (Or.inl ⟨by rfl, ?_⟩) hHeld ?_ ?_
     rotate_left
     ·rintro w' ⟨s0, s1, s2, s3, s4, s5⟩
      go_simp
      with_reducible rfl
     rotate_left
     ·simp only [Act.put, sTA, sCZ, sCS, i64_w, i32_w]
      rfl
     refine take_ (i := 2) (N := some 35) (v := ?_) (a' := ?_) #[true, true, true, false, false, false, false, false, false] rfl rfl (take_ofW HT_.out HW_.out (by kernel_rfl)) (fun _ _ _ h => h) (Or.inl ⟨by rfl, ?_⟩) hHeld ?_ ?_
     rotate_left
     ·rintro w' ⟨s0, s1, s2, s3, s4, s5⟩
      go_simp
      with_reducible rfl
     rotate_left
     ·simp only [Act.put, sTA, sCZ, sCS, i64_w, i32_w]
      rfl
     refine take_ (i := 6) (N := some 39) (v := ?_) (a' := ?_) #[true, true, true, false, false, false, true, false, false] rfl rfl (take_ofW HT_.out HW_.out (by kernel_rfl)) (fun _ _ _ h => h) (Or.inl ⟨by rfl, ?_⟩) hHeld ?_ ?_
     rotate_left
     ·rintro w' ⟨s0, s1, s2, s3, s4, s5⟩
      go_simp
      with_reducible rfl
     rotate_left
     ·simp only [Act.put, sTA, sCZ, sCS, i64_w, i32_w]
      rfl
     refine one_ (i := 3) (N := some 36) #[true, true, true, true, false, false, true, false, false] rfl rfl (one_of HT_.out (by kernel_rfl)) (by decide) (fun K hK => ?_)
     refine goes_ Try.func48 (by kernel_rfl) rfl #[.agg #[.int .i64 x108000_1, .int .i64 x108001_1, .bool x108002_1], .agg #[.int .i64 t108, .int .i64 t109, .bool true]] (by rfl) rfl rfl (by (try simp only [List.map_toArray, List.map_cons, List.map_nil]); first | done | rfl | (simp only [List.length_drop, List.length_take]; rfl)) ?_
     with_reducible refine (flat_seg.calls x108000_1 x108001_1 x108002_1 t108 t109 true t111 t112 t113 t114 _ A18.out).mono ?_
     rintro e w28 ⟨rfl, hb⟩
     refine ⟨_, rfl, ?_⟩
     have n0_ := amk (Kd.R_below (by (with_reducible repeat (first | apply Kd.R_alloc | apply Kd.R_drewN | apply Kd.R_drew)); exact HO_7.out) hb)
     have n1_ := amk (blk_below (g := gb104) (o := .cells #[.int .i64 a0_0, .int .i64 a0_1, .bool a0_2] 78 (0, 0)) (by (with_reducible repeat first | apply kN | apply kD | apply kA); exact BK104.out) hb)
     have n2_ := amk (blk_below (g := gb105) (o := .cells #[.int .i64 a1_0, .int .i64 a1_1, .bool a1_2] 78 (0, 0)) (by (with_reducible repeat first | apply kN | apply kD | apply kA); exact BK105.out) hb)
     have n3_ := amk (blk_below (g := gb106) (o := .cells #[.int .i64 a2_0, .int .i64 a2_1, .bool a2_2] 78 (0, 0)) (by (with_reducible repeat first | apply kN | apply kD | apply kA); exact BK106.out) hb)
     have n4_ := amk (blk_below (g := gb107) (o := .cells #[.int .i64 x108000_1, .int .i64 x108001_1, .bool x108002_1] 78 (0, 0)) (by (with_reducible repeat first | apply kN | apply kD | apply kA); exact BK107.out) hb)
     have n5_ := amk (blk_below (g := gb110) (o := .cells #[.int .i64 t108, .int .i64 t109, .bool true] 78 (0, 0)) (by (with_reducible repeat first | apply kN | apply kD | apply kA); exact BK110.out) hb)
     have n6_ := amk (below_step (by repeat (first | (with_reducible first | exact HB.out | apply bAl | apply bDN | apply bD1 | refine bSe ?_ GE104.out | refine bSe ?_ GE105.out | refine bSe ?_ GE106.out | refine bSe ?_ GE107.out | refine bSe ?_ GE110.out) | exact HB.out)) hb)
     clear HO_7
     clear BK104
     clear BK105
     clear BK106
     clear BK107
     clear BK110
     clear HB
     have HO_7 := n0_
     have BK104 := n1_
     have BK105 := n2_
     have BK106 := n3_
     have BK107 := n4_
     have BK110 := n5_
     have HB := n6_
     clear n0_ n1_ n2_ n3_ n4_ n5_ n6_
     (try clear hb)
     (try clear hb2)
     (try clear hk)
     (try clear hi)
     refine hK.out _ _ ⟨(blk_cell BK107.out 0).trans rfl, (blk_cell BK107.out 1).trans rfl, (blk_cell BK107.out 2).trans rfl, (blk_cell BK110.out 0).trans rfl, (blk_cell BK110.out 1).trans rfl, (blk_cell BK110.out 2).trans rfl⟩ (fun hHeld => ?_)
     clear hK K
     refine norm_ (a' := ?_) ?_ ?_
     rotate_left
     ·show Act.put _ (some 36) _ = _
      simp only [Act.put, sTA, sCZ, sCS, i64_w, i32_w]
      rfl
     refine one_ (i := 4) (N := some 37) #[true, true, true, true, true, false, true, false, false] rfl rfl (one_of HT_.out (by kernel_rfl)) (by decide) (fun K hK => ?_)
     refine value_ (w1 := ?_) (v := ?_) (by rfl) rfl ?_ ?_
     rotate_left 2
     ·go_simp
      constructor
      ·rfl
      ·rfl
     refine hK.out _ _ ⟨(blk_cell (blk_alloc BK107.out _) 0).trans rfl, (blk_cell (blk_alloc BK107.out _) 1).trans rfl, (blk_cell (blk_alloc BK107.out _) 2).trans rfl, (blk_cell (blk_alloc BK110.out _) 0).trans rfl, (blk_cell (blk_alloc BK110.out _) 1).trans rfl, (blk_cell (blk_alloc BK110.out _) 2).trans rfl⟩ (fun hHeld => ?_)
     clear hK K
     refine norm_ (a' := ?_) ?_ ?_
     rotate_left
     ·show Act.put _ (some 37) _ = _
      simp only [Act.put, sTA, sCZ, sCS, i64_w, i32_w]
      rfl
     refine one_ (i := 5) (N := some 38) #[true, true, true, true, true, true, true, false, false] rfl rfl (one_of HT_.out (by kernel_rfl)) (by decide) (fun K hK => ?_)
     refine Kd.R_append_step k34 (w0 := w) w.heap.size (by rfl) (.tmp 33) (.tmp 37) 31 34 (.agg #[(.int .i64 0), (.int .i64 0), (.int .i64 0), (.int .i64 0)]) 32 rfl Try.underlying31 info34 rfl (by decide) (by omega) u7 x7_1 (⟨t111, t112, t113, t114⟩ : S34) [.int .i64 t111, .int .i64 t112, .int .i64 t113, .int .i64 t114] (fun _ => True) (fun _ => False) rfl rfl ?aP (fun _ hk => hk.elim) ?aF ?aO ?aB ?aS ?aL ?_
     (case aP => exact k34_mkM _ _ _ (⟨t111, t112, t113, t114⟩ : S34))
     (case aB => exact (by repeat (first | (with_reducible first | exact HB.out | apply bAl | apply bDN | apply bD1 | refine bSe ?_ GE104.out | refine bSe ?_ GE105.out | refine bSe ?_ GE106.out | refine bSe ?_ GE107.out | refine bSe ?_ GE110.out) | exact HB.out)))
     (case aF => exact (fun _ _ => trivial))
     (case aO => exact (by (with_reducible repeat (first | apply Kd.R_alloc | apply Kd.R_drewN | apply Kd.R_drew)); exact HO_7.out))
     (case aS => exact (below_size (by repeat (first | (with_reducible first | exact HB.out | apply bAl | apply bDN | apply bD1 | refine bSe ?_ GE104.out | refine bSe ?_ GE105.out | refine bSe ?_ GE106.out | refine bSe ?_ GE107.out | refine bSe ?_ GE110.out) | exact HB.out))))
     (case aL => have := LMc19.out; omega)
     intro v116 w29 ho hb hg hat
     rw [← Ny115.out] at ho
     have n0_ := amk (blk_grown (g := gb104) (o := .cells #[.int .i64 a0_0, .int .i64 a0_1, .bool a0_2] 78 (0, 0)) (by (with_reducible repeat first | apply kN | apply kD | apply kA); exact BK104.out) hg (Kd.R_ne HO_7.out BK104.out (by decide)))
     have n1_ := amk (blk_grown (g := gb105) (o := .cells #[.int .i64 a1_0, .int .i64 a1_1, .bool a1_2] 78 (0, 0)) (by (with_reducible repeat first | apply kN | apply kD | apply kA); exact BK105.out) hg (Kd.R_ne HO_7.out BK105.out (by decide)))
     have n2_ := amk (blk_grown (g := gb106) (o := .cells #[.int .i64 a2_0, .int .i64 a2_1, .bool a2_2] 78 (0, 0)) (by (with_reducible repeat first | apply kN | apply kD | apply kA); exact BK106.out) hg (Kd.R_ne HO_7.out BK106.out (by decide)))
     have n3_ := amk (blk_grown (g := gb107) (o := .cells #[.int .i64 x108000_1, .int .i64 x108001_1, .bool x108002_1] 78 (0, 0)) (by (with_reducible repeat first | apply kN | apply kD | apply kA); exact BK107.out) hg (Kd.R_ne HO_7.out BK107.out (by decide)))
     have n4_ := amk (blk_grown (g := gb110) (o := .cells #[.int .i64 t108, .int .i64 t109, .bool true] 78 (0, 0)) (by (with_reducible repeat first | apply kN | apply kD | apply kA); exact BK110.out) hg (Kd.R_ne HO_7.out BK110.out (by decide)))
     have n5_ := amk (hb)
     have n6_ := amk (ho)
     clear BK104
     clear BK105
     clear BK106
     clear BK107
     clear BK110
     clear HB
     clear HO_7
     have BK104 := n0_
     have BK105 := n1_
     have BK106 := n2_
     have BK107 := n3_
     have BK110 := n4_
     have HB := n5_
     have HO117 := n6_
     clear n0_ n1_ n2_ n3_ n4_ n5_ n6_
     clear ho hb hg hat
     refine hK.out _ _ ⟨(blk_cell BK107.out 0).trans rfl, (blk_cell BK107.out 1).trans rfl, (blk_cell BK107.out 2).trans rfl, (blk_cell BK110.out 0).trans rfl, (blk_cell BK110.out 1).trans rfl, (blk_cell BK110.out 2).trans rfl⟩ (fun hHeld => ?_)
     clear hK K
     refine norm_ (a' := ?_) ?_ ?_
     rotate_left
     ·show Act.put _ (some 38) _ = _
      simp only [Act.put, sTA, sCZ, sCS, i64_w, i32_w]
      rfl
     refine pure_ (i := 7) (N := some 7) (v := ?_) (a' := ?_) #[true, true, true, true, true, true, true, true, false] rfl rfl (any_of HT_.out (by kernel_rfl)) (fun _ _ _ h => h) (Or.inl ⟨by rfl, ?_⟩) ?_ ?_
     rotate_left
     ·intro w'
      go_simp
      with_reducible rfl
     rotate_left
     ·simp only [Act.put, sTA, sCZ, sCS, i64_w, i32_w]
      rfl
     refine last_ (i := 8) (N := none) #[true, true, true, true, true, true, true, true, true] rfl rfl (one_of HT_.out (by kernel_rfl)) (by decide) (fun K hK => ?_)
     have hs30 : w29.cell? ⟨gb107, 0, none⟩ = some (.int .i64 x108000_1) := (blk_cell BK107.out 0).trans rfl
     have hfs30 := blk_frozen BK107.out 0
     have hns30_0 := NB104_107.out
     have hns30_1 := NB105_107.out
     have hns30_2 := NB106_107.out
     have hns30_4 := NB110_107.out
     have hms30_0 := NB107_104.out
     have hms30_1 := NB107_105.out
     have hms30_2 := NB107_106.out
     have hms30_4 := NB107_110.out
     have hs31 : w29.cell? ⟨gb107, 1, none⟩ = some (.int .i64 x108001_1) := (blk_cell BK107.out 1).trans rfl
     have hfs31 := blk_frozen BK107.out 1
     have hns31_0 := NB104_107.out
     have hns31_1 := NB105_107.out
     have hns31_2 := NB106_107.out
     have hns31_4 := NB110_107.out
     have hms31_0 := NB107_104.out
     have hms31_1 := NB107_105.out
     have hms31_2 := NB107_106.out
     have hms31_4 := NB107_110.out
     have hs32 : w29.cell? ⟨gb107, 2, none⟩ = some (.bool x108002_1) := (blk_cell BK107.out 2).trans rfl
     have hfs32 := blk_frozen BK107.out 2
     have hns32_0 := NB104_107.out
     have hns32_1 := NB105_107.out
     have hns32_2 := NB106_107.out
     have hns32_4 := NB110_107.out
     have hms32_0 := NB107_104.out
     have hms32_1 := NB107_105.out
     have hms32_2 := NB107_106.out
     have hms32_4 := NB107_110.out
     refine skip_ (w1 := ?_) (by rfl) rfl ?_ ?_
     rotate_left
     ·go_simp
      rfl
     refine hK.out _ _ ?_
     clear hK K
     refine done_ (done_of HT_.out (by kernel_rfl)) ?_
     try go_wp2
     go_roundg k1
     case measure => have := HK1.out; omega
     case rel => exact ⟨(y115), (wrap64 (x9_1 + 1)), (t108), (t109), (true), (by first | rfl | (simp; done) | (simp [*]; done)), H', ⟨by have := HK1.out; omega⟩, ⟨by (with_reducible repeat (first | apply Kd.R_alloc | apply Kd.R_drewN | apply Kd.R_drew)); exact Kd.R_mono (Kd.R_far (p := ⟨gb107, 2, none⟩) (Kd.R_far (p := ⟨gb107, 1, none⟩) (Kd.R_far (p := ⟨gb107, 0, none⟩) (Kd.R_types HO117.out BK107.out (by decide)) (fun _ hk => hk.2) (.int .i64 t108)) (fun _ hk => hk.2) (.int .i64 t109)) (fun _ hk => hk.2) (.bool true)) (fun _ hk => trivial)⟩, ⟨by (with_reducible repeat first | apply kN | apply kD | apply kA); refine blk_far ?_ NB104_107.out _; (with_reducible repeat first | apply kN | apply kD | apply kA); refine blk_far ?_ NB104_107.out _; (with_reducible repeat first | apply kN | apply kD | apply kA); refine blk_far ?_ NB104_107.out _; (with_reducible repeat first | apply kN | apply kD | apply kA); exact BK104.out⟩, ⟨by (with_reducible repeat first | apply kN | apply kD | apply kA); refine blk_far ?_ NB105_107.out _; (with_reducible repeat first | apply kN | apply kD | apply kA); refine blk_far ?_ NB105_107.out _; (with_reducible repeat first | apply kN | apply kD | apply kA); refine blk_far ?_ NB105_107.out _; (with_reducible repeat first | apply kN | apply kD | apply kA); exact BK105.out⟩, ⟨by (with_reducible repeat first | apply kN | apply kD | apply kA); refine blk_far ?_ NB106_107.out _; (with_reducible repeat first | apply kN | apply kD | apply kA); refine blk_far ?_ NB106_107.out _; (with_reducible repeat first | apply kN | apply kD | apply kA); refine blk_far ?_ NB106_107.out _; (with_reducible repeat first | apply kN | apply kD | apply kA); exact BK106.out⟩, ⟨by (with_reducible repeat first | apply kN | apply kD | apply kA); refine blk_put (cs := #[.int .i64 t108, .int .i64 t109, .bool x108002_1]) ?_ 2 _ rfl; (with_reducible repeat first | apply kN | apply kD | apply kA); refine blk_put (cs := #[.int .i64 t108, .int .i64 x108001_1, .bool x108002_1]) ?_ 1 _ rfl; (with_reducible repeat first | apply kN | apply kD | apply kA); refine blk_put (cs := #[.int .i64 x108000_1, .int .i64 x108001_1, .bool x108002_1]) ?_ 0 _ rfl; (with_reducible repeat first | apply kN | apply kD | apply kA); exact BK107.out⟩, ⟨by repeat (first | (with_reducible first | exact HB.out | apply bAl | apply bDN | apply bD1 | refine bSe ?_ GE104.out | refine bSe ?_ GE105.out | refine bSe ?_ GE106.out | refine bSe ?_ GE107.out | refine bSe ?_ GE110.out) | exact HB.out)⟩⟩
    ·rw [if_neg c19] at H
     exact absurd H (by simp)
   ·rw [if_neg c15] at H
    have c15b0 : decide (x9_1 ≤ 8) = false := decide_eq_false c15
    clear c15
    obtain rfl := Option.some.inj H
    go_wp2
    go_ret
    exact ⟨_, by first | rfl | (simp [errW_none, errW_some] <;> rfl) | (simp [*, errW_none, errW_some] <;> rfl), by (with_reducible repeat (first | apply Kd.R_alloc | apply Kd.R_drewN | apply Kd.R_drew)); exact HO_7.out, by repeat (first | (with_reducible first | exact HB.out | apply bAl | apply bDN | apply bD1 | refine bSe ?_ GE104.out | refine bSe ?_ GE105.out | refine bSe ?_ GE106.out | refine bSe ?_ GE107.out) | exact HB.out)⟩

/-! ### flat_between: function 47 -/
def flat_between.f (a0_0 : Int) (a0_1 : Int) (a0_2 : Bool) (a1_0 : Int) (a1_1 : Int) (a1_2 : Bool) : Option (Int × Int × Bool) := some ((wrap64 (a0_0 + a1_0)) / 2, (wrap64 (a0_1 + a1_1)) / 2, true)
set_option maxHeartbeats 8000000 in
set_option maxRecDepth 100000 in
theorem flat_between.calls (a0_0 : Int) (a0_1 : Int) (a0_2 : Bool) (a1_0 : Int) (a1_1 : Int) (a1_2 : Bool) (r1 : Int) (r2 : Int) (r3 : Bool) (w : World) (h : flat_between.f a0_0 a0_1 a0_2 a1_0 a1_1 a1_2 = some (r1, r2, r3)) :
  Calls Try.prog 47 #[.agg #[.int .i64 a0_0, .int .i64 a0_1, .bool a0_2], .agg #[.int .i64 a1_0, .int .i64 a1_1, .bool a1_2]] w fun e w' => e = .returned (.agg #[.int .i64 r1, .int .i64 r2, .bool r3]) ∧ Below w.heap.size w w' := by
 have hu78 := Try.underlying78
 have HB := amk (Below.refl w.heap.size w)
 have H : (some ((wrap64 (a0_0 + a1_0)) / 2, (wrap64 (a0_1 + a1_1)) / 2, true)) = some (r1, r2, r3) := h
 clear h
 simp only [Option.some.injEq, Prod.mk.injEq] at H
 obtain ⟨rfl, rfl, rfl⟩ := H
 go_enter Try.func47, Try.ntmps47
 go_wp2_with (first | ((with_reducible refine gate_dst (N := 2) rfl ?_); refine box_event ?hg (N := 2) ?hd (cs := #[.int .i64 a0_0, .int .i64 a0_1, .bool a0_2]) (t := 78) ?hr ?_; (case hd => rfl); (case hg => rfl); (case hr => first | (go_simp; done) | (go_simp; rfl)); intro gb118 hg w3 hbox hb; have n0_ := amk (below_step (by repeat (first | (with_reducible first | exact HB.out | apply bAl | apply bDN | apply bD1) | exact HB.out)) hb); have n1_ := amk (hbox); have n2_ := amk ((by rw [hg]; exact (below_size (by repeat (first | (with_reducible first | exact HB.out | apply bAl | apply bDN | apply bD1) | exact HB.out))) : w.heap.size ≤ gb118)); have n3_ := amk ((by rw [hg]; exact (below_size (by repeat (first | (with_reducible first | exact HB.out | apply bAl | apply bDN | apply bD1) | exact HB.out))) : w.heap.size ≤ gb118)); clear HB; have HB := n0_; have BK118 := n1_; have GW118 := n2_; have GE118 := n3_; clear n0_ n1_ n2_ n3_; clear hb hbox hg) | ((with_reducible refine gate_dst (N := 3) rfl ?_); refine box_event ?hg (N := 3) ?hd (cs := #[.int .i64 a1_0, .int .i64 a1_1, .bool a1_2]) (t := 78) ?hr ?_; (case hd => rfl); (case hg => rfl); (case hr => first | (go_simp; done) | (go_simp; rfl)); intro gb119 hg w4 hbox hb; have n0_ := amk (blk_below (g := gb118) (o := .cells #[.int .i64 a0_0, .int .i64 a0_1, .bool a0_2] 78 (0, 0)) (by (with_reducible repeat first | apply kN | apply kD | apply kA); exact BK118.out) hb); have n1_ := amk (below_step (by repeat (first | (with_reducible first | exact HB.out | apply bAl | apply bDN | apply bD1 | refine bSe ?_ GE118.out) | exact HB.out)) hb); have n2_ := amk (hbox); have n3_ := amk ((by rw [hg]; exact (below_size (by repeat (first | (with_reducible first | exact HB.out | apply bAl | apply bDN | apply bD1 | refine bSe ?_ GE118.out) | exact HB.out))) : w.heap.size ≤ gb119)); have n4_ := amk ((by rw [hg]; exact (below_size (by repeat (first | (with_reducible first | exact HB.out | apply bAl | apply bDN | apply bD1 | refine bSe ?_ GE118.out) | exact HB.out))) : w.heap.size ≤ gb119)); have n5_ := amk ((by rw [hg]; exact Nat.ne_of_lt (blk_lt (g := gb118) (o := .cells #[.int .i64 a0_0, .int .i64 a0_1, .bool a0_2] 78 (0, 0)) (by (with_reducible repeat first | apply kN | apply kD | apply kA); exact BK118.out)) : gb118 ≠ gb119)); have n6_ := amk ((by rw [hg]; exact Nat.ne_of_gt (blk_lt (g := gb118) (o := .cells #[.int .i64 a0_0, .int .i64 a0_1, .bool a0_2] 78 (0, 0)) (by (with_reducible repeat first | apply kN | apply kD | apply kA); exact BK118.out)) : gb119 ≠ gb118)); clear BK118; clear HB; have BK118 := n0_; have HB := n1_; have BK119 := n2_; have GW119 := n3_; have GE119 := n4_; have NB118_119 := n5_; have NB119_118 := n6_; clear n0_ n1_ n2_ n3_ n4_ n5_ n6_; clear hb hbox hg) | ((with_reducible refine gate_dst (N := 4) rfl ?_); refine box_event ?hg (N := 4) ?hd (cs := #[.int .i64 0, .int .i64 0, .bool false]) (t := 78) ?hr ?_; (case hd => rfl); (case hg => rfl); (case hr => first | (go_simp; done) | (go_simp; rfl)); intro gb120 hg w5 hbox hb; have n0_ := amk (blk_below (g := gb118) (o := .cells #[.int .i64 a0_0, .int .i64 a0_1, .bool a0_2] 78 (0, 0)) (by (with_reducible repeat first | apply kN | apply kD | apply kA); exact BK118.out) hb); have n1_ := amk (blk_below (g := gb119) (o := .cells #[.int .i64 a1_0, .int .i64 a1_1, .bool a1_2] 78 (0, 0)) (by (with_reducible repeat first | apply kN | apply kD | apply kA); exact BK119.out) hb); have n2_ := amk (below_step (by repeat (first | (with_reducible first | exact HB.out | apply bAl | apply bDN | apply bD1 | refine bSe ?_ GE118.out | refine bSe ?_ GE119.out) | exact HB.out)) hb); have n3_ := amk (hbox); have n4_ := amk ((by rw [hg]; exact (below_size (by repeat (first | (with_reducible first | exact HB.out | apply bAl | apply bDN | apply bD1 | refine bSe ?_ GE118.out | refine bSe ?_ GE119.out) | exact HB.out))) : w.heap.size ≤ gb120)); have n5_ := amk ((by rw [hg]; exact (below_size (by repeat (first | (with_reducible first | exact HB.out | apply bAl | apply bDN | apply bD1 | refine bSe ?_ GE118.out | refine bSe ?_ GE119.out) | exact HB.out))) : w.heap.size ≤ gb120)); have n6_ := amk ((by rw [hg]; exact Nat.ne_of_lt (blk_lt (g := gb118) (o := .cells #[.int .i64 a0_0, .int .i64 a0_1, .bool a0_2] 78 (0, 0)) (by (with_reducible repeat first | apply kN | apply kD | apply kA); exact BK118.out)) : gb118 ≠ gb120)); have n7_ := amk ((by rw [hg]; exact Nat.ne_of_gt (blk_lt (g := gb118) (o := .cells #[.int .i64 a0_0, .int .i64 a0_1, .bool a0_2] 78 (0, 0)) (by (with_reducible repeat first | apply kN | apply kD | apply kA); exact BK118.out)) : gb120 ≠ gb118)); have n8_ := amk ((by rw [hg]; exact Nat.ne_of_lt (blk_lt (g := gb119) (o := .cells #[.int .i64 a1_0, .int .i64 a1_1, .bool a1_2] 78 (0, 0)) (by (with_reducible repeat first | apply kN | apply kD | apply kA); exact BK119.out)) : gb119 ≠ gb120)); have n9_ := amk ((by rw [hg]; exact Nat.ne_of_gt (blk_lt (g := gb119) (o := .cells #[.int .i64 a1_0, .int .i64 a1_1, .bool a1_2] 78 (0, 0)) (by (with_reducible repeat first | apply kN | apply kD | apply kA); exact BK119.out)) : gb120 ≠ gb119)); clear BK118; clear BK119; clear HB; have BK118 := n0_; have BK119 := n1_; have HB := n2_; have BK120 := n3_; have GW120 := n4_; have GE120 := n5_; have NB118_120 := n6_; have NB120_118 := n7_; have NB119_120 := n8_; have NB120_119 := n9_; clear n0_ n1_ n2_ n3_ n4_ n5_ n6_ n7_ n8_ n9_; clear hb hbox hg; have hnb6 := NB118_119.out; have hnc6 := NB119_118.out; have hnb7 := NB118_120.out; have hnc7 := NB120_118.out; have hcz8_0 : w5.cell? ⟨gb118, 0, none⟩ = some (.int .i64 a0_0) := (blk_cell BK118.out 0).trans rfl; have hcz8_1 : w5.cell? ⟨gb118, 1, none⟩ = some (.int .i64 a0_1) := (blk_cell BK118.out 1).trans rfl; have hcz8_2 : w5.cell? ⟨gb118, 2, none⟩ = some (.bool a0_2) := (blk_cell BK118.out 2).trans rfl; have hfz8_0 := blk_frozen BK118.out 0; have hfz8_1 := blk_frozen BK118.out 1; have hfz8_2 := blk_frozen BK118.out 2; have hnb9 := NB119_120.out; have hnc9 := NB120_119.out; have hcz10_0 : w5.cell? ⟨gb119, 0, none⟩ = some (.int .i64 a1_0) := (blk_cell BK119.out 0).trans rfl; have hcz10_1 : w5.cell? ⟨gb119, 1, none⟩ = some (.int .i64 a1_1) := (blk_cell BK119.out 1).trans rfl; have hcz10_2 : w5.cell? ⟨gb119, 2, none⟩ = some (.bool a1_2) := (blk_cell BK119.out 2).trans rfl; have hfz10_0 := blk_frozen BK119.out 0; have hfz10_1 := blk_frozen BK119.out 1; have hfz10_2 := blk_frozen BK119.out 2; have hcz11_0 : w5.cell? ⟨gb120, 0, none⟩ = some (.int .i64 0) := (blk_cell BK120.out 0).trans rfl; have hcz11_1 : w5.cell? ⟨gb120, 1, none⟩ = some (.int .i64 0) := (blk_cell BK120.out 1).trans rfl; have hcz11_2 : w5.cell? ⟨gb120, 2, none⟩ = some (.bool false) := (blk_cell BK120.out 2).trans rfl; have hfz11_0 := blk_frozen BK120.out 0; have hfz11_1 := blk_frozen BK120.out 1; have hfz11_2 := blk_frozen BK120.out 2))
 refine bodyPost_ret (results_cell_row rfl _ _ gb120 78 #[.int .i64 ((wrap64 (a0_0 + a1_0)) / 2), .int .i64 ((wrap64 (a0_1 + a1_1)) / 2), .bool true] (0, 0) _ rfl (by (with_reducible repeat first | apply kN | apply kD | apply kA); refine blk_put (cs := #[.int .i64 ((wrap64 (a0_0 + a1_0)) / 2), .int .i64 ((wrap64 (a0_1 + a1_1)) / 2), .bool false]) ?_ 2 _ rfl; (with_reducible repeat first | apply kN | apply kD | apply kA); refine blk_put (cs := #[.int .i64 ((wrap64 (a0_0 + a1_0)) / 2), .int .i64 0, .bool false]) ?_ 1 _ rfl; (with_reducible repeat first | apply kN | apply kD | apply kA); refine blk_put (cs := #[.int .i64 0, .int .i64 0, .bool false]) ?_ 0 _ rfl; (with_reducible repeat first | apply kN | apply kD | apply kA); exact BK120.out) Try.underlying78 rfl (by kernel_rfl)) rfl ?_
 exact ⟨by first | rfl | (simp [errW_none, errW_some] <;> rfl) | (simp [*, errW_none, errW_some] <;> rfl), by repeat (first | (with_reducible first | exact HB.out | apply bAl | apply bDN | apply bD1 | refine bSe ?_ GE118.out | refine bSe ?_ GE119.out | refine bSe ?_ GE120.out) | exact HB.out)⟩

end Go.Proofs.Ytjmflccbddjlhaa.PFm
