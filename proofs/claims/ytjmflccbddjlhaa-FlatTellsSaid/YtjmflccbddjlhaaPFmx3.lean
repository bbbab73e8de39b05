-- WRITTEN BY A PROGRAM OF THIS SESSION (wip/xprint) out of the translation. Not trusted: Lean checks it.
import Derived.Test.YtjmflccbddjlhaaPFmx0
import Derived.Test.YtjmflccbddjlhaaPFmx2
namespace Go.Proofs.Ytjmflccbddjlhaa.PFm
open Go.RowKit Go.Proofs.YtjmflccbddjlhaaW.PrintWords Go.Proofs.YtjmflccbddjlhaaW.PrintLast Go.Proofs.YtjmflccbddjlhaaW.PrintMore
attribute [local go_sem] max2_int min2_int max_two min_two max_three min_three max_four min_four   -- for this text's walks alone
set_option linter.unusedVariables false
set_option linter.unusedSimpArgs false

/-! ### flat_lines: function 30 -/
mutual
def flat_lines.l0 : Nat → List (S34) → List (S78) → List (S78) → Int → Int → Int → Int → Bool → Option ((List (S34)))
 | 0, _, _, _, _, _, _, _, _ => none
 | k + 1, x3, x5, x13, x14, x15, x123000, x123001, x123002 => if x15 < x14 then (if 0 ≤ x15 then (if x15 < (x13.length : Int) then (if ((rd_T78 x13 x15).f2 = true) then (flat_lines.j1 k x3 x5 x13 x14 x15 false x123000 x123001 x123002 ((rd_T78 x13 x15).f0) ((rd_T78 x13 x15).f1) ((rd_T78 x13 x15).f2) ((rd_T78 x13 x15).f0) ((rd_T78 x13 x15).f1) ((rd_T78 x13 x15).f2)) else (flat_lines.j1 k x3 x5 x13 x14 x15 (decide ((x5.length : Int) > 0)) x123000 x123001 x123002 ((rd_T78 x13 x15).f0) ((rd_T78 x13 x15).f1) ((rd_T78 x13 x15).f2) ((rd_T78 x13 x15).f0) ((rd_T78 x13 x15).f1) ((rd_T78 x13 x15).f2))) else (none)) else (none)) else (some x3)
def flat_lines.j1 : Nat → List (S34) → List (S78) → List (S78) → Int → Int → Bool → Int → Int → Bool → Int → Int → Bool → Int → Int → Bool → Option ((List (S34)))
 | 0, _, _, _, _, _, _, _, _, _, _, _, _, _, _, _ => none
 | k + 1, x3, x5, x13, x14, x15, x27, x123000, x123001, x123002, x129000, x129001, x129002, x130000, x130001, x130002 => if x27 = true then (if 0 < (x5.length : Int) then ((flat_between.f ((rd_T78 x5 0).f0) ((rd_T78 x5 0).f1) ((rd_T78 x5 0).f2) x129000 x129001 x129002).bind fun bt131 => (flat_lines.j2 k x3 x5 x13 x14 x15 x123000 x123001 x123002 x129000 x129001 x129002 bt131.1 bt131.2.1 bt131.2.2)) else (none)) else (flat_lines.j2 k x3 x5 x13 x14 x15 x123000 x123001 x123002 x129000 x129001 x129002 x130000 x130001 x130002)
def flat_lines.j2 : Nat → List (S34) → List (S78) → List (S78) → Int → Int → Int → Int → Bool → Int → Int → Bool → Int → Int → Bool → Option ((List (S34)))
 | 0, _, _, _, _, _, _, _, _, _, _, _, _, _, _ => none
 | k + 1, x3, x5, x13, x14, x15, x123000, x123001, x123002, x129000, x129001, x129002, x130000, x130001, x130002 => if (x5.length : Int) > 0 then (if 0 < (x5.length : Int) then ((flat_curve.f k x123000 x123001 x123002 ((rd_T78 x5 0).f0) ((rd_T78 x5 0).f1) ((rd_T78 x5 0).f2) x130000 x130001 x130002).bind fun t135 => (if x3.length + t135.length < 4398046511104 then ((some (x3 ++ t135 : List (S34))).bind fun y138 => (if x129002 = true then (flat_lines.l0 k y138 ([] : List (S78)) x13 x14 (wrap64 (x15 + 1)) x130000 x130001 x130002) else (flat_lines.l0 k y138 (([(⟨x129000, x129001, x129002⟩ : S78)] : List (S78))) x13 x14 (wrap64 (x15 + 1)) x130000 x130001 x130002))) else (none))) else (none)) else (if x129002 = true then ((flat_seg.f x123000 x123001 x123002 x129000 x129001 x129002).bind fun bt144 => (if x3.length < 4398046511104 then (flat_lines.l0 k (x3 ++ [(⟨bt144.1, bt144.2.1, bt144.2.2.1, bt144.2.2.2⟩ : S34)]) ([] : List (S78)) x13 x14 (wrap64 (x15 + 1)) x129000 x129001 x129002) else (none))) else (flat_lines.l0 k x3 (([(⟨x129000, x129001, x129002⟩ : S78)] : List (S78))) x13 x14 (wrap64 (x15 + 1)) x123000 x123001 x123002))
end
def flat_lines.f (k : Nat) (l0 : List (S78)) : Option ((List (S34))) := if 0 < (l0.length : Int) then (if 1 ≤ (l0.length : Int) then ((some (l0.drop 1 : List (S78))).bind fun y123 => (flat_lines.l0 k ([] : List (S34)) ([] : List (S78)) y123 (y123.length : Int) 0 ((rd_T78 l0 0).f0) ((rd_T78 l0 0).f1) ((rd_T78 l0 0).f2))) else (none)) else (none)
theorem flat_lines.mono_l : ∀ k, (∀ y0 y1 y2 y3 y4 y5 y6 y7, LeO (flat_lines.l0 k y0 y1 y2 y3 y4 y5 y6 y7) (flat_lines.l0 (k + 1) y0 y1 y2 y3 y4 y5 y6 y7)) ∧ (∀ y0 y1 y2 y3 y4 y5 y6 y7 y8 y9 y10 y11 y12 y13 y14, LeO (flat_lines.j1 k y0 y1 y2 y3 y4 y5 y6 y7 y8 y9 y10 y11 y12 y13 y14) (flat_lines.j1 (k + 1) y0 y1 y2 y3 y4 y5 y6 y7 y8 y9 y10 y11 y12 y13 y14)) ∧ (∀ y0 y1 y2 y3 y4 y5 y6 y7 y8 y9 y10 y11 y12 y13, LeO (flat_lines.j2 k y0 y1 y2 y3 y4 y5 y6 y7 y8 y9 y10 y11 y12 y13) (flat_lines.j2 (k + 1) y0 y1 y2 y3 y4 y5 y6 y7 y8 y9 y10 y11 y12 y13))
 | 0 => ⟨fun _ _ _ _ _ _ _ _ r h => by simp [flat_lines.l0] at h, fun _ _ _ _ _ _ _ _ _ _ _ _ _ _ _ r h => by simp [flat_lines.j1] at h, fun _ _ _ _ _ _ _ _ _ _ _ _ _ _ r h => by simp [flat_lines.j2] at h⟩
 | k + 1 => by
  obtain ⟨ih0, ih1, ih2⟩ := flat_lines.mono_l k
  refine ⟨?_, ?_, ?_⟩
  ·intro y0 y1 y2 y3 y4 y5 y6 y7
   unfold flat_lines.l0
   repeat' first
   | (with_reducible exact ih0 _ _ _ _ _ _ _ _)
   | (with_reducible exact ih1 _ _ _ _ _ _ _ _ _ _ _ _ _ _ _)
   | (with_reducible exact ih2 _ _ _ _ _ _ _ _ _ _ _ _ _ _)
   | (with_reducible exact flat_curve.mono _ _ _ _ _ _ _ _ _ _)
   | (with_reducible exact LeO.refl _)
   | (with_reducible exact LeO.none _)
   | (with_reducible refine LeO.ite ?_ ?_)
   | (with_reducible refine LeO.bind ?_ (fun _ => ?_))
   | exact ih0 _ _ _ _ _ _ _ _
   | exact ih1 _ _ _ _ _ _ _ _ _ _ _ _ _ _ _
   | exact ih2 _ _ _ _ _ _ _ _ _ _ _ _ _ _
   | exact flat_curve.mono _ _ _ _ _ _ _ _ _ _
   | exact LeO.none _
   | refine LeO.ite ?_ ?_
   | refine LeO.bind ?_ (fun _ => ?_)
  ·intro y0 y1 y2 y3 y4 y5 y6 y7 y8 y9 y10 y11 y12 y13 y14
   unfold flat_lines.j1
   repeat' first
   | (with_reducible exact ih0 _ _ _ _ _ _ _ _)
   | (with_reducible exact ih1 _ _ _ _ _ _ _ _ _ _ _ _ _ _ _)
   | (with_reducible exact ih2 _ _ _ _ _ _ _ _ _ _ _ _ _ _)
   | (with_reducible exact flat_curve.mono _ _ _ _ _ _ _ _ _ _)
   | (with_reducible exact LeO.refl _)
   | (with_reducible exact LeO.none _)
   | (with_reducible refine LeO.ite ?_ ?_)
   | (with_reducible refine LeO.bind ?_ (fun _ => ?_))
   | exact ih0 _ _ _ _ _ _ _ _
   | exact ih1 _ _ _ _ _ _ _ _ _ _ _ _ _ _ _
   | exact ih2 _ _ _ _ _ _ _ _ _ _ _ _ _ _
   | exact flat_curve.mono _ _ _ _ _ _ _ _ _ _
   | exact LeO.none _
   | refine LeO.ite ?_ ?_
   | refine LeO.bind ?_ (fun _ => ?_)
  ·intro y0 y1 y2 y3 y4 y5 y6 y7 y8 y9 y10 y11 y12 y13
   unfold flat_lines.j2
   repeat' first
   | (with_reducible exact ih0 _ _ _ _ _ _ _ _)
   | (with_reducible exact ih1 _ _ _ _ _ _ _ _ _ _ _ _ _ _ _)
   | (with_reducible exact ih2 _ _ _ _ _ _ _ _ _ _ _ _ _ _)
   | (with_reducible exact flat_curve.mono _ _ _ _ _ _ _ _ _ _)
   | (with_reducible exact LeO.refl _)
   | (with_reducible exact LeO.none _)
   | (with_reducible refine LeO.ite ?_ ?_)
   | (with_reducible refine LeO.bind ?_ (fun _ => ?_))
   | exact ih0 _ _ _ _ _ _ _ _
   | exact ih1 _ _ _ _ _ _ _ _ _ _ _ _ _ _ _
   | exact ih2 _ _ _ _ _ _ _ _ _ _ _ _ _ _
   | exact flat_curve.mono _ _ _ _ _ _ _ _ _ _
   | exact LeO.none _
   | refine LeO.ite ?_ ?_
   | refine LeO.bind ?_ (fun _ => ?_)
theorem flat_lines.mono : ∀ a0 k, LeO (flat_lines.f k a0) (flat_lines.f (k + 1) a0) := by
 intro a0 k
 obtain ⟨ih0, ih1, ih2⟩ := flat_lines.mono_l k
 unfold flat_lines.f
 repeat' first
   | (with_reducible exact ih0 _ _ _ _ _ _ _ _)
   | (with_reducible exact ih1 _ _ _ _ _ _ _ _ _ _ _ _ _ _ _)
   | (with_reducible exact ih2 _ _ _ _ _ _ _ _ _ _ _ _ _ _)
   | (with_reducible exact flat_curve.mono _ _ _ _ _ _ _ _ _ _)
   | (with_reducible exact LeO.refl _)
   | (with_reducible exact LeO.none _)
   | (with_reducible refine LeO.ite ?_ ?_)
   | (with_reducible refine LeO.bind ?_ (fun _ => ?_))
   | exact ih0 _ _ _ _ _ _ _ _
   | exact ih1 _ _ _ _ _ _ _ _ _ _ _ _ _ _ _
   | exact ih2 _ _ _ _ _ _ _ _ _ _ _ _ _ _
   | exact flat_curve.mono _ _ _ _ _ _ _ _ _ _
   | exact LeO.none _
   | refine LeO.ite ?_ ?_
   | refine LeO.bind ?_ (fun _ => ?_)
def flat_lines.T10 : Bool × List (List Nat × List Nat) := (true, [([], []), ([], []), ([], []), ([2], [2]), ([3], [3]), ([], []), ([1, 4, 5], [1, 4, 5]), ([0, 6, 6], [0, 6]), ([], []), ([7, 7, 0, 1, 2, 3, 4, 5, 6, 7], [0, 7]), ([8, 9, 0, 1, 2, 3, 4, 5, 6, 7, 8, 9], [8])])
def flat_lines.B10 : List Nat := [0, 0, 0, 4, 12, 0, 62, 127, 0, 255, 1023]
theorem flat_lines.tab10 : rtab .any (opsOf Try.f30 10) = flat_lines.T10 := by kernel_rfl
theorem flat_lines.bits10 : waitsOk flat_lines.T10.2 flat_lines.B10 = true := by kernel_rfl
def flat_lines.T12 : Bool × List (List Nat × List Nat) := (true, [([], []), ([], []), ([], []), ([1, 2], [1, 2]), ([3], [3]), ([0, 4, 3], [0, 4]), ([], []), ([5, 5, 0, 1, 2, 3, 4, 5], [0, 5]), ([6, 7, 0, 1, 2, 3, 4, 5, 6, 7], [6])])
def flat_lines.B12 : List Nat := [0, 0, 0, 6, 14, 31, 0, 63, 255]
theorem flat_lines.tab12 : rtab .any (opsOf Try.f30 12) = flat_lines.T12 := by kernel_rfl
theorem flat_lines.bits12 : waitsOk flat_lines.T12.2 flat_lines.B12 = true := by kernel_rfl
set_option maxHeartbeats 8000000 in
set_option maxRecDepth 100000 in
theorem flat_lines.calls (k : Nat) (A0 : Option Addr) (c0 : Nat) (l0 : List (S78)) (r : List (S34)) (w : World) (hr0 : Kd.C k78 w A0 l0.length l0) (hc0 : l0.length ≤ c0) (h : flat_lines.f k l0 = some r) :
  Calls Try.prog 30 #[.slice A0 l0.length c0] w fun e w' => ∃ v0_ : Value, e = .returned (v0_) ∧ Kd.R k34 34 w' w.heap.size (fun _ => True) v0_ r ∧ Below w.heap.size w w' := by
 have hu78 := Try.underlying78
 have HR0 := amk hr0
 have HC0 := amk hc0
 clear hr0 hc0
 have HB := amk (Below.refl w.heap.size w)
 have H : (if 0 < (l0.length : Int) then (if 1 ≤ (l0.length : Int) then ((some (l0.drop 1 : List (S78))).bind fun y123 => (flat_lines.l0 k ([] : List (S34)) ([] : List (S78)) y123 (y123.length : Int) 0 ((rd_T78 l0 0).f0) ((rd_T78 l0 0).f1) ((rd_T78 l0 0).f2))) else (none)) else (none)) = some r := h
 clear h
 by_cases c2 : 0 < (l0.length : Int)
 ·rw [if_pos c2] at H
  have c2b0 : decide (0 < (l0.length : Int)) = true := decide_eq_true c2
  have c2b1 : decide (0 < l0.length) = true := decide_eq_true (by omega)
  clear c2
  by_cases c3 : 1 ≤ (l0.length : Int)
  ·rw [if_pos c3] at H
   have c3b0 := eq_true c3
   have c3b1 : decide (1 ≤ (l0.length : Int)) = true := decide_eq_true c3
   clear c3
   obtain ⟨y123, hy123⟩ : ∃ y_ : List (S78), y_ = (l0.drop 1) := ⟨_, rfl⟩
   replace H : (flat_lines.l0 k ([] : List (S34)) ([] : List (S78)) y123 (y123.length : Int) 0 ((rd_T78 l0 0).f0) ((rd_T78 l0 0).f1) ((rd_T78 l0 0).f2)) = some r := by first | (rw [hy123]; with_reducible exact H) | (have H2_ := (Option.bind_some _ _).symm.trans H; rw [hy123]; with_reducible exact H2_) | (have H2_ := (Option.bind_some _ _).symm.trans H; with_reducible exact H2_) | with_reducible exact H | (rw [hy123]; exact H) | exact H
   have Ny123 := amk hy123
   clear hy123
   have H' := amk H
   clear H
   have p121 : 0 ≤ (0 : Int) := (by omega)
   have q121 : 0 < (l0.length : Int) := of_decide_eq_true (by first | (with_reducible assumption) | assumption)
   obtain ⟨ad121, e121, hx121_0, hx121_1, hx121_2⟩ := at_T78 HR0.out 0 p121 q121
   cases e121
   have qi121 : (0 < l0.length) = True := eq_true (by omega)
   (try rw [show ((0 : Int)).toNat = 0 from rfl] at hx121_0)
   (try rw [show 0 * 3 = 0 from rfl] at hx121_0)
   (try rw [Addr.add_zero'] at hx121_0)
   (try rw [show ((0 : Int)).toNat = 0 from rfl] at hx121_1)
   (try rw [show 0 * 3 = 0 from rfl] at hx121_1)
   (try rw [Addr.add_zero'] at hx121_1)
   (try rw [show ((0 : Int)).toNat = 0 from rfl] at hx121_2)
   (try rw [show 0 * 3 = 0 from rfl] at hx121_2)
   (try rw [Addr.add_zero'] at hx121_2)
   replace p121 := eq_true p121
   replace q121 := eq_true q121
   go_enter Try.func30, Try.ntmps30
   go_wp2_with (first | ((with_reducible refine gate_dst (N := 4) rfl ?_); (try (refine gate_guard (by rfl) ?_; dsimp only)); refine box_event ?hg (N := 4) ?hd (cs := #[.int .i64 0, .int .i64 0, .bool false]) (t := 78) ?hr ?_; (case hd => rfl); (case hg => rfl); (case hr => first | (go_simp; done) | (go_simp; rfl)); intro gb122 hg w4 hbox hb; have n0_ := amk (below_step (by repeat (first | (with_reducible first | exact HB.out | apply bAl | apply bDN | apply bD1) | exact HB.out)) hb); have n1_ := amk (hbox); have n2_ := amk ((by rw [hg]; exact (below_size (by repeat (first | (with_reducible first | exact HB.out | apply bAl | apply bDN | apply bD1) | exact HB.out))) : w.heap.size ≤ gb122)); have n3_ := amk ((by rw [hg]; exact (below_size (by repeat (first | (with_reducible first | exact HB.out | apply bAl | apply bDN | apply bD1) | exact HB.out))) : w.heap.size ≤ gb122)); clear HB; have HB := n0_; have BK122 := n1_; have GW122 := n2_; have GE122 := n3_; clear n0_ n1_ n2_ n3_; clear hb hbox hg; have hcz5_0 : w4.cell? ⟨gb122, 0, none⟩ = some (.int .i64 0) := (blk_cell BK122.out 0).trans rfl; have hcz5_1 : w4.cell? ⟨gb122, 1, none⟩ = some (.int .i64 0) := (blk_cell BK122.out 1).trans rfl; have hcz5_2 : w4.cell? ⟨gb122, 2, none⟩ = some (.bool false) := (blk_cell BK122.out 2).trans rfl; have hfz5_0 := blk_frozen BK122.out 0; have hfz5_1 := blk_frozen BK122.out 1; have hfz5_2 := blk_frozen BK122.out 2) | ((with_reducible refine gate_store (t := 78) (p := 4) rfl ?_); refine store_event (t := 78) (p := 4) (v := ?vo_w6) (w1 := (((w4.setCell ⟨gb122, 0, none⟩ (.int .i64 ((rd_T78 l0 0).f0))).setCell ⟨gb122, 1, none⟩ (.int .i64 ((rd_T78 l0 0).f1))).setCell ⟨gb122, 2, none⟩ (.bool ((rd_T78 l0 0).f2)))) ?hg ?ho ?hn ?hr ?_; (case ho => rfl); (case hg => rfl); (case hn => rfl); (case hr => first | (go_simp; done) | (go_simp; rfl)); intro w6 hw; have n0_ : Aside0 (w6.heap[gb122]? = some (.cells #[.int .i64 ((rd_T78 l0 0).f0), .int .i64 ((rd_T78 l0 0).f1), .bool ((rd_T78 l0 0).f2)] 78 (0, 0))) := ⟨(by rw [hw]; exact (by (with_reducible repeat first | apply kN | apply kD | apply kA); refine blk_put (cs := #[.int .i64 ((rd_T78 l0 0).f0), .int .i64 ((rd_T78 l0 0).f1), .bool false]) ?_ 2 _ rfl; (with_reducible repeat first | apply kN | apply kD | apply kA); refine blk_put (cs := #[.int .i64 ((rd_T78 l0 0).f0), .int .i64 0, .bool false]) ?_ 1 _ rfl; (with_reducible repeat first | apply kN | apply kD | apply kA); refine blk_put (cs := #[.int .i64 0, .int .i64 0, .bool false]) ?_ 0 _ rfl; (with_reducible repeat first | apply kN | apply kD | apply kA); exact BK122.out))⟩; have n1_ : Aside0 (Below w.heap.size w w6) := ⟨(by rw [hw]; exact (by repeat (first | (with_reducible first | exact HB.out | apply bAl | apply bDN | apply bD1 | refine bSe ?_ GE122.out) | exact HB.out)))⟩; clear hw; clear BK122; clear HB; have BK122 := n0_; have HB := n1_; clear n0_ n1_; have q7 : (1 : Int) ≤ ((l0.length : Int) : Int) := of_decide_eq_true (by first | (with_reducible assumption) | assumption); obtain ⟨i07, hi07, _, hsz7, _⟩ := info_parts info78; have hroom7 : l0.length ≤ c0 := HC0.out; have hC7 : Kd.C k78 _ (some ad121) l0.length l0 := HR0.out; have hcut7 := cut_from (P := Try.prog) 72 78 .i64 Try.underlying72 hi07 3 hsz7 (some ad121) l0.length c0 1 (by omega) q7; have hr7 := Kd.C_drop (m := (1 : Int).toNat) (c := c0) hC7 (by omega) hroom7; obtain ⟨A7, hA7⟩ : ∃ A1, A1 = (if c0 = (1 : Int).toNat then (some ad121) else ((some ad121) : Option Addr).map (·.add ((1 : Int).toNat * 3))) := ⟨_, rfl⟩; obtain ⟨c7, hc7⟩ : ∃ c1, c1 = c0 - (1 : Int).toNat := ⟨_, rfl⟩; have hy7 : y123.length = l0.length - (1 : Int).toNat := (by rw [Ny123.out, List.length_drop] <;> omega); rw [show (l0).drop (1 : Int).toNat = y123 from Ny123.out.symm] at hr7; replace hr7 : Kd.C k78 _ A7 y123.length y123 := (by rw [hA7]; exact hr7); rw [← hy7, ← hA7, ← hc7] at hcut7; have HR126 := amk hr7; have HC126 := amk (show y123.length ≤ c7 from by rw [hy7, hc7]; exact Nat.sub_le_sub_right hroom7 _); clear hr7 hC7 hroom7 hi07 hsz7 hc7; have KY7 := amk hy7; have KA7 := amk hA7; clear hy7 hA7; replace q7 := eq_true q7))
   go_loopg [3, 5, 15] k (fun kq v3 v5 v15 w' => ∃ (x3_1 : List (S34)) (x5_1 : List (S78)) (x15_1 : Int) (x123000_1 : Int) (x123001_1 : Int) (x123002_1 : Bool), v15 = .int .i64 x15_1 ∧ Aside0 (flat_lines.l0 kq x3_1 x5_1 y123 (y123.length : Int) x15_1 x123000_1 x123001_1 x123002_1 = some r) ∧ Aside0 (kq ≤ k) ∧ Aside0 (Kd.R k34 34 w' w.heap.size (fun _ => True) v3 x3_1) ∧ Aside0 (Kd.R k78 78 w' w.heap.size (fun k_ => k_ ≠ gb122) v5 x5_1) ∧ Aside0 (w'.heap[gb122]? = some (.cells #[.int .i64 x123000_1, .int .i64 x123001_1, .bool x123002_1] 78 (0, 0))) ∧ Aside0 (Below w.heap.size w w'))
   case atStart => exact ⟨(([] : List (S34))), (([] : List (S78))), (0), ((rd_T78 l0 0).f0), ((rd_T78 l0 0).f1), ((rd_T78 l0 0).f2), (by first | rfl | (simp; done) | (simp [*]; done)), H', ⟨Nat.le_refl _⟩, ⟨by first | exact Kd.R_nil _ _ _ _ _ | exact Kd.N_nil _ _ _ _ _ | exact Kd.V_nil _ _ _ _ _ | exact Kd.Q_nil _ _ _ _ _ | exact Kd.S_nil _ _ _ _ _⟩, ⟨by first | exact Kd.R_nil _ _ _ _ _ | exact Kd.N_nil _ _ _ _ _ | exact Kd.V_nil _ _ _ _ _ | exact Kd.Q_nil _ _ _ _ _ | exact Kd.S_nil _ _ _ _ _⟩, ⟨by (with_reducible repeat first | apply kN | apply kD | apply kA); exact BK122.out⟩, ⟨by repeat (first | (with_reducible first | exact HB.out | apply bAl | apply bDN | apply bD1 | refine bSe ?_ GE122.out) | exact HB.out)⟩⟩
   case round =>
    clear H'
    try clear c1
    try clear p1
    try clear q1
    try clear hx1
    try clear qi1
    try clear c2
    try clear c2b0
    try clear c2b1
    try clear p2
    try clear c3
    try clear c3b0
    try clear c3b1
    try clear c7
    try clear q7
    try clear hcz5_0
    try clear hcz5_1
    try clear hcz5_2
    try clear hfz5_0
    try clear hfz5_1
    try clear hfz5_2
    try clear hx121_0
    try clear hx121_1
    try clear hx121_2
    try clear p121
    try clear q121
    try clear q7
    obtain ⟨x3_1, x5_1, x15_1, x123000_1, x123001_1, x123002_1, rfl, HA, HK1, HO_3, HO_5, BK122, HB⟩ := hrel
    cases gk with
    | zero => exact absurd HA.out (by simp [flat_lines.l0])
    | succ k1 =>
     have H := HA.out
     clear HA
     simp only [flat_lines.l0] at H
     by_cases c8 : x15_1 < (y123.length : Int)
     ·rw [if_pos c8] at H
      have c8b0 : decide (x15_1 < (y123.length : Int)) = true := decide_eq_true c8
      clear c8
      by_cases c9 : 0 ≤ x15_1
      ·rw [if_pos c9] at H
       have c9b0 : decide (0 ≤ x15_1) = true := decide_eq_true c9
       clear c9
       by_cases c10 : x15_1 < (y123.length : Int)
       ·rw [if_pos c10] at H
        have c10b0 : decide (x15_1 < (y123.length : Int)) = true := decide_eq_true c10
        clear c10
        have HC11 := amk H
        clear H
        have p127 : 0 ≤ (x15_1 : Int) := of_decide_eq_true (by first | (with_reducible assumption) | assumption)
        have q127 : x15_1 < (y123.length : Int) := of_decide_eq_true (by first | (with_reducible assumption) | assumption)
        obtain ⟨ad127, e127, hx127_0, hx127_1, hx127_2⟩ := at_T78 HR126.out x15_1 p127 q127
        cases e127
        replace hx127_0 := (HB.out.cell (cLt w _ hx127_0)).trans hx127_0
        replace hx127_1 := (HB.out.cell (cLt w _ hx127_1)).trans hx127_1
        replace hx127_2 := (HB.out.cell (cLt w _ hx127_2)).trans hx127_2
        replace p127 := eq_true p127
        replace q127 := eq_true q127
        go_upto_region 7 with (first | ((with_reducible refine gate_dst (N := 7) rfl ?_); (try (refine gate_guard (by rfl) ?_; dsimp only)); refine box_event ?hg (N := 7) ?hd (cs := #[.int .i64 0, .int .i64 0, .bool false]) (t := 78) ?hr ?_; (case hd => rfl); (case hg => rfl); (case hr => first | (go_simp; done) | (go_simp; rfl)); intro gb128 hg w12 hbox hb; have n0_ := amk (Kd.R_below (by (with_reducible repeat (first | apply Kd.R_alloc | apply Kd.R_drewN | apply Kd.R_drew)); exact HO_3.out) hb); have n1_ := amk (Kd.R_below (Kd.R_elderB (by (with_reducible repeat (first | apply Kd.R_alloc | apply Kd.R_drewN | apply Kd.R_drew)); exact HO_5.out) gb128 (Nat.le_of_eq hg.symm)) hb); have n2_ := amk (blk_below (g := gb122) (o := .cells #[.int .i64 x123000_1, .int .i64 x123001_1, .bool x123002_1] 78 (0, 0)) (by (with_reducible repeat first | apply kN | apply kD | apply kA); exact BK122.out) hb); have n3_ := amk (below_step (by repeat (first | (with_reducible first | exact HB.out | apply bAl | apply bDN | apply bD1 | refine bSe ?_ GE122.out) | exact HB.out)) hb); have n4_ := amk (hbox); have n5_ := amk ((by rw [hg]; exact (below_size (by repeat (first | (with_reducible first | exact HB.out | apply bAl | apply bDN | apply bD1 | refine bSe ?_ GE122.out) | exact HB.out))) : w.heap.size ≤ gb128)); have n6_ := amk ((by rw [hg]; exact (below_size (by repeat (first | (with_reducible first | exact HB.out | apply bAl | apply bDN | apply bD1 | refine bSe ?_ GE122.out) | exact HB.out))) : w.heap.size ≤ gb128)); have n7_ := amk ((by rw [hg]; exact Nat.ne_of_lt (blk_lt (g := gb122) (o := .cells #[.int .i64 x123000_1, .int .i64 x123001_1, .bool x123002_1] 78 (0, 0)) (by (with_reducible repeat first | apply kN | apply kD | apply kA); exact BK122.out)) : gb122 ≠ gb128)); have n8_ := amk ((by rw [hg]; exact Nat.ne_of_gt (blk_lt (g := gb122) (o := .cells #[.int .i64 x123000_1, .int .i64 x123001_1, .bool x123002_1] 78 (0, 0)) (by (with_reducible repeat first | apply kN | apply kD | apply kA); exact BK122.out)) : gb128 ≠ gb122)); clear HO_3; clear HO_5; clear BK122; clear HB; have HO_3 := n0_; have HO_5 := n1_; have BK122 := n2_; have HB := n3_; have BK128 := n4_; have GW128 := n5_; have GE128 := n6_; have NB122_128 := n7_; have NB128_122 := n8_; clear n0_ n1_ n2_ n3_ n4_ n5_ n6_ n7_ n8_; clear hb hbox hg; have hnb13 := NB128_122.out; have hnc13 := NB122_128.out; have hcz14_0 : w12.cell? ⟨gb128, 0, none⟩ = some (.int .i64 0) := (blk_cell BK128.out 0).trans rfl; have hcz14_1 : w12.cell? ⟨gb128, 1, none⟩ = some (.int .i64 0) := (blk_cell BK128.out 1).trans rfl; have hcz14_2 : w12.cell? ⟨gb128, 2, none⟩ = some (.bool false) := (blk_cell BK128.out 2).trans rfl; have hfz14_0 := blk_frozen BK128.out 0; have hfz14_1 := blk_frozen BK128.out 1; have hfz14_2 := blk_frozen BK128.out 2) | ((with_reducible refine gate_dst (N := 8) rfl ?_); (try (refine gate_guard (by rfl) ?_; dsimp only)); refine box_event ?hg (N := 8) ?hd (cs := #[.int .i64 0, .int .i64 0, .bool false]) (t := 78) ?hr ?_; (case hd => rfl); (case hg => rfl); (case hr => first | (go_simp; done) | (go_simp; rfl)); intro gb129 hg w15 hbox hb; have n0_ := amk (Kd.R_below (by (with_reducible repeat (first | apply Kd.R_alloc | apply Kd.R_drewN | apply Kd.R_drew)); exact (Kd.R_mono (Kd.R_far (p := ⟨gb128, 2, none⟩) (Kd.R_far (p := ⟨gb128, 1, none⟩) (Kd.R_far (p := ⟨gb128, 0, none⟩) (Kd.R_types HO_3.out BK128.out (by decide)) (fun _ hk => hk.2) (.int .i64 ((rd_T78 y123 x15_1).f0))) (fun _ hk => hk.2) (.int .i64 ((rd_T78 y123 x15_1).f1))) (fun _ hk => hk.2) (.bool ((rd_T78 y123 x15_1).f2))) (fun _ h_ => h_.1))) hb); have n1_ := amk (Kd.R_below (Kd.R_elderB (by (with_reducible repeat (first | apply Kd.R_alloc | apply Kd.R_drewN | apply Kd.R_drew)); exact (Kd.R_mono (Kd.R_far (p := ⟨gb128, 2, none⟩) (Kd.R_far (p := ⟨gb128, 1, none⟩) (Kd.R_far (p := ⟨gb128, 0, none⟩) (Kd.R_mono HO_5.out (fun k_ hk => (⟨hk, hk.2⟩ : _ ∧ k_ ≠ gb128))) (fun _ hk => hk.2) (.int .i64 ((rd_T78 y123 x15_1).f0))) (fun _ hk => hk.2) (.int .i64 ((rd_T78 y123 x15_1).f1))) (fun _ hk => hk.2) (.bool ((rd_T78 y123 x15_1).f2))) (fun _ h_ => h_.1))) gb129 (Nat.le_of_eq hg.symm)) hb); have n2_ := amk (blk_below (g := gb122) (o := .cells #[.int .i64 x123000_1, .int .i64 x123001_1, .bool x123002_1] 78 (0, 0)) (by (with_reducible repeat first | apply kN | apply kD | apply kA); refine blk_far ?_ NB122_128.out _; (with_reducible repeat first | apply kN | apply kD | apply kA); refine blk_far ?_ NB122_128.out _; (with_reducible repeat first | apply kN | apply kD | apply kA); refine blk_far ?_ NB122_128.out _; (with_reducible repeat first | apply kN | apply kD | apply kA); exact BK122.out) hb); have n3_ := amk (blk_below (g := gb128) (o := .cells #[.int .i64 ((rd_T78 y123 x15_1).f0), .int .i64 ((rd_T78 y123 x15_1).f1), .bool ((rd_T78 y123 x15_1).f2)] 78 (0, 0)) (by (with_reducible repeat first | apply kN | apply kD | apply kA); refine blk_put (cs := #[.int .i64 ((rd_T78 y123 x15_1).f0), .int .i64 ((rd_T78 y123 x15_1).f1), .bool false]) ?_ 2 _ rfl; (with_reducible repeat first | apply kN | apply kD | apply kA); refine blk_put (cs := #[.int .i64 ((rd_T78 y123 x15_1).f0), .int .i64 0, .bool false]) ?_ 1 _ rfl; (with_reducible repeat first | apply kN | apply kD | apply kA); refine blk_put (cs := #[.int .i64 0, .int .i64 0, .bool false]) ?_ 0 _ rfl; (with_reducible repeat first | apply kN | apply kD | apply kA); exact BK128.out) hb); have n4_ := amk (below_step (by repeat (first | (with_reducible first | exact HB.out | apply bAl | apply bDN | apply bD1 | refine bSe ?_ GE122.out | refine bSe ?_ GE128.out) | exact HB.out)) hb); have n5_ := amk (hbox); have n6_ := amk ((by rw [hg]; exact (below_size (by repeat (first | (with_reducible first | exact HB.out | apply bAl | apply bDN | apply bD1 | refine bSe ?_ GE122.out | refine bSe ?_ GE128.out) | exact HB.out))) : w.heap.size ≤ gb129)); have n7_ := amk ((by rw [hg]; exact (below_size (by repeat (first | (with_reducible first | exact HB.out | apply bAl | apply bDN | apply bD1 | refine bSe ?_ GE122.out | refine bSe ?_ GE128.out) | exact HB.out))) : w.heap.size ≤ gb129)); have n8_ := amk ((by rw [hg]; exact Nat.ne_of_lt (blk_lt (g := gb122) (o := .cells #[.int .i64 x123000_1, .int .i64 x123001_1, .bool x123002_1] 78 (0, 0)) (by (with_reducible repeat first | apply kN | apply kD | apply kA); refine blk_far ?_ NB122_128.out _; (with_reducible repeat first | apply kN | apply kD | apply kA); refine blk_far ?_ NB122_128.out _; (with_reducible repeat first | apply kN | apply kD | apply kA); refine blk_far ?_ NB122_128.out _; (with_reducible repeat first | apply kN | apply kD | apply kA); exact BK122.out)) : gb122 ≠ gb129)); have n9_ := amk ((by rw [hg]; exact Nat.ne_of_gt (blk_lt (g := gb122) (o := .cells #[.int .i64 x123000_1, .int .i64 x123001_1, .bool x123002_1] 78 (0, 0)) (by (with_reducible repeat first | apply kN | apply kD | apply kA); refine blk_far ?_ NB122_128.out _; (with_reducible repeat first | apply kN | apply kD | apply kA); refine blk_far ?_ NB122_128.out _; (with_reducible repeat first | apply kN | apply kD | apply kA); refine blk_far ?_ NB122_128.out _; (with_reducible repeat first | apply kN | apply kD | apply kA); exact BK122.out)) : gb129 ≠ gb122)); have n10_ := amk ((by rw [hg]; exact Nat.ne_of_lt (blk_lt (g := gb128) (o := .cells #[.int .i64 ((rd_T78 y123 x15_1).f0), .int .i64 ((rd_T78 y123 x15_1).f1), .bool ((rd_T78 y123 x15_1).f2)] 78 (0, 0)) (by (with_reducible repeat first | apply kN | apply kD | apply kA); refine blk_put (cs := #[.int .i64 ((rd_T78 y123 x15_1).f0), .int .i64 ((rd_T78 y123 x15_1).f1), .bool false]) ?_ 2 _ rfl; (with_reducible repeat first | apply kN | apply kD | apply kA); refine blk_put (cs := #[.int .i64 ((rd_T78 y123 x15_1).f0), .int .i64 0, .bool false]) ?_ 1 _ rfl; (with_reducible repeat first | apply kN | apply kD | apply kA); refine blk_put (cs := #[.int .i64 0, .int .i64 0, .bool false]) ?_ 0 _ rfl; (with_reducible repeat first | apply kN | apply kD | apply kA); exact BK128.out)) : gb128 ≠ gb129)); have n11_ := amk ((by rw [hg]; exact Nat.ne_of_gt (blk_lt (g := gb128) (o := .cells #[.int .i64 ((rd_T78 y123 x15_1).f0), .int .i64 ((rd_T78 y123 x15_1).f1), .bool ((rd_T78 y123 x15_1).f2)] 78 (0, 0)) (by (with_reducible repeat first | apply kN | apply kD | apply kA); refine blk_put (cs := #[.int .i64 ((rd_T78 y123 x15_1).f0), .int .i64 ((rd_T78 y123 x15_1).f1), .bool false]) ?_ 2 _ rfl; (with_reducible repeat first | apply kN | apply kD | apply kA); refine blk_put (cs := #[.int .i64 ((rd_T78 y123 x15_1).f0), .int .i64 0, .bool false]) ?_ 1 _ rfl; (with_reducible repeat first | apply kN | apply kD | apply kA); refine blk_put (cs := #[.int .i64 0, .int .i64 0, .bool false]) ?_ 0 _ rfl; (with_reducible repeat first | apply kN | apply kD | apply kA); exact BK128.out)) : gb129 ≠ gb128)); clear HO_3; clear HO_5; clear BK122; clear BK128; clear HB; have HO_3 := n0_; have HO_5 := n1_; have BK122 := n2_; have BK128 := n3_; have HB := n4_; have BK129 := n5_; have GW129 := n6_; have GE129 := n7_; have NB122_129 := n8_; have NB129_122 := n9_; have NB128_129 := n10_; have NB129_128 := n11_; clear n0_ n1_ n2_ n3_ n4_ n5_ n6_ n7_ n8_ n9_ n10_ n11_; clear hb hbox hg; have hnb16 := NB129_122.out; have hnc16 := NB122_129.out; have hnb17 := NB129_128.out; have hnc17 := NB128_129.out; have hcz18_0 : w15.cell? ⟨gb129, 0, none⟩ = some (.int .i64 0) := (blk_cell BK129.out 0).trans rfl; have hcz18_1 : w15.cell? ⟨gb129, 1, none⟩ = some (.int .i64 0) := (blk_cell BK129.out 1).trans rfl; have hcz18_2 : w15.cell? ⟨gb129, 2, none⟩ = some (.bool false) := (blk_cell BK129.out 2).trans rfl; have hfz18_0 := blk_frozen BK129.out 0; have hfz18_1 := blk_frozen BK129.out 1; have hfz18_2 := blk_frozen BK129.out 2))
        (try simp only [Act.put, sTA, sCZ, sCS])
        go_cut [27] (fun v27 wc => ∃ (kq : Nat) (x27_10 : Bool), v27 = .bool x27_10 ∧ Aside0 (flat_lines.j1 kq x3_1 x5_1 y123 (y123.length : Int) x15_1 x27_10 x123000_1 x123001_1 x123002_1 ((rd_T78 y123 x15_1).f0) ((rd_T78 y123 x15_1).f1) ((rd_T78 y123 x15_1).f2) ((rd_T78 y123 x15_1).f0) ((rd_T78 y123 x15_1).f1) ((rd_T78 y123 x15_1).f2) = some r) ∧ Aside0 (kq ≤ k1) ∧ Aside0 (Kd.R k34 34 wc w.heap.size (fun _ => True) u3 x3_1) ∧ Aside0 (Kd.R k78 78 wc w.heap.size (fun k_ => k_ ≠ gb122 ∧ k_ ≠ gb128 ∧ k_ ≠ gb129) u5 x5_1) ∧ Aside0 (wc.heap[gb122]? = some (.cells #[.int .i64 x123000_1, .int .i64 x123001_1, .bool x123002_1] 78 (0, 0))) ∧ Aside0 (wc.heap[gb128]? = some (.cells #[.int .i64 ((rd_T78 y123 x15_1).f0), .int .i64 ((rd_T78 y123 x15_1).f1), .bool ((rd_T78 y123 x15_1).f2)] 78 (0, 0))) ∧ Aside0 (wc.heap[gb129]? = some (.cells #[.int .i64 ((rd_T78 y123 x15_1).f0), .int .i64 ((rd_T78 y123 x15_1).f1), .bool ((rd_T78 y123 x15_1).f2)] 78 (0, 0))) ∧ Aside0 (Below w.heap.size w wc))
        case first =>
         have H := HC11.out
         clear HC11
         obtain ⟨bq19, hbq19⟩ : ∃ b_ : Bool, b_ = ((rd_T78 y123 x15_1).f2) := ⟨_, rfl⟩
         replace H : (if (bq19 = true) then (flat_lines.j1 k1 x3_1 x5_1 y123 (y123.length : Int) x15_1 false x123000_1 x123001_1 x123002_1 ((rd_T78 y123 x15_1).f0) ((rd_T78 y123 x15_1).f1) bq19 ((rd_T78 y123 x15_1).f0) ((rd_T78 y123 x15_1).f1) bq19) else (flat_lines.j1 k1 x3_1 x5_1 y123 (y123.length : Int) x15_1 (decide ((x5_1.length : Int) > 0)) x123000_1 x123001_1 x123002_1 ((rd_T78 y123 x15_1).f0) ((rd_T78 y123 x15_1).f1) bq19 ((rd_T78 y123 x15_1).f0) ((rd_T78 y123 x15_1).f1) bq19)) = some r := by rw [← hbq19] at H; exact H
         have Nbq19 := amk hbq19
         clear hbq19
         (try rw [← Nbq19.out] at BK128)
         (try rw [← Nbq19.out] at BK129)
         (try rw [← Nbq19.out])
         by_cases c20 : (bq19 = true)
         ·subst c20
          have H1 : (flat_lines.j1 k1 x3_1 x5_1 y123 (y123.length : Int) x15_1 false x123000_1 x123001_1 x123002_1 ((rd_T78 y123 x15_1).f0) ((rd_T78 y123 x15_1).f1) true ((rd_T78 y123 x15_1).f0) ((rd_T78 y123 x15_1).f1) true) = some r := by rw [if_pos rfl] at H; exact H
          clear H
          have H := H1
          clear H1
          have H' := amk H
          clear H
          have hnb21 := NB128_122.out
          have hnc21 := NB122_128.out
          have hnb22 := NB128_129.out
          have hnc22 := NB129_128.out
          have hcz23_0 : w15.cell? ⟨gb128, 0, none⟩ = some (.int .i64 ((rd_T78 y123 x15_1).f0)) := (blk_cell BK128.out 0).trans rfl
          have hcz23_1 : w15.cell? ⟨gb128, 1, none⟩ = some (.int .i64 ((rd_T78 y123 x15_1).f1)) := (blk_cell BK128.out 1).trans rfl
          have hcz23_2 : w15.cell? ⟨gb128, 2, none⟩ = some (.bool true) := (blk_cell BK128.out 2).trans rfl
          have hfz23_0 := blk_frozen BK128.out 0
          have hfz23_1 := blk_frozen BK128.out 1
          have hfz23_2 := blk_frozen BK128.out 2
          go_wp2
          go_meet
          case rel => (try simp only [← Nbq19.out]); exact ⟨_, (false), (by first | rfl | (simp; done) | (simp [*]; done)), H', ⟨by have := HK1.out; first | omega | exact Nat.le_refl _⟩, ⟨by (with_reducible repeat (first | apply Kd.R_alloc | apply Kd.R_drewN | apply Kd.R_drew)); exact Kd.R_mono (Kd.R_far (p := ⟨gb129, 2, none⟩) (Kd.R_far (p := ⟨gb129, 1, none⟩) (Kd.R_far (p := ⟨gb129, 0, none⟩) (Kd.R_types HO_3.out BK129.out (by decide)) (fun _ hk => hk.2) (.int .i64 ((rd_T78 y123 x15_1).f0))) (fun _ hk => hk.2) (.int .i64 ((rd_T78 y123 x15_1).f1))) (fun _ hk => hk.2) (.bool (true))) (fun _ hk => trivial)⟩, ⟨by (with_reducible repeat (first | apply Kd.R_alloc | apply Kd.R_drewN | apply Kd.R_drew)); exact Kd.R_mono (Kd.R_far (p := ⟨gb129, 2, none⟩) (Kd.R_far (p := ⟨gb129, 1, none⟩) (Kd.R_far (p := ⟨gb129, 0, none⟩) (Kd.R_mono HO_5.out (fun k_ hk => (⟨hk, hk.2⟩ : _ ∧ k_ ≠ gb129))) (fun _ hk => hk.2) (.int .i64 ((rd_T78 y123 x15_1).f0))) (fun _ hk => hk.2) (.int .i64 ((rd_T78 y123 x15_1).f1))) (fun _ hk => hk.2) (.bool (true))) (fun _ hk => ⟨hk.1.1.1, ⟨hk.1.1.2, hk.1.2⟩⟩)⟩, ⟨by (with_reducible repeat first | apply kN | apply kD | apply kA); refine blk_far ?_ NB122_129.out _; (with_reducible repeat first | apply kN | apply kD | apply kA); refine blk_far ?_ NB122_129.out _; (with_reducible repeat first | apply kN | apply kD | apply kA); refine blk_far ?_ NB122_129.out _; (with_reducible repeat first | apply kN | apply kD | apply kA); exact BK122.out⟩, ⟨by (with_reducible repeat first | apply kN | apply kD | apply kA); refine blk_far ?_ NB128_129.out _; (with_reducible repeat first | apply kN | apply kD | apply kA); refine blk_far ?_ NB128_129.out _; (with_reducible repeat first | apply kN | apply kD | apply kA); refine blk_far ?_ NB128_129.out _; (with_reducible repeat first | apply kN | apply kD | apply kA); exact BK128.out⟩, ⟨by (with_reducible repeat first | apply kN | apply kD | apply kA); refine blk_put (cs := #[.int .i64 ((rd_T78 y123 x15_1).f0), .int .i64 ((rd_T78 y123 x15_1).f1), .bool false]) ?_ 2 _ rfl; (with_reducible repeat first | apply kN | apply kD | apply kA); refine blk_put (cs := #[.int .i64 ((rd_T78 y123 x15_1).f0), .int .i64 0, .bool false]) ?_ 1 _ rfl; (with_reducible repeat first | apply kN | apply kD | apply kA); refine blk_put (cs := #[.int .i64 0, .int .i64 0, .bool false]) ?_ 0 _ rfl; (with_reducible repeat first | apply kN | apply kD | apply kA); exact BK129.out⟩, ⟨by repeat (first | (with_reducible first | exact HB.out | apply bAl | apply bDN | apply bD1 | refine bSe ?_ GE122.out | refine bSe ?_ GE128.out | refine bSe ?_ GE129.out) | exact HB.out)⟩⟩
         ·replace c20 := Bool.eq_false_iff.mpr c20
          subst c20
          have H1 : (flat_lines.j1 k1 x3_1 x5_1 y123 (y123.length : Int) x15_1 (decide ((x5_1.length : Int) > 0)) x123000_1 x123001_1 x123002_1 ((rd_T78 y123 x15_1).f0) ((rd_T78 y123 x15_1).f1) false ((rd_T78 y123 x15_1).f0) ((rd_T78 y123 x15_1).f1) false) = some r := by rw [if_neg (show ¬ (false = true) by decide)] at H; exact H
          clear H
          have H := H1
          clear H1
          have H' := amk H
          clear H
          have hnb24 := NB128_122.out
          have hnc24 := NB122_128.out
          have hnb25 := NB128_129.out
          have hnc25 := NB129_128.out
          have hcz26_0 : w15.cell? ⟨gb128, 0, none⟩ = some (.int .i64 ((rd_T78 y123 x15_1).f0)) := (blk_cell BK128.out 0).trans rfl
          have hcz26_1 : w15.cell? ⟨gb128, 1, none⟩ = some (.int .i64 ((rd_T78 y123 x15_1).f1)) := (blk_cell BK128.out 1).trans rfl
          have hcz26_2 : w15.cell? ⟨gb128, 2, none⟩ = some (.bool false) := (blk_cell BK128.out 2).trans rfl
          have hfz26_0 := blk_frozen BK128.out 0
          have hfz26_1 := blk_frozen BK128.out 1
          have hfz26_2 := blk_frozen BK128.out 2
          obtain ⟨Ao27, co27, eo27⟩ := Kd.R_slice HO_5.out
          subst eo27
          go_wp2
          go_meet
          case rel => (try simp only [← Nbq19.out]); exact ⟨_, (decide ((x5_1.length : Int) > 0)), (by first | rfl | (simp; done) | (simp [*]; done)), H', ⟨by have := HK1.out; first | omega | exact Nat.le_refl _⟩, ⟨by (with_reducible repeat (first | apply Kd.R_alloc | apply Kd.R_drewN | apply Kd.R_drew)); exact Kd.R_mono (Kd.R_far (p := ⟨gb129, 2, none⟩) (Kd.R_far (p := ⟨gb129, 1, none⟩) (Kd.R_far (p := ⟨gb129, 0, none⟩) (Kd.R_types HO_3.out BK129.out (by decide)) (fun _ hk => hk.2) (.int .i64 ((rd_T78 y123 x15_1).f0))) (fun _ hk => hk.2) (.int .i64 ((rd_T78 y123 x15_1).f1))) (fun _ hk => hk.2) (.bool (false))) (fun _ hk => trivial)⟩, ⟨by (with_reducible repeat (first | apply Kd.R_alloc | apply Kd.R_drewN | apply Kd.R_drew)); exact Kd.R_mono (Kd.R_far (p := ⟨gb129, 2, none⟩) (Kd.R_far (p := ⟨gb129, 1, none⟩) (Kd.R_far (p := ⟨gb129, 0, none⟩) (Kd.R_mono HO_5.out (fun k_ hk => (⟨hk, hk.2⟩ : _ ∧ k_ ≠ gb129))) (fun _ hk => hk.2) (.int .i64 ((rd_T78 y123 x15_1).f0))) (fun _ hk => hk.2) (.int .i64 ((rd_T78 y123 x15_1).f1))) (fun _ hk => hk.2) (.bool (false))) (fun _ hk => ⟨hk.1.1.1, ⟨hk.1.1.2, hk.1.2⟩⟩)⟩, ⟨by (with_reducible repeat first | apply kN | apply kD | apply kA); refine blk_far ?_ NB122_129.out _; (with_reducible repeat first | apply kN | apply kD | apply kA); refine blk_far ?_ NB122_129.out _; (with_reducible repeat first | apply kN | apply kD | apply kA); refine blk_far ?_ NB122_129.out _; (with_reducible repeat first | apply kN | apply kD | apply kA); exact BK122.out⟩, ⟨by (with_reducible repeat first | apply kN | apply kD | apply kA); refine blk_far ?_ NB128_129.out _; (with_reducible repeat first | apply kN | apply kD | apply kA); refine blk_far ?_ NB128_129.out _; (with_reducible repeat first | apply kN | apply kD | apply kA); refine blk_far ?_ NB128_129.out _; (with_reducible repeat first | apply kN | apply kD | apply kA); exact BK128.out⟩, ⟨by (with_reducible repeat first | apply kN | apply kD | apply kA); refine blk_put (cs := #[.int .i64 ((rd_T78 y123 x15_1).f0), .int .i64 ((rd_T78 y123 x15_1).f1), .bool false]) ?_ 2 _ rfl; (with_reducible repeat first | apply kN | apply kD | apply kA); refine blk_put (cs := #[.int .i64 ((rd_T78 y123 x15_1).f0), .int .i64 0, .bool false]) ?_ 1 _ rfl; (with_reducible repeat first | apply kN | apply kD | apply kA); refine blk_put (cs := #[.int .i64 0, .int .i64 0, .bool false]) ?_ 0 _ rfl; (with_reducible repeat first | apply kN | apply kD | apply kA); exact BK129.out⟩, ⟨by repeat (first | (with_reducible first | exact HB.out | apply bAl | apply bDN | apply bD1 | refine bSe ?_ GE122.out | refine bSe ?_ GE128.out | refine bSe ?_ GE129.out) | exact HB.out)⟩⟩
        case rest =>
         clear HC11
         try clear c1
         try clear p1
         try clear q1
         try clear hx1
         try clear qi1
         try clear c2
         try clear c2b0
         try clear c2b1
         try clear p2
         try clear c3
         try clear c3b0
         try clear c3b1
         try clear c7
         try clear q7
         try clear c8
         try clear c8b0
         try clear c9
         try clear c9b0
         try clear c10
         try clear c10b0
         try clear p12
         try clear q12
         try clear hx12
         try clear qi12
         try clear c13
         try clear c16
         try clear c17
         try clear q19
         try clear c20
         try clear c21
         try clear c22
         try clear c24
         try clear c25
         try clear hcz14_0
         try clear hcz14_1
         try clear hcz14_2
         try clear hcz18_0
         try clear hcz18_1
         try clear hcz18_2
         try clear hcz23_0
         try clear hcz23_1
         try clear hcz23_2
         try clear hcz26_0
         try clear hcz26_1
         try clear hcz26_2
         try clear hcz5_0
         try clear hcz5_1
         try clear hcz5_2
         try clear hfz14_0
         try clear hfz14_1
         try clear hfz14_2
         try clear hfz18_0
         try clear hfz18_1
         try clear hfz18_2
         try clear hfz23_0
         try clear hfz23_1
         try clear hfz23_2
         try clear hfz26_0
         try clear hfz26_1
         try clear hfz26_2
         try clear hfz5_0
         try clear hfz5_1
         try clear hfz5_2
         try clear hx121_0
         try clear hx121_1
         try clear hx121_2
         try clear hx127_0
         try clear hx127_1
         try clear hx127_2
         try clear p1
         try clear p121
         try clear p127
         try clear p2
         try clear q1
         try clear q121
         try clear q127
         try clear q7
         obtain ⟨kq, x27_10, rfl, HA, HJ10, HO_3, HO_5, BK122, BK128, BK129, HB⟩ := hcut
         cases kq with
         | zero => exact absurd HA.out (by simp [flat_lines.j1])
         | succ kj10 =>
          have H := HA.out
          clear HA
          simp only [flat_lines.j1] at H
          have HC28 := amk H
          clear H
          go_upto_if 27 with (fail)
          go_cut [] (fun wc => ∃ (kq : Nat) (x130000_27 : Int) (x130001_27 : Int) (x130002_27 : Bool), Aside0 (flat_lines.j2 kq x3_1 x5_1 y123 (y123.length : Int) x15_1 x123000_1 x123001_1 x123002_1 ((rd_T78 y123 x15_1).f0) ((rd_T78 y123 x15_1).f1) ((rd_T78 y123 x15_1).f2) x130000_27 x130001_27 x130002_27 = some r) ∧ Aside0 (kq ≤ kj10) ∧ Aside0 (Kd.R k34 34 wc w.heap.size (fun _ => True) u3 x3_1) ∧ Aside0 (Kd.R k78 78 wc w.heap.size (fun k_ => k_ ≠ gb122 ∧ k_ ≠ gb128 ∧ k_ ≠ gb129) u5 x5_1) ∧ Aside0 (wc.heap[gb122]? = some (.cells #[.int .i64 x123000_1, .int .i64 x123001_1, .bool x123002_1] 78 (0, 0))) ∧ Aside0 (wc.heap[gb128]? = some (.cells #[.int .i64 ((rd_T78 y123 x15_1).f0), .int .i64 ((rd_T78 y123 x15_1).f1), .bool ((rd_T78 y123 x15_1).f2)] 78 (0, 0))) ∧ Aside0 (wc.heap[gb129]? = some (.cells #[.int .i64 x130000_27, .int .i64 x130001_27, .bool x130002_27] 78 (0, 0))) ∧ Aside0 (Below w.heap.size w wc))
          case first =>
           have H := HC28.out
           clear HC28
           by_cases c29 : x27_10 = true
           ·subst c29
            have H1 : (if 0 < (x5_1.length : Int) then ((flat_between.f ((rd_T78 x5_1 0).f0) ((rd_T78 x5_1 0).f1) ((rd_T78 x5_1 0).f2) ((rd_T78 y123 x15_1).f0) ((rd_T78 y123 x15_1).f1) ((rd_T78 y123 x15_1).f2)).bind fun bt131 => (flat_lines.j2 kj10 x3_1 x5_1 y123 (y123.length : Int) x15_1 x123000_1 x123001_1 x123002_1 ((rd_T78 y123 x15_1).f0) ((rd_T78 y123 x15_1).f1) ((rd_T78 y123 x15_1).f2) bt131.1 bt131.2.1 bt131.2.2)) else (none)) = some r := by rw [if_pos rfl] at H; exact H
            clear H
            have H := H1
            clear H1
            by_cases c30 : 0 < (x5_1.length : Int)
            ·rw [if_pos c30] at H
             have c30b0 : decide (0 < (x5_1.length : Int)) = true := decide_eq_true c30
             have c30b1 : decide (0 < x5_1.length) = true := decide_eq_true (by omega)
             clear c30
             (first | rw [c30b0] | (simp only [i64_w, i32_w]; rw [c30b0]) | skip)
             replace H := Option.bind_eq_some_iff.mp H
             obtain ⟨⟨t131, t132, t133⟩, A310, H⟩ := H
             replace H : (flat_lines.j2 kj10 x3_1 x5_1 y123 (y123.length : Int) x15_1 x123000_1 x123001_1 x123002_1 ((rd_T78 y123 x15_1).f0) ((rd_T78 y123 x15_1).f1) ((rd_T78 y123 x15_1).f2) t131 t132 t133) = some r := H
             have A31 := amk A310
             clear A310
             have H' := amk H
             clear H
             try go_wp2
             have n0_ := amk (Kd.R_drew HO_3.out)
             have n1_ := amk (Kd.R_drew HO_5.out)
             have n2_ := amk (blk_drew BK122.out)
             have n3_ := amk (blk_drew BK128.out)
             have n4_ := amk (blk_drew BK129.out)
             have n5_ := amk (bD1 HB.out)
             clear HO_3
             clear HO_5
             clear BK122
             clear BK128
             clear BK129
             clear HB
             have HO_3 := n0_
             have HO_5 := n1_
             have BK122 := n2_
             have BK128 := n3_
             have BK129 := n4_
             have HB := n5_
             clear n0_ n1_ n2_ n3_ n4_ n5_
             obtain ⟨Ao33, co33, eo33⟩ := Kd.R_slice HO_5.out
             (first | subst eo33 | (injection eo33 with f1_ f2_ f3_; have f4_ := f1_.symm; have f5_ := f3_.symm; clear f1_ f2_ f3_; subst f4_; subst f5_))
             have p130 : 0 ≤ (0 : Int) := (by omega)
             have q130 : 0 < (x5_1.length : Int) := of_decide_eq_true (by first | (with_reducible assumption) | assumption)
             obtain ⟨ad130, e130, hx130_0, hx130_1, hx130_2⟩ := at_T78 (Kd.R_reads' HO_5.out).2.2 0 p130 q130
             cases e130
             have qi130 : (0 < x5_1.length) = True := eq_true (by omega)
             (try rw [show ((0 : Int)).toNat = 0 from rfl] at hx130_0)
             (try rw [show 0 * 3 = 0 from rfl] at hx130_0)
             (try rw [Addr.add_zero'] at hx130_0)
             (try rw [show ((0 : Int)).toNat = 0 from rfl] at hx130_1)
             (try rw [show 0 * 3 = 0 from rfl] at hx130_1)
             (try rw [Addr.add_zero'] at hx130_1)
             (try rw [show ((0 : Int)).toNat = 0 from rfl] at hx130_2)
             (try rw [show 0 * 3 = 0 from rfl] at hx130_2)
             (try rw [Addr.add_zero'] at hx130_2)
             replace p130 := eq_true p130
             replace q130 := eq_true q130
             refine start_ (n := 6) (S := fun w' => w'.cell? ⟨gb128, 0, none⟩ = some (.int .i64 ((rd_T78 y123 x15_1).f0)) ∧ w'.cell? ⟨gb128, 1, none⟩ = some (.int .i64 ((rd_T78 y123 x15_1).f1)) ∧ w'.cell? ⟨gb128, 2, none⟩ = some (.bool ((rd_T78 y123 x15_1).f2)) ∧ w'.cell? ad130 = some (.int .i64 ((rd_T78 x5_1 0).f0)) ∧ w'.cell? ⟨ad130.block, ad130.off + 1, none⟩ = some (.int .i64 ((rd_T78 x5_1 0).f1)) ∧ w'.cell? ⟨ad130.block, ad130.off + 2, none⟩ = some (.bool ((rd_T78 x5_1 0).f2))) (ds := []) #[false, false, false, false, false, false] (by kernel_rfl) rfl rfl ⟨(blk_cell BK128.out 0).trans rfl, (blk_cell BK128.out 1).trans rfl, (blk_cell BK128.out 2).trans rfl, hx130_0, hx130_1, hx130_2⟩ (fun hHeld => ?_)
             generalize wc.drew = w32 at HO_3 HO_5 BK122 BK128 BK129 HB hx130_0 hx130_1 hx130_2 hHeld ⊢
             refine pure_ (i := 0) (N := some 28) (v := ?_) (a' := ?_) #[true, false, false, false, false, false] rfl rfl (by kernel_rfl) (fun _ _ _ h => h) (Or.inl ⟨by rfl, ?_⟩) ?_ ?_
             rotate_left
             ·intro w'
              go_simp
              with_reducible rfl
             rotate_left
             ·simp only [Act.put, sTA, sCZ, sCS, i64_w, i32_w]
              rfl
             refine pure_ (i := 1) (N := some 29) (v := ?_) (a' := ?_) #[true, true, false, false, false, false] rfl rfl (by kernel_rfl) (fun _ _ _ h => h) (Or.inl ⟨by rfl, ?_⟩) ?_ ?_
             rotate_left
             ·intro w'
              go_simp
              with_reducible rfl
             rotate_left
             ·simp only [Act.put, sTA, sCZ, sCS, i64_w, i32_w]
              rfl
             refine take_ (i := 2) (N := some 30) (v := ?_) (a' := ?_) #[true, true, true, false, false, false] rfl rfl (by kernel_rfl) (fun _ _ _ h => h) (Or.inl ⟨by rfl, ?_⟩) hHeld ?_ ?_
             rotate_left
             ·rintro w' ⟨s0, s1, s2, s3, s4, s5⟩
              go_simp
              with_reducible rfl
             rotate_left
             ·simp only [Act.put, sTA, sCZ, sCS, i64_w, i32_w]
              rfl
             refine take_ (i := 3) (N := some 31) (v := ?_) (a' := ?_) #[true, true, true, true, false, false] rfl rfl (by kernel_rfl) (fun _ _ _ h => h) (Or.inl ⟨by rfl, ?_⟩) hHeld ?_ ?_
             rotate_left
             ·rintro w' ⟨s0, s1, s2, s3, s4, s5⟩
              go_simp
              with_reducible rfl
             rotate_left
             ·simp only [Act.put, sTA, sCZ, sCS, i64_w, i32_w]
              rfl
             refine one_ (i := 4) (N := some 32) #[true, true, true, true, true, false] rfl rfl (by kernel_rfl) (by decide) (fun K hK => ?_)
             refine goes_ Try.func47 (by kernel_rfl) rfl #[.agg #[.int .i64 ((rd_T78 x5_1 0).f0), .int .i64 ((rd_T78 x5_1 0).f1), .bool ((rd_T78 x5_1 0).f2)], .agg #[.int .i64 ((rd_T78 y123 x15_1).f0), .int .i64 ((rd_T78 y123 x15_1).f1), .bool ((rd_T78 y123 x15_1).f2)]] (by rfl) rfl rfl (by (try simp only [List.map_toArray, List.map_cons, List.map_nil]); first | done | rfl | (simp only [List.length_drop, List.length_take]; rfl)) ?_
             with_reducible refine (flat_between.calls ((rd_T78 x5_1 0).f0) ((rd_T78 x5_1 0).f1) ((rd_T78 x5_1 0).f2) ((rd_T78 y123 x15_1).f0) ((rd_T78 y123 x15_1).f1) ((rd_T78 y123 x15_1).f2) t131 t132 t133 _ A31.out).mono ?_
             rintro e w34 ⟨rfl, hb⟩
             have HS3_ := (hb.cell (cLt _ _ (hHeld.2.2.2.1))).trans (hHeld.2.2.2.1)
             have HS4_ := (hb.cell (cLt _ _ (hHeld.2.2.2.2.1))).trans (hHeld.2.2.2.2.1)
             have HS5_ := (hb.cell (cLt _ _ (hHeld.2.2.2.2.2))).trans (hHeld.2.2.2.2.2)
             refine ⟨_, rfl, ?_⟩
             have n0_ := amk (Kd.R_below (by (with_reducible repeat (first | apply Kd.R_alloc | apply Kd.R_drewN | apply Kd.R_drew)); exact HO_3.out) hb)
             have n1_ := amk (Kd.R_below (by (with_reducible repeat (first | apply Kd.R_alloc | apply Kd.R_drewN | apply Kd.R_drew)); exact HO_5.out) hb)
             have n2_ := amk (blk_below (g := gb122) (o := .cells #[.int .i64 x123000_1, .int .i64 x123001_1, .bool x123002_1] 78 (0, 0)) (by (with_reducible repeat first | apply kN | apply kD | apply kA); exact BK122.out) hb)
             have n3_ := amk (blk_below (g := gb128) (o := .cells #[.int .i64 ((rd_T78 y123 x15_1).f0), .int .i64 ((rd_T78 y123 x15_1).f1), .bool ((rd_T78 y123 x15_1).f2)] 78 (0, 0)) (by (with_reducible repeat first | apply kN | apply kD | apply kA); exact BK128.out) hb)
             have n4_ := amk (blk_below (g := gb129) (o := .cells #[.int .i64 ((rd_T78 y123 x15_1).f0), .int .i64 ((rd_T78 y123 x15_1).f1), .bool ((rd_T78 y123 x15_1).f2)] 78 (0, 0)) (by (with_reducible repeat first | apply kN | apply kD | apply kA); exact BK129.out) hb)
             have n5_ := amk (below_step (by repeat (first | (with_reducible first | exact HB.out | apply bAl | apply bDN | apply bD1 | refine bSe ?_ GE122.out | refine bSe ?_ GE128.out | refine bSe ?_ GE129.out) | exact HB.out)) hb)
             clear HO_3
             clear HO_5
             clear BK122
             clear BK128
             clear BK129
             clear HB
             have HO_3 := n0_
             have HO_5 := n1_
             have BK122 := n2_
             have BK128 := n3_
             have BK129 := n4_
             have HB := n5_
             clear n0_ n1_ n2_ n3_ n4_ n5_
             (try clear hb)
             (try clear hb2)
             (try clear hk)
             (try clear hi)
             refine hK.out _ _ ⟨(blk_cell BK128.out 0).trans rfl, (blk_cell BK128.out 1).trans rfl, (blk_cell BK128.out 2).trans rfl, HS3_, HS4_, HS5_⟩ (fun hHeld => ?_)
             clear hK K
             refine norm_ (a' := ?_) ?_ ?_
             rotate_left
             ·show Act.put _ (some 32) _ = _
              simp only [Act.put, sTA, sCZ, sCS, i64_w, i32_w]
              rfl
             refine one_ (i := 5) (N := none) #[true, true, true, true, true, true] rfl rfl (by kernel_rfl) (by decide) (fun K hK => ?_)
             have hs35 : w34.cell? ⟨gb129, 0, none⟩ = some (.int .i64 ((rd_T78 y123 x15_1).f0)) := (blk_cell BK129.out 0).trans rfl
             have hfs35 := blk_frozen BK129.out 0
             have hns35_0 := NB122_129.out
             have hns35_1 := NB128_129.out
             have hms35_0 := NB129_122.out
             have hms35_1 := NB129_128.out
             have hs36 : w34.cell? ⟨gb129, 1, none⟩ = some (.int .i64 ((rd_T78 y123 x15_1).f1)) := (blk_cell BK129.out 1).trans rfl
             have hfs36 := blk_frozen BK129.out 1
             have hns36_0 := NB122_129.out
             have hns36_1 := NB128_129.out
             have hms36_0 := NB129_122.out
             have hms36_1 := NB129_128.out
             have hs37 : w34.cell? ⟨gb129, 2, none⟩ = some (.bool ((rd_T78 y123 x15_1).f2)) := (blk_cell BK129.out 2).trans rfl
             have hfs37 := blk_frozen BK129.out 2
             have hns37_0 := NB122_129.out
             have hns37_1 := NB128_129.out
             have hms37_0 := NB129_122.out
             have hms37_1 := NB129_128.out
             refine skip_ (w1 := ?_) (by rfl) rfl ?_ ?_
             rotate_left
             ·go_simp
              rfl
             refine hK.out _ _ ⟨((cell_far (p := ⟨gb129, _, none⟩) NB128_129.out _).trans (((cell_far (p := ⟨gb129, _, none⟩) NB128_129.out _).trans (((cell_far (p := ⟨gb129, _, none⟩) NB128_129.out _).trans (hHeld.1)))))), ((cell_far (p := ⟨gb129, _, none⟩) NB128_129.out _).trans (((cell_far (p := ⟨gb129, _, none⟩) NB128_129.out _).trans (((cell_far (p := ⟨gb129, _, none⟩) NB128_129.out _).trans (hHeld.2.1)))))), ((cell_far (p := ⟨gb129, _, none⟩) NB128_129.out _).trans (((cell_far (p := ⟨gb129, _, none⟩) NB128_129.out _).trans (((cell_far (p := ⟨gb129, _, none⟩) NB128_129.out _).trans (hHeld.2.2.1)))))), ((cell_far (p := ⟨gb129, _, none⟩) (by first | exact Kd.own_blk (Kd.R_away HO_5.out (fun _ hk => hk.2.2)) | (rw [add_block]; exact Kd.own_blk (Kd.R_away HO_5.out (fun _ hk => hk.2.2))) | (show (Addr.add _ _).block ≠ _; rw [add_block]; exact Kd.own_blk (Kd.R_away HO_5.out (fun _ hk => hk.2.2))) | (dsimp only; exact Kd.own_blk (Kd.R_away HO_5.out (fun _ hk => hk.2.2)))) _).trans (((cell_far (p := ⟨gb129, _, none⟩) (by first | exact Kd.own_blk (Kd.R_away HO_5.out (fun _ hk => hk.2.2)) | (rw [add_block]; exact Kd.own_blk (Kd.R_away HO_5.out (fun _ hk => hk.2.2))) | (show (Addr.add _ _).block ≠ _; rw [add_block]; exact Kd.own_blk (Kd.R_away HO_5.out (fun _ hk => hk.2.2))) | (dsimp only; exact Kd.own_blk (Kd.R_away HO_5.out (fun _ hk => hk.2.2)))) _).trans (((cell_far (p := ⟨gb129, _, none⟩) (by first | exact Kd.own_blk (Kd.R_away HO_5.out (fun _ hk => hk.2.2)) | (rw [add_block]; exact Kd.own_blk (Kd.R_away HO_5.out (fun _ hk => hk.2.2))) | (show (Addr.add _ _).block ≠ _; rw [add_block]; exact Kd.own_blk (Kd.R_away HO_5.out (fun _ hk => hk.2.2))) | (dsimp only; exact Kd.own_blk (Kd.R_away HO_5.out (fun _ hk => hk.2.2)))) _).trans (hHeld.2.2.2.1)))))), ((cell_far (p := ⟨gb129, _, none⟩) (by first | exact Kd.own_blk (Kd.R_away HO_5.out (fun _ hk => hk.2.2)) | (rw [add_block]; exact Kd.own_blk (Kd.R_away HO_5.out (fun _ hk => hk.2.2))) | (show (Addr.add _ _).block ≠ _; rw [add_block]; exact Kd.own_blk (Kd.R_away HO_5.out (fun _ hk => hk.2.2))) | (dsimp only; exact Kd.own_blk (Kd.R_away HO_5.out (fun _ hk => hk.2.2)))) _).trans (((cell_far (p := ⟨gb129, _, none⟩) (by first | exact Kd.own_blk (Kd.R_away HO_5.out (fun _ hk => hk.2.2)) | (rw [add_block]; exact Kd.own_blk (Kd.R_away HO_5.out (fun _ hk => hk.2.2))) | (show (Addr.add _ _).block ≠ _; rw [add_block]; exact Kd.own_blk (Kd.R_away HO_5.out (fun _ hk => hk.2.2))) | (dsimp only; exact Kd.own_blk (Kd.R_away HO_5.out (fun _ hk => hk.2.2)))) _).trans (((cell_far (p := ⟨gb129, _, none⟩) (by first | exact Kd.own_blk (Kd.R_away HO_5.out (fun _ hk => hk.2.2)) | (rw [add_block]; exact Kd.own_blk (Kd.R_away HO_5.out (fun _ hk => hk.2.2))) | (show (Addr.add _ _).block ≠ _; rw [add_block]; exact Kd.own_blk (Kd.R_away HO_5.out (fun _ hk => hk.2.2))) | (dsimp only; exact Kd.own_blk (Kd.R_away HO_5.out (fun _ hk => hk.2.2)))) _).trans (hHeld.2.2.2.2.1)))))), ((cell_far (p := ⟨gb129, _, none⟩) (by first | exact Kd.own_blk (Kd.R_away HO_5.out (fun _ hk => hk.2.2)) | (rw [add_block]; exact Kd.own_blk (Kd.R_away HO_5.out (fun _ hk => hk.2.2))) | (show (Addr.add _ _).block ≠ _; rw [add_block]; exact Kd.own_blk (Kd.R_away HO_5.out (fun _ hk => hk.2.2))) | (dsimp only; exact Kd.own_blk (Kd.R_away HO_5.out (fun _ hk => hk.2.2)))) _).trans (((cell_far (p := ⟨gb129, _, none⟩) (by first | exact Kd.own_blk (Kd.R_away HO_5.out (fun _ hk => hk.2.2)) | (rw [add_block]; exact Kd.own_blk (Kd.R_away HO_5.out (fun _ hk => hk.2.2))) | (show (Addr.add _ _).block ≠ _; rw [add_block]; exact Kd.own_blk (Kd.R_away HO_5.out (fun _ hk => hk.2.2))) | (dsimp only; exact Kd.own_blk (Kd.R_away HO_5.out (fun _ hk => hk.2.2)))) _).trans (((cell_far (p := ⟨gb129, _, none⟩) (by first | exact Kd.own_blk (Kd.R_away HO_5.out (fun _ hk => hk.2.2)) | (rw [add_block]; exact Kd.own_blk (Kd.R_away HO_5.out (fun _ hk => hk.2.2))) | (show (Addr.add _ _).block ≠ _; rw [add_block]; exact Kd.own_blk (Kd.R_away HO_5.out (fun _ hk => hk.2.2))) | (dsimp only; exact Kd.own_blk (Kd.R_away HO_5.out (fun _ hk => hk.2.2)))) _).trans (hHeld.2.2.2.2.2))))))⟩ (fun hHeld => ?_)
             clear hK K
             refine done_ (by kernel_rfl) ?_
             try go_wp2
             go_meet
             case rel => exact ⟨_, (t131), (t132), (t133), H', ⟨by have := HK1.out; have := HJ10.out; first | omega | exact Nat.le_refl _⟩, ⟨by (with_reducible repeat (first | apply Kd.R_alloc | apply Kd.R_drewN | apply Kd.R_drew)); exact Kd.R_mono (Kd.R_far (p := ⟨gb129, 2, none⟩) (Kd.R_far (p := ⟨gb129, 1, none⟩) (Kd.R_far (p := ⟨gb129, 0, none⟩) (Kd.R_types HO_3.out BK129.out (by decide)) (fun _ hk => hk.2) (.int .i64 t131)) (fun _ hk => hk.2) (.int .i64 t132)) (fun _ hk => hk.2) (.bool t133)) (fun _ hk => trivial)⟩, ⟨by (with_reducible repeat (first | apply Kd.R_alloc | apply Kd.R_drewN | apply Kd.R_drew)); exact Kd.R_mono (Kd.R_far (p := ⟨gb129, 2, none⟩) (Kd.R_far (p := ⟨gb129, 1, none⟩) (Kd.R_far (p := ⟨gb129, 0, none⟩) (Kd.R_mono HO_5.out (fun k_ hk => (⟨hk, hk.2.2⟩ : _ ∧ k_ ≠ gb129))) (fun _ hk => hk.2) (.int .i64 t131)) (fun _ hk => hk.2) (.int .i64 t132)) (fun _ hk => hk.2) (.bool t133)) (fun _ hk => ⟨hk.1.1, ⟨hk.1.2.1, hk.1.2.2⟩⟩)⟩, ⟨by (with_reducible repeat first | apply kN | apply kD | apply kA); refine blk_far ?_ NB122_129.out _; (with_reducible repeat first | apply kN | apply kD | apply kA); refine blk_far ?_ NB122_129.out _; (with_reducible repeat first | apply kN | apply kD | apply kA); refine blk_far ?_ NB122_129.out _; (with_reducible repeat first | apply kN | apply kD | apply kA); exact BK122.out⟩, ⟨by (with_reducible repeat first | apply kN | apply kD | apply kA); refine blk_far ?_ NB128_129.out _; (with_reducible repeat first | apply kN | apply kD | apply kA); refine blk_far ?_ NB128_129.out _; (with_reducible repeat first | apply kN | apply kD | apply kA); refine blk_far ?_ NB128_129.out _; (with_reducible repeat first | apply kN | apply kD | apply kA); exact BK128.out⟩, ⟨by (with_reducible repeat first | apply kN | apply kD | apply kA); refine blk_put (cs := #[.int .i64 t131, .int .i64 t132, .bool ((rd_T78 y123 x15_1).f2)]) ?_ 2 _ rfl; (with_reducible repeat first | apply kN | apply kD | apply kA); refine blk_put (cs := #[.int .i64 t131, .int .i64 ((rd_T78 y123 x15_1).f1), .bool ((rd_T78 y123 x15_1).f2)]) ?_ 1 _ rfl; (with_reducible repeat first | apply kN | apply kD | apply kA); refine blk_put (cs := #[.int .i64 ((rd_T78 y123 x15_1).f0), .int .i64 ((rd_T78 y123 x15_1).f1), .bool ((rd_T78 y123 x15_1).f2)]) ?_ 0 _ rfl; (with_reducible repeat first | apply kN | apply kD | apply kA); exact BK129.out⟩, ⟨by repeat (first | (with_reducible first | exact HB.out | apply bAl | apply bDN | apply bD1 | refine bSe ?_ GE122.out | refine bSe ?_ GE128.out | refine bSe ?_ GE129.out) | exact HB.out)⟩⟩
            ·rw [if_neg c30] at H
             exact absurd H (by simp)
           ·replace c29 := Bool.eq_false_iff.mpr c29
            subst c29
            have H1 : (flat_lines.j2 kj10 x3_1 x5_1 y123 (y123.length : Int) x15_1 x123000_1 x123001_1 x123002_1 ((rd_T78 y123 x15_1).f0) ((rd_T78 y123 x15_1).f1) ((rd_T78 y123 x15_1).f2) ((rd_T78 y123 x15_1).f0) ((rd_T78 y123 x15_1).f1) ((rd_T78 y123 x15_1).f2)) = some r := by rw [if_neg (show ¬ (false = true) by decide)] at H; exact H
            clear H
            have H := H1
            clear H1
            have H' := amk H
            clear H
            go_wp2
            go_meet
            case rel => exact ⟨_, (((rd_T78 y123 x15_1).f0)), (((rd_T78 y123 x15_1).f1)), (((rd_T78 y123 x15_1).f2)), H', ⟨by have := HK1.out; have := HJ10.out; first | omega | exact Nat.le_refl _⟩, ⟨by (with_reducible repeat (first | apply Kd.R_alloc | apply Kd.R_drewN | apply Kd.R_drew)); exact HO_3.out⟩, ⟨by (with_reducible repeat (first | apply Kd.R_alloc | apply Kd.R_drewN | apply Kd.R_drew)); exact HO_5.out⟩, ⟨by (with_reducible repeat first | apply kN | apply kD | apply kA); exact BK122.out⟩, ⟨by (with_reducible repeat first | apply kN | apply kD | apply kA); exact BK128.out⟩, ⟨by (with_reducible repeat first | apply kN | apply kD | apply kA); exact BK129.out⟩, ⟨by repeat (first | (with_reducible first | exact HB.out | apply bAl | apply bDN | apply bD1 | refine bSe ?_ GE122.out | refine bSe ?_ GE128.out | refine bSe ?_ GE129.out) | exact HB.out)⟩⟩
          case rest =>
           clear HC28
           try clear c1
           try clear p1
           try clear q1
           try clear hx1
           try clear qi1
           try clear c2
           try clear c2b0
           try clear c2b1
           try clear p2
           try clear c3
           try clear c3b0
           try clear c3b1
           try clear c4
           try clear c7
           try clear q7
           try clear c8
           try clear c8b0
           try clear c9
           try clear c9b0
           try clear c10
           try clear c10b0
           try clear p12
           try clear q12
           try clear hx12
           try clear qi12
           try clear c13
           try clear p13
           try clear q13
           try clear hx13
           try clear qi13
           try clear c16
           try clear c17
           try clear q19
           try clear c20
           try clear c21
           try clear c22
           try clear c24
           try clear c25
           try clear c29
           try clear c30
           try clear c30b0
           try clear c30b1
           try clear hcz14_0
           try clear hcz14_1
           try clear hcz14_2
           try clear hcz18_0
           try clear hcz18_1
           try clear hcz18_2
           try clear hcz23_0
           try clear hcz23_1
           try clear hcz23_2
           try clear hcz26_0
           try clear hcz26_1
           try clear hcz26_2
           try clear hcz5_0
           try clear hcz5_1
           try clear hcz5_2
           try clear hfz14_0
           try clear hfz14_1
           try clear hfz14_2
           try clear hfz18_0
           try clear hfz18_1
           try clear hfz18_2
           try clear hfz23_0
           try clear hfz23_1
           try clear hfz23_2
           try clear hfz26_0
           try clear hfz26_1
           try clear hfz26_2
           try clear hfz5_0
           try clear hfz5_1
           try clear hfz5_2
           try clear hx121_0
           try clear hx121_1
           try clear hx121_2
           try clear hx127_0
           try clear hx127_1
           try clear hx127_2
           try clear hx130_0
           try clear hx130_1
           try clear hx130_2
           try clear p1
           try clear p12
           try clear p121
           try clear p127
           try clear p130
           try clear p2
           try clear q1
           try clear q12
           try clear q121
           try clear q127
           try clear q130
           try clear q19
           try clear q7
           obtain ⟨kq, x130000_27, x130001_27, x130002_27, HA, HJ27, HO_3, HO_5, BK122, BK128, BK129, HB⟩ := hcut
           cases kq with
           | zero => exact absurd HA.out (by simp [flat_lines.j2])
           | succ kj27 =>
            have H := HA.out
            clear HA
            simp only [flat_lines.j2] at H
            by_cases c38 : (x5_1.length : Int) > 0
            ·rw [if_pos c38] at H
             have c38b0 : decide (0 < (x5_1.length : Int)) = true := decide_eq_true c38
             have c38b1 : decide (0 < x5_1.length) = true := decide_eq_true (by omega)
             clear c38
             by_cases c39 : 0 < (x5_1.length : Int)
             ·rw [if_pos c39] at H
              have c39b0 : decide (0 < (x5_1.length : Int)) = true := decide_eq_true c39
              have c39b1 : decide (0 < x5_1.length) = true := decide_eq_true (by omega)
              clear c39
              replace H := Option.bind_eq_some_iff.mp H
              obtain ⟨t135, A400, H⟩ := H
              replace H : (if x3_1.length + t135.length < 4398046511104 then ((some (x3_1 ++ t135 : List (S34))).bind fun y138 => (if ((rd_T78 y123 x15_1).f2) = true then (flat_lines.l0 kj27 y138 ([] : List (S78)) y123 (y123.length : Int) (wrap64 (x15_1 + 1)) x130000_27 x130001_27 x130002_27) else (flat_lines.l0 kj27 y138 (([(⟨((rd_T78 y123 x15_1).f0), ((rd_T78 y123 x15_1).f1), ((rd_T78 y123 x15_1).f2)⟩ : S78)] : List (S78))) y123 (y123.length : Int) (wrap64 (x15_1 + 1)) x130000_27 x130001_27 x130002_27))) else (none)) = some r := H
              have A40 := amk A400
              clear A400
              by_cases c41 : x3_1.length + t135.length < 4398046511104
              ·rw [if_pos c41] at H
               have LMc41 := amk c41
               clear c41
               obtain ⟨y138, hy138⟩ : ∃ y_ : List (S34), y_ = (x3_1 ++ t135) := ⟨_, rfl⟩
               replace H : (if ((rd_T78 y123 x15_1).f2) = true then (flat_lines.l0 kj27 y138 ([] : List (S78)) y123 (y123.length : Int) (wrap64 (x15_1 + 1)) x130000_27 x130001_27 x130002_27) else (flat_lines.l0 kj27 y138 (([(⟨((rd_T78 y123 x15_1).f0), ((rd_T78 y123 x15_1).f1), ((rd_T78 y123 x15_1).f2)⟩ : S78)] : List (S78))) y123 (y123.length : Int) (wrap64 (x15_1 + 1)) x130000_27 x130001_27 x130002_27)) = some r := by first | (rw [hy138]; with_reducible exact H) | (have H2_ := (Option.bind_some _ _).symm.trans H; rw [hy138]; with_reducible exact H2_) | (have H2_ := (Option.bind_some _ _).symm.trans H; with_reducible exact H2_) | with_reducible exact H | (rw [hy138]; exact H) | exact H
               have Ny138 := amk hy138
               clear hy138
               obtain ⟨bq42, hbq42⟩ : ∃ b_ : Bool, b_ = ((rd_T78 y123 x15_1).f2) := ⟨_, rfl⟩
               replace H : (if (bq42) = true then (flat_lines.l0 kj27 y138 ([] : List (S78)) y123 (y123.length : Int) (wrap64 (x15_1 + 1)) x130000_27 x130001_27 x130002_27) else (flat_lines.l0 kj27 y138 (([(⟨((rd_T78 y123 x15_1).f0), ((rd_T78 y123 x15_1).f1), (bq42)⟩ : S78)] : List (S78))) y123 (y123.length : Int) (wrap64 (x15_1 + 1)) x130000_27 x130001_27 x130002_27)) = some r := by rw [← hbq42] at H; exact H
               have Nbq42 := amk hbq42
               clear hbq42
               (try rw [← Nbq42.out] at BK128)
               by_cases c43 : (bq42) = true
               ·subst c43
                have H1 : (flat_lines.l0 kj27 y138 ([] : List (S78)) y123 (y123.length : Int) (wrap64 (x15_1 + 1)) x130000_27 x130001_27 x130002_27) = some r := by rw [if_pos rfl] at H; exact H
                clear H
                have H := H1
                clear H1
                have H' := amk H
                clear H
                obtain ⟨Ao44, co44, eo44⟩ := Kd.R_slice HO_5.out
                subst eo44
                try go_wp2
                have n0_ := amk (Kd.R_drew HO_3.out)
                have n1_ := amk (Kd.R_drew HO_5.out)
                have n2_ := amk (blk_drew BK122.out)
                have n3_ := amk (blk_drew BK128.out)
                have n4_ := amk (blk_drew BK129.out)
                have n5_ := amk (bD1 HB.out)
                clear HO_3
                clear HO_5
                clear BK122
                clear BK128
                clear BK129
                clear HB
                have HO_3 := n0_
                have HO_5 := n1_
                have BK122 := n2_
                have BK128 := n3_
                have BK129 := n4_
                have HB := n5_
                clear n0_ n1_ n2_ n3_ n4_ n5_
                have p134 : 0 ≤ (0 : Int) := (by omega)
                have q134 : 0 < (x5_1.length : Int) := of_decide_eq_true (by first | (with_reducible assumption) | assumption)
                obtain ⟨ad134, e134, hx134_0, hx134_1, hx134_2⟩ := at_T78 (Kd.R_reads' HO_5.out).2.2 0 p134 q134
                (try rw [← Nbq42.out] at hx134_2)
                cases e134
                have qi134 : (0 < x5_1.length) = True := eq_true (by omega)
                (try rw [show ((0 : Int)).toNat = 0 from rfl] at hx134_0)
                (try rw [show 0 * 3 = 0 from rfl] at hx134_0)
                (try rw [Addr.add_zero'] at hx134_0)
                (try rw [show ((0 : Int)).toNat = 0 from rfl] at hx134_1)
                (try rw [show 0 * 3 = 0 from rfl] at hx134_1)
                (try rw [Addr.add_zero'] at hx134_1)
                (try rw [show ((0 : Int)).toNat = 0 from rfl] at hx134_2)
                (try rw [show 0 * 3 = 0 from rfl] at hx134_2)
                (try rw [Addr.add_zero'] at hx134_2)
                replace p134 := eq_true p134
                replace q134 := eq_true q134
                refine start_ (n := 11) (S := fun w' => w'.cell? ⟨gb122, 0, none⟩ = some (.int .i64 x123000_1) ∧ w'.cell? ⟨gb122, 1, none⟩ = some (.int .i64 x123001_1) ∧ w'.cell? ⟨gb122, 2, none⟩ = some (.bool x123002_1) ∧ w'.cell? ⟨gb129, 0, none⟩ = some (.int .i64 x130000_27) ∧ w'.cell? ⟨gb129, 1, none⟩ = some (.int .i64 x130001_27) ∧ w'.cell? ⟨gb129, 2, none⟩ = some (.bool x130002_27) ∧ w'.cell? ad134 = some (.int .i64 ((rd_T78 x5_1 0).f0)) ∧ w'.cell? ⟨ad134.block, ad134.off + 1, none⟩ = some (.int .i64 ((rd_T78 x5_1 0).f1)) ∧ w'.cell? ⟨ad134.block, ad134.off + 2, none⟩ = some (.bool ((rd_T78 x5_1 0).f2))) (ds := [10]) #[false, false, false, false, false, false, false, false, false, false, false] (by kernel_rfl) rfl rfl ⟨(blk_cell BK122.out 0).trans rfl, (blk_cell BK122.out 1).trans rfl, (blk_cell BK122.out 2).trans rfl, (blk_cell BK129.out 0).trans rfl, (blk_cell BK129.out 1).trans rfl, (blk_cell BK129.out 2).trans rfl, hx134_0, hx134_1, hx134_2⟩ (fun hHeld => ?_); refine with_tabW flat_lines.tab10 flat_lines.bits10 (fun HT_ HW_ => ?_)
                generalize wc.drew = w45 at HO_3 HO_5 BK122 BK128 BK129 HB hx134_0 hx134_1 hx134_2 hHeld ⊢
                refine pure_ (i := 0) (N := some 37) (v := ?_) (a' := ?_) #[true, false, false, false, false, false, false, false, false, false, false] rfl rfl (any_of HT_.out (by kernel_rfl)) (fun _ _ _ h => h) (Or.inl ⟨by rfl, ?_⟩) ?_ ?_
                rotate_left
                ·intro w'
                 go_simp
                 with_reducible rfl
                rotate_left
                ·simp only [Act.put, sTA, sCZ, sCS, i64_w, i32_w]
                 rfl
                refine pure_ (i := 2) (N := some 39) (v := ?_) (a' := ?_) #[true, false, true, false, false, false, false, false, false, false, false] rfl rfl (any_of HT_.out (by kernel_rfl)) (fun _ _ _ h => h) (Or.inl ⟨by rfl, ?_⟩) ?_ ?_
                rotate_left
                ·intro w'
                 go_simp
                 with_reducible rfl
                rotate_left
                ·simp only [Act.put, sTA, sCZ, sCS, i64_w, i32_w]
                 rfl
                refine pure_ (i := 3) (N := some 40) (v := ?_) (a' := ?_) #[true, false, true, true, false, false, false, false, false, false, false] rfl rfl (any_of HT_.out (by kernel_rfl)) (fun _ _ _ h => h) (Or.inl ⟨by rfl, ?_⟩) ?_ ?_
                rotate_left
                ·intro w'
                 go_simp
                 with_reducible rfl
                rotate_left
                ·simp only [Act.put, sTA, sCZ, sCS, i64_w, i32_w]
                 rfl
                refine take_ (i := 1) (N := some 38) (v := ?_) (a' := ?_) #[true, true, true, true, false, false, false, false, false, false, false] rfl rfl (take_ofW HT_.out HW_.out (by kernel_rfl)) (fun _ _ _ h => h) (Or.inl ⟨by rfl, ?_⟩) hHeld ?_ ?_
                rotate_left
                ·rintro w' ⟨s0, s1, s2, s3, s4, s5, s6, s7, s8⟩
                 go_simp
                 with_reducible rfl
                rotate_left
                ·simp only [Act.put, sTA, sCZ, sCS, i64_w, i32_w]
                 rfl
                refine take_ (i := 4) (N := some 41) (v := ?_) (a' := ?_) #[true, true, true, true, true, false, false, false, false, false, false] rfl rfl (take_ofW HT_.out HW_.out (by kernel_rfl)) (fun _ _ _ h => h) (Or.inl ⟨by rfl, ?_⟩) hHeld ?_ ?_
                rotate_left
                ·rintro w' ⟨s0, s1, s2, s3, s4, s5, s6, s7, s8⟩
                 go_simp
                 with_reducible rfl
                rotate_left
                ·simp only [Act.put, sTA, sCZ, sCS, i64_w, i32_w]
                 rfl
                refine take_ (i := 5) (N := some 42) (v := ?_) (a' := ?_) #[true, true, true, true, true, true, false, false, false, false, false] rfl rfl (take_ofW HT_.out HW_.out (by kernel_rfl)) (fun _ _ _ h => h) (Or.inl ⟨by rfl, ?_⟩) hHeld ?_ ?_
                rotate_left
                ·rintro w' ⟨s0, s1, s2, s3, s4, s5, s6, s7, s8⟩
                 go_simp
                 with_reducible rfl
                rotate_left
                ·simp only [Act.put, sTA, sCZ, sCS, i64_w, i32_w]
                 rfl
                refine take_ (i := 8) (N := some 45) (v := ?_) (a' := ?_) #[true, true, true, true, true, true, false, false, true, false, false] rfl rfl (take_ofW HT_.out HW_.out (by kernel_rfl)) (fun _ _ _ h => h) (Or.inl ⟨by rfl, ?_⟩) hHeld ?_ ?_
                rotate_left
                ·rintro w' ⟨s0, s1, s2, s3, s4, s5, s6, s7, s8⟩
                 go_simp
                 with_reducible rfl
                rotate_left
                ·simp only [Act.put, sTA, sCZ, sCS, i64_w, i32_w]
                 rfl
                refine one_ (i := 6) (N := some 43) #[true, true, true, true, true, true, true, false, true, false, false] rfl rfl (one_of HT_.out (by kernel_rfl)) (by decide) (fun K hK => ?_)
                refine goes_ Try.func37 (by kernel_rfl) rfl #[.agg #[.int .i64 x123000_1, .int .i64 x123001_1, .bool x123002_1], .agg #[.int .i64 ((rd_T78 x5_1 0).f0), .int .i64 ((rd_T78 x5_1 0).f1), .bool ((rd_T78 x5_1 0).f2)], .agg #[.int .i64 x130000_27, .int .i64 x130001_27, .bool x130002_27]] (by rfl) rfl rfl (by (try simp only [List.map_toArray, List.map_cons, List.map_nil]); first | done | rfl | (simp only [List.length_drop, List.length_take]; rfl)) ?_
                with_reducible refine (flat_curve.calls kj27 x123000_1 x123001_1 x123002_1 ((rd_T78 x5_1 0).f0) ((rd_T78 x5_1 0).f1) ((rd_T78 x5_1 0).f2) x130000_27 x130001_27 x130002_27 t135 _ A40.out).mono ?_
                rintro e w46 ⟨v136, rfl, ho0, hb⟩
                have HS6_ := (hb.cell (cLt _ _ (hHeld.2.2.2.2.2.2.1))).trans (hHeld.2.2.2.2.2.2.1)
                have HS7_ := (hb.cell (cLt _ _ (hHeld.2.2.2.2.2.2.2.1))).trans (hHeld.2.2.2.2.2.2.2.1)
                have HS8_ := (hb.cell (cLt _ _ (hHeld.2.2.2.2.2.2.2.2))).trans (hHeld.2.2.2.2.2.2.2.2)
                refine ⟨_, rfl, ?_⟩
                have n0_ := amk (Kd.R_elder' (by (with_reducible repeat (first | apply Kd.R_alloc | apply Kd.R_drewN | apply Kd.R_drew)); exact HO_3.out) (Kd.R_base ho0) hb)
                have n1_ := amk (Kd.R_below (by (with_reducible repeat (first | apply Kd.R_alloc | apply Kd.R_drewN | apply Kd.R_drew)); exact HO_5.out) hb)
                have n2_ := amk (Kd.R_lower (Kd.R_new' ho0 (Kd.R_lt (by (with_reducible repeat (first | apply Kd.R_alloc | apply Kd.R_drewN | apply Kd.R_drew)); exact HO_3.out))) (below_size (by repeat (first | (with_reducible first | exact HB.out | apply bAl | apply bDN | apply bD1 | refine bSe ?_ GE122.out | refine bSe ?_ GE128.out | refine bSe ?_ GE129.out) | exact HB.out))))
                have n3_ := amk (blk_below (g := gb122) (o := .cells #[.int .i64 x123000_1, .int .i64 x123001_1, .bool x123002_1] 78 (0, 0)) (by (with_reducible repeat first | apply kN | apply kD | apply kA); exact BK122.out) hb)
                have n4_ := amk (blk_below (g := gb128) (o := .cells #[.int .i64 ((rd_T78 y123 x15_1).f0), .int .i64 ((rd_T78 y123 x15_1).f1), .bool (true)] 78 (0, 0)) (by (with_reducible repeat first | apply kN | apply kD | apply kA); exact BK128.out) hb)
                have n5_ := amk (blk_below (g := gb129) (o := .cells #[.int .i64 x130000_27, .int .i64 x130001_27, .bool x130002_27] 78 (0, 0)) (by (with_reducible repeat first | apply kN | apply kD | apply kA); exact BK129.out) hb)
                have n6_ := amk (below_step (by repeat (first | (with_reducible first | exact HB.out | apply bAl | apply bDN | apply bD1 | refine bSe ?_ GE122.out | refine bSe ?_ GE128.out | refine bSe ?_ GE129.out) | exact HB.out)) hb)
                clear HO_3
                clear HO_5
                clear BK122
                clear BK128
                clear BK129
                clear HB
                have HO_3 := n0_
                have HO_5 := n1_
                have HO137 := n2_
                have BK122 := n3_
                have BK128 := n4_
                have BK129 := n5_
                have HB := n6_
                clear n0_ n1_ n2_ n3_ n4_ n5_ n6_
                (try clear hb)
                (try clear hb2)
                (try clear hk)
                (try clear hi)
                (try clear ho0)
                obtain ⟨Ao48, co48, eo48⟩ := Kd.R_slice HO137.out
                (first | subst eo48 | (injection eo48 with f1_ f2_ f3_; have f4_ := f1_.symm; have f5_ := f3_.symm; clear f1_ f2_ f3_; subst f4_; subst f5_))
                refine hK.out _ _ ⟨(blk_cell BK122.out 0).trans rfl, (blk_cell BK122.out 1).trans rfl, (blk_cell BK122.out 2).trans rfl, (blk_cell BK129.out 0).trans rfl, (blk_cell BK129.out 1).trans rfl, (blk_cell BK129.out 2).trans rfl, HS6_, HS7_, HS8_⟩ (fun hHeld => ?_)
                clear hK K
                refine norm_ (a' := ?_) ?_ ?_
                rotate_left
                ·show Act.put _ (some 43) _ = _
                 simp only [Act.put, sTA, sCZ, sCS, i64_w, i32_w]
                 rfl
                refine one_ (i := 7) (N := some 44) #[true, true, true, true, true, true, true, true, true, false, false] rfl rfl (one_of HT_.out (by kernel_rfl)) (by decide) (fun K hK => ?_)
                refine Kd.R_append_rows_step k34 (w0 := w) w.heap.size (by rfl) (.tmp 37) (.tmp 43) 31 34 (.agg #[(.int .i64 0), (.int .i64 0), (.int .i64 0), (.int .i64 0)]) 32 rfl Try.underlying31 info34 rfl (by decide) (by omega) u3 x3_1 t135 _ _ _ (fun k_ => some k_ ≠ (.slice Ao48 t135.length co48 : Value).ownBlock) (fun _ => False) rfl rfl ?aO ?aR (fun _ _ h => h) (fun _ h => h.elim) ?aF ?aB ?aS ?aL ?_
                (case aR => repeat (first | exact (Kd.R_reads' HO137.out).2.2 | (with_reducible refine Kd.C_alloc ?_ _) | (with_reducible refine Kd.C_drewN ?_ _) | (with_reducible refine Kd.C_drew ?_)))
                (case aB => exact (by repeat (first | (with_reducible first | exact HB.out | apply bAl | apply bDN | apply bD1 | refine bSe ?_ GE122.out | refine bSe ?_ GE128.out | refine bSe ?_ GE129.out) | exact HB.out)))
                (case aF => exact (fun k_ hk => Kd.fresh' (Kd.R_lt (by (with_reducible repeat (first | apply Kd.R_alloc | apply Kd.R_drewN | apply Kd.R_drew)); exact HO137.out)) k_ hk))
                (case aO => exact (by (with_reducible repeat (first | apply Kd.R_alloc | apply Kd.R_drewN | apply Kd.R_drew)); exact Kd.R_mono HO_3.out (fun _ hk => hk.2)))
                (case aS => exact (below_size (by repeat (first | (with_reducible first | exact HB.out | apply bAl | apply bDN | apply bD1 | refine bSe ?_ GE122.out | refine bSe ?_ GE128.out | refine bSe ?_ GE129.out) | exact HB.out))))
                (case aL => have := LMc41.out; omega)
                intro v139 w47 ho hb hg hat
                have HS6_ := cell_grown hg (hHeld.2.2.2.2.2.2.1) (by first | (rw [add_block]; exact (fun e_ => by obtain ⟨_, h1_⟩ := Kd.R_typed HO_5.out _ rfl; obtain ⟨_, h2_⟩ := Kd.R_typed HO_3.out _ e_.symm; rw [h1_] at h2_; simp at h2_)) | (show some (Addr.add _ _).block ≠ _; rw [add_block]; exact (fun e_ => by obtain ⟨_, h1_⟩ := Kd.R_typed HO_5.out _ rfl; obtain ⟨_, h2_⟩ := Kd.R_typed HO_3.out _ e_.symm; rw [h1_] at h2_; simp at h2_)) | exact (fun e_ => by obtain ⟨_, h1_⟩ := Kd.R_typed HO_5.out _ rfl; obtain ⟨_, h2_⟩ := Kd.R_typed HO_3.out _ e_.symm; rw [h1_] at h2_; simp at h2_))
                have HS7_ := cell_grown hg (hHeld.2.2.2.2.2.2.2.1) (by first | (rw [add_block]; exact (fun e_ => by obtain ⟨_, h1_⟩ := Kd.R_typed HO_5.out _ rfl; obtain ⟨_, h2_⟩ := Kd.R_typed HO_3.out _ e_.symm; rw [h1_] at h2_; simp at h2_)) | (show some (Addr.add _ _).block ≠ _; rw [add_block]; exact (fun e_ => by obtain ⟨_, h1_⟩ := Kd.R_typed HO_5.out _ rfl; obtain ⟨_, h2_⟩ := Kd.R_typed HO_3.out _ e_.symm; rw [h1_] at h2_; simp at h2_)) | exact (fun e_ => by obtain ⟨_, h1_⟩ := Kd.R_typed HO_5.out _ rfl; obtain ⟨_, h2_⟩ := Kd.R_typed HO_3.out _ e_.symm; rw [h1_] at h2_; simp at h2_))
                have HS8_ := cell_grown hg (hHeld.2.2.2.2.2.2.2.2) (by first | (rw [add_block]; exact (fun e_ => by obtain ⟨_, h1_⟩ := Kd.R_typed HO_5.out _ rfl; obtain ⟨_, h2_⟩ := Kd.R_typed HO_3.out _ e_.symm; rw [h1_] at h2_; simp at h2_)) | (show some (Addr.add _ _).block ≠ _; rw [add_block]; exact (fun e_ => by obtain ⟨_, h1_⟩ := Kd.R_typed HO_5.out _ rfl; obtain ⟨_, h2_⟩ := Kd.R_typed HO_3.out _ e_.symm; rw [h1_] at h2_; simp at h2_)) | exact (fun e_ => by obtain ⟨_, h1_⟩ := Kd.R_typed HO_5.out _ rfl; obtain ⟨_, h2_⟩ := Kd.R_typed HO_3.out _ e_.symm; rw [h1_] at h2_; simp at h2_))
                rw [← Ny138.out] at ho
                have n0_ := amk (Kd.R_over' (by (with_reducible repeat (first | apply Kd.R_alloc | apply Kd.R_drewN | apply Kd.R_drew)); exact HO_5.out) (Kd.R_typed (by (with_reducible repeat (first | apply Kd.R_alloc | apply Kd.R_drewN | apply Kd.R_drew)); exact HO_3.out)) (by decide) hg)
                have n1_ := amk (blk_grown (g := gb122) (o := .cells #[.int .i64 x123000_1, .int .i64 x123001_1, .bool x123002_1] 78 (0, 0)) (by (with_reducible repeat first | apply kN | apply kD | apply kA); exact BK122.out) hg (Kd.R_ne HO_3.out BK122.out (by decide)))
                have n2_ := amk (blk_grown (g := gb128) (o := .cells #[.int .i64 ((rd_T78 y123 x15_1).f0), .int .i64 ((rd_T78 y123 x15_1).f1), .bool (true)] 78 (0, 0)) (by (with_reducible repeat first | apply kN | apply kD | apply kA); exact BK128.out) hg (Kd.R_ne HO_3.out BK128.out (by decide)))
                have n3_ := amk (blk_grown (g := gb129) (o := .cells #[.int .i64 x130000_27, .int .i64 x130001_27, .bool x130002_27] 78 (0, 0)) (by (with_reducible repeat first | apply kN | apply kD | apply kA); exact BK129.out) hg (Kd.R_ne HO_3.out BK129.out (by decide)))
                have n4_ := amk (Kd.R_after (ok := (fun _ => True)) (by (with_reducible repeat (first | apply Kd.R_alloc | apply Kd.R_drewN | apply Kd.R_drew)); exact HO137.out) hg hat)
                have n5_ := amk (hb)
                have n6_ := amk (ho)
                clear HO_5
                clear BK122
                clear BK128
                clear BK129
                clear HO137
                clear HB
                clear HO_3
                have HO_5 := n0_
                have BK122 := n1_
                have BK128 := n2_
                have BK129 := n3_
                have HO137 := n4_
                have HB := n5_
                have HO140 := n6_
                clear n0_ n1_ n2_ n3_ n4_ n5_ n6_
                clear ho hb hg hat
                refine hK.out _ _ ⟨(blk_cell BK122.out 0).trans rfl, (blk_cell BK122.out 1).trans rfl, (blk_cell BK122.out 2).trans rfl, (blk_cell BK129.out 0).trans rfl, (blk_cell BK129.out 1).trans rfl, (blk_cell BK129.out 2).trans rfl, HS6_, HS7_, HS8_⟩ (fun hHeld => ?_)
                clear hK K
                refine norm_ (a' := ?_) ?_ ?_
                rotate_left
                ·show Act.put _ (some 44) _ = _
                 simp only [Act.put, sTA, sCZ, sCS, i64_w, i32_w]
                 rfl
                refine pure_ (i := 9) (N := some 3) (v := ?_) (a' := ?_) #[true, true, true, true, true, true, true, true, true, true, false] rfl rfl (any_of HT_.out (by kernel_rfl)) (fun _ _ _ h => h) (Or.inl ⟨by rfl, ?_⟩) ?_ ?_
                rotate_left
                ·intro w'
                 go_simp
                 with_reducible rfl
                rotate_left
                ·simp only [Act.put, sTA, sCZ, sCS, i64_w, i32_w]
                 rfl
                refine last_ (i := 10) (N := none) #[true, true, true, true, true, true, true, true, true, true, true] rfl rfl (one_of HT_.out (by kernel_rfl)) (by decide) (fun K hK => ?_)
                have hs49 : w47.cell? ⟨gb122, 0, none⟩ = some (.int .i64 x123000_1) := (blk_cell BK122.out 0).trans rfl
                have hfs49 := blk_frozen BK122.out 0
                have hns49_1 := NB128_122.out
                have hns49_2 := NB129_122.out
                have hms49_1 := NB122_128.out
                have hms49_2 := NB122_129.out
                have hs50 : w47.cell? ⟨gb122, 1, none⟩ = some (.int .i64 x123001_1) := (blk_cell BK122.out 1).trans rfl
                have hfs50 := blk_frozen BK122.out 1
                have hns50_1 := NB128_122.out
                have hns50_2 := NB129_122.out
                have hms50_1 := NB122_128.out
                have hms50_2 := NB122_129.out
                have hs51 : w47.cell? ⟨gb122, 2, none⟩ = some (.bool x123002_1) := (blk_cell BK122.out 2).trans rfl
                have hfs51 := blk_frozen BK122.out 2
                have hns51_1 := NB128_122.out
                have hns51_2 := NB129_122.out
                have hms51_1 := NB122_128.out
                have hms51_2 := NB122_129.out
                refine skip_ (w1 := ?_) (by rfl) rfl ?_ ?_
                rotate_left
                ·go_simp
                 rfl
                refine hK.out _ _ ?_
                clear hK K
                refine done_ (done_of HT_.out (by kernel_rfl)) ?_
                have hnb52 := NB128_122.out
                have hnc52 := NB122_128.out
                have hnb53 := NB128_129.out
                have hnc53 := NB129_128.out
                have hcz54_0 : w47.cell? ⟨gb128, 0, none⟩ = some (.int .i64 ((rd_T78 y123 x15_1).f0)) := (blk_cell BK128.out 0).trans rfl
                have hcz54_1 : w47.cell? ⟨gb128, 1, none⟩ = some (.int .i64 ((rd_T78 y123 x15_1).f1)) := (blk_cell BK128.out 1).trans rfl
                have hcz54_2 : w47.cell? ⟨gb128, 2, none⟩ = some (.bool (true)) := (blk_cell BK128.out 2).trans rfl
                have hfz54_0 := blk_frozen BK128.out 0
                have hfz54_1 := blk_frozen BK128.out 1
                have hfz54_2 := blk_frozen BK128.out 2
                try go_wp2
                go_roundg kj27
                case measure => have := HK1.out; have := HJ10.out; have := HJ27.out; omega
                case rel => exact ⟨(y138), (([] : List (S78))), (wrap64 (x15_1 + 1)), (x130000_27), (x130001_27), (x130002_27), (by first | rfl | (simp; done) | (simp [*]; done)), H', ⟨by have := HK1.out; have := HJ10.out; have := HJ27.out; omega⟩, ⟨by (with_reducible repeat (first | apply Kd.R_alloc | apply Kd.R_drewN | apply Kd.R_drew)); exact Kd.R_mono (Kd.R_far (p := ⟨gb122, 2, none⟩) (Kd.R_far (p := ⟨gb122, 1, none⟩) (Kd.R_far (p := ⟨gb122, 0, none⟩) (Kd.R_types HO140.out BK122.out (by decide)) (fun _ hk => hk.2) (.int .i64 x130000_27)) (fun _ hk => hk.2) (.int .i64 x130001_27)) (fun _ hk => hk.2) (.bool x130002_27)) (fun _ hk => trivial)⟩, ⟨by first | exact Kd.R_nil _ _ _ _ _ | exact Kd.N_nil _ _ _ _ _ | exact Kd.V_nil _ _ _ _ _ | exact Kd.Q_nil _ _ _ _ _ | exact Kd.S_nil _ _ _ _ _⟩, ⟨by (with_reducible repeat first | apply kN | apply kD | apply kA); refine blk_put (cs := #[.int .i64 x130000_27, .int .i64 x130001_27, .bool x123002_1]) ?_ 2 _ rfl; (with_reducible repeat first | apply kN | apply kD | apply kA); refine blk_put (cs := #[.int .i64 x130000_27, .int .i64 x123001_1, .bool x123002_1]) ?_ 1 _ rfl; (with_reducible repeat first | apply kN | apply kD | apply kA); refine blk_put (cs := #[.int .i64 x123000_1, .int .i64 x123001_1, .bool x123002_1]) ?_ 0 _ rfl; (with_reducible repeat first | apply kN | apply kD | apply kA); exact BK122.out⟩, ⟨by repeat (first | (with_reducible first | exact HB.out | apply bAl | apply bDN | apply bD1 | refine bSe ?_ GE122.out | refine bSe ?_ GE128.out | refine bSe ?_ GE129.out) | exact HB.out)⟩⟩
               ·replace c43 := Bool.eq_false_iff.mpr c43
                subst c43
                have H1 : (flat_lines.l0 kj27 y138 (([(⟨((rd_T78 y123 x15_1).f0), ((rd_T78 y123 x15_1).f1), (false)⟩ : S78)] : List (S78))) y123 (y123.length : Int) (wrap64 (x15_1 + 1)) x130000_27 x130001_27 x130002_27) = some r := by rw [if_neg (show ¬ (false = true) by decide)] at H; exact H
                clear H
                have H := H1
                clear H1
                obtain ⟨y141, hy141⟩ : ∃ y_ : List (S78), y_ = (([(⟨((rd_T78 y123 x15_1).f0), ((rd_T78 y123 x15_1).f1), (false)⟩ : S78)] : List (S78))) := ⟨_, rfl⟩
                replace H : (flat_lines.l0 kj27 y138 y141 y123 (y123.length : Int) (wrap64 (x15_1 + 1)) x130000_27 x130001_27 x130002_27) = some r := by first | (rw [hy141]; with_reducible exact H) | (have H2_ := (Option.bind_some _ _).symm.trans H; rw [hy141]; with_reducible exact H2_) | (have H2_ := (Option.bind_some _ _).symm.trans H; with_reducible exact H2_) | with_reducible exact H | (rw [hy141]; exact H) | exact H
                have Ny141 := amk hy141
                clear hy141
                have H' := amk H
                clear H
                obtain ⟨Ao55, co55, eo55⟩ := Kd.R_slice HO_5.out
                subst eo55
                try go_wp2
                have n0_ := amk (Kd.R_drew HO_3.out)
                have n1_ := amk (Kd.R_drew HO_5.out)
                have n2_ := amk (blk_drew BK122.out)
                have n3_ := amk (blk_drew BK128.out)
                have n4_ := amk (blk_drew BK129.out)
                have n5_ := amk (bD1 HB.out)
                clear HO_3
                clear HO_5
                clear BK122
                clear BK128
                clear BK129
                clear HB
                have HO_3 := n0_
                have HO_5 := n1_
                have BK122 := n2_
                have BK128 := n3_
                have BK129 := n4_
                have HB := n5_
                clear n0_ n1_ n2_ n3_ n4_ n5_
                have p134 : 0 ≤ (0 : Int) := (by omega)
                have q134 : 0 < (x5_1.length : Int) := of_decide_eq_true (by first | (with_reducible assumption) | assumption)
                obtain ⟨ad134, e134, hx134_0, hx134_1, hx134_2⟩ := at_T78 (Kd.R_reads' HO_5.out).2.2 0 p134 q134
                (try rw [← Nbq42.out] at hx134_2)
                cases e134
                have qi134 : (0 < x5_1.length) = True := eq_true (by omega)
                (try rw [show ((0 : Int)).toNat = 0 from rfl] at hx134_0)
                (try rw [show 0 * 3 = 0 from rfl] at hx134_0)
                (try rw [Addr.add_zero'] at hx134_0)
                (try rw [show ((0 : Int)).toNat = 0 from rfl] at hx134_1)
                (try rw [show 0 * 3 = 0 from rfl] at hx134_1)
                (try rw [Addr.add_zero'] at hx134_1)
                (try rw [show ((0 : Int)).toNat = 0 from rfl] at hx134_2)
                (try rw [show 0 * 3 = 0 from rfl] at hx134_2)
                (try rw [Addr.add_zero'] at hx134_2)
                replace p134 := eq_true p134
                replace q134 := eq_true q134
                refine start_ (n := 11) (S := fun w' => w'.cell? ⟨gb122, 0, none⟩ = some (.int .i64 x123000_1) ∧ w'.cell? ⟨gb122, 1, none⟩ = some (.int .i64 x123001_1) ∧ w'.cell? ⟨gb122, 2, none⟩ = some (.bool x123002_1) ∧ w'.cell? ⟨gb129, 0, none⟩ = some (.int .i64 x130000_27) ∧ w'.cell? ⟨gb129, 1, none⟩ = some (.int .i64 x130001_27) ∧ w'.cell? ⟨gb129, 2, none⟩ = some (.bool x130002_27) ∧ w'.cell? ad134 = some (.int .i64 ((rd_T78 x5_1 0).f0)) ∧ w'.cell? ⟨ad134.block, ad134.off + 1, none⟩ = some (.int .i64 ((rd_T78 x5_1 0).f1)) ∧ w'.cell? ⟨ad134.block, ad134.off + 2, none⟩ = some (.bool ((rd_T78 x5_1 0).f2))) (ds := [10]) #[false, false, false, false, false, false, false, false, false, false, false] (by kernel_rfl) rfl rfl ⟨(blk_cell BK122.out 0).trans rfl, (blk_cell BK122.out 1).trans rfl, (blk_cell BK122.out 2).trans rfl, (blk_cell BK129.out 0).trans rfl, (blk_cell BK129.out 1).trans rfl, (blk_cell BK129.out 2).trans rfl, hx134_0, hx134_1, hx134_2⟩ (fun hHeld => ?_); refine with_tabW flat_lines.tab10 flat_lines.bits10 (fun HT_ HW_ => ?_)
                generalize wc.drew = w56 at HO_3 HO_5 BK122 BK128 BK129 HB hx134_0 hx134_1 hx134_2 hHeld ⊢
                refine pure_ (i := 0) (N := some 37) (v := ?_) (a' := ?_) #[true, false, false, false, false, false, false, false, false, false, false] rfl rfl (any_of HT_.out (by kernel_rfl)) (fun _ _ _ h => h) (Or.inl ⟨by rfl, ?_⟩) ?_ ?_
                rotate_left
                ·intro w'
                 go_simp
                 with_reducible rfl
                rotate_left
                ·simp only [Act.put, sTA, sCZ, sCS, i64_w, i32_w]
                 rfl
                refine pure_ (i := 2) (N := some 39) (v := ?_) (a' := ?_) #[true, false, true, false, false, false, false, false, false, false, false] rfl rfl (any_of HT_.out (by kernel_rfl)) (fun _ _ _ h => h) (Or.inl ⟨by rfl, ?_⟩) ?_ ?_
                rotate_left
                ·intro w'
                 go_simp
                 with_reducible rfl
                rotate_left
                ·simp only [Act.put, sTA, sCZ, sCS, i64_w, i32_w]
                 rfl
                refine pure_ (i := 3) (N := some 40) (v := ?_) (a' := ?_) #[true, false, true, true, false, false, false, false, false, false, false] rfl rfl (any_of HT_.out (by kernel_rfl)) (fun _ _ _ h => h) (Or.inl ⟨by rfl, ?_⟩) ?_ ?_
                rotate_left
                ·intro w'
                 go_simp
                 with_reducible rfl
                rotate_left
                ·simp only [Act.put, sTA, sCZ, sCS, i64_w, i32_w]
                 rfl
                refine take_ (i := 1) (N := some 38) (v := ?_) (a' := ?_) #[true, true, true, true, false, false, false, false, false, false, false] rfl rfl (take_ofW HT_.out HW_.out (by kernel_rfl)) (fun _ _ _ h => h) (Or.inl ⟨by rfl, ?_⟩) hHeld ?_ ?_
                rotate_left
                ·rintro w' ⟨s0, s1, s2, s3, s4, s5, s6, s7, s8⟩
                 go_simp
                 with_reducible rfl
                rotate_left
                ·simp only [Act.put, sTA, sCZ, sCS, i64_w, i32_w]
                 rfl
                refine take_ (i := 4) (N := some 41) (v := ?_) (a' := ?_) #[true, true, true, true, true, false, false, false, false, false, false] rfl rfl (take_ofW HT_.out HW_.out (by kernel_rfl)) (fun _ _ _ h => h) (Or.inl ⟨by rfl, ?_⟩) hHeld ?_ ?_
                rotate_left
                ·rintro w' ⟨s0, s1, s2, s3, s4, s5, s6, s7, s8⟩
                 go_simp
                 with_reducible rfl
                rotate_left
                ·simp only [Act.put, sTA, sCZ, sCS, i64_w, i32_w]
                 rfl
                refine take_ (i := 5) (N := some 42) (v := ?_) (a' := ?_) #[true, true, true, true, true, true, false, false, false, false, false] rfl rfl (take_ofW HT_.out HW_.out (by kernel_rfl)) (fun _ _ _ h => h) (Or.inl ⟨by rfl, ?_⟩) hHeld ?_ ?_
                rotate_left
                ·rintro w' ⟨s0, s1, s2, s3, s4, s5, s6, s7, s8⟩
                 go_simp
                 with_reducible rfl
                rotate_left
                ·simp only [Act.put, sTA, sCZ, sCS, i64_w, i32_w]
                 rfl
                refine take_ (i := 8) (N := some 45) (v := ?_) (a' := ?_) #[true, true, true, true, true, true, false, false, true, false, false] rfl rfl (take_ofW HT_.out HW_.out (by kernel_rfl)) (fun _ _ _ h => h) (Or.inl ⟨by rfl, ?_⟩) hHeld ?_ ?_
                rotate_left
                ·rintro w' ⟨s0, s1, s2, s3, s4, s5, s6, s7, s8⟩
                 go_simp
                 with_reducible rfl
                rotate_left
                ·simp only [Act.put, sTA, sCZ, sCS, i64_w, i32_w]
                 rfl
                refine one_ (i := 6) (N := some 43) #[true, true, true, true, true, true, true, false, true, false, false] rfl rfl (one_of HT_.out (by kernel_rfl)) (by decide) (fun K hK => ?_)
                refine goes_ Try.func37 (by kernel_rfl) rfl #[.agg #[.int .i64 x123000_1, .int .i64 x123001_1, .bool x123002_1], .agg #[.int .i64 ((rd_T78 x5_1 0).f0), .int .i64 ((rd_T78 x5_1 0).f1), .bool ((rd_T78 x5_1 0).f2)], .agg #[.int .i64 x130000_27, .int .i64 x130001_27, .bool x130002_27]] (by rfl) rfl rfl (by (try simp only [List.map_toArray, List.map_cons, List.map_nil]); first | done | rfl | (simp only [List.length_drop, List.length_take]; rfl)) ?_
                with_reducible refine (flat_curve.calls kj27 x123000_1 x123001_1 x123002_1 ((rd_T78 x5_1 0).f0) ((rd_T78 x5_1 0).f1) ((rd_T78 x5_1 0).f2) x130000_27 x130001_27 x130002_27 t135 _ A40.out).mono ?_
                rintro e w57 ⟨v136, rfl, ho0, hb⟩
                have HS6_ := (hb.cell (cLt _ _ (hHeld.2.2.2.2.2.2.1))).trans (hHeld.2.2.2.2.2.2.1)
                have HS7_ := (hb.cell (cLt _ _ (hHeld.2.2.2.2.2.2.2.1))).trans (hHeld.2.2.2.2.2.2.2.1)
                have HS8_ := (hb.cell (cLt _ _ (hHeld.2.2.2.2.2.2.2.2))).trans (hHeld.2.2.2.2.2.2.2.2)
                refine ⟨_, rfl, ?_⟩
                have n0_ := amk (Kd.R_elder' (by (with_reducible repeat (first | apply Kd.R_alloc | apply Kd.R_drewN | apply Kd.R_drew)); exact HO_3.out) (Kd.R_base ho0) hb)
                have n1_ := amk (Kd.R_below (by (with_reducible repeat (first | apply Kd.R_alloc | apply Kd.R_drewN | apply Kd.R_drew)); exact HO_5.out) hb)
                have n2_ := amk (Kd.R_lower (Kd.R_new' ho0 (Kd.R_lt (by (with_reducible repeat (first | apply Kd.R_alloc | apply Kd.R_drewN | apply Kd.R_drew)); exact HO_3.out))) (below_size (by repeat (first | (with_reducible first | exact HB.out | apply bAl | apply bDN | apply bD1 | refine bSe ?_ GE122.out | refine bSe ?_ GE128.out | refine bSe ?_ GE129.out) | exact HB.out))))
                have n3_ := amk (blk_below (g := gb122) (o := .cells #[.int .i64 x123000_1, .int .i64 x123001_1, .bool x123002_1] 78 (0, 0)) (by (with_reducible repeat first | apply kN | apply kD | apply kA); exact BK122.out) hb)
                have n4_ := amk (blk_below (g := gb128) (o := .cells #[.int .i64 ((rd_T78 y123 x15_1).f0), .int .i64 ((rd_T78 y123 x15_1).f1), .bool (false)] 78 (0, 0)) (by (with_reducible repeat first | apply kN | apply kD | apply kA); exact BK128.out) hb)
                have n5_ := amk (blk_below (g := gb129) (o := .cells #[.int .i64 x130000_27, .int .i64 x130001_27, .bool x130002_27] 78 (0, 0)) (by (with_reducible repeat first | apply kN | apply kD | apply kA); exact BK129.out) hb)
                have n6_ := amk (below_step (by repeat (first | (with_reducible first | exact HB.out | apply bAl | apply bDN | apply bD1 | refine bSe ?_ GE122.out | refine bSe ?_ GE128.out | refine bSe ?_ GE129.out) | exact HB.out)) hb)
                clear HO_3
                clear HO_5
                clear BK122
                clear BK128
                clear BK129
                clear HB
                have HO_3 := n0_
                have HO_5 := n1_
                have HO137 := n2_
                have BK122 := n3_
                have BK128 := n4_
                have BK129 := n5_
                have HB := n6_
                clear n0_ n1_ n2_ n3_ n4_ n5_ n6_
                (try clear hb)
                (try clear hb2)
                (try clear hk)
                (try clear hi)
                (try clear ho0)
                obtain ⟨Ao59, co59, eo59⟩ := Kd.R_slice HO137.out
                (first | subst eo59 | (injection eo59 with f1_ f2_ f3_; have f4_ := f1_.symm; have f5_ := f3_.symm; clear f1_ f2_ f3_; subst f4_; subst f5_))
                refine hK.out _ _ ⟨(blk_cell BK122.out 0).trans rfl, (blk_cell BK122.out 1).trans rfl, (blk_cell BK122.out 2).trans rfl, (blk_cell BK129.out 0).trans rfl, (blk_cell BK129.out 1).trans rfl, (blk_cell BK129.out 2).trans rfl, HS6_, HS7_, HS8_⟩ (fun hHeld => ?_)
                clear hK K
                refine norm_ (a' := ?_) ?_ ?_
                rotate_left
                ·show Act.put _ (some 43) _ = _
                 simp only [Act.put, sTA, sCZ, sCS, i64_w, i32_w]
                 rfl
                refine one_ (i := 7) (N := some 44) #[true, true, true, true, true, true, true, true, true, false, false] rfl rfl (one_of HT_.out (by kernel_rfl)) (by decide) (fun K hK => ?_)
                refine Kd.R_append_rows_step k34 (w0 := w) w.heap.size (by rfl) (.tmp 37) (.tmp 43) 31 34 (.agg #[(.int .i64 0), (.int .i64 0), (.int .i64 0), (.int .i64 0)]) 32 rfl Try.underlying31 info34 rfl (by decide) (by omega) u3 x3_1 t135 _ _ _ (fun k_ => some k_ ≠ (.slice Ao59 t135.length co59 : Value).ownBlock) (fun _ => False) rfl rfl ?aO ?aR (fun _ _ h => h) (fun _ h => h.elim) ?aF ?aB ?aS ?aL ?_
                (case aR => repeat (first | exact (Kd.R_reads' HO137.out).2.2 | (with_reducible refine Kd.C_alloc ?_ _) | (with_reducible refine Kd.C_drewN ?_ _) | (with_reducible refine Kd.C_drew ?_)))
                (case aB => exact (by repeat (first | (with_reducible first | exact HB.out | apply bAl | apply bDN | apply bD1 | refine bSe ?_ GE122.out | refine bSe ?_ GE128.out | refine bSe ?_ GE129.out) | exact HB.out)))
                (case aF => exact (fun k_ hk => Kd.fresh' (Kd.R_lt (by (with_reducible repeat (first | apply Kd.R_alloc | apply Kd.R_drewN | apply Kd.R_drew)); exact HO137.out)) k_ hk))
                (case aO => exact (by (with_reducible repeat (first | apply Kd.R_alloc | apply Kd.R_drewN | apply Kd.R_drew)); exact Kd.R_mono HO_3.out (fun _ hk => hk.2)))
                (case aS => exact (below_size (by repeat (first | (with_reducible first | exact HB.out | apply bAl | apply bDN | apply bD1 | refine bSe ?_ GE122.out | refine bSe ?_ GE128.out | refine bSe ?_ GE129.out) | exact HB.out))))
                (case aL => have := LMc41.out; omega)
                intro v139 w58 ho hb hg hat
                have HS6_ := cell_grown hg (hHeld.2.2.2.2.2.2.1) (by first | (rw [add_block]; exact (fun e_ => by obtain ⟨_, h1_⟩ := Kd.R_typed HO_5.out _ rfl; obtain ⟨_, h2_⟩ := Kd.R_typed HO_3.out _ e_.symm; rw [h1_] at h2_; simp at h2_)) | (show some (Addr.add _ _).block ≠ _; rw [add_block]; exact (fun e_ => by obtain ⟨_, h1_⟩ := Kd.R_typed HO_5.out _ rfl; obtain ⟨_, h2_⟩ := Kd.R_typed HO_3.out _ e_.symm; rw [h1_] at h2_; simp at h2_)) | exact (fun e_ => by obtain ⟨_, h1_⟩ := Kd.R_typed HO_5.out _ rfl; obtain ⟨_, h2_⟩ := Kd.R_typed HO_3.out _ e_.symm; rw [h1_] at h2_; simp at h2_))
                have HS7_ := cell_grown hg (hHeld.2.2.2.2.2.2.2.1) (by first | (rw [add_block]; exact (fun e_ => by obtain ⟨_, h1_⟩ := Kd.R_typed HO_5.out _ rfl; obtain ⟨_, h2_⟩ := Kd.R_typed HO_3.out _ e_.symm; rw [h1_] at h2_; simp at h2_)) | (show some (Addr.add _ _).block ≠ _; rw [add_block]; exact (fun e_ => by obtain ⟨_, h1_⟩ := Kd.R_typed HO_5.out _ rfl; obtain ⟨_, h2_⟩ := Kd.R_typed HO_3.out _ e_.symm; rw [h1_] at h2_; simp at h2_)) | exact (fun e_ => by obtain ⟨_, h1_⟩ := Kd.R_typed HO_5.out _ rfl; obtain ⟨_, h2_⟩ := Kd.R_typed HO_3.out _ e_.symm; rw [h1_] at h2_; simp at h2_))
                have HS8_ := cell_grown hg (hHeld.2.2.2.2.2.2.2.2) (by first | (rw [add_block]; exact (fun e_ => by obtain ⟨_, h1_⟩ := Kd.R_typed HO_5.out _ rfl; obtain ⟨_, h2_⟩ := Kd.R_typed HO_3.out _ e_.symm; rw [h1_] at h2_; simp at h2_)) | (show some (Addr.add _ _).block ≠ _; rw [add_block]; exact (fun e_ => by obtain ⟨_, h1_⟩ := Kd.R_typed HO_5.out _ rfl; obtain ⟨_, h2_⟩ := Kd.R_typed HO_3.out _ e_.symm; rw [h1_] at h2_; simp at h2_)) | exact (fun e_ => by obtain ⟨_, h1_⟩ := Kd.R_typed HO_5.out _ rfl; obtain ⟨_, h2_⟩ := Kd.R_typed HO_3.out _ e_.symm; rw [h1_] at h2_; simp at h2_))
                rw [← Ny138.out] at ho
                have n0_ := amk (Kd.R_over' (by (with_reducible repeat (first | apply Kd.R_alloc | apply Kd.R_drewN | apply Kd.R_drew)); exact HO_5.out) (Kd.R_typed (by (with_reducible repeat (first | apply Kd.R_alloc | apply Kd.R_drewN | apply Kd.R_drew)); exact HO_3.out)) (by decide) hg)
                have n1_ := amk (blk_grown (g := gb122) (o := .cells #[.int .i64 x123000_1, .int .i64 x123001_1, .bool x123002_1] 78 (0, 0)) (by (with_reducible repeat first | apply kN | apply kD | apply kA); exact BK122.out) hg (Kd.R_ne HO_3.out BK122.out (by decide)))
                have n2_ := amk (blk_grown (g := gb128) (o := .cells #[.int .i64 ((rd_T78 y123 x15_1).f0), .int .i64 ((rd_T78 y123 x15_1).f1), .bool (false)] 78 (0, 0)) (by (with_reducible repeat first | apply kN | apply kD | apply kA); exact BK128.out) hg (Kd.R_ne HO_3.out BK128.out (by decide)))
                have n3_ := amk (blk_grown (g := gb129) (o := .cells #[.int .i64 x130000_27, .int .i64 x130001_27, .bool x130002_27] 78 (0, 0)) (by (with_reducible repeat first | apply kN | apply kD | apply kA); exact BK129.out) hg (Kd.R_ne HO_3.out BK129.out (by decide)))
                have n4_ := amk (Kd.R_after (ok := (fun _ => True)) (by (with_reducible repeat (first | apply Kd.R_alloc | apply Kd.R_drewN | apply Kd.R_drew)); exact HO137.out) hg hat)
                have n5_ := amk (hb)
                have n6_ := amk (ho)
                clear HO_5
                clear BK122
                clear BK128
                clear BK129
                clear HO137
                clear HB
                clear HO_3
                have HO_5 := n0_
                have BK122 := n1_
                have BK128 := n2_
                have BK129 := n3_
                have HO137 := n4_
                have HB := n5_
                have HO140 := n6_
                clear n0_ n1_ n2_ n3_ n4_ n5_ n6_
                clear ho hb hg hat
                refine hK.out _ _ ⟨(blk_cell BK122.out 0).trans rfl, (blk_cell BK122.out 1).trans rfl, (blk_cell BK122.out 2).trans rfl, (blk_cell BK129.out 0).trans rfl, (blk_cell BK129.out 1).trans rfl, (blk_cell BK129.out 2).trans rfl, HS6_, HS7_, HS8_⟩ (fun hHeld => ?_)
                clear hK K
                refine norm_ (a' := ?_) ?_ ?_
                rotate_left
                ·show Act.put _ (some 44) _ = _
                 simp only [Act.put, sTA, sCZ, sCS, i64_w, i32_w]
                 rfl
                refine pure_ (i := 9) (N := some 3) (v := ?_) (a' := ?_) #[true, true, true, true, true, true, true, true, true, true, false] rfl rfl (any_of HT_.out (by kernel_rfl)) (fun _ _ _ h => h) (Or.inl ⟨by rfl, ?_⟩) ?_ ?_
                rotate_left
                ·intro w'
                 go_simp
                 with_reducible rfl
                rotate_left
                ·simp only [Act.put, sTA, sCZ, sCS, i64_w, i32_w]
                 rfl
                refine last_ (i := 10) (N := none) #[true, true, true, true, true, true, true, true, true, true, true] rfl rfl (one_of HT_.out (by kernel_rfl)) (by decide) (fun K hK => ?_)
                have hs60 : w58.cell? ⟨gb122, 0, none⟩ = some (.int .i64 x123000_1) := (blk_cell BK122.out 0).trans rfl
                have hfs60 := blk_frozen BK122.out 0
                have hns60_1 := NB128_122.out
                have hns60_2 := NB129_122.out
                have hms60_1 := NB122_128.out
                have hms60_2 := NB122_129.out
                have hs61 : w58.cell? ⟨gb122, 1, none⟩ = some (.int .i64 x123001_1) := (blk_cell BK122.out 1).trans rfl
                have hfs61 := blk_frozen BK122.out 1
                have hns61_1 := NB128_122.out
                have hns61_2 := NB129_122.out
                have hms61_1 := NB122_128.out
                have hms61_2 := NB122_129.out
                have hs62 : w58.cell? ⟨gb122, 2, none⟩ = some (.bool x123002_1) := (blk_cell BK122.out 2).trans rfl
                have hfs62 := blk_frozen BK122.out 2
                have hns62_1 := NB128_122.out
                have hns62_2 := NB129_122.out
                have hms62_1 := NB122_128.out
                have hms62_2 := NB122_129.out
                refine skip_ (w1 := ?_) (by rfl) rfl ?_ ?_
                rotate_left
                ·go_simp
                 rfl
                refine hK.out _ _ ?_
                clear hK K
                refine done_ (done_of HT_.out (by kernel_rfl)) ?_
                have hnb63 := NB128_122.out
                have hnc63 := NB122_128.out
                have hnb64 := NB128_129.out
                have hnc64 := NB129_128.out
                have hcz65_0 : w58.cell? ⟨gb128, 0, none⟩ = some (.int .i64 ((rd_T78 y123 x15_1).f0)) := (blk_cell BK128.out 0).trans rfl
                have hcz65_1 : w58.cell? ⟨gb128, 1, none⟩ = some (.int .i64 ((rd_T78 y123 x15_1).f1)) := (blk_cell BK128.out 1).trans rfl
                have hcz65_2 : w58.cell? ⟨gb128, 2, none⟩ = some (.bool (false)) := (blk_cell BK128.out 2).trans rfl
                have hfz65_0 := blk_frozen BK128.out 0
                have hfz65_1 := blk_frozen BK128.out 1
                have hfz65_2 := blk_frozen BK128.out 2
                try go_wp2_with (first | ((with_reducible refine gate_dst (N := 60) rfl ?_); (try (refine gate_guard (by rfl) ?_; dsimp only)); refine Kd.R_lit k78 _ 78 ?hg (N := 60) ?hd (xs := ([(⟨((rd_T78 y123 x15_1).f0), ((rd_T78 y123 x15_1).f1), (false)⟩ : S78)] : List (S78))) (inner := [.int .i64 ((rd_T78 y123 x15_1).f0), .int .i64 ((rd_T78 y123 x15_1).f1), .bool (false)]) (ok := fun _ => True) (okp := fun _ => True) ?hr ?hp (fun _ hk => hk) trivial (Below.refl _ _) (Nat.le_refl _) (by simp) ?_; (case hd => rfl); (case hg => rfl); (case hr => first | (go_simp; done) | (go_simp; rfl)); (case hp => exact (Reps.c3 (show Kd.M k78 _ _ _ (⟨((rd_T78 y123 x15_1).f0), ((rd_T78 y123 x15_1).f1), (false)⟩ : S78) [.int .i64 ((rd_T78 y123 x15_1).f0), .int .i64 ((rd_T78 y123 x15_1).f1), .bool (false)] from (k78_mkM _ _ _ (⟨((rd_T78 y123 x15_1).f0), ((rd_T78 y123 x15_1).f1), (false)⟩ : S78) )) (Reps.none _ _))); intro v142 w66 ho67 hb hg_ hnew_; clear hg_ hnew_; (first | rw [← Ny141.out] at ho67 | (simp only [Int.reduceToNat] at ho67; rw [← Ny141.out] at ho67)); have n0_ := amk (Kd.R_elder' (by (with_reducible repeat (first | apply Kd.R_alloc | apply Kd.R_drewN | apply Kd.R_drew)); exact (Kd.R_mono (Kd.R_far (p := ⟨gb122, 2, none⟩) (Kd.R_far (p := ⟨gb122, 1, none⟩) (Kd.R_far (p := ⟨gb122, 0, none⟩) (Kd.R_mono HO_5.out (fun k_ hk => (⟨hk, hk.1⟩ : _ ∧ k_ ≠ gb122))) (fun _ hk => hk.2) (.int .i64 x130000_27)) (fun _ hk => hk.2) (.int .i64 x130001_27)) (fun _ hk => hk.2) (.bool x130002_27)) (fun _ h_ => h_.1))) (Kd.R_base ho67) hb); have n1_ := amk (Kd.R_below (by (with_reducible repeat (first | apply Kd.R_alloc | apply Kd.R_drewN | apply Kd.R_drew)); exact (Kd.R_mono (Kd.R_far (p := ⟨gb122, 2, none⟩) (Kd.R_far (p := ⟨gb122, 1, none⟩) (Kd.R_far (p := ⟨gb122, 0, none⟩) (Kd.R_types HO137.out BK122.out (by decide)) (fun _ hk => hk.2) (.int .i64 x130000_27)) (fun _ hk => hk.2) (.int .i64 x130001_27)) (fun _ hk => hk.2) (.bool x130002_27)) (fun _ h_ => h_.1))) hb); have n2_ := amk (Kd.R_below (by (with_reducible repeat (first | apply Kd.R_alloc | apply Kd.R_drewN | apply Kd.R_drew)); exact (Kd.R_mono (Kd.R_far (p := ⟨gb122, 2, none⟩) (Kd.R_far (p := ⟨gb122, 1, none⟩) (Kd.R_far (p := ⟨gb122, 0, none⟩) (Kd.R_types HO140.out BK122.out (by decide)) (fun _ hk => hk.2) (.int .i64 x130000_27)) (fun _ hk => hk.2) (.int .i64 x130001_27)) (fun _ hk => hk.2) (.bool x130002_27)) (fun _ h_ => h_.1))) hb); have n3_ := amk (Kd.R_lower (Kd.R_newB (Kd.R_newB (Kd.R_newB (Kd.R_new' ho67 (Kd.R_lt (by (with_reducible repeat (first | apply Kd.R_alloc | apply Kd.R_drewN | apply Kd.R_drew)); exact (Kd.R_mono (Kd.R_far (p := ⟨gb122, 2, none⟩) (Kd.R_far (p := ⟨gb122, 1, none⟩) (Kd.R_far (p := ⟨gb122, 0, none⟩) (Kd.R_mono HO_5.out (fun k_ hk => (⟨hk, hk.1⟩ : _ ∧ k_ ≠ gb122))) (fun _ hk => hk.2) (.int .i64 x130000_27)) (fun _ hk => hk.2) (.int .i64 x130001_27)) (fun _ hk => hk.2) (.bool x130002_27)) (fun _ h_ => h_.1))))) (g := gb122) (o := .cells #[.int .i64 x130000_27, .int .i64 x130001_27, .bool x130002_27] 78 (0, 0)) (by (with_reducible repeat first | apply kN | apply kD | apply kA); refine blk_put (cs := #[.int .i64 x130000_27, .int .i64 x130001_27, .bool x123002_1]) ?_ 2 _ rfl; (with_reducible repeat first | apply kN | apply kD | apply kA); refine blk_put (cs := #[.int .i64 x130000_27, .int .i64 x123001_1, .bool x123002_1]) ?_ 1 _ rfl; (with_reducible repeat first | apply kN | apply kD | apply kA); refine blk_put (cs := #[.int .i64 x123000_1, .int .i64 x123001_1, .bool x123002_1]) ?_ 0 _ rfl; (with_reducible repeat first | apply kN | apply kD | apply kA); exact BK122.out)) (g := gb128) (o := .cells #[.int .i64 ((rd_T78 y123 x15_1).f0), .int .i64 ((rd_T78 y123 x15_1).f1), .bool (false)] 78 (0, 0)) (by (with_reducible repeat first | apply kN | apply kD | apply kA); refine blk_far ?_ NB128_122.out _; (with_reducible repeat first | apply kN | apply kD | apply kA); refine blk_far ?_ NB128_122.out _; (with_reducible repeat first | apply kN | apply kD | apply kA); refine blk_far ?_ NB128_122.out _; (with_reducible repeat first | apply kN | apply kD | apply kA); exact BK128.out)) (g := gb129) (o := .cells #[.int .i64 x130000_27, .int .i64 x130001_27, .bool x130002_27] 78 (0, 0)) (by (with_reducible repeat first | apply kN | apply kD | apply kA); refine blk_far ?_ NB129_122.out _; (with_reducible repeat first | apply kN | apply kD | apply kA); refine blk_far ?_ NB129_122.out _; (with_reducible repeat first | apply kN | apply kD | apply kA); refine blk_far ?_ NB129_122.out _; (with_reducible repeat first | apply kN | apply kD | apply kA); exact BK129.out)) (below_size (by repeat (first | (with_reducible first | exact HB.out | apply bAl | apply bDN | apply bD1 | refine bSe ?_ GE122.out | refine bSe ?_ GE128.out | refine bSe ?_ GE129.out) | exact HB.out)))); have n4_ := amk (blk_below (g := gb122) (o := .cells #[.int .i64 x130000_27, .int .i64 x130001_27, .bool x130002_27] 78 (0, 0)) (by (with_reducible repeat first | apply kN | apply kD | apply kA); refine blk_put (cs := #[.int .i64 x130000_27, .int .i64 x130001_27, .bool x123002_1]) ?_ 2 _ rfl; (with_reducible repeat first | apply kN | apply kD | apply kA); refine blk_put (cs := #[.int .i64 x130000_27, .int .i64 x123001_1, .bool x123002_1]) ?_ 1 _ rfl; (with_reducible repeat first | apply kN | apply kD | apply kA); refine blk_put (cs := #[.int .i64 x123000_1, .int .i64 x123001_1, .bool x123002_1]) ?_ 0 _ rfl; (with_reducible repeat first | apply kN | apply kD | apply kA); exact BK122.out) hb); have n5_ := amk (blk_below (g := gb128) (o := .cells #[.int .i64 ((rd_T78 y123 x15_1).f0), .int .i64 ((rd_T78 y123 x15_1).f1), .bool (false)] 78 (0, 0)) (by (with_reducible repeat first | apply kN | apply kD | apply kA); refine blk_far ?_ NB128_122.out _; (with_reducible repeat first | apply kN | apply kD | apply kA); refine blk_far ?_ NB128_122.out _; (with_reducible repeat first | apply kN | apply kD | apply kA); refine blk_far ?_ NB128_122.out _; (with_reducible repeat first | apply kN | apply kD | apply kA); exact BK128.out) hb); have n6_ := amk (blk_below (g := gb129) (o := .cells #[.int .i64 x130000_27, .int .i64 x130001_27, .bool x130002_27] 78 (0, 0)) (by (with_reducible repeat first | apply kN | apply kD | apply kA); refine blk_far ?_ NB129_122.out _; (with_reducible repeat first | apply kN | apply kD | apply kA); refine blk_far ?_ NB129_122.out _; (with_reducible repeat first | apply kN | apply kD | apply kA); refine blk_far ?_ NB129_122.out _; (with_reducible repeat first | apply kN | apply kD | apply kA); exact BK129.out) hb); have n7_ := amk (below_step (by repeat (first | (with_reducible first | exact HB.out | apply bAl | apply bDN | apply bD1 | refine bSe ?_ GE122.out | refine bSe ?_ GE128.out | refine bSe ?_ GE129.out) | exact HB.out)) hb); clear HO_5; clear HO137; clear HO140; clear BK122; clear BK128; clear BK129; clear HB; have HO_5 := n0_; have HO137 := n1_; have HO140 := n2_; have HO143 := n3_; have BK122 := n4_; have BK128 := n5_; have BK129 := n6_; have HB := n7_; clear n0_ n1_ n2_ n3_ n4_ n5_ n6_ n7_; clear hb ho67))
                go_roundg kj27
                case measure => have := HK1.out; have := HJ10.out; have := HJ27.out; omega
                case rel => exact ⟨(y138), (y141), (wrap64 (x15_1 + 1)), (x130000_27), (x130001_27), (x130002_27), (by first | rfl | (simp; done) | (simp [*]; done)), H', ⟨by have := HK1.out; have := HJ10.out; have := HJ27.out; omega⟩, ⟨by (with_reducible repeat (first | apply Kd.R_alloc | apply Kd.R_drewN | apply Kd.R_drew)); exact Kd.R_mono HO140.out (fun _ hk => trivial)⟩, ⟨by (with_reducible repeat (first | apply Kd.R_alloc | apply Kd.R_drewN | apply Kd.R_drew)); exact Kd.R_mono HO143.out (fun _ hk => hk.1.1.2)⟩, ⟨by (with_reducible repeat first | apply kN | apply kD | apply kA); exact BK122.out⟩, ⟨by repeat (first | (with_reducible first | exact HB.out | apply bAl | apply bDN | apply bD1 | refine bSe ?_ GE122.out | refine bSe ?_ GE128.out | refine bSe ?_ GE129.out) | exact HB.out)⟩⟩
              ·rw [if_neg c41] at H
               exact absurd H (by simp)
             ·rw [if_neg c39] at H
              exact absurd H (by simp)
            ·rw [if_neg c38] at H
             have c38b0 : decide (0 < (x5_1.length : Int)) = false := decide_eq_false c38
             have c38b1 : decide (0 < x5_1.length) = false := decide_eq_false (by omega)
             clear c38
             obtain ⟨bq68, hbq68⟩ : ∃ b_ : Bool, b_ = ((rd_T78 y123 x15_1).f2) := ⟨_, rfl⟩
             replace H : (if (bq68) = true then ((flat_seg.f x123000_1 x123001_1 x123002_1 ((rd_T78 y123 x15_1).f0) ((rd_T78 y123 x15_1).f1) (bq68)).bind fun bt144 => (if x3_1.length < 4398046511104 then (flat_lines.l0 kj27 (x3_1 ++ [(⟨bt144.1, bt144.2.1, bt144.2.2.1, bt144.2.2.2⟩ : S34)]) ([] : List (S78)) y123 (y123.length : Int) (wrap64 (x15_1 + 1)) ((rd_T78 y123 x15_1).f0) ((rd_T78 y123 x15_1).f1) (bq68)) else (none))) else (flat_lines.l0 kj27 x3_1 (([(⟨((rd_T78 y123 x15_1).f0), ((rd_T78 y123 x15_1).f1), (bq68)⟩ : S78)] : List (S78))) y123 (y123.length : Int) (wrap64 (x15_1 + 1)) x123000_1 x123001_1 x123002_1)) = some r := by rw [← hbq68] at H; exact H
             have Nbq68 := amk hbq68
             clear hbq68
             (try rw [← Nbq68.out] at BK128)
             by_cases c69 : (bq68) = true
             ·subst c69
              have H1 : ((flat_seg.f x123000_1 x123001_1 x123002_1 ((rd_T78 y123 x15_1).f0) ((rd_T78 y123 x15_1).f1) (true)).bind fun bt144 => (if x3_1.length < 4398046511104 then (flat_lines.l0 kj27 (x3_1 ++ [(⟨bt144.1, bt144.2.1, bt144.2.2.1, bt144.2.2.2⟩ : S34)]) ([] : List (S78)) y123 (y123.length : Int) (wrap64 (x15_1 + 1)) ((rd_T78 y123 x15_1).f0) ((rd_T78 y123 x15_1).f1) (true)) else (none))) = some r := by rw [if_pos rfl] at H; exact H
              clear H
              have H := H1
              clear H1
              replace H := Option.bind_eq_some_iff.mp H
              obtain ⟨⟨t144, t145, t146, t147⟩, A700, H⟩ := H
              replace H : (if x3_1.length < 4398046511104 then (flat_lines.l0 kj27 (x3_1 ++ [(⟨t144, t145, t146, t147⟩ : S34)]) ([] : List (S78)) y123 (y123.length : Int) (wrap64 (x15_1 + 1)) ((rd_T78 y123 x15_1).f0) ((rd_T78 y123 x15_1).f1) (true)) else (none)) = some r := H
              have A70 := amk A700
              clear A700
              by_cases c71 : x3_1.length < 4398046511104
              ·rw [if_pos c71] at H
               have LMc71 := amk c71
               clear c71
               obtain ⟨y148, hy148⟩ : ∃ y_ : List (S34), y_ = (x3_1 ++ [(⟨t144, t145, t146, t147⟩ : S34)]) := ⟨_, rfl⟩
               replace H : (flat_lines.l0 kj27 y148 ([] : List (S78)) y123 (y123.length : Int) (wrap64 (x15_1 + 1)) ((rd_T78 y123 x15_1).f0) ((rd_T78 y123 x15_1).f1) (true)) = some r := by first | (rw [hy148]; with_reducible exact H) | (have H2_ := (Option.bind_some _ _).symm.trans H; rw [hy148]; with_reducible exact H2_) | (have H2_ := (Option.bind_some _ _).symm.trans H; with_reducible exact H2_) | with_reducible exact H | (rw [hy148]; exact H) | exact H
               have Ny148 := amk hy148
               clear hy148
               have H' := amk H
               clear H
               obtain ⟨Ao72, co72, eo72⟩ := Kd.R_slice HO_5.out
               subst eo72
               have hnb73 := NB128_122.out
               have hnc73 := NB122_128.out
               have hnb74 := NB128_129.out
               have hnc74 := NB129_128.out
               have hcz75_0 : wc.cell? ⟨gb128, 0, none⟩ = some (.int .i64 ((rd_T78 y123 x15_1).f0)) := (blk_cell BK128.out 0).trans rfl
               have hcz75_1 : wc.cell? ⟨gb128, 1, none⟩ = some (.int .i64 ((rd_T78 y123 x15_1).f1)) := (blk_cell BK128.out 1).trans rfl
               have hcz75_2 : wc.cell? ⟨gb128, 2, none⟩ = some (.bool (true)) := (blk_cell BK128.out 2).trans rfl
               have hfz75_0 := blk_frozen BK128.out 0
               have hfz75_1 := blk_frozen BK128.out 1
               have hfz75_2 := blk_frozen BK128.out 2
               try go_wp2
               have n0_ := amk (Kd.R_drew HO_3.out)
               have n1_ := amk (Kd.R_drew HO_5.out)
               have n2_ := amk (blk_drew BK122.out)
               have n3_ := amk (blk_drew BK128.out)
               have n4_ := amk (blk_drew BK129.out)
               have n5_ := amk (bD1 HB.out)
               clear HO_3
               clear HO_5
               clear BK122
               clear BK128
               clear BK129
               clear HB
               have HO_3 := n0_
               have HO_5 := n1_
               have BK122 := n2_
               have BK128 := n3_
               have BK129 := n4_
               have HB := n5_
               clear n0_ n1_ n2_ n3_ n4_ n5_
               refine start_ (n := 9) (S := fun w' => w'.cell? ⟨gb122, 0, none⟩ = some (.int .i64 x123000_1) ∧ w'.cell? ⟨gb122, 1, none⟩ = some (.int .i64 x123001_1) ∧ w'.cell? ⟨gb122, 2, none⟩ = some (.bool x123002_1) ∧ w'.cell? ⟨gb128, 0, none⟩ = some (.int .i64 ((rd_T78 y123 x15_1).f0)) ∧ w'.cell? ⟨gb128, 1, none⟩ = some (.int .i64 ((rd_T78 y123 x15_1).f1)) ∧ w'.cell? ⟨gb128, 2, none⟩ = some (.bool (true))) (ds := [8]) #[false, false, false, false, false, false, false, false, false] (by kernel_rfl) rfl rfl ⟨(blk_cell BK122.out 0).trans rfl, (blk_cell BK122.out 1).trans rfl, (blk_cell BK122.out 2).trans rfl, (blk_cell BK128.out 0).trans rfl, (blk_cell BK128.out 1).trans rfl, (blk_cell BK128.out 2).trans rfl⟩ (fun hHeld => ?_); refine with_tabW flat_lines.tab12 flat_lines.bits12 (fun HT_ HW_ => ?_)
               generalize wc.drew = w76 at HO_3 HO_5 BK122 BK128 BK129 HB hHeld ⊢
               refine pure_ (i := 0) (N := some 49) (v := ?_) (a' := ?_) #[true, false, false, false, false, false, false, false, false] rfl rfl (any_of HT_.out (by kernel_rfl)) (fun _ _ _ h => h) (Or.inl ⟨by rfl, ?_⟩) ?_ ?_
               rotate_left
               ·intro w'
                go_simp
                with_reducible rfl
               rotate_left
               ·simp only [Act.put, sTA, sCZ, sCS, i64_w, i32_w]
                rfl
               refine take_ (i := 1) (N := some 50) (v := ?_) (a' := ?_) #[true, true, false, false, false, false, false, false, false] rfl rfl (take_ofW HT_.out HW_.out (by kernel_rfl)) (fun _ _ _ h => h) (Or.inl ⟨by rfl, ?_⟩) hHeld ?_ ?_
               rotate_left
               ·rintro w' ⟨s0, s1, s2, s3, s4, s5⟩
                go_simp
                with_reducible rfl
               rotate_left
               ·simp only [Act.put, sTA, sCZ, sCS, i64_w, i32_w]
                rfl
               refine take_ (i := 2) (N := some 51) (v := ?_) (a' := ?_) #[true, true, true, false, false, false, false, false, false] rfl rfl (take_ofW HT_.out HW_.out (by kernel_rfl)) (fun _ _ _ h => h) (Or.inl ⟨by rfl, ?_⟩) hHeld ?_ ?_
               rotate_left
               ·rintro w' ⟨s0, s1, s2, s3, s4, s5⟩
                go_simp
                with_reducible rfl
               rotate_left
               ·simp only [Act.put, sTA, sCZ, sCS, i64_w, i32_w]
                rfl
               refine take_ (i := 6) (N := some 55) (v := ?_) (a' := ?_) #[true, true, true, false, false, false, true, false, false] rfl rfl (take_ofW HT_.out HW_.out (by kernel_rfl)) (fun _ _ _ h => h) (Or.inl ⟨by rfl, ?_⟩) hHeld ?_ ?_
               rotate_left
               ·rintro w' ⟨s0, s1, s2, s3, s4, s5⟩
                go_simp
                with_reducible rfl
               rotate_left
               ·simp only [Act.put, sTA, sCZ, sCS, i64_w, i32_w]
                rfl
               refine one_ (i := 3) (N := some 52) #[true, true, true, true, false, false, true, false, false] rfl rfl (one_of HT_.out (by kernel_rfl)) (by decide) (fun K hK => ?_)
               refine goes_ Try.func48 (by kernel_rfl) rfl #[.agg #[.int .i64 x123000_1, .int .i64 x123001_1, .bool x123002_1], .agg #[.int .i64 ((rd_T78 y123 x15_1).f0), .int .i64 ((rd_T78 y123 x15_1).f1), .bool (true)]] (by rfl) rfl rfl (by (try simp only [List.map_toArray, List.map_cons, List.map_nil]); first | done | rfl | (simp only [List.length_drop, List.length_take]; rfl)) ?_
               with_reducible refine (flat_seg.calls x123000_1 x123001_1 x123002_1 ((rd_T78 y123 x15_1).f0) ((rd_T78 y123 x15_1).f1) (true) t144 t145 t146 t147 _ A70.out).mono ?_
               rintro e w77 ⟨rfl, hb⟩
               refine ⟨_, rfl, ?_⟩
               have n0_ := amk (Kd.R_below (by (with_reducible repeat (first | apply Kd.R_alloc | apply Kd.R_drewN | apply Kd.R_drew)); exact HO_3.out) hb)
               have n1_ := amk (Kd.R_below (by (with_reducible repeat (first | apply Kd.R_alloc | apply Kd.R_drewN | apply Kd.R_drew)); exact HO_5.out) hb)
               have n2_ := amk (blk_below (g := gb122) (o := .cells #[.int .i64 x123000_1, .int .i64 x123001_1, .bool x123002_1] 78 (0, 0)) (by (with_reducible repeat first | apply kN | apply kD | apply kA); exact BK122.out) hb)
               have n3_ := amk (blk_below (g := gb128) (o := .cells #[.int .i64 ((rd_T78 y123 x15_1).f0), .int .i64 ((rd_T78 y123 x15_1).f1), .bool (true)] 78 (0, 0)) (by (with_reducible repeat first | apply kN | apply kD | apply kA); exact BK128.out) hb)
               have n4_ := amk (blk_below (g := gb129) (o := .cells #[.int .i64 x130000_27, .int .i64 x130001_27, .bool x130002_27] 78 (0, 0)) (by (with_reducible repeat first | apply kN | apply kD | apply kA); exact BK129.out) hb)
               have n5_ := amk (below_step (by repeat (first | (with_reducible first | exact HB.out | apply bAl | apply bDN | apply bD1 | refine bSe ?_ GE122.out | refine bSe ?_ GE128.out | refine bSe ?_ GE129.out) | exact HB.out)) hb)
               clear HO_3
               clear HO_5
               clear BK122
               clear BK128
               clear BK129
               clear HB
               have HO_3 := n0_
               have HO_5 := n1_
               have BK122 := n2_
               have BK128 := n3_
               have BK129 := n4_
               have HB := n5_
               clear n0_ n1_ n2_ n3_ n4_ n5_
               (try clear hb)
               (try clear hb2)
               (try clear hk)
               (try clear hi)
               refine hK.out _ _ ⟨(blk_cell BK122.out 0).trans rfl, (blk_cell BK122.out 1).trans rfl, (blk_cell BK122.out 2).trans rfl, (blk_cell BK128.out 0).trans rfl, (blk_cell BK128.out 1).trans rfl, (blk_cell BK128.out 2).trans rfl⟩ (fun hHeld => ?_)
               clear hK K
               refine norm_ (a' := ?_) ?_ ?_
               rotate_left
               ·show Act.put _ (some 52) _ = _
                simp only [Act.put, sTA, sCZ, sCS, i64_w, i32_w]
                rfl
               refine one_ (i := 4) (N := some 53) #[true, true, true, true, true, false, true, false, false] rfl rfl (one_of HT_.out (by kernel_rfl)) (by decide) (fun K hK => ?_)
               refine value_ (w1 := ?_) (v := ?_) (by rfl) rfl ?_ ?_
               rotate_left 2
               ·go_simp
                constructor
                ·rfl
                ·rfl
               refine hK.out _ _ ⟨(blk_cell (blk_alloc BK122.out _) 0).trans rfl, (blk_cell (blk_alloc BK122.out _) 1).trans rfl, (blk_cell (blk_alloc BK122.out _) 2).trans rfl, (blk_cell (blk_alloc BK128.out _) 0).trans rfl, (blk_cell (blk_alloc BK128.out _) 1).trans rfl, (blk_cell (blk_alloc BK128.out _) 2).trans rfl⟩ (fun hHeld => ?_)
               clear hK K
               refine norm_ (a' := ?_) ?_ ?_
               rotate_left
               ·show Act.put _ (some 53) _ = _
                simp only [Act.put, sTA, sCZ, sCS, i64_w, i32_w]
                rfl
               refine one_ (i := 5) (N := some 54) #[true, true, true, true, true, true, true, false, false] rfl rfl (one_of HT_.out (by kernel_rfl)) (by decide) (fun K hK => ?_)
               refine Kd.R_append_step k34 (w0 := w) w.heap.size (by rfl) (.tmp 49) (.tmp 53) 31 34 (.agg #[(.int .i64 0), (.int .i64 0), (.int .i64 0), (.int .i64 0)]) 32 rfl Try.underlying31 info34 rfl (by decide) (by omega) u3 x3_1 (⟨t144, t145, t146, t147⟩ : S34) [.int .i64 t144, .int .i64 t145, .int .i64 t146, .int .i64 t147] (fun _ => True) (fun _ => False) rfl rfl ?aP (fun _ hk => hk.elim) ?aF ?aO ?aB ?aS ?aL ?_
               (case aP => exact k34_mkM _ _ _ (⟨t144, t145, t146, t147⟩ : S34))
               (case aB => exact (by repeat (first | (with_reducible first | exact HB.out | apply bAl | apply bDN | apply bD1 | refine bSe ?_ GE122.out | refine bSe ?_ GE128.out | refine bSe ?_ GE129.out) | exact HB.out)))
               (case aF => exact (fun _ _ => trivial))
               (case aO => exact (by (with_reducible repeat (first | apply Kd.R_alloc | apply Kd.R_drewN | apply Kd.R_drew)); exact HO_3.out))
               (case aS => exact (below_size (by repeat (first | (with_reducible first | exact HB.out | apply bAl | apply bDN | apply bD1 | refine bSe ?_ GE122.out | refine bSe ?_ GE128.out | refine bSe ?_ GE129.out) | exact HB.out))))
               (case aL => have := LMc71.out; omega)
               intro v149 w78 ho hb hg hat
               rw [← Ny148.out] at ho
               have n0_ := amk (Kd.R_over' (by (with_reducible repeat (first | apply Kd.R_alloc | apply Kd.R_drewN | apply Kd.R_drew)); exact HO_5.out) (Kd.R_typed (by (with_reducible repeat (first | apply Kd.R_alloc | apply Kd.R_drewN | apply Kd.R_drew)); exact HO_3.out)) (by decide) hg)
               have n1_ := amk (blk_grown (g := gb122) (o := .cells #[.int .i64 x123000_1, .int .i64 x123001_1, .bool x123002_1] 78 (0, 0)) (by (with_reducible repeat first | apply kN | apply kD | apply kA); exact BK122.out) hg (Kd.R_ne HO_3.out BK122.out (by decide)))
               have n2_ := amk (blk_grown (g := gb128) (o := .cells #[.int .i64 ((rd_T78 y123 x15_1).f0), .int .i64 ((rd_T78 y123 x15_1).f1), .bool (true)] 78 (0, 0)) (by (with_reducible repeat first | apply kN | apply kD | apply kA); exact BK128.out) hg (Kd.R_ne HO_3.out BK128.out (by decide)))
               have n3_ := amk (blk_grown (g := gb129) (o := .cells #[.int .i64 x130000_27, .int .i64 x130001_27, .bool x130002_27] 78 (0, 0)) (by (with_reducible repeat first | apply kN | apply kD | apply kA); exact BK129.out) hg (Kd.R_ne HO_3.out BK129.out (by decide)))
               have n4_ := amk (hb)
               have n5_ := amk (ho)
               clear HO_5
               clear BK122
               clear BK128
               clear BK129
               clear HB
               clear HO_3
               have HO_5 := n0_
               have BK122 := n1_
               have BK128 := n2_
               have BK129 := n3_
               have HB := n4_
               have HO150 := n5_
               clear n0_ n1_ n2_ n3_ n4_ n5_
               clear ho hb hg hat
               refine hK.out _ _ ⟨(blk_cell BK122.out 0).trans rfl, (blk_cell BK122.out 1).trans rfl, (blk_cell BK122.out 2).trans rfl, (blk_cell BK128.out 0).trans rfl, (blk_cell BK128.out 1).trans rfl, (blk_cell BK128.out 2).trans rfl⟩ (fun hHeld => ?_)
               clear hK K
               refine norm_ (a' := ?_) ?_ ?_
               rotate_left
               ·show Act.put _ (some 54) _ = _
                simp only [Act.put, sTA, sCZ, sCS, i64_w, i32_w]
                rfl
               refine pure_ (i := 7) (N := some 3) (v := ?_) (a' := ?_) #[true, true, true, true, true, true, true, true, false] rfl rfl (any_of HT_.out (by kernel_rfl)) (fun _ _ _ h => h) (Or.inl ⟨by rfl, ?_⟩) ?_ ?_
               rotate_left
               ·intro w'
                go_simp
                with_reducible rfl
               rotate_left
               ·simp only [Act.put, sTA, sCZ, sCS, i64_w, i32_w]
                rfl
               refine last_ (i := 8) (N := none) #[true, true, true, true, true, true, true, true, true] rfl rfl (one_of HT_.out (by kernel_rfl)) (by decide) (fun K hK => ?_)
               have hs79 : w78.cell? ⟨gb122, 0, none⟩ = some (.int .i64 x123000_1) := (blk_cell BK122.out 0).trans rfl
               have hfs79 := blk_frozen BK122.out 0
               have hns79_1 := NB128_122.out
               have hns79_2 := NB129_122.out
               have hms79_1 := NB122_128.out
               have hms79_2 := NB122_129.out
               have hs80 : w78.cell? ⟨gb122, 1, none⟩ = some (.int .i64 x123001_1) := (blk_cell BK122.out 1).trans rfl
               have hfs80 := blk_frozen BK122.out 1
               have hns80_1 := NB128_122.out
               have hns80_2 := NB129_122.out
               have hms80_1 := NB122_128.out
               have hms80_2 := NB122_129.out
               have hs81 : w78.cell? ⟨gb122, 2, none⟩ = some (.bool x123002_1) := (blk_cell BK122.out 2).trans rfl
               have hfs81 := blk_frozen BK122.out 2
               have hns81_1 := NB128_122.out
               have hns81_2 := NB129_122.out
               have hms81_1 := NB122_128.out
               have hms81_2 := NB122_129.out
               refine skip_ (w1 := ?_) (by rfl) rfl ?_ ?_
               rotate_left
               ·go_simp
                rfl
               refine hK.out _ _ ?_
               clear hK K
               refine done_ (done_of HT_.out (by kernel_rfl)) ?_
               have hcz82_0 : w78.cell? ⟨gb128, 0, none⟩ = some (.int .i64 ((rd_T78 y123 x15_1).f0)) := (blk_cell BK128.out 0).trans rfl
               have hcz82_1 : w78.cell? ⟨gb128, 1, none⟩ = some (.int .i64 ((rd_T78 y123 x15_1).f1)) := (blk_cell BK128.out 1).trans rfl
               have hcz82_2 : w78.cell? ⟨gb128, 2, none⟩ = some (.bool (true)) := (blk_cell BK128.out 2).trans rfl
               have hfz82_0 := blk_frozen BK128.out 0
               have hfz82_1 := blk_frozen BK128.out 1
               have hfz82_2 := blk_frozen BK128.out 2
               try go_wp2
               go_roundg kj27
               case measure => have := HK1.out; have := HJ10.out; have := HJ27.out; omega
               case rel => exact ⟨(y148), (([] : List (S78))), (wrap64 (x15_1 + 1)), (((rd_T78 y123 x15_1).f0)), (((rd_T78 y123 x15_1).f1)), ((true)), (by first | rfl | (simp; done) | (simp [*]; done)), H', ⟨by have := HK1.out; have := HJ10.out; have := HJ27.out; omega⟩, ⟨by (with_reducible repeat (first | apply Kd.R_alloc | apply Kd.R_drewN | apply Kd.R_drew)); exact Kd.R_mono (Kd.R_far (p := ⟨gb122, 2, none⟩) (Kd.R_far (p := ⟨gb122, 1, none⟩) (Kd.R_far (p := ⟨gb122, 0, none⟩) (Kd.R_types HO150.out BK122.out (by decide)) (fun _ hk => hk.2) (.int .i64 ((rd_T78 y123 x15_1).f0))) (fun _ hk => hk.2) (.int .i64 ((rd_T78 y123 x15_1).f1))) (fun _ hk => hk.2) (.bool (true))) (fun _ hk => trivial)⟩, ⟨by first | exact Kd.R_nil _ _ _ _ _ | exact Kd.N_nil _ _ _ _ _ | exact Kd.V_nil _ _ _ _ _ | exact Kd.Q_nil _ _ _ _ _ | exact Kd.S_nil _ _ _ _ _⟩, ⟨by (with_reducible repeat first | apply kN | apply kD | apply kA); refine blk_put (cs := #[.int .i64 ((rd_T78 y123 x15_1).f0), .int .i64 ((rd_T78 y123 x15_1).f1), .bool x123002_1]) ?_ 2 _ rfl; (with_reducible repeat first | apply kN | apply kD | apply kA); refine blk_put (cs := #[.int .i64 ((rd_T78 y123 x15_1).f0), .int .i64 x123001_1, .bool x123002_1]) ?_ 1 _ rfl; (with_reducible repeat first | apply kN | apply kD | apply kA); refine blk_put (cs := #[.int .i64 x123000_1, .int .i64 x123001_1, .bool x123002_1]) ?_ 0 _ rfl; (with_reducible repeat first | apply kN | apply kD | apply kA); exact BK122.out⟩, ⟨by repeat (first | (with_reducible first | exact HB.out | apply bAl | apply bDN | apply bD1 | refine bSe ?_ GE122.out | refine bSe ?_ GE128.out | refine bSe ?_ GE129.out) | exact HB.out)⟩⟩
              ·rw [if_neg c71] at H
               exact absurd H (by simp)
             ·replace c69 := Bool.eq_false_iff.mpr c69
              subst c69
              have H1 : (flat_lines.l0 kj27 x3_1 (([(⟨((rd_T78 y123 x15_1).f0), ((rd_T78 y123 x15_1).f1), (false)⟩ : S78)] : List (S78))) y123 (y123.length : Int) (wrap64 (x15_1 + 1)) x123000_1 x123001_1 x123002_1) = some r := by rw [if_neg (show ¬ (false = true) by decide)] at H; exact H
              clear H
              have H := H1
              clear H1
              obtain ⟨y151, hy151⟩ : ∃ y_ : List (S78), y_ = (([(⟨((rd_T78 y123 x15_1).f0), ((rd_T78 y123 x15_1).f1), (false)⟩ : S78)] : List (S78))) := ⟨_, rfl⟩
              replace H : (flat_lines.l0 kj27 x3_1 y151 y123 (y123.length : Int) (wrap64 (x15_1 + 1)) x123000_1 x123001_1 x123002_1) = some r := by first | (rw [hy151]; with_reducible exact H) | (have H2_ := (Option.bind_some _ _).symm.trans H; rw [hy151]; with_reducible exact H2_) | (have H2_ := (Option.bind_some _ _).symm.trans H; with_reducible exact H2_) | with_reducible exact H | (rw [hy151]; exact H) | exact H
              have Ny151 := amk hy151
              clear hy151
              have H' := amk H
              clear H
              obtain ⟨Ao83, co83, eo83⟩ := Kd.R_slice HO_5.out
              subst eo83
              have hnb84 := NB128_122.out
              have hnc84 := NB122_128.out
              have hnb85 := NB128_129.out
              have hnc85 := NB129_128.out
              have hcz86_0 : wc.cell? ⟨gb128, 0, none⟩ = some (.int .i64 ((rd_T78 y123 x15_1).f0)) := (blk_cell BK128.out 0).trans rfl
              have hcz86_1 : wc.cell? ⟨gb128, 1, none⟩ = some (.int .i64 ((rd_T78 y123 x15_1).f1)) := (blk_cell BK128.out 1).trans rfl
              have hcz86_2 : wc.cell? ⟨gb128, 2, none⟩ = some (.bool (false)) := (blk_cell BK128.out 2).trans rfl
              have hfz86_0 := blk_frozen BK128.out 0
              have hfz86_1 := blk_frozen BK128.out 1
              have hfz86_2 := blk_frozen BK128.out 2
              go_wp2_with (first | ((with_reducible refine gate_dst (N := 60) rfl ?_); (try (refine gate_guard (by rfl) ?_; dsimp only)); refine Kd.R_lit k78 _ 78 ?hg (N := 60) ?hd (xs := ([(⟨((rd_T78 y123 x15_1).f0), ((rd_T78 y123 x15_1).f1), (false)⟩ : S78)] : List (S78))) (inner := [.int .i64 ((rd_T78 y123 x15_1).f0), .int .i64 ((rd_T78 y123 x15_1).f1), .bool (false)]) (ok := fun _ => True) (okp := fun _ => True) ?hr ?hp (fun _ hk => hk) trivial (Below.refl _ _) (Nat.le_refl _) (by simp) ?_; (case hd => rfl); (case hg => rfl); (case hr => first | (go_simp; done) | (go_simp; rfl)); (case hp => exact (Reps.c3 (show Kd.M k78 _ _ _ (⟨((rd_T78 y123 x15_1).f0), ((rd_T78 y123 x15_1).f1), (false)⟩ : S78) [.int .i64 ((rd_T78 y123 x15_1).f0), .int .i64 ((rd_T78 y123 x15_1).f1), .bool (false)] from (k78_mkM _ _ _ (⟨((rd_T78 y123 x15_1).f0), ((rd_T78 y123 x15_1).f1), (false)⟩ : S78) )) (Reps.none _ _))); intro v152 w87 ho88 hb hg_ hnew_; clear hg_ hnew_; (first | rw [← Ny151.out] at ho88 | (simp only [Int.reduceToNat] at ho88; rw [← Ny151.out] at ho88)); have n0_ := amk (Kd.R_below (by (with_reducible repeat (first | apply Kd.R_alloc | apply Kd.R_drewN | apply Kd.R_drew)); exact HO_3.out) hb); have n1_ := amk (Kd.R_elder' (by (with_reducible repeat (first | apply Kd.R_alloc | apply Kd.R_drewN | apply Kd.R_drew)); exact HO_5.out) (Kd.R_base ho88) hb); have n2_ := amk (Kd.R_lower (Kd.R_newB (Kd.R_newB (Kd.R_newB (Kd.R_new' ho88 (Kd.R_lt (by (with_reducible repeat (first | apply Kd.R_alloc | apply Kd.R_drewN | apply Kd.R_drew)); exact HO_5.out))) (g := gb122) (o := .cells #[.int .i64 x123000_1, .int .i64 x123001_1, .bool x123002_1] 78 (0, 0)) (by (with_reducible repeat first | apply kN | apply kD | apply kA); exact BK122.out)) (g := gb128) (o := .cells #[.int .i64 ((rd_T78 y123 x15_1).f0), .int .i64 ((rd_T78 y123 x15_1).f1), .bool (false)] 78 (0, 0)) (by (with_reducible repeat first | apply kN | apply kD | apply kA); exact BK128.out)) (g := gb129) (o := .cells #[.int .i64 x130000_27, .int .i64 x130001_27, .bool x130002_27] 78 (0, 0)) (by (with_reducible repeat first | apply kN | apply kD | apply kA); exact BK129.out)) (below_size (by repeat (first | (with_reducible first | exact HB.out | apply bAl | apply bDN | apply bD1 | refine bSe ?_ GE122.out | refine bSe ?_ GE128.out | refine bSe ?_ GE129.out) | exact HB.out)))); have n3_ := amk (blk_below (g := gb122) (o := .cells #[.int .i64 x123000_1, .int .i64 x123001_1, .bool x123002_1] 78 (0, 0)) (by (with_reducible repeat first | apply kN | apply kD | apply kA); exact BK122.out) hb); have n4_ := amk (blk_below (g := gb128) (o := .cells #[.int .i64 ((rd_T78 y123 x15_1).f0), .int .i64 ((rd_T78 y123 x15_1).f1), .bool (false)] 78 (0, 0)) (by (with_reducible repeat first | apply kN | apply kD | apply kA); exact BK128.out) hb); have n5_ := amk (blk_below (g := gb129) (o := .cells #[.int .i64 x130000_27, .int .i64 x130001_27, .bool x130002_27] 78 (0, 0)) (by (with_reducible repeat first | apply kN | apply kD | apply kA); exact BK129.out) hb); have n6_ := amk (below_step (by repeat (first | (with_reducible first | exact HB.out | apply bAl | apply bDN | apply bD1 | refine bSe ?_ GE122.out | refine bSe ?_ GE128.out | refine bSe ?_ GE129.out) | exact HB.out)) hb); clear HO_3; clear HO_5; clear BK122; clear BK128; clear BK129; clear HB; have HO_3 := n0_; have HO_5 := n1_; have HO153 := n2_; have BK122 := n3_; have BK128 := n4_; have BK129 := n5_; have HB := n6_; clear n0_ n1_ n2_ n3_ n4_ n5_ n6_; clear hb ho88))
              go_roundg kj27
              case measure => have := HK1.out; have := HJ10.out; have := HJ27.out; omega
              case rel => exact ⟨(x3_1), (y151), (wrap64 (x15_1 + 1)), (x123000_1), (x123001_1), (x123002_1), (by first | rfl | (simp; done) | (simp [*]; done)), H', ⟨by have := HK1.out; have := HJ10.out; have := HJ27.out; omega⟩, ⟨by (with_reducible repeat (first | apply Kd.R_alloc | apply Kd.R_drewN | apply Kd.R_drew)); exact HO_3.out⟩, ⟨by (with_reducible repeat (first | apply Kd.R_alloc | apply Kd.R_drewN | apply Kd.R_drew)); exact Kd.R_mono HO153.out (fun _ hk => hk.1.1.2)⟩, ⟨by (with_reducible repeat first | apply kN | apply kD | apply kA); exact BK122.out⟩, ⟨by repeat (first | (with_reducible first | exact HB.out | apply bAl | apply bDN | apply bD1 | refine bSe ?_ GE122.out | refine bSe ?_ GE128.out | refine bSe ?_ GE129.out) | exact HB.out)⟩⟩
       ·rw [if_neg c10] at H
        exact absurd H (by simp)
      ·rw [if_neg c9] at H
       exact absurd H (by simp)
     ·rw [if_neg c8] at H
      have c8b0 : decide (x15_1 < (y123.length : Int)) = false := decide_eq_false c8
      clear c8
      obtain rfl := Option.some.inj H
      go_wp2
      go_ret
      exact ⟨_, by first | rfl | (simp [errW_none, errW_some] <;> rfl) | (simp [*, errW_none, errW_some] <;> rfl), by (with_reducible repeat (first | apply Kd.R_alloc | apply Kd.R_drewN | apply Kd.R_drew)); exact HO_3.out, by repeat (first | (with_reducible first | exact HB.out | apply bAl | apply bDN | apply bD1 | refine bSe ?_ GE122.out) | exact HB.out)⟩
  ·rw [if_neg c3] at H
   exact absurd H (by simp)
 ·rw [if_neg c2] at H
  exact absurd H (by simp)

end Go.Proofs.Ytjmflccbddjlhaa.PFm
