-- WRITTEN BY A PROGRAM OF THIS SESSION (wip/xprint) out of the translation. Not trusted: Lean checks it.
import Derived.Test.YtenlimmgbgcgpaaPAnx0
import Derived.Test.YtenlimmgbgcgpaaPAnx1
import Derived.Test.YtenlimmgbgcgpaaPAnx2
namespace Go.Proofs.Ytenlimmgbgcgpaa.PAn
open Go.RowKit Go.Proofs.YtenlimmgbgcgpaaW.PrintWords Go.Proofs.YtenlimmgbgcgpaaW.PrintLast Go.Proofs.YtenlimmgbgcgpaaW.PrintMore
attribute [local go_sem] max2_int min2_int max_two min_two max_three min_three max_four min_four   -- for this text's walks alone
set_option linter.unusedVariables false
set_option linter.unusedSimpArgs false

/-! ### sfnt_Lay: function 16 -/
mutual
def sfnt_Lay.j0 : Nat → List ByteArray → List (List Int) → Bool → Option (List Int × Int)
  | 0, _, _, _ => none
  | k + 1, x0, x1, x19 => if x19 = true then (some (([] : List Int), 1)) else (sfnt_Lay.l0 k x0 x1 (([0, 1, 0, 0, 0, ((x0.length : Int)) % 256, 0, 0, 0, 0, 0, 0] : List Int)) (wrap64 (12 + (wrap64 ((x0.length : Int) * 16)))) x0 (x0.length : Int) 0)
def sfnt_Lay.l0 : Nat → List ByteArray → List (List Int) → List Int → Int → List ByteArray → Int → Int → Option (List Int × Int)
  | 0, _, _, _, _, _, _, _ => none
  | k + 1, x0, x1, x6, x7, x28, x29, x30 => if x30 < x29 then (if 0 ≤ x30 then (if x30 < (x28.length : Int) then (if ((rdOf ByteArray.empty x28 x30).size : Int) = 4 then (if x30 ≤ (x0.length : Int) then ((slices_Contains_string_string.f k (x0.take (x30 : Int).toNat) (rdOf ByteArray.empty x28 x30)).bind fun t157 => (sfnt_Lay.j2 k x0 x1 x6 x7 x30 (rdOf ByteArray.empty x28 x30) x28 x29 x30 t157)) else (none)) else (sfnt_Lay.j2 k x0 x1 x6 x7 x30 (rdOf ByteArray.empty x28 x30) x28 x29 x30 true)) else (none)) else (none)) else ((slices_Concat_byte_byte.f k x1).bind fun t146 => ((slices_Concat_byte_byte.f k (([x6, t146] : List (List Int)))).bind fun t152 => (some (t152, 0))))
def sfnt_Lay.j2 : Nat → List ByteArray → List (List Int) → List Int → Int → Int → ByteArray → List ByteArray → Int → Int → Bool → Option (List Int × Int)
  | 0, _, _, _, _, _, _, _, _, _, _ => none
  | k + 1, x0, x1, x6, x7, x8, x9, x28, x29, x30, x44 => if x44 = true then (some (([] : List Int), 1)) else (if x9.size ≤ 9223372036854775807 then ((sfnt_u32.f 0).bind fun t161 => ((sfnt_u32.f x7).bind fun t164 => (if 0 ≤ x8 then (if x8 < (x1.length : Int) then ((sfnt_u32.f ((rd_L2 x1 x8).length : Int)).bind fun t168 => ((slices_Concat_byte_byte.f k (([x6, (bytesOf x9), t161, t164, t168] : List (List Int)))).bind fun t174 => (sfnt_Lay.l0 k x0 x1 t174 (wrap64 (x7 + ((rd_L2 x1 x8).length : Int))) x28 x29 (wrap64 (x30 + 1))))) else (none)) else (none)))) else (none))
end
def sfnt_Lay.f (k : Nat) (l0 : List ByteArray) (l1 : List (List Int)) : Option (List Int × Int) := if (l0.length : Int) = (l1.length : Int) then (sfnt_Lay.j0 k l0 l1 (decide ((l0.length : Int) > 64))) else (sfnt_Lay.j0 k l0 l1 true)
theorem sfnt_Lay.mono_l : ∀ k, (∀ y0 y1 y2, LeO (sfnt_Lay.j0 k y0 y1 y2) (sfnt_Lay.j0 (k + 1) y0 y1 y2)) ∧ (∀ y0 y1 y2 y3 y4 y5 y6, LeO (sfnt_Lay.l0 k y0 y1 y2 y3 y4 y5 y6) (sfnt_Lay.l0 (k + 1) y0 y1 y2 y3 y4 y5 y6)) ∧ (∀ y0 y1 y2 y3 y4 y5 y6 y7 y8 y9, LeO (sfnt_Lay.j2 k y0 y1 y2 y3 y4 y5 y6 y7 y8 y9) (sfnt_Lay.j2 (k + 1) y0 y1 y2 y3 y4 y5 y6 y7 y8 y9))
  | 0 => ⟨fun _ _ _ r h => by simp [sfnt_Lay.j0] at h, fun _ _ _ _ _ _ _ r h => by simp [sfnt_Lay.l0] at h, fun _ _ _ _ _ _ _ _ _ _ r h => by simp [sfnt_Lay.j2] at h⟩
  | k + 1 => by
    obtain ⟨ih0, ih1, ih2⟩ := sfnt_Lay.mono_l k
    refine ⟨?_, ?_, ?_⟩
    · intro y0 y1 y2
      unfold sfnt_Lay.j0
      repeat' first
      | (with_reducible exact ih0 _ _ _)
      | (with_reducible exact ih1 _ _ _ _ _ _ _)
      | (with_reducible exact ih2 _ _ _ _ _ _ _ _ _ _)
      | (with_reducible exact slices_Concat_byte_byte.mono _ _)
      | (with_reducible exact slices_Contains_string_string.mono _ _ _)
      | (with_reducible exact LeO.refl _)
      | (with_reducible exact LeO.none _)
      | (with_reducible refine LeO.ite ?_ ?_)
      | (with_reducible refine LeO.bind ?_ (fun _ => ?_))
      | exact ih0 _ _ _
      | exact ih1 _ _ _ _ _ _ _
      | exact ih2 _ _ _ _ _ _ _ _ _ _
      | exact slices_Concat_byte_byte.mono _ _
      | exact slices_Contains_string_string.mono _ _ _
      | exact LeO.none _
      | refine LeO.ite ?_ ?_
      | refine LeO.bind ?_ (fun _ => ?_)
    · intro y0 y1 y2 y3 y4 y5 y6
      unfold sfnt_Lay.l0
      repeat' first
      | (with_reducible exact ih0 _ _ _)
      | (with_reducible exact ih1 _ _ _ _ _ _ _)
      | (with_reducible exact ih2 _ _ _ _ _ _ _ _ _ _)
      | (with_reducible exact slices_Concat_byte_byte.mono _ _)
      | (with_reducible exact slices_Contains_string_string.mono _ _ _)
      | (with_reducible exact LeO.refl _)
      | (with_reducible exact LeO.none _)
      | (with_reducible refine LeO.ite ?_ ?_)
      | (with_reducible refine LeO.bind ?_ (fun _ => ?_))
      | exact ih0 _ _ _
      | exact ih1 _ _ _ _ _ _ _
      | exact ih2 _ _ _ _ _ _ _ _ _ _
      | exact slices_Concat_byte_byte.mono _ _
      | exact slices_Contains_string_string.mono _ _ _
      | exact LeO.none _
      | refine LeO.ite ?_ ?_
      | refine LeO.bind ?_ (fun _ => ?_)
    · intro y0 y1 y2 y3 y4 y5 y6 y7 y8 y9
      unfold sfnt_Lay.j2
      repeat' first
      | (with_reducible exact ih0 _ _ _)
      | (with_reducible exact ih1 _ _ _ _ _ _ _)
      | (with_reducible exact ih2 _ _ _ _ _ _ _ _ _ _)
      | (with_reducible exact slices_Concat_byte_byte.mono _ _)
      | (with_reducible exact slices_Contains_string_string.mono _ _ _)
      | (with_reducible exact LeO.refl _)
      | (with_reducible exact LeO.none _)
      | (with_reducible refine LeO.ite ?_ ?_)
      | (with_reducible refine LeO.bind ?_ (fun _ => ?_))
      | exact ih0 _ _ _
      | exact ih1 _ _ _ _ _ _ _
      | exact ih2 _ _ _ _ _ _ _ _ _ _
      | exact slices_Concat_byte_byte.mono _ _
      | exact slices_Contains_string_string.mono _ _ _
      | exact LeO.none _
      | refine LeO.ite ?_ ?_
      | refine LeO.bind ?_ (fun _ => ?_)
theorem sfnt_Lay.mono : ∀ a0 a1 k, LeO (sfnt_Lay.f k a0 a1) (sfnt_Lay.f (k + 1) a0 a1) := by
  intro a0 a1 k
  obtain ⟨ih0, ih1, ih2⟩ := sfnt_Lay.mono_l k
  unfold sfnt_Lay.f
  repeat' first
      | (with_reducible exact ih0 _ _ _)
      | (with_reducible exact ih1 _ _ _ _ _ _ _)
      | (with_reducible exact ih2 _ _ _ _ _ _ _ _ _ _)
      | (with_reducible exact slices_Concat_byte_byte.mono _ _)
      | (with_reducible exact slices_Contains_string_string.mono _ _ _)
      | (with_reducible exact LeO.refl _)
      | (with_reducible exact LeO.none _)
      | (with_reducible refine LeO.ite ?_ ?_)
      | (with_reducible refine LeO.bind ?_ (fun _ => ?_))
      | exact ih0 _ _ _
      | exact ih1 _ _ _ _ _ _ _
      | exact ih2 _ _ _ _ _ _ _ _ _ _
      | exact slices_Concat_byte_byte.mono _ _
      | exact slices_Contains_string_string.mono _ _ _
      | exact LeO.none _
      | refine LeO.ite ?_ ?_
      | refine LeO.bind ?_ (fun _ => ?_)
def sfnt_Lay.T10 : Bool × List (List Nat × List Nat) := (true, [([], []), ([], []), ([1], [1]), ([], []), ([], []), ([4, 3], [4]), ([], []), ([], []), ([6, 7], [6, 7]), ([8], [8]), ([9], [9]), ([10, 5], [10]), ([0, 2, 3, 5, 11], [0, 2, 3, 5, 11]), ([12, 11], [12]), ([13, 13, 0, 1, 2, 3, 4, 5, 6, 7, 8, 9, 10, 11, 12, 13], [0, 13])])
def sfnt_Lay.B10 : List Nat := [0, 0, 2, 0, 0, 24, 0, 0, 192, 448, 960, 2040, 4095, 8191, 16383]
theorem sfnt_Lay.tab10 : rtab .any (opsOf Try.f16 10) = sfnt_Lay.T10 := by kernel_rfl
theorem sfnt_Lay.bits10 : waitsOk sfnt_Lay.T10.2 sfnt_Lay.B10 = true := by kernel_rfl
set_option maxHeartbeats 8000000 in
set_option maxRecDepth 100000 in
theorem sfnt_Lay.calls (k : Nat) (A0 : Option Addr) (c0 : Nat) (l0 : List ByteArray) (A1 : Option Addr) (c1 : Nat) (l1 : List (List Int)) (r1 : List Int) (r2 : Int) (w : World) (hr0 : Kd.C Kd.string w A0 l0.length l0) (hc0 : l0.length ≤ c0) (hr1 : Kd.C (Kd.slice 5 (Kd.int .u8)) w A1 l1.length l1) (hc1 : l1.length ≤ c1) (h : sfnt_Lay.f k l0 l1 = some (r1, r2)) :
    Calls Try.prog 16 #[.slice A0 l0.length c0, .slice A1 l1.length c1] w fun e w' => ∃ v0_ : Value, e = .returned (.tuple #[v0_, .int .i64 r2]) ∧ Kd.V (Kd.int .u8) 5 w' w.heap.size (fun k_ => (w.heap.size ≤ k_)) v0_ r1 ∧ Below w.heap.size w w' := by
  have HR0 := Aside0.mk hr0
  have HC0 := Aside0.mk hc0
  clear hr0 hc0
  have HR1 := Aside0.mk hr1
  have HC1 := Aside0.mk hc1
  clear hr1 hc1
  have HB := Aside0.mk (Below.refl w.heap.size w)
  have H : (if (l0.length : Int) = (l1.length : Int) then (sfnt_Lay.j0 k l0 l1 (decide ((l0.length : Int) > 64))) else (sfnt_Lay.j0 k l0 l1 true)) = some (r1, r2) := h
  clear h
  have HC3 := Aside0.mk H
  clear H
  go_enter Try.func16, Try.ntmps16
  go_upto_region 1 with (fail)
  go_cut [19] (fun v19 wc => ∃ (kq : Nat) (x19_2 : Bool), v19 = .bool x19_2 ∧ Aside0 (sfnt_Lay.j0 kq l0 l1 x19_2 = some (r1, r2)) ∧ Aside0 (kq ≤ k) ∧ Aside0 (Below w.heap.size w wc))
  case first =>
    have H := HC3.out
    clear HC3
    by_cases c4 : (l0.length : Int) = (l1.length : Int)
    · rw [if_pos c4] at H
      have c4b0 : ((l0.length : Int) == (l1.length : Int)) = true := beq_iff_eq.mpr c4
      have c4b1 : ((l0.length : Int) != (l1.length : Int)) = false := bne_eq_false_iff_eq.mpr c4
      have c4b2 : (l0.length == l1.length) = true := by first | simpa using c4 | (simp at c4 ⊢; omega)
      clear c4
      (first | rw [c4b0] | (simp only [i64_w, i32_w]; rw [c4b0]) | skip)
      have H' := Aside0.mk H
      clear H
      go_wp2
      go_meet
      case rel => exact ⟨_, (decide ((l0.length : Int) > 64)), (by first | rfl | (simp; done) | (simp [*]; done)), H', ⟨by first | omega | exact Nat.le_refl _⟩, ⟨by repeat (first | (with_reducible first | exact HB.out | apply below_alloc | apply pw_below_drewN | apply below_drew1) | exact HB.out)⟩⟩
    · rw [if_neg c4] at H
      have c4b0 : ((l0.length : Int) == (l1.length : Int)) = false := beq_eq_false_iff_ne.mpr c4
      have c4b1 : ((l0.length : Int) != (l1.length : Int)) = true := bne_iff_ne.mpr c4
      have c4b2 : (l0.length == l1.length) = false := by first | simpa using c4 | (simp at c4 ⊢; omega)
      (first | rw [c4b0] | (simp only [i64_w, i32_w]; rw [c4b0]) | skip)
      have H' := Aside0.mk H
      clear H
      go_wp2
      go_meet
      case rel => exact ⟨_, (true), (by first | rfl | (simp; done) | (simp [*]; done)), H', ⟨by first | omega | exact Nat.le_refl _⟩, ⟨by repeat (first | (with_reducible first | exact HB.out | apply below_alloc | apply pw_below_drewN | apply below_drew1) | exact HB.out)⟩⟩
  case rest =>
    clear HC3
    try clear c1
    try clear p2
    try clear c4
    try clear c4b0
    try clear c4b1
    try clear c4b2
    obtain ⟨kq, x19_2, rfl, HA, HJ2, HB⟩ := hcut
    cases kq with
    | zero => exact absurd HA.out (by simp [sfnt_Lay.j0])
    | succ kj2 =>
      have H := HA.out
      clear HA
      simp only [sfnt_Lay.j0] at H
      by_cases c5 : x19_2 = true
      · subst c5
        have H1 : (some (([] : List Int), 1)) = some (r1, r2) := by rw [if_pos rfl] at H; exact H
        clear H
        have H := H1
        clear H1
        simp only [Option.some.injEq, Prod.mk.injEq] at H
        obtain ⟨rfl, rfl⟩ := H
        go_wp2
        go_ret2
        exact ⟨_, by first | rfl | (simp [errW_none, errW_some] <;> rfl) | (simp [*, errW_none, errW_some] <;> rfl), Kd.V_nil _ _ _ _ _, by repeat (first | (with_reducible first | exact HB.out | apply below_alloc | apply pw_below_drewN | apply below_drew1) | exact HB.out)⟩
      · replace c5 := Bool.eq_false_iff.mpr c5
        subst c5
        have H1 : (sfnt_Lay.l0 kj2 l0 l1 (([0, 1, 0, 0, 0, ((l0.length : Int)) % 256, 0, 0, 0, 0, 0, 0] : List Int)) (wrap64 (12 + (wrap64 ((l0.length : Int) * 16)))) l0 (l0.length : Int) 0) = some (r1, r2) := by rw [if_neg (show ¬ (false = true) by decide)] at H; exact H
        clear H
        have H := H1
        clear H1
        obtain ⟨y143, hy143⟩ : ∃ y_ : List Int, y_ = (([0, 1, 0, 0, 0, ((l0.length : Int)) % 256, 0, 0, 0, 0, 0, 0] : List Int)) := ⟨_, rfl⟩
        replace H : (sfnt_Lay.l0 kj2 l0 l1 y143 (wrap64 (12 + (wrap64 ((l0.length : Int) * 16)))) l0 (l0.length : Int) 0) = some (r1, r2) := by first | (rw [hy143]; with_reducible exact H) | (have H2_ := (Option.bind_some _ _).symm.trans H; rw [hy143]; with_reducible exact H2_) | (have H2_ := (Option.bind_some _ _).symm.trans H; with_reducible exact H2_) | with_reducible exact H | (rw [hy143]; exact H) | exact H
        have Ny143 := Aside0.mk hy143
        clear hy143
        have H' := Aside0.mk H
        clear H
        go_wp2_with (first | ((with_reducible refine gate_dst (N := 23) rfl ?_); (try (refine gate_guard (by rfl) ?_; dsimp only)); refine Kd.R_lit (Kd.int .u8) _ 5 ?hg (N := 23) ?hd (xs := ([0, 1, 0, 0, 0, ((l0.length : Int)) % 256, 0, 0, 0, 0, 0, 0] : List Int)) (inner := [.int .u8 0, .int .u8 1, .int .u8 0, .int .u8 0, .int .u8 0, .int .u8 (((l0.length : Int)) % 256), .int .u8 0, .int .u8 0, .int .u8 0, .int .u8 0, .int .u8 0, .int .u8 0]) (ok := fun _ => True) (okp := fun _ => True) ?hr ?hp (fun _ hk => by first | exact hk | (revert hk; (try simp only [and_imp]); intros; repeat' (first | assumption | trivial | apply And.intro))) trivial (Below.refl _ _) (Nat.le_refl _) (by simp) ?_; (case hd => rfl); (case hg => rfl); (case hr => first | (go_simp; done) | (go_simp; rfl)); (case hp => exact (Reps.one (show Kd.M (Kd.int .u8) _ _ _ 0 [.int .u8 0] from rfl) (Reps.one (show Kd.M (Kd.int .u8) _ _ _ 1 [.int .u8 1] from rfl) (Reps.one (show Kd.M (Kd.int .u8) _ _ _ 0 [.int .u8 0] from rfl) (Reps.one (show Kd.M (Kd.int .u8) _ _ _ 0 [.int .u8 0] from rfl) (Reps.one (show Kd.M (Kd.int .u8) _ _ _ 0 [.int .u8 0] from rfl) (Reps.one (show Kd.M (Kd.int .u8) _ _ _ (((l0.length : Int)) % 256) [.int .u8 (((l0.length : Int)) % 256)] from rfl) (Reps.one (show Kd.M (Kd.int .u8) _ _ _ 0 [.int .u8 0] from rfl) (Reps.one (show Kd.M (Kd.int .u8) _ _ _ 0 [.int .u8 0] from rfl) (Reps.one (show Kd.M (Kd.int .u8) _ _ _ 0 [.int .u8 0] from rfl) (Reps.one (show Kd.M (Kd.int .u8) _ _ _ 0 [.int .u8 0] from rfl) (Reps.one (show Kd.M (Kd.int .u8) _ _ _ 0 [.int .u8 0] from rfl) (Reps.one (show Kd.M (Kd.int .u8) _ _ _ 0 [.int .u8 0] from rfl) (Reps.none _ _)))))))))))))); intro v144 w6 ho7 hb hg_ hnew_; clear hg_ hnew_; (first | rw [← Ny143.out] at ho7 | (simp only [Int.reduceToNat] at ho7; rw [← Ny143.out] at ho7)); have n0_ := Aside0.mk (Kd.R_lower (Kd.R_newM (M := fun k_ => (w.heap.size ≤ k_)) ho7 (below_size (by repeat (first | (with_reducible first | exact HB.out | apply below_alloc | apply pw_below_drewN | apply below_drew1) | exact HB.out))) (fun k_ h_ => h_)) (below_size (by repeat (first | (with_reducible first | exact HB.out | apply below_alloc | apply pw_below_drewN | apply below_drew1) | exact HB.out)))); have n1_ := Aside0.mk (below_step (by repeat (first | (with_reducible first | exact HB.out | apply below_alloc | apply pw_below_drewN | apply below_drew1) | exact HB.out)) hb); clear HB; have HO145 := n0_; have HB := n1_; clear n0_ n1_; clear hb ho7))
        go_loopg [6, 7, 30] kj2 (fun kq v6 v7 v30 w' => ∃ (x6_2 : List Int) (x7_2 : Int) (x30_2 : Int), v7 = .int .i64 x7_2 ∧ v30 = .int .i64 x30_2 ∧ Aside0 (sfnt_Lay.l0 kq l0 l1 x6_2 x7_2 l0 (l0.length : Int) x30_2 = some (r1, r2)) ∧ Aside0 (kq ≤ kj2) ∧ Aside0 (Kd.R (Kd.int .u8) 5 w' w.heap.size (fun k_ => (w.heap.size ≤ k_)) v6 x6_2) ∧ Aside0 (Below w.heap.size w w'))
        case atStart => exact ⟨(y143), (wrap64 (12 + (wrap64 ((l0.length : Int) * 16)))), (0), (by first | rfl | (simp; done) | (simp [*]; done)), (by first | rfl | (simp; done) | (simp [*]; done)), H', ⟨Nat.le_refl _⟩, ⟨by (with_reducible repeat (first | apply Kd.R_alloc | apply Kd.R_drewN | apply Kd.R_drew)); first | exact Kd.R_mono HO145.out (fun _ hk => by first | exact hk.1 | (revert hk; (try simp only [and_imp]); intros; repeat' (first | assumption | trivial | apply And.intro))) | exact Kd.R_mono HO145.out (fun _ hk => by revert hk; (try simp only [and_imp]); intros; repeat' (first | assumption | trivial | apply And.intro))⟩, ⟨by repeat (first | (with_reducible first | exact HB.out | apply below_alloc | apply pw_below_drewN | apply below_drew1) | exact HB.out)⟩⟩
        case round =>
          clear H'
          try clear c1
          try clear p2
          try clear c4
          try clear c4b0
          try clear c4b1
          try clear c4b2
          try clear c5
          try clear p6
          try clear p2
          obtain ⟨x6_2, x7_2, x30_2, rfl, rfl, HA, HK2, HO_6, HB⟩ := hrel
          cases gk with
          | zero => exact absurd HA.out (by simp [sfnt_Lay.l0])
          | succ k2 =>
            have H := HA.out
            clear HA
            simp only [sfnt_Lay.l0] at H
            by_cases c8 : x30_2 < (l0.length : Int)
            · rw [if_pos c8] at H
              have c8b0 : decide (x30_2 < (l0.length : Int)) = true := decide_eq_true c8
              clear c8
              by_cases c9 : 0 ≤ x30_2
              · rw [if_pos c9] at H
                have c9b0 : decide (0 ≤ x30_2) = true := decide_eq_true c9
                clear c9
                by_cases c10 : x30_2 < (l0.length : Int)
                · rw [if_pos c10] at H
                  have c10b0 : decide (x30_2 < (l0.length : Int)) = true := decide_eq_true c10
                  clear c10
                  have HC11 := Aside0.mk H
                  clear H
                  have p155 : 0 ≤ (x30_2 : Int) := of_decide_eq_true (by first | (with_reducible assumption) | assumption)
                  have q155 : x30_2 < (l0.length : Int) := of_decide_eq_true (by first | (with_reducible assumption) | assumption)
                  obtain ⟨ad155, e155, hx155_0⟩ := Kd.at_string HR0.out x30_2 p155 q155
                  cases e155
                  replace hx155_0 := (HB.out.cell (cLt w _ hx155_0)).trans hx155_0
                  replace p155 := eq_true p155
                  replace q155 := eq_true q155
                  go_upto_region 8 with (fail)
                  go_cut [44] (fun v44 wc => ∃ (kq : Nat) (x44_10 : Bool), v44 = .bool x44_10 ∧ Aside0 (sfnt_Lay.j2 kq l0 l1 x6_2 x7_2 x30_2 (rdOf ByteArray.empty l0 x30_2) l0 (l0.length : Int) x30_2 x44_10 = some (r1, r2)) ∧ Aside0 (kq ≤ k2) ∧ Aside0 (Kd.R (Kd.int .u8) 5 wc w.heap.size (fun k_ => (w.heap.size ≤ k_)) u6 x6_2) ∧ Aside0 (Below w.heap.size w wc))
                  case first =>
                    have H := HC11.out
                    clear HC11
                    by_cases c12 : ((rdOf ByteArray.empty l0 x30_2).size : Int) = 4
                    · rw [if_pos c12] at H
                      have c12b0 : (((rdOf ByteArray.empty l0 x30_2).size : Int) == 4) = true := beq_iff_eq.mpr c12
                      have c12b1 : (((rdOf ByteArray.empty l0 x30_2).size : Int) != 4) = false := bne_eq_false_iff_eq.mpr c12
                      clear c12
                      (first | rw [c12b0] | (simp only [i64_w, i32_w]; rw [c12b0]) | skip)
                      have c13b0 := eq_true (of_decide_eq_true (by first | (with_reducible assumption) | assumption) : 0 ≤ x30_2)
                      by_cases c14 : x30_2 ≤ (l0.length : Int)
                      · rw [if_pos c14] at H
                        have c14b0 := eq_true c14
                        have c14b1 : decide (x30_2 ≤ (l0.length : Int)) = true := decide_eq_true c14
                        clear c14
                        replace H := Option.bind_eq_some_iff.mp H
                        obtain ⟨t157, A150, H⟩ := H
                        replace H : (sfnt_Lay.j2 k2 l0 l1 x6_2 x7_2 x30_2 (rdOf ByteArray.empty l0 x30_2) l0 (l0.length : Int) x30_2 t157) = some (r1, r2) := H
                        have A15 := Aside0.mk A150
                        clear A150
                        have H' := Aside0.mk H
                        clear H
                        obtain ⟨i016, hi016, _, hsz16, _⟩ := info_parts info9
                        obtain ⟨hcut16, hA16, hC16⟩ := print_take_of (P := Try.prog) Value.string (⟨#[]⟩ : ByteArray) 25 9 .i64 Try.underlying25 hi016 hsz16 (some ad155) c0 l0 x30_2 (of_decide_eq_true (by first | (with_reducible assumption) | assumption)) (of_decide_eq_true (by first | (with_reducible assumption) | assumption)) HC0.out
                        have HR156 := Aside0.mk (Kd.C_of_reads (h1 := fun _ => rfl) (hA16 _ (Kd.reads_of_C HR0.out)))
                        have HC156 := Aside0.mk hC16
                        clear hA16 hC16 hi016 hsz16
                        have hcuts16 := hcut16
                        (try rw [show (l0.take (x30_2 : Int).toNat).length = x30_2.toNat from (by rw [List.length_take]; have h_ : (x30_2 : Int) ≤ (l0.length : Int) := of_decide_eq_true (by first | (with_reducible assumption) | assumption); omega)] at hcuts16)
                        go_wp2_with (first | (go_at_call 61; refine calls_of_args (args' := #[.slice (some ad155) (l0.take (x30_2 : Int).toNat).length c0, .string (rdOf ByteArray.empty l0 x30_2)]) (by first | rfl | (rw [show (l0.take (x30_2 : Int).toNat).length = x30_2.toNat from (by rw [List.length_take]; have h_ : (x30_2 : Int) ≤ (l0.length : Int) := of_decide_eq_true (by first | (with_reducible assumption) | assumption); omega)] <;> rfl) | rfl) ?_; (with_reducible refine (slices_Contains_string_string.calls k2 _ _ (l0.take (x30_2 : Int).toNat) (rdOf ByteArray.empty l0 x30_2) t157 _ ?side1 ?side2 A15.out).mono ?_); (case side1 => repeat (first | exact (Kd.C_below HR156.out HB.out) | (with_reducible refine Kd.C_alloc ?_ _) | (with_reducible refine Kd.C_drewN ?_ _) | (with_reducible refine Kd.C_drew ?_))); (case side2 => exact HC156.out); rintro e w' ⟨rfl, ⟨nd, rfl⟩⟩))
                        go_meet
                        case rel => exact ⟨_, (t157), (by first | rfl | (simp; done) | (simp [*]; done)), H', ⟨by have := HJ2.out; have := HK2.out; first | omega | exact Nat.le_refl _⟩, ⟨by (with_reducible repeat (first | apply Kd.R_alloc | apply Kd.R_drewN | apply Kd.R_drew)); first | exact HO_6.out | exact Kd.R_mono HO_6.out (fun _ hk => by revert hk; (try simp only [and_imp]); intros; repeat' (first | assumption | trivial | apply And.intro))⟩, ⟨by repeat (first | (with_reducible first | exact HB.out | apply below_alloc | apply pw_below_drewN | apply below_drew1) | exact HB.out)⟩⟩
                      · rw [if_neg c14] at H
                        exact absurd H (by simp)
                    · rw [if_neg c12] at H
                      have c12b0 : (((rdOf ByteArray.empty l0 x30_2).size : Int) == 4) = false := beq_eq_false_iff_ne.mpr c12
                      have c12b1 : (((rdOf ByteArray.empty l0 x30_2).size : Int) != 4) = true := bne_iff_ne.mpr c12
                      (first | rw [c12b0] | (simp only [i64_w, i32_w]; rw [c12b0]) | skip)
                      have H' := Aside0.mk H
                      clear H
                      go_wp2
                      go_meet
                      case rel => exact ⟨_, (true), (by first | rfl | (simp; done) | (simp [*]; done)), H', ⟨by have := HJ2.out; have := HK2.out; first | omega | exact Nat.le_refl _⟩, ⟨by (with_reducible repeat (first | apply Kd.R_alloc | apply Kd.R_drewN | apply Kd.R_drew)); first | exact HO_6.out | exact Kd.R_mono HO_6.out (fun _ hk => by revert hk; (try simp only [and_imp]); intros; repeat' (first | assumption | trivial | apply And.intro))⟩, ⟨by repeat (first | (with_reducible first | exact HB.out | apply below_alloc | apply pw_below_drewN | apply below_drew1) | exact HB.out)⟩⟩
                  case rest =>
                    clear HC11
                    try clear c1
                    try clear p1
                    try clear q1
                    try clear hx1
                    try clear p2
                    try clear c4
                    try clear c4b0
                    try clear c4b1
                    try clear c4b2
                    try clear c5
                    try clear p6
                    try clear c8
                    try clear c8b0
                    try clear c9
                    try clear c9b0
                    try clear c10
                    try clear c10b0
                    try clear c12
                    try clear c12b0
                    try clear c12b1
                    try clear c13
                    try clear c13b0
                    try clear c14
                    try clear c14b0
                    try clear c14b1
                    try clear p15
                    try clear q15
                    try clear hx15
                    try clear c16
                    try clear hx155_0
                    try clear p155
                    try clear p2
                    try clear p6
                    try clear q155
                    obtain ⟨kq, x44_10, rfl, HA, HJ10, HO_6, HB⟩ := hcut
                    cases kq with
                    | zero => exact absurd HA.out (by simp [sfnt_Lay.j2])
                    | succ kj10 =>
                      have H := HA.out
                      clear HA
                      simp only [sfnt_Lay.j2] at H
                      by_cases c17 : x44_10 = true
                      · subst c17
                        have H1 : (some (([] : List Int), 1)) = some (r1, r2) := by rw [if_pos rfl] at H; exact H
                        clear H
                        have H := H1
                        clear H1
                        simp only [Option.some.injEq, Prod.mk.injEq] at H
                        obtain ⟨rfl, rfl⟩ := H
                        go_wp2
                        go_ret2
                        exact ⟨_, by first | rfl | (simp [errW_none, errW_some] <;> rfl) | (simp [*, errW_none, errW_some] <;> rfl), Kd.V_nil _ _ _ _ _, by repeat (first | (with_reducible first | exact HB.out | apply below_alloc | apply pw_below_drewN | apply below_drew1) | exact HB.out)⟩
                      · replace c17 := Bool.eq_false_iff.mpr c17
                        subst c17
                        have H1 : (if (rdOf ByteArray.empty l0 x30_2).size ≤ 9223372036854775807 then ((sfnt_u32.f 0).bind fun t161 => ((sfnt_u32.f x7_2).bind fun t164 => (if 0 ≤ x30_2 then (if x30_2 < (l1.length : Int) then ((sfnt_u32.f ((rd_L2 l1 x30_2).length : Int)).bind fun t168 => ((slices_Concat_byte_byte.f kj10 (([x6_2, (bytesOf (rdOf ByteArray.empty l0 x30_2)), t161, t164, t168] : List (List Int)))).bind fun t174 => (sfnt_Lay.l0 kj10 l0 l1 t174 (wrap64 (x7_2 + ((rd_L2 l1 x30_2).length : Int))) l0 (l0.length : Int) (wrap64 (x30_2 + 1))))) else (none)) else (none)))) else (none)) = some (r1, r2) := by rw [if_neg (show ¬ (false = true) by decide)] at H; exact H
                        clear H
                        have H := H1
                        clear H1
                        by_cases c18 : (rdOf ByteArray.empty l0 x30_2).size ≤ 9223372036854775807
                        · rw [if_pos c18] at H
                          have c18b0 := eq_true c18
                          have c18b1 : decide ((rdOf ByteArray.empty l0 x30_2).size ≤ 9223372036854775807) = true := decide_eq_true c18
                          try have c18b2 : (9223372036854775807 < (rdOf ByteArray.empty l0 x30_2).size) = False := eq_false (Nat.not_lt.2 c18)
                          clear c18
                          obtain ⟨y158, hy158⟩ : ∃ y_ : List Int, y_ = (bytesOf (rdOf ByteArray.empty l0 x30_2)) := ⟨_, rfl⟩
                          replace H : ((sfnt_u32.f 0).bind fun t161 => ((sfnt_u32.f x7_2).bind fun t164 => (if 0 ≤ x30_2 then (if x30_2 < (l1.length : Int) then ((sfnt_u32.f ((rd_L2 l1 x30_2).length : Int)).bind fun t168 => ((slices_Concat_byte_byte.f kj10 (([x6_2, y158, t161, t164, t168] : List (List Int)))).bind fun t174 => (sfnt_Lay.l0 kj10 l0 l1 t174 (wrap64 (x7_2 + ((rd_L2 l1 x30_2).length : Int))) l0 (l0.length : Int) (wrap64 (x30_2 + 1))))) else (none)) else (none)))) = some (r1, r2) := by first | (rw [hy158]; with_reducible exact H) | (have H2_ := (Option.bind_some _ _).symm.trans H; rw [hy158]; with_reducible exact H2_) | (have H2_ := (Option.bind_some _ _).symm.trans H; with_reducible exact H2_) | with_reducible exact H | (rw [hy158]; exact H) | exact H
                          have Ny158 := Aside0.mk hy158
                          clear hy158
                          replace H := Option.bind_eq_some_iff.mp H
                          obtain ⟨t161, A190, H⟩ := H
                          replace H : ((sfnt_u32.f x7_2).bind fun t164 => (if 0 ≤ x30_2 then (if x30_2 < (l1.length : Int) then ((sfnt_u32.f ((rd_L2 l1 x30_2).length : Int)).bind fun t168 => ((slices_Concat_byte_byte.f kj10 (([x6_2, y158, t161, t164, t168] : List (List Int)))).bind fun t174 => (sfnt_Lay.l0 kj10 l0 l1 t174 (wrap64 (x7_2 + ((rd_L2 l1 x30_2).length : Int))) l0 (l0.length : Int) (wrap64 (x30_2 + 1))))) else (none)) else (none))) = some (r1, r2) := H
                          have A19 := Aside0.mk A190
                          clear A190
                          replace H := Option.bind_eq_some_iff.mp H
                          obtain ⟨t164, A200, H⟩ := H
                          replace H : (if 0 ≤ x30_2 then (if x30_2 < (l1.length : Int) then ((sfnt_u32.f ((rd_L2 l1 x30_2).length : Int)).bind fun t168 => ((slices_Concat_byte_byte.f kj10 (([x6_2, y158, t161, t164, t168] : List (List Int)))).bind fun t174 => (sfnt_Lay.l0 kj10 l0 l1 t174 (wrap64 (x7_2 + ((rd_L2 l1 x30_2).length : Int))) l0 (l0.length : Int) (wrap64 (x30_2 + 1))))) else (none)) else (none)) = some (r1, r2) := H
                          have A20 := Aside0.mk A200
                          clear A200
                          by_cases c21 : 0 ≤ x30_2
                          · rw [if_pos c21] at H
                            have c21b0 : decide (0 ≤ x30_2) = true := decide_eq_true c21
                            clear c21
                            by_cases c22 : x30_2 < (l1.length : Int)
                            · rw [if_pos c22] at H
                              have c22b0 : decide (x30_2 < (l1.length : Int)) = true := decide_eq_true c22
                              clear c22
                              replace H := Option.bind_eq_some_iff.mp H
                              obtain ⟨t168, A230, H⟩ := H
                              replace H : ((slices_Concat_byte_byte.f kj10 (([x6_2, y158, t161, t164, t168] : List (List Int)))).bind fun t174 => (sfnt_Lay.l0 kj10 l0 l1 t174 (wrap64 (x7_2 + ((rd_L2 l1 x30_2).length : Int))) l0 (l0.length : Int) (wrap64 (x30_2 + 1)))) = some (r1, r2) := H
                              have A23 := Aside0.mk A230
                              clear A230
                              obtain ⟨y171, hy171⟩ : ∃ y_ : List (List Int), y_ = (([x6_2, y158, t161, t164, t168] : List (List Int))) := ⟨_, rfl⟩
                              replace H : ((slices_Concat_byte_byte.f kj10 y171).bind fun t174 => (sfnt_Lay.l0 kj10 l0 l1 t174 (wrap64 (x7_2 + ((rd_L2 l1 x30_2).length : Int))) l0 (l0.length : Int) (wrap64 (x30_2 + 1)))) = some (r1, r2) := by first | (rw [hy171]; with_reducible exact H) | (have H2_ := (Option.bind_some _ _).symm.trans H; rw [hy171]; with_reducible exact H2_) | (have H2_ := (Option.bind_some _ _).symm.trans H; with_reducible exact H2_) | with_reducible exact H | (rw [hy171]; exact H) | exact H
                              have Ny171 := Aside0.mk hy171
                              clear hy171
                              replace H := Option.bind_eq_some_iff.mp H
                              obtain ⟨t174, A240, H⟩ := H
                              replace H : (sfnt_Lay.l0 kj10 l0 l1 t174 (wrap64 (x7_2 + ((rd_L2 l1 x30_2).length : Int))) l0 (l0.length : Int) (wrap64 (x30_2 + 1))) = some (r1, r2) := H
                              have A24 := Aside0.mk A240
                              clear A240
                              have H' := Aside0.mk H
                              clear H
                              try go_wp2
                              have n0_ := Aside0.mk (Kd.R_drew HO_6.out)
                              have n1_ := Aside0.mk (below_drew1 HB.out)
                              clear HO_6
                              clear HB
                              have HO_6 := n0_
                              have HB := n1_
                              clear n0_ n1_
                              have p167 : 0 ≤ (x30_2 : Int) := of_decide_eq_true (by first | (with_reducible assumption) | assumption)
                              have q167 : x30_2 < (l1.length : Int) := of_decide_eq_true (by first | (with_reducible assumption) | assumption)
                              obtain ⟨ad167, A167_0, c167_0, e167, hx167_0, hl167_0, hi167_0⟩ := at_L2 HR1.out x30_2 p167 q167
                              have hw167_0 := hx167_0
                              cases e167
                              replace hx167_0 := (HB.out.cell (cLt w _ hx167_0)).trans hx167_0
                              have HR167_0 := Aside0.mk hi167_0
                              have HC167_0 := Aside0.mk hl167_0
                              clear hi167_0 hl167_0
                              replace p167 := eq_true p167
                              replace q167 := eq_true q167
                              have hcby158 := fun w_ => Go.Lib.run_convert_string_bytes (P := Try.prog) w_ 9 24 5 (rdOf ByteArray.empty l0 x30_2) Try.underlying9 Try.underlying24 Try.underlying5
                              refine start_ (n := 15) (S := fun w' => True) (ds := []) #[false, false, false, false, false, false, false, false, false, false, false, false, false, false, false] (by kernel_rfl) rfl rfl trivial (fun hHeld => ?_); refine with_tabW sfnt_Lay.tab10 sfnt_Lay.bits10 (fun HT_ HW_ => ?_)
                              generalize wc.drew = w25 at HO_6 HB HR167_0 hx167_0 hHeld ⊢
                              refine pure_ (i := 0) (N := some 45) (v := ?_) (a' := ?_) #[true, false, false, false, false, false, false, false, false, false, false, false, false, false, false] rfl rfl (any_of HT_.out (by kernel_rfl)) (fun _ _ _ h => h) (Or.inl ⟨by rfl, ?_⟩) ?_ ?_
                              rotate_left
                              · intro w'
                                go_simp
                                with_reducible rfl
                              rotate_left
                              · simp only [Act.put, List.setIfInBounds_toArray, List.set_cons_zero, List.set_cons_succ, i64_w, i32_w]
                                rfl
                              refine pure_ (i := 1) (N := some 46) (v := ?_) (a' := ?_) #[true, true, false, false, false, false, false, false, false, false, false, false, false, false, false] rfl rfl (any_of HT_.out (by kernel_rfl)) (fun _ _ _ h => h) (Or.inl ⟨by rfl, ?_⟩) ?_ ?_
                              rotate_left
                              · intro w'
                                go_simp
                                with_reducible rfl
                              rotate_left
                              · simp only [Act.put, List.setIfInBounds_toArray, List.set_cons_zero, List.set_cons_succ, i64_w, i32_w]
                                rfl
                              refine pure_ (i := 4) (N := some 49) (v := ?_) (a' := ?_) #[true, true, false, false, true, false, false, false, false, false, false, false, false, false, false] rfl rfl (any_of HT_.out (by kernel_rfl)) (fun _ _ _ h => h) (Or.inl ⟨by rfl, ?_⟩) ?_ ?_
                              rotate_left
                              · intro w'
                                go_simp
                                with_reducible rfl
                              rotate_left
                              · simp only [Act.put, List.setIfInBounds_toArray, List.set_cons_zero, List.set_cons_succ, i64_w, i32_w]
                                rfl
                              refine pure_ (i := 6) (N := some 51) (v := ?_) (a' := ?_) #[true, true, false, false, true, false, true, false, false, false, false, false, false, false, false] rfl rfl (any_of HT_.out (by kernel_rfl)) (fun _ _ _ h => h) (Or.inl ⟨by rfl, ?_⟩) ?_ ?_
                              rotate_left
                              · intro w'
                                go_simp
                                with_reducible rfl
                              rotate_left
                              · simp only [Act.put, List.setIfInBounds_toArray, List.set_cons_zero, List.set_cons_succ, i64_w, i32_w]
                                rfl
                              refine pure_ (i := 7) (N := some 52) (v := ?_) (a' := ?_) #[true, true, false, false, true, false, true, true, false, false, false, false, false, false, false] rfl rfl (any_of HT_.out (by kernel_rfl)) (fun _ _ _ h => h) (Or.inl ⟨by rfl, ?_⟩) ?_ ?_
                              rotate_left
                              · intro w'
                                go_simp
                                with_reducible rfl
                              rotate_left
                              · simp only [Act.put, List.setIfInBounds_toArray, List.set_cons_zero, List.set_cons_succ, i64_w, i32_w]
                                rfl
                              refine inv_at [2, 3, 5, 8, 9, 10, 11, 12, 13, 14] (fun a0_ b a w' => ∃ (v159 : Value) (v162 : Value) (v165 : Value) (v169 : Value) (v172 : Value) (v175 : Value) (m14_ : Value), a = putSel a0_ b [(2, 47, v159), (3, 48, v162), (5, 50, v165), (8, 53, .pointer (some (ad167.add (x30_2).toNat))), (9, 54, .slice A167_0 (rd_L2 l1 x30_2).length c167_0), (10, 55, .int .i64 ((rd_L2 l1 x30_2).length : Int)), (11, 56, v169), (12, 57, v172), (13, 58, v175), (14, 6, m14_)] ∧ (b 12 = false → Kd.R (Kd.int .u8) 5 w' w.heap.size (fun k_ => (w.heap.size ≤ k_)) u6 x6_2) ∧ (Below w.heap.size w w') ∧ (b 2 = true → b 12 = false → Kd.V (Kd.int .u8) 5 w' w.heap.size (fun k_ => (w.heap.size ≤ k_) ∧ some k_ ≠ (u6 : Value).ownBlock) v159 y158) ∧ (b 3 = true → b 12 = false → Kd.R (Kd.int .u8) 5 w' w.heap.size (fun k_ => (w.heap.size ≤ k_) ∧ some k_ ≠ (u6 : Value).ownBlock) v162 t161) ∧ (b 5 = true → b 12 = false → Kd.R (Kd.int .u8) 5 w' w.heap.size (fun k_ => (w.heap.size ≤ k_) ∧ some k_ ≠ (u6 : Value).ownBlock) v165 t164) ∧ (b 11 = true → b 12 = false → Kd.R (Kd.int .u8) 5 w' w.heap.size (fun k_ => (w.heap.size ≤ k_) ∧ some k_ ≠ (u6 : Value).ownBlock) v169 t168) ∧ (b 12 = true → Kd.V (Kd.int .u8) 5 w' w.heap.size (fun k_ => (w.heap.size ≤ k_)) v159 y158) ∧ (b 12 = true → Kd.N (Kd.slice 5 (Kd.int .u8)) 24 w' w.heap.size (fun k_ => (w.heap.size ≤ k_)) v172 y171) ∧ (b 13 = true → Kd.R (Kd.int .u8) 5 w' w.heap.size (fun k_ => (w.heap.size ≤ k_)) v175 t174) ∧ (b 14 = true → (m14_ : Value) = v175)) HT_.out HW_.out (by kernel_rfl) (by kernel_rfl) ?_ ?_ ?_
                              · exact ⟨.bool false, .bool false, .bool false, .bool false, .bool false, .bool false, .bool false, by simp only [putSel, Bool.false_eq_true, if_false], fun _ => HO_6.out, HB.out, fun h_ => absurd h_ (by decide), fun h_ => absurd h_ (by decide), fun h_ => absurd h_ (by decide), fun h_ => absurd h_ (by decide), fun h_ => absurd h_ (by decide), fun h_ => absurd h_ (by decide), fun h_ => absurd h_ (by decide), fun h_ => absurd h_ (by decide)⟩
                              · skip
                                clear HB HO_6
                                refine steps_cons ?_ ?_
                                · rintro b a w' ⟨v159, v162, v165, v169, v172, v175, m14_, ha, Q_HO_6, Q_HB, Q_HO160, Q_HO163, Q_HO166, Q_HO170, Q_HO160_e12, Q_HO173, Q_HO176, Q_X14_⟩ hb_ hon hoff
                                  refine ⟨_, rfl, fun K hK => ?_⟩
                                  have e46 : a.tmps[46]? = some (.string (rdOf ByteArray.empty l0 x30_2)) := by rw [ha]; exact (putSel_off rfl).trans rfl
                                  replace ha := Aside0.mk ha
                                  have HO_6 := Aside0.mk (Q_HO_6 (hoff 12 (by kernel_rfl)))
                                  have HB := Aside0.mk Q_HB
                                  refine V_bytes_step _ 5 (by rfl) (N := 47) rfl (rdOf ByteArray.empty l0 x30_2) (ok := fun k_ => w'.heap.size ≤ k_) ?hr (Nat.le_refl _) (Below.refl _ _) (Nat.le_refl _) (of_decide_eq_true (by first | (with_reducible assumption) | assumption)) ?_; (case hr => first | (go_simp; done) | (go_simp; rfl) | (simp [*]; done))
                                  intro v159 w26 ho27 hb hg_ hnew_
                                  clear hg_ hnew_
                                  (first | rw [← Ny158.out] at ho27 | (simp only [Int.reduceToNat] at ho27; rw [← Ny158.out] at ho27))
                                  have n0_ := Aside0.mk (Kd.R_below (by (with_reducible repeat (first | apply Kd.R_alloc | apply Kd.R_drewN | apply Kd.R_drew)); first | exact HO_6.out | exact Kd.R_mono HO_6.out (fun _ hk => by revert hk; (try simp only [and_imp]); intros; repeat' (first | assumption | trivial | apply And.intro))) hb)
                                  have n1_ := Aside0.mk (Kd.V_lower (Kd.V_mono (ok' := fun k_ => (w.heap.size ≤ k_) ∧ some k_ ≠ (u6 : Value).ownBlock) ho27 (fun k_ hk_ => ⟨(Nat.le_trans (below_size (by repeat (first | (with_reducible first | exact HB.out | apply below_alloc | apply pw_below_drewN | apply below_drew1) | exact HB.out))) hk_), (Kd.fresh' (Kd.R_lt (by (with_reducible repeat (first | apply Kd.R_alloc | apply Kd.R_drewN | apply Kd.R_drew)); first | exact HO_6.out | exact Kd.R_mono HO_6.out (fun _ hk => by revert hk; (try simp only [and_imp]); intros; repeat' (first | assumption | trivial | apply And.intro)))) k_ hk_)⟩)) (below_size (by repeat (first | (with_reducible first | exact HB.out | apply below_alloc | apply pw_below_drewN | apply below_drew1) | exact HB.out))))
                                  have n2_ := Aside0.mk (below_step (by repeat (first | (with_reducible first | exact HB.out | apply below_alloc | apply pw_below_drewN | apply below_drew1) | exact HB.out)) hb)
                                  have z_HO163 := fun (h0_ : b 3 = true) (h1_ : b 12 = false) => (show Kd.R (Kd.int .u8) 5 w26 w.heap.size (fun k_ => (w.heap.size ≤ k_) ∧ some k_ ≠ (u6 : Value).ownBlock) v162 t161 from by first | exact (Kd.R_below (by (with_reducible repeat (first | apply Kd.R_alloc | apply Kd.R_drewN | apply Kd.R_drew)); first | exact (Q_HO163 h0_ h1_) | exact Kd.R_mono (Q_HO163 h0_ h1_) (fun _ hk => by revert hk; (try simp only [and_imp]); intros; repeat' (first | assumption | trivial | apply And.intro))) hb) | exact Kd.R_mono (Kd.R_below (by (with_reducible repeat (first | apply Kd.R_alloc | apply Kd.R_drewN | apply Kd.R_drew)); first | exact (Q_HO163 h0_ h1_) | exact Kd.R_mono (Q_HO163 h0_ h1_) (fun _ hk => by revert hk; (try simp only [and_imp]); intros; repeat' (first | assumption | trivial | apply And.intro))) hb) (fun _ h_ => by first | trivial | exact h_ | exact h_.1))
                                  have z_HO166 := fun (h0_ : b 5 = true) (h1_ : b 12 = false) => (show Kd.R (Kd.int .u8) 5 w26 w.heap.size (fun k_ => (w.heap.size ≤ k_) ∧ some k_ ≠ (u6 : Value).ownBlock) v165 t164 from by first | exact (Kd.R_below (by (with_reducible repeat (first | apply Kd.R_alloc | apply Kd.R_drewN | apply Kd.R_drew)); first | exact (Q_HO166 h0_ h1_) | exact Kd.R_mono (Q_HO166 h0_ h1_) (fun _ hk => by revert hk; (try simp only [and_imp]); intros; repeat' (first | assumption | trivial | apply And.intro))) hb) | exact Kd.R_mono (Kd.R_below (by (with_reducible repeat (first | apply Kd.R_alloc | apply Kd.R_drewN | apply Kd.R_drew)); first | exact (Q_HO166 h0_ h1_) | exact Kd.R_mono (Q_HO166 h0_ h1_) (fun _ hk => by revert hk; (try simp only [and_imp]); intros; repeat' (first | assumption | trivial | apply And.intro))) hb) (fun _ h_ => by first | trivial | exact h_ | exact h_.1))
                                  have z_HO170 := fun (h0_ : b 11 = true) (h1_ : b 12 = false) => (show Kd.R (Kd.int .u8) 5 w26 w.heap.size (fun k_ => (w.heap.size ≤ k_) ∧ some k_ ≠ (u6 : Value).ownBlock) v169 t168 from by first | exact (Kd.R_below (by (with_reducible repeat (first | apply Kd.R_alloc | apply Kd.R_drewN | apply Kd.R_drew)); first | exact (Q_HO170 h0_ h1_) | exact Kd.R_mono (Q_HO170 h0_ h1_) (fun _ hk => by revert hk; (try simp only [and_imp]); intros; repeat' (first | assumption | trivial | apply And.intro))) hb) | exact Kd.R_mono (Kd.R_below (by (with_reducible repeat (first | apply Kd.R_alloc | apply Kd.R_drewN | apply Kd.R_drew)); first | exact (Q_HO170 h0_ h1_) | exact Kd.R_mono (Q_HO170 h0_ h1_) (fun _ hk => by revert hk; (try simp only [and_imp]); intros; repeat' (first | assumption | trivial | apply And.intro))) hb) (fun _ h_ => by first | trivial | exact h_ | exact h_.1))
                                  clear HO_6
                                  clear HB
                                  have HO_6 := n0_
                                  have HO160 := n1_
                                  have HB := n2_
                                  clear n0_ n1_ n2_
                                  clear hb ho27
                                  refine hK.out _ _ ⟨v159, v162, v165, v169, v172, v175, m14_, (by rw [ha.out]; exact putSel_upk 0 hb_ rfl rfl rfl), fun _ => (by (with_reducible repeat (first | apply Kd.R_alloc | apply Kd.R_drewN | apply Kd.R_drew)); first | exact HO_6.out | exact Kd.R_mono HO_6.out (fun _ hk => by revert hk; (try simp only [and_imp]); intros; repeat' (first | assumption | trivial | apply And.intro))), (by repeat (first | (with_reducible first | exact HB.out | apply below_alloc | apply pw_below_drewN | apply below_drew1) | exact HB.out)), fun _ _ => (by (with_reducible repeat (first | apply Kd.V_alloc | apply Kd.V_drewN | apply Kd.V_drew)); first | exact HO160.out | exact Kd.V_mono HO160.out (fun _ hk => by revert hk; (try simp only [and_imp]); intros; repeat' (first | assumption | trivial | apply And.intro))), z_HO163, z_HO166, z_HO170, fun h0_ => absurd ((hoff 12 (by kernel_rfl)).symm.trans h0_) (by decide), fun h0_ => absurd ((hoff 12 (by kernel_rfl)).symm.trans h0_) (by decide), fun h0_ => absurd ((hoff 13 (by kernel_rfl)).symm.trans h0_) (by decide), fun h0_ => absurd ((hoff 14 (by kernel_rfl)).symm.trans h0_) (by decide)⟩
                                refine steps_cons ?_ ?_
                                · rintro b a w' ⟨v159, v162, v165, v169, v172, v175, m14_, ha, Q_HO_6, Q_HB, Q_HO160, Q_HO163, Q_HO166, Q_HO170, Q_HO160_e12, Q_HO173, Q_HO176, Q_X14_⟩ hb_ hon hoff
                                  refine ⟨_, rfl, fun K hK => ?_⟩
                                  replace ha := Aside0.mk ha
                                  have HO_6 := Aside0.mk (Q_HO_6 (hoff 12 (by kernel_rfl)))
                                  have HB := Aside0.mk Q_HB
                                  refine goes_ Try.func63 (by kernel_rfl) rfl #[.int .i64 0] (by rfl) rfl rfl (by first | (simp only [List.map_toArray, List.map_cons, List.map_nil, Act.eval, Array.getD_eq_getD_getElem?, Option.getD_some]; done) | (simp only [List.map_toArray, List.map_cons, List.map_nil, Act.eval, Array.getD_eq_getD_getElem?, Option.getD_some]; rfl)) ?_
                                  with_reducible refine (sfnt_u32.calls 0 t161 _ A19.out).mono ?_
                                  rintro e w26 ⟨v162, rfl, ho0, hb⟩
                                  refine ⟨_, rfl, ?_⟩
                                  have n0_ := Aside0.mk (Kd.R_elder' (by (with_reducible repeat (first | apply Kd.R_alloc | apply Kd.R_drewN | apply Kd.R_drew)); first | exact HO_6.out | exact Kd.R_mono HO_6.out (fun _ hk => by revert hk; (try simp only [and_imp]); intros; repeat' (first | assumption | trivial | apply And.intro))) (Kd.R_base ho0) hb)
                                  have n1_ := Aside0.mk (Kd.R_lower (Kd.R_new' (Kd.R_newM (M := fun k_ => (w.heap.size ≤ k_)) ho0 (below_size (by repeat (first | (with_reducible first | exact HB.out | apply below_alloc | apply pw_below_drewN | apply below_drew1) | exact HB.out))) (fun k_ h_ => h_)) (Kd.R_lt (by (with_reducible repeat (first | apply Kd.R_alloc | apply Kd.R_drewN | apply Kd.R_drew)); first | exact HO_6.out | exact Kd.R_mono HO_6.out (fun _ hk => by revert hk; (try simp only [and_imp]); intros; repeat' (first | assumption | trivial | apply And.intro))))) (below_size (by repeat (first | (with_reducible first | exact HB.out | apply below_alloc | apply pw_below_drewN | apply below_drew1) | exact HB.out))))
                                  have n2_ := Aside0.mk (below_step (by repeat (first | (with_reducible first | exact HB.out | apply below_alloc | apply pw_below_drewN | apply below_drew1) | exact HB.out)) hb)
                                  have z_HO160 := fun (h0_ : b 2 = true) (h1_ : b 12 = false) => (show Kd.V (Kd.int .u8) 5 w26 w.heap.size (fun k_ => (w.heap.size ≤ k_) ∧ some k_ ≠ (u6 : Value).ownBlock) v159 y158 from by first | exact (Kd.V_elder' (by (with_reducible repeat (first | apply Kd.V_alloc | apply Kd.V_drewN | apply Kd.V_drew)); first | exact (Q_HO160 h0_ h1_) | exact Kd.V_mono (Q_HO160 h0_ h1_) (fun _ hk => by revert hk; (try simp only [and_imp]); intros; repeat' (first | assumption | trivial | apply And.intro))) (Kd.R_base ho0) hb) | exact Kd.V_mono (Kd.V_elder' (by (with_reducible repeat (first | apply Kd.V_alloc | apply Kd.V_drewN | apply Kd.V_drew)); first | exact (Q_HO160 h0_ h1_) | exact Kd.V_mono (Q_HO160 h0_ h1_) (fun _ hk => by revert hk; (try simp only [and_imp]); intros; repeat' (first | assumption | trivial | apply And.intro))) (Kd.R_base ho0) hb) (fun _ h_ => by first | trivial | exact h_ | exact h_.1))
                                  clear HO_6
                                  clear HB
                                  have HO_6 := n0_
                                  have HO163 := n1_
                                  have HB := n2_
                                  clear n0_ n1_ n2_
                                  (try clear hb)
                                  (try clear hb2)
                                  (try clear hk)
                                  (try clear hi)
                                  (try clear ho0)
                                  refine hK.out _ _ ⟨v159, v162, v165, v169, v172, v175, m14_, (by rw [ha.out]; exact putSel_upk 1 hb_ rfl rfl rfl), fun _ => (by (with_reducible repeat (first | apply Kd.R_alloc | apply Kd.R_drewN | apply Kd.R_drew)); first | exact HO_6.out | exact Kd.R_mono HO_6.out (fun _ hk => by revert hk; (try simp only [and_imp]); intros; repeat' (first | assumption | trivial | apply And.intro))), (by repeat (first | (with_reducible first | exact HB.out | apply below_alloc | apply pw_below_drewN | apply below_drew1) | exact HB.out)), z_HO160, fun _ _ => (by (with_reducible repeat (first | apply Kd.R_alloc | apply Kd.R_drewN | apply Kd.R_drew)); first | exact Kd.R_mono HO163.out (fun _ hk => by first | exact ⟨hk.1.1, hk.2⟩ | (revert hk; (try simp only [and_imp]); intros; repeat' (first | assumption | trivial | apply And.intro))) | exact Kd.R_mono HO163.out (fun _ hk => by revert hk; (try simp only [and_imp]); intros; repeat' (first | assumption | trivial | apply And.intro))), fun h0_ _ => absurd ((hoff 5 (by kernel_rfl)).symm.trans h0_) (by decide), fun h0_ _ => absurd ((hoff 11 (by kernel_rfl)).symm.trans h0_) (by decide), fun h0_ => absurd ((hoff 12 (by kernel_rfl)).symm.trans h0_) (by decide), fun h0_ => absurd ((hoff 12 (by kernel_rfl)).symm.trans h0_) (by decide), fun h0_ => absurd ((hoff 13 (by kernel_rfl)).symm.trans h0_) (by decide), fun h0_ => absurd ((hoff 14 (by kernel_rfl)).symm.trans h0_) (by decide)⟩
                                refine steps_cons ?_ ?_
                                · rintro b a w' ⟨v159, v162, v165, v169, v172, v175, m14_, ha, Q_HO_6, Q_HB, Q_HO160, Q_HO163, Q_HO166, Q_HO170, Q_HO160_e12, Q_HO173, Q_HO176, Q_X14_⟩ hb_ hon hoff
                                  refine ⟨_, rfl, fun K hK => ?_⟩
                                  have e49 : a.tmps[49]? = some (.int .i64 x7_2) := by rw [ha]; exact (putSel_off rfl).trans rfl
                                  replace ha := Aside0.mk ha
                                  have HO_6 := Aside0.mk (Q_HO_6 (hoff 12 (by kernel_rfl)))
                                  have HB := Aside0.mk Q_HB
                                  have HO163 := Aside0.mk (Q_HO163 (hon 3 (by kernel_rfl)) (hoff 12 (by kernel_rfl)))
                                  refine goes_ Try.func63 (by kernel_rfl) rfl #[.int .i64 x7_2] (by rfl) rfl rfl (by first | (simp only [List.map_toArray, List.map_cons, List.map_nil, Act.eval, Array.getD_eq_getD_getElem?, Option.getD_some, e49]; done) | (simp only [List.map_toArray, List.map_cons, List.map_nil, Act.eval, Array.getD_eq_getD_getElem?, Option.getD_some, e49]; rfl)) ?_
                                  with_reducible refine (sfnt_u32.calls x7_2 t164 _ A20.out).mono ?_
                                  rintro e w28 ⟨v165, rfl, ho0, hb⟩
                                  refine ⟨_, rfl, ?_⟩
                                  have n0_ := Aside0.mk (Kd.R_elder' (by (with_reducible repeat (first | apply Kd.R_alloc | apply Kd.R_drewN | apply Kd.R_drew)); first | exact HO_6.out | exact Kd.R_mono HO_6.out (fun _ hk => by revert hk; (try simp only [and_imp]); intros; repeat' (first | assumption | trivial | apply And.intro))) (Kd.R_base ho0) hb)
                                  have n1_ := Aside0.mk (Kd.R_elder' (by (with_reducible repeat (first | apply Kd.R_alloc | apply Kd.R_drewN | apply Kd.R_drew)); first | exact HO163.out | exact Kd.R_mono HO163.out (fun _ hk => by revert hk; (try simp only [and_imp]); intros; repeat' (first | assumption | trivial | apply And.intro))) (Kd.R_base ho0) hb)
                                  have n2_ := Aside0.mk (Kd.R_lower (Kd.R_new' (Kd.R_new' (Kd.R_newM (M := fun k_ => (w.heap.size ≤ k_)) ho0 (below_size (by repeat (first | (with_reducible first | exact HB.out | apply below_alloc | apply pw_below_drewN | apply below_drew1) | exact HB.out))) (fun k_ h_ => h_)) (Kd.R_lt (by (with_reducible repeat (first | apply Kd.R_alloc | apply Kd.R_drewN | apply Kd.R_drew)); first | exact HO_6.out | exact Kd.R_mono HO_6.out (fun _ hk => by revert hk; (try simp only [and_imp]); intros; repeat' (first | assumption | trivial | apply And.intro))))) (Kd.R_lt (by (with_reducible repeat (first | apply Kd.R_alloc | apply Kd.R_drewN | apply Kd.R_drew)); first | exact HO163.out | exact Kd.R_mono HO163.out (fun _ hk => by revert hk; (try simp only [and_imp]); intros; repeat' (first | assumption | trivial | apply And.intro))))) (below_size (by repeat (first | (with_reducible first | exact HB.out | apply below_alloc | apply pw_below_drewN | apply below_drew1) | exact HB.out))))
                                  have n3_ := Aside0.mk (below_step (by repeat (first | (with_reducible first | exact HB.out | apply below_alloc | apply pw_below_drewN | apply below_drew1) | exact HB.out)) hb)
                                  have z_HO160 := fun (h0_ : b 2 = true) (h1_ : b 12 = false) => (show Kd.V (Kd.int .u8) 5 w28 w.heap.size (fun k_ => (w.heap.size ≤ k_) ∧ some k_ ≠ (u6 : Value).ownBlock) v159 y158 from by first | exact (Kd.V_elder' (by (with_reducible repeat (first | apply Kd.V_alloc | apply Kd.V_drewN | apply Kd.V_drew)); first | exact (Q_HO160 h0_ h1_) | exact Kd.V_mono (Q_HO160 h0_ h1_) (fun _ hk => by revert hk; (try simp only [and_imp]); intros; repeat' (first | assumption | trivial | apply And.intro))) (Kd.R_base ho0) hb) | exact Kd.V_mono (Kd.V_elder' (by (with_reducible repeat (first | apply Kd.V_alloc | apply Kd.V_drewN | apply Kd.V_drew)); first | exact (Q_HO160 h0_ h1_) | exact Kd.V_mono (Q_HO160 h0_ h1_) (fun _ hk => by revert hk; (try simp only [and_imp]); intros; repeat' (first | assumption | trivial | apply And.intro))) (Kd.R_base ho0) hb) (fun _ h_ => by first | trivial | exact h_ | exact h_.1))
                                  clear HO_6
                                  clear HO163
                                  clear HB
                                  have HO_6 := n0_
                                  have HO163 := n1_
                                  have HO166 := n2_
                                  have HB := n3_
                                  clear n0_ n1_ n2_ n3_
                                  (try clear hb)
                                  (try clear hb2)
                                  (try clear hk)
                                  (try clear hi)
                                  (try clear ho0)
                                  refine hK.out _ _ ⟨v159, v162, v165, v169, v172, v175, m14_, (by rw [ha.out]; exact putSel_upk 2 hb_ rfl rfl rfl), fun _ => (by (with_reducible repeat (first | apply Kd.R_alloc | apply Kd.R_drewN | apply Kd.R_drew)); first | exact Kd.R_mono HO_6.out (fun _ hk => by first | exact ⟨hk.1.1, ⟨hk.1.2, hk.2⟩⟩ | (revert hk; (try simp only [and_imp]); intros; repeat' (first | assumption | trivial | apply And.intro))) | exact Kd.R_mono HO_6.out (fun _ hk => by revert hk; (try simp only [and_imp]); intros; repeat' (first | assumption | trivial | apply And.intro))), (by repeat (first | (with_reducible first | exact HB.out | apply below_alloc | apply pw_below_drewN | apply below_drew1) | exact HB.out)), z_HO160, fun _ _ => (by (with_reducible repeat (first | apply Kd.R_alloc | apply Kd.R_drewN | apply Kd.R_drew)); first | exact Kd.R_mono HO163.out (fun _ hk => by first | exact ⟨hk.1.1, ⟨hk.2, hk.1.2⟩⟩ | (revert hk; (try simp only [and_imp]); intros; repeat' (first | assumption | trivial | apply And.intro))) | exact Kd.R_mono HO163.out (fun _ hk => by revert hk; (try simp only [and_imp]); intros; repeat' (first | assumption | trivial | apply And.intro))), fun _ _ => (by (with_reducible repeat (first | apply Kd.R_alloc | apply Kd.R_drewN | apply Kd.R_drew)); first | exact Kd.R_mono HO166.out (fun _ hk => by first | exact ⟨hk.1.1.1, ⟨hk.2, hk.1.2⟩⟩ | (revert hk; (try simp only [and_imp]); intros; repeat' (first | assumption | trivial | apply And.intro))) | exact Kd.R_mono HO166.out (fun _ hk => by revert hk; (try simp only [and_imp]); intros; repeat' (first | assumption | trivial | apply And.intro))), fun h0_ _ => absurd ((hoff 11 (by kernel_rfl)).symm.trans h0_) (by decide), fun h0_ => absurd ((hoff 12 (by kernel_rfl)).symm.trans h0_) (by decide), fun h0_ => absurd ((hoff 12 (by kernel_rfl)).symm.trans h0_) (by decide), fun h0_ => absurd ((hoff 13 (by kernel_rfl)).symm.trans h0_) (by decide), fun h0_ => absurd ((hoff 14 (by kernel_rfl)).symm.trans h0_) (by decide)⟩
                                refine steps_cons ?_ ?_
                                · rintro b a w' ⟨v159, v162, v165, v169, v172, v175, m14_, ha, Q_HO_6, Q_HB, Q_HO160, Q_HO163, Q_HO166, Q_HO170, Q_HO160_e12, Q_HO173, Q_HO176, Q_X14_⟩ hb_ hon hoff
                                  refine ⟨_, rfl, fun K hK => ?_⟩
                                  have e51 : a.tmps[51]? = some (.slice (some ad167) l1.length c1) := by rw [ha]; exact (putSel_off rfl).trans rfl
                                  have e52 : a.tmps[52]? = some (.int .i64 x30_2) := by rw [ha]; exact (putSel_off rfl).trans rfl
                                  replace ha := Aside0.mk ha
                                  have HO_6 := Aside0.mk (Q_HO_6 (hoff 12 (by kernel_rfl)))
                                  have HB := Aside0.mk Q_HB
                                  have hs0_ : w'.cell? (ad167.add (x30_2).toNat) = some (.slice A167_0 (rd_L2 l1 x30_2).length c167_0) := ((HB.out.cell (cLt w _ hw167_0)).trans hw167_0)
                                  refine value_ (w1 := w') (v := .pointer (some (ad167.add (x30_2).toNat))) (by rfl) rfl ?_ ?_
                                  · go_simp
                                    (try simp only [i64_w])
                                    try rfl
                                  refine hK.out _ _ ⟨v159, v162, v165, v169, v172, v175, m14_, (by rw [ha.out]; exact putSel_upk 3 hb_ rfl rfl rfl), Q_HO_6, Q_HB, Q_HO160, Q_HO163, Q_HO166, fun h0_ _ => absurd ((hoff 11 (by kernel_rfl)).symm.trans h0_) (by decide), fun h0_ => absurd ((hoff 12 (by kernel_rfl)).symm.trans h0_) (by decide), fun h0_ => absurd ((hoff 12 (by kernel_rfl)).symm.trans h0_) (by decide), fun h0_ => absurd ((hoff 13 (by kernel_rfl)).symm.trans h0_) (by decide), fun h0_ => absurd ((hoff 14 (by kernel_rfl)).symm.trans h0_) (by decide)⟩
                                refine steps_cons ?_ ?_
                                · rintro b a w' ⟨v159, v162, v165, v169, v172, v175, m14_, ha, Q_HO_6, Q_HB, Q_HO160, Q_HO163, Q_HO166, Q_HO170, Q_HO160_e12, Q_HO173, Q_HO176, Q_X14_⟩ hb_ hon hoff
                                  refine ⟨_, rfl, fun K hK => ?_⟩
                                  have e53 : a.tmps[53]? = some (.pointer (some (ad167.add (x30_2).toNat))) := by rw [ha]; exact putSel_on (e := (8, 53, .pointer (some (ad167.add (x30_2).toNat)))) 3 rfl rfl (hon 8 (by kernel_rfl)) rfl
                                  replace ha := Aside0.mk ha
                                  have HO_6 := Aside0.mk (Q_HO_6 (hoff 12 (by kernel_rfl)))
                                  have HB := Aside0.mk Q_HB
                                  have hs0_ : w'.cell? (ad167.add (x30_2).toNat) = some (.slice A167_0 (rd_L2 l1 x30_2).length c167_0) := ((HB.out.cell (cLt w _ hw167_0)).trans hw167_0)
                                  refine value_ (w1 := w') (v := .slice A167_0 (rd_L2 l1 x30_2).length c167_0) (by rfl) rfl ?_ ?_
                                  · go_simp
                                    (try simp only [i64_w])
                                    try rfl
                                  refine hK.out _ _ ⟨v159, v162, v165, v169, v172, v175, m14_, (by rw [ha.out]; exact putSel_upk 4 hb_ rfl rfl rfl), Q_HO_6, Q_HB, Q_HO160, Q_HO163, Q_HO166, fun h0_ _ => absurd ((hoff 11 (by kernel_rfl)).symm.trans h0_) (by decide), fun h0_ => absurd ((hoff 12 (by kernel_rfl)).symm.trans h0_) (by decide), fun h0_ => absurd ((hoff 12 (by kernel_rfl)).symm.trans h0_) (by decide), fun h0_ => absurd ((hoff 13 (by kernel_rfl)).symm.trans h0_) (by decide), fun h0_ => absurd ((hoff 14 (by kernel_rfl)).symm.trans h0_) (by decide)⟩
                                refine steps_cons ?_ ?_
                                · rintro b a w' ⟨v159, v162, v165, v169, v172, v175, m14_, ha, Q_HO_6, Q_HB, Q_HO160, Q_HO163, Q_HO166, Q_HO170, Q_HO160_e12, Q_HO173, Q_HO176, Q_X14_⟩ hb_ hon hoff
                                  refine ⟨_, rfl, fun K hK => ?_⟩
                                  have e54 : a.tmps[54]? = some (.slice A167_0 (rd_L2 l1 x30_2).length c167_0) := by rw [ha]; exact putSel_on (e := (9, 54, .slice A167_0 (rd_L2 l1 x30_2).length c167_0)) 4 rfl rfl (hon 9 (by kernel_rfl)) rfl
                                  replace ha := Aside0.mk ha
                                  have HO_6 := Aside0.mk (Q_HO_6 (hoff 12 (by kernel_rfl)))
                                  have HB := Aside0.mk Q_HB
                                  refine value_ (w1 := w') (v := .int .i64 ((rd_L2 l1 x30_2).length : Int)) (by rfl) rfl ?_ ?_
                                  · go_simp
                                    (try simp only [i64_w])
                                    try rfl
                                  refine hK.out _ _ ⟨v159, v162, v165, v169, v172, v175, m14_, (by rw [ha.out]; exact putSel_upk 5 hb_ rfl rfl rfl), Q_HO_6, Q_HB, Q_HO160, Q_HO163, Q_HO166, fun h0_ _ => absurd ((hoff 11 (by kernel_rfl)).symm.trans h0_) (by decide), fun h0_ => absurd ((hoff 12 (by kernel_rfl)).symm.trans h0_) (by decide), fun h0_ => absurd ((hoff 12 (by kernel_rfl)).symm.trans h0_) (by decide), fun h0_ => absurd ((hoff 13 (by kernel_rfl)).symm.trans h0_) (by decide), fun h0_ => absurd ((hoff 14 (by kernel_rfl)).symm.trans h0_) (by decide)⟩
                                refine steps_cons ?_ ?_
                                · rintro b a w' ⟨v159, v162, v165, v169, v172, v175, m14_, ha, Q_HO_6, Q_HB, Q_HO160, Q_HO163, Q_HO166, Q_HO170, Q_HO160_e12, Q_HO173, Q_HO176, Q_X14_⟩ hb_ hon hoff
                                  refine ⟨_, rfl, fun K hK => ?_⟩
                                  have e55 : a.tmps[55]? = some (.int .i64 ((rd_L2 l1 x30_2).length : Int)) := by rw [ha]; exact putSel_on (e := (10, 55, .int .i64 ((rd_L2 l1 x30_2).length : Int))) 5 rfl rfl (hon 10 (by kernel_rfl)) rfl
                                  replace ha := Aside0.mk ha
                                  have HO_6 := Aside0.mk (Q_HO_6 (hoff 12 (by kernel_rfl)))
                                  have HB := Aside0.mk Q_HB
                                  have HO163 := Aside0.mk (Q_HO163 (hon 3 (by kernel_rfl)) (hoff 12 (by kernel_rfl)))
                                  have HO166 := Aside0.mk (Q_HO166 (hon 5 (by kernel_rfl)) (hoff 12 (by kernel_rfl)))
                                  refine goes_ Try.func63 (by kernel_rfl) rfl #[.int .i64 ((rd_L2 l1 x30_2).length : Int)] (by rfl) rfl rfl (by first | (simp only [List.map_toArray, List.map_cons, List.map_nil, Act.eval, Array.getD_eq_getD_getElem?, Option.getD_some, e55]; done) | (simp only [List.map_toArray, List.map_cons, List.map_nil, Act.eval, Array.getD_eq_getD_getElem?, Option.getD_some, e55]; rfl)) ?_
                                  with_reducible refine (sfnt_u32.calls ((rd_L2 l1 x30_2).length : Int) t168 _ A23.out).mono ?_
                                  rintro e w29 ⟨v169, rfl, ho0, hb⟩
                                  refine ⟨_, rfl, ?_⟩
                                  have n0_ := Aside0.mk (Kd.R_elder' (by (with_reducible repeat (first | apply Kd.R_alloc | apply Kd.R_drewN | apply Kd.R_drew)); first | exact HO_6.out | exact Kd.R_mono HO_6.out (fun _ hk => by revert hk; (try simp only [and_imp]); intros; repeat' (first | assumption | trivial | apply And.intro))) (Kd.R_base ho0) hb)
                                  have n1_ := Aside0.mk (Kd.R_elder' (by (with_reducible repeat (first | apply Kd.R_alloc | apply Kd.R_drewN | apply Kd.R_drew)); first | exact HO163.out | exact Kd.R_mono HO163.out (fun _ hk => by revert hk; (try simp only [and_imp]); intros; repeat' (first | assumption | trivial | apply And.intro))) (Kd.R_base ho0) hb)
                                  have n2_ := Aside0.mk (Kd.R_elder' (by (with_reducible repeat (first | apply Kd.R_alloc | apply Kd.R_drewN | apply Kd.R_drew)); first | exact HO166.out | exact Kd.R_mono HO166.out (fun _ hk => by revert hk; (try simp only [and_imp]); intros; repeat' (first | assumption | trivial | apply And.intro))) (Kd.R_base ho0) hb)
                                  have n3_ := Aside0.mk (Kd.R_lower (Kd.R_new' (Kd.R_new' (Kd.R_new' (Kd.R_newM (M := fun k_ => (w.heap.size ≤ k_)) ho0 (below_size (by repeat (first | (with_reducible first | exact HB.out | apply below_alloc | apply pw_below_drewN | apply below_drew1) | exact HB.out))) (fun k_ h_ => h_)) (Kd.R_lt (by (with_reducible repeat (first | apply Kd.R_alloc | apply Kd.R_drewN | apply Kd.R_drew)); first | exact HO_6.out | exact Kd.R_mono HO_6.out (fun _ hk => by revert hk; (try simp only [and_imp]); intros; repeat' (first | assumption | trivial | apply And.intro))))) (Kd.R_lt (by (with_reducible repeat (first | apply Kd.R_alloc | apply Kd.R_drewN | apply Kd.R_drew)); first | exact HO163.out | exact Kd.R_mono HO163.out (fun _ hk => by revert hk; (try simp only [and_imp]); intros; repeat' (first | assumption | trivial | apply And.intro))))) (Kd.R_lt (by (with_reducible repeat (first | apply Kd.R_alloc | apply Kd.R_drewN | apply Kd.R_drew)); first | exact HO166.out | exact Kd.R_mono HO166.out (fun _ hk => by revert hk; (try simp only [and_imp]); intros; repeat' (first | assumption | trivial | apply And.intro))))) (below_size (by repeat (first | (with_reducible first | exact HB.out | apply below_alloc | apply pw_below_drewN | apply below_drew1) | exact HB.out))))
                                  have n4_ := Aside0.mk (below_step (by repeat (first | (with_reducible first | exact HB.out | apply below_alloc | apply pw_below_drewN | apply below_drew1) | exact HB.out)) hb)
                                  have z_HO160 := fun (h0_ : b 2 = true) (h1_ : b 12 = false) => (show Kd.V (Kd.int .u8) 5 w29 w.heap.size (fun k_ => (w.heap.size ≤ k_) ∧ some k_ ≠ (u6 : Value).ownBlock) v159 y158 from by first | exact (Kd.V_elder' (by (with_reducible repeat (first | apply Kd.V_alloc | apply Kd.V_drewN | apply Kd.V_drew)); first | exact (Q_HO160 h0_ h1_) | exact Kd.V_mono (Q_HO160 h0_ h1_) (fun _ hk => by revert hk; (try simp only [and_imp]); intros; repeat' (first | assumption | trivial | apply And.intro))) (Kd.R_base ho0) hb) | exact Kd.V_mono (Kd.V_elder' (by (with_reducible repeat (first | apply Kd.V_alloc | apply Kd.V_drewN | apply Kd.V_drew)); first | exact (Q_HO160 h0_ h1_) | exact Kd.V_mono (Q_HO160 h0_ h1_) (fun _ hk => by revert hk; (try simp only [and_imp]); intros; repeat' (first | assumption | trivial | apply And.intro))) (Kd.R_base ho0) hb) (fun _ h_ => by first | trivial | exact h_ | exact h_.1))
                                  clear HO_6
                                  clear HO163
                                  clear HO166
                                  clear HB
                                  have HO_6 := n0_
                                  have HO163 := n1_
                                  have HO166 := n2_
                                  have HO170 := n3_
                                  have HB := n4_
                                  clear n0_ n1_ n2_ n3_ n4_
                                  (try clear hb)
                                  (try clear hb2)
                                  (try clear hk)
                                  (try clear hi)
                                  (try clear ho0)
                                  refine hK.out _ _ ⟨v159, v162, v165, v169, v172, v175, m14_, (by rw [ha.out]; exact putSel_upk 6 hb_ rfl rfl rfl), fun _ => (by (with_reducible repeat (first | apply Kd.R_alloc | apply Kd.R_drewN | apply Kd.R_drew)); first | exact Kd.R_mono HO_6.out (fun _ hk => by first | exact ⟨hk.1.1, ⟨hk.1.2.1, ⟨hk.1.2.2, hk.2⟩⟩⟩ | (revert hk; (try simp only [and_imp]); intros; repeat' (first | assumption | trivial | apply And.intro))) | exact Kd.R_mono HO_6.out (fun _ hk => by revert hk; (try simp only [and_imp]); intros; repeat' (first | assumption | trivial | apply And.intro))), (by repeat (first | (with_reducible first | exact HB.out | apply below_alloc | apply pw_below_drewN | apply below_drew1) | exact HB.out)), z_HO160, fun _ _ => (by (with_reducible repeat (first | apply Kd.R_alloc | apply Kd.R_drewN | apply Kd.R_drew)); first | exact Kd.R_mono HO163.out (fun _ hk => by first | exact ⟨hk.1.1, ⟨hk.1.2.1, ⟨hk.2, hk.1.2.2⟩⟩⟩ | (revert hk; (try simp only [and_imp]); intros; repeat' (first | assumption | trivial | apply And.intro))) | exact Kd.R_mono HO163.out (fun _ hk => by revert hk; (try simp only [and_imp]); intros; repeat' (first | assumption | trivial | apply And.intro))), fun _ _ => (by (with_reducible repeat (first | apply Kd.R_alloc | apply Kd.R_drewN | apply Kd.R_drew)); first | exact Kd.R_mono HO166.out (fun _ hk => by first | exact ⟨hk.1.1, ⟨hk.1.2.1, ⟨hk.2, hk.1.2.2⟩⟩⟩ | (revert hk; (try simp only [and_imp]); intros; repeat' (first | assumption | trivial | apply And.intro))) | exact Kd.R_mono HO166.out (fun _ hk => by revert hk; (try simp only [and_imp]); intros; repeat' (first | assumption | trivial | apply And.intro))), fun _ _ => (by (with_reducible repeat (first | apply Kd.R_alloc | apply Kd.R_drewN | apply Kd.R_drew)); first | exact Kd.R_mono HO170.out (fun _ hk => by first | exact ⟨hk.1.1.1.1, ⟨hk.1.2, ⟨hk.2, hk.1.1.2⟩⟩⟩ | (revert hk; (try simp only [and_imp]); intros; repeat' (first | assumption | trivial | apply And.intro))) | exact Kd.R_mono HO170.out (fun _ hk => by revert hk; (try simp only [and_imp]); intros; repeat' (first | assumption | trivial | apply And.intro))), fun h0_ => absurd ((hoff 12 (by kernel_rfl)).symm.trans h0_) (by decide), fun h0_ => absurd ((hoff 12 (by kernel_rfl)).symm.trans h0_) (by decide), fun h0_ => absurd ((hoff 13 (by kernel_rfl)).symm.trans h0_) (by decide), fun h0_ => absurd ((hoff 14 (by kernel_rfl)).symm.trans h0_) (by decide)⟩
                                refine steps_cons ?_ ?_
                                · rintro b a w' ⟨v159, v162, v165, v169, v172, v175, m14_, ha, Q_HO_6, Q_HB, Q_HO160, Q_HO163, Q_HO166, Q_HO170, Q_HO160_e12, Q_HO173, Q_HO176, Q_X14_⟩ hb_ hon hoff
                                  refine ⟨_, rfl, fun K hK => ?_⟩
                                  have e45 : a.tmps[45]? = some (u6) := by rw [ha]; exact (putSel_off rfl).trans rfl
                                  have e47 : a.tmps[47]? = some (v159) := by rw [ha]; exact putSel_on (e := (2, 47, v159)) 0 rfl rfl (hon 2 (by kernel_rfl)) rfl
                                  have e48 : a.tmps[48]? = some (v162) := by rw [ha]; exact putSel_on (e := (3, 48, v162)) 1 rfl rfl (hon 3 (by kernel_rfl)) rfl
                                  have e50 : a.tmps[50]? = some (v165) := by rw [ha]; exact putSel_on (e := (5, 50, v165)) 2 rfl rfl (hon 5 (by kernel_rfl)) rfl
                                  have e56 : a.tmps[56]? = some (v169) := by rw [ha]; exact putSel_on (e := (11, 56, v169)) 6 rfl rfl (hon 11 (by kernel_rfl)) rfl
                                  replace ha := Aside0.mk ha
                                  have HO_6 := Aside0.mk (Q_HO_6 hb_)
                                  have HB := Aside0.mk Q_HB
                                  have HO160 := Aside0.mk (Q_HO160 (hon 2 (by kernel_rfl)) hb_)
                                  have HO163 := Aside0.mk (Q_HO163 (hon 3 (by kernel_rfl)) hb_)
                                  have HO166 := Aside0.mk (Q_HO166 (hon 5 (by kernel_rfl)) hb_)
                                  have HO170 := Aside0.mk (Q_HO170 (hon 11 (by kernel_rfl)) hb_)
                                  obtain ⟨Ao32, co32, eo32⟩ := Kd.R_slice HO_6.out
                                  (first | subst eo32 | (injection eo32 with f1_ f2_ f3_; have f4_ := f1_.symm; have f5_ := f3_.symm; clear f1_ f2_ f3_; subst f4_; subst f5_))
                                  obtain ⟨Ao33, co33, eo33⟩ := Kd.V_slice HO160.out
                                  (first | subst eo33 | (injection eo33 with f1_ f2_ f3_; have f4_ := f1_.symm; have f5_ := f3_.symm; clear f1_ f2_ f3_; subst f4_; subst f5_))
                                  obtain ⟨Ao34, co34, eo34⟩ := Kd.R_slice HO163.out
                                  (first | subst eo34 | (injection eo34 with f1_ f2_ f3_; have f4_ := f1_.symm; have f5_ := f3_.symm; clear f1_ f2_ f3_; subst f4_; subst f5_))
                                  obtain ⟨Ao35, co35, eo35⟩ := Kd.R_slice HO166.out
                                  (first | subst eo35 | (injection eo35 with f1_ f2_ f3_; have f4_ := f1_.symm; have f5_ := f3_.symm; clear f1_ f2_ f3_; subst f4_; subst f5_))
                                  obtain ⟨Ao36, co36, eo36⟩ := Kd.R_slice HO170.out
                                  (first | subst eo36 | (injection eo36 with f1_ f2_ f3_; have f4_ := f1_.symm; have f5_ := f3_.symm; clear f1_ f2_ f3_; subst f4_; subst f5_))
                                  refine Kd.N_lit_step (Kd.slice 5 (Kd.int .u8)) _ 24 ?hg (N' := 57) ?hd (xs := ([x6_2, y158, t161, t164, t168] : List (List Int))) (inner := [.slice Ao32 x6_2.length co32, .slice Ao33 y158.length co33, .slice Ao34 t161.length co34, .slice Ao35 t164.length co35, .slice Ao36 t168.length co36]) (ok := (fun k_ => (w.heap.size ≤ k_))) (okp := (fun k_ => (w.heap.size ≤ k_))) ?hr ?hp (fun _ hk => by first | exact hk | (revert hk; (try simp only [and_imp]); intros; repeat' (first | assumption | trivial | apply And.intro))) ((show ∀ k_, w'.heap.size ≤ k_ → (fun k_ => (w.heap.size ≤ k_)) k_ from fun k_ hk => (Nat.le_trans (below_size (by repeat (first | (with_reducible first | exact HB.out | apply below_alloc | apply pw_below_drewN | apply below_drew1) | exact HB.out))) hk)) _ (Nat.le_refl _)) (Below.refl _ _) (Nat.le_refl _) (by simp) ?_; (case hd => rfl); (case hg => rfl); (case hr => first | (go_simp; done) | (go_simp; rfl)); (case hp => exact (Reps.one (show Kd.FK (Kd.slice 5 (Kd.int .u8)) _ _ x6_2 [.slice Ao32 x6_2.length co32] from (Kd.FK_slice_mk (Kd.R_reads' (Kd.R_mono (ok' := (fun k_ => (w.heap.size ≤ k_))) (HO_6.out) (fun k_ hk => by first | exact hk.1 | (revert hk; (try simp only [and_imp]); intros; repeat' (first | assumption | trivial | apply And.intro))))).2.1 (Kd.R_F (Kd.R_mono (ok' := (fun k_ => (w.heap.size ≤ k_))) (HO_6.out) (fun k_ hk => by first | exact hk.1 | (revert hk; (try simp only [and_imp]); intros; repeat' (first | assumption | trivial | apply And.intro))))))) (Reps.one (show Kd.FK (Kd.slice 5 (Kd.int .u8)) _ _ y158 [.slice Ao33 y158.length co33] from (Kd.FK_slice_mk (Kd.V_reads' (Kd.V_mono (ok' := (fun k_ => (w.heap.size ≤ k_))) (HO160.out) (fun k_ hk => by first | exact hk.1 | (revert hk; (try simp only [and_imp]); intros; repeat' (first | assumption | trivial | apply And.intro))))).2.1 (Kd.V_F (Kd.V_mono (ok' := (fun k_ => (w.heap.size ≤ k_))) (HO160.out) (fun k_ hk => by first | exact hk.1 | (revert hk; (try simp only [and_imp]); intros; repeat' (first | assumption | trivial | apply And.intro))))))) (Reps.one (show Kd.FK (Kd.slice 5 (Kd.int .u8)) _ _ t161 [.slice Ao34 t161.length co34] from (Kd.FK_slice_mk (Kd.R_reads' (Kd.R_mono (ok' := (fun k_ => (w.heap.size ≤ k_))) (HO163.out) (fun k_ hk => by first | exact hk.1 | (revert hk; (try simp only [and_imp]); intros; repeat' (first | assumption | trivial | apply And.intro))))).2.1 (Kd.R_F (Kd.R_mono (ok' := (fun k_ => (w.heap.size ≤ k_))) (HO163.out) (fun k_ hk => by first | exact hk.1 | (revert hk; (try simp only [and_imp]); intros; repeat' (first | assumption | trivial | apply And.intro))))))) (Reps.one (show Kd.FK (Kd.slice 5 (Kd.int .u8)) _ _ t164 [.slice Ao35 t164.length co35] from (Kd.FK_slice_mk (Kd.R_reads' (Kd.R_mono (ok' := (fun k_ => (w.heap.size ≤ k_))) (HO166.out) (fun k_ hk => by first | exact hk.1 | (revert hk; (try simp only [and_imp]); intros; repeat' (first | assumption | trivial | apply And.intro))))).2.1 (Kd.R_F (Kd.R_mono (ok' := (fun k_ => (w.heap.size ≤ k_))) (HO166.out) (fun k_ hk => by first | exact hk.1 | (revert hk; (try simp only [and_imp]); intros; repeat' (first | assumption | trivial | apply And.intro))))))) (Reps.one (show Kd.FK (Kd.slice 5 (Kd.int .u8)) _ _ t168 [.slice Ao36 t168.length co36] from (Kd.FK_slice_mk (Kd.R_reads' (Kd.R_mono (ok' := (fun k_ => (w.heap.size ≤ k_))) (HO170.out) (fun k_ hk => by first | exact hk.1 | (revert hk; (try simp only [and_imp]); intros; repeat' (first | assumption | trivial | apply And.intro))))).2.1 (Kd.R_F (Kd.R_mono (ok' := (fun k_ => (w.heap.size ≤ k_))) (HO170.out) (fun k_ hk => by first | exact hk.1 | (revert hk; (try simp only [and_imp]); intros; repeat' (first | assumption | trivial | apply And.intro))))))) (Reps.none _ _)))))))
                                  intro v172 w37 ho38 hb hg_ hnew_
                                  clear hg_ hnew_
                                  (first | rw [← Ny171.out] at ho38 | (simp only [Int.reduceToNat] at ho38; rw [← Ny171.out] at ho38))
                                  have n0_ := Aside0.mk (Kd.V_elder' (by (with_reducible repeat (first | apply Kd.V_alloc | apply Kd.V_drewN | apply Kd.V_drew)); first | exact HO160.out | exact Kd.V_mono HO160.out (fun _ hk => by revert hk; (try simp only [and_imp]); intros; repeat' (first | assumption | trivial | apply And.intro))) (Kd.N_base ho38) hb)
                                  have n1_ := Aside0.mk (Kd.N_lower ho38 (below_size (by repeat (first | (with_reducible first | exact HB.out | apply below_alloc | apply pw_below_drewN | apply below_drew1) | exact HB.out))))
                                  have n2_ := Aside0.mk (below_step (by repeat (first | (with_reducible first | exact HB.out | apply below_alloc | apply pw_below_drewN | apply below_drew1) | exact HB.out)) hb)
                                  clear HO160
                                  clear HB
                                  clear HO163
                                  clear HO166
                                  clear HO170
                                  clear HO_6
                                  have HO160 := n0_
                                  have HO173 := n1_
                                  have HB := n2_
                                  clear n0_ n1_ n2_
                                  clear hb ho38
                                  refine hK.out _ _ ⟨.slice Ao33 y158.length co33, .slice Ao34 t161.length co34, .slice Ao35 t164.length co35, .slice Ao36 t168.length co36, v172, v175, m14_, (by rw [ha.out]; exact putSel_upk 7 hb_ rfl rfl rfl), fun h0_ => absurd ((up_self b 12).symm.trans h0_) (by decide), (by repeat (first | (with_reducible first | exact HB.out | apply below_alloc | apply pw_below_drewN | apply below_drew1) | exact HB.out)), fun _ h1_ => absurd ((up_self b 12).symm.trans h1_) (by decide), fun _ h1_ => absurd ((up_self b 12).symm.trans h1_) (by decide), fun _ h1_ => absurd ((up_self b 12).symm.trans h1_) (by decide), fun _ h1_ => absurd ((up_self b 12).symm.trans h1_) (by decide), fun _ => (by (with_reducible repeat (first | apply Kd.V_alloc | apply Kd.V_drewN | apply Kd.V_drew)); first | exact Kd.V_mono HO160.out (fun _ hk => by first | exact ⟨hk.1.1, hk.2⟩ | (revert hk; (try simp only [and_imp]); intros; repeat' (first | assumption | trivial | apply And.intro))) | exact Kd.V_mono HO160.out (fun _ hk => by revert hk; (try simp only [and_imp]); intros; repeat' (first | assumption | trivial | apply And.intro))), fun _ => (by (with_reducible repeat (first | apply Kd.N_alloc | apply Kd.N_drewN | apply Kd.N_drew)); first | exact HO173.out | exact Kd.N_mono HO173.out (fun _ hk => by revert hk; (try simp only [and_imp]); intros; repeat' (first | assumption | trivial | apply And.intro))), fun h0_ => absurd ((hoff 13 (by kernel_rfl)).symm.trans h0_) (by decide), fun h0_ => absurd ((hoff 14 (by kernel_rfl)).symm.trans h0_) (by decide)⟩
                                refine steps_cons ?_ ?_
                                · rintro b a w' ⟨v159, v162, v165, v169, v172, v175, m14_, ha, Q_HO_6, Q_HB, Q_HO160, Q_HO163, Q_HO166, Q_HO170, Q_HO160_e12, Q_HO173, Q_HO176, Q_X14_⟩ hb_ hon hoff
                                  refine ⟨_, rfl, fun K hK => ?_⟩
                                  have e57 : a.tmps[57]? = some (v172) := by rw [ha]; exact putSel_on (e := (12, 57, v172)) 7 rfl rfl (hon 12 (by kernel_rfl)) rfl
                                  replace ha := Aside0.mk ha
                                  have HB := Aside0.mk Q_HB
                                  have HO160 := Aside0.mk (Q_HO160_e12 (hon 12 (by kernel_rfl)))
                                  have HO173 := Aside0.mk (Q_HO173 (hon 12 (by kernel_rfl)))
                                  obtain ⟨Ao39, co39, eo39⟩ := Kd.N_slice HO173.out
                                  (first | subst eo39 | (injection eo39 with f1_ f2_ f3_; have f4_ := f1_.symm; have f5_ := f3_.symm; clear f1_ f2_ f3_; subst f4_; subst f5_))
                                  refine goes_ Try.func62 (by kernel_rfl) rfl #[.slice Ao39 y171.length co39] (by rfl) rfl rfl (by first | (simp only [List.map_toArray, List.map_cons, List.map_nil, Act.eval, Array.getD_eq_getD_getElem?, Option.getD_some, e57]; done) | (simp only [List.map_toArray, List.map_cons, List.map_nil, Act.eval, Array.getD_eq_getD_getElem?, Option.getD_some, e57]; rfl)) ?_
                                  with_reducible refine (slices_Concat_byte_byte.calls kj10 _ _ y171 t174 _ ?side1 ?side2 A24.out).mono ?_
                                  (case side1 => repeat (first | exact (Kd.N_reads' HO173.out).2.2 | (with_reducible refine Kd.C_alloc ?_ _) | (with_reducible refine Kd.C_drewN ?_ _) | (with_reducible refine Kd.C_drew ?_)))
                                  (case side2 => exact (Kd.N_reads' HO173.out).2.1)
                                  rintro e w40 ⟨v175, rfl, ho0, hb⟩
                                  refine ⟨_, rfl, ?_⟩
                                  have n0_ := Aside0.mk (Kd.V_elder' (by (with_reducible repeat (first | apply Kd.V_alloc | apply Kd.V_drewN | apply Kd.V_drew)); first | exact HO160.out | exact Kd.V_mono HO160.out (fun _ hk => by revert hk; (try simp only [and_imp]); intros; repeat' (first | assumption | trivial | apply And.intro))) (Kd.R_base ho0) hb)
                                  have n1_ := Aside0.mk (Kd.N_elder' (by (with_reducible repeat (first | apply Kd.N_alloc | apply Kd.N_drewN | apply Kd.N_drew)); first | exact HO173.out | exact Kd.N_mono HO173.out (fun _ hk => by revert hk; (try simp only [and_imp]); intros; repeat' (first | assumption | trivial | apply And.intro))) (Kd.R_base ho0) hb)
                                  have n2_ := Aside0.mk (Kd.R_lower (Kd.R_newM (M := fun k_ => (w.heap.size ≤ k_)) ho0 (below_size (by repeat (first | (with_reducible first | exact HB.out | apply below_alloc | apply pw_below_drewN | apply below_drew1) | exact HB.out))) (fun k_ h_ => h_)) (below_size (by repeat (first | (with_reducible first | exact HB.out | apply below_alloc | apply pw_below_drewN | apply below_drew1) | exact HB.out))))
                                  have n3_ := Aside0.mk (below_step (by repeat (first | (with_reducible first | exact HB.out | apply below_alloc | apply pw_below_drewN | apply below_drew1) | exact HB.out)) hb)
                                  clear HO160
                                  clear HO173
                                  clear HB
                                  have HO160 := n0_
                                  have HO173 := n1_
                                  have HO176 := n2_
                                  have HB := n3_
                                  clear n0_ n1_ n2_ n3_
                                  (try clear hb)
                                  (try clear hb2)
                                  (try clear hk)
                                  (try clear hi)
                                  (try clear ho0)
                                  refine hK.out _ _ ⟨v159, v162, v165, v169, .slice Ao39 y171.length co39, v175, m14_, (by rw [ha.out]; exact putSel_upk 8 hb_ rfl rfl rfl), fun h0_ => absurd ((hon 12 (by kernel_rfl)).symm.trans h0_) (by decide), (by repeat (first | (with_reducible first | exact HB.out | apply below_alloc | apply pw_below_drewN | apply below_drew1) | exact HB.out)), fun _ h1_ => absurd ((hon 12 (by kernel_rfl)).symm.trans h1_) (by decide), fun _ h1_ => absurd ((hon 12 (by kernel_rfl)).symm.trans h1_) (by decide), fun _ h1_ => absurd ((hon 12 (by kernel_rfl)).symm.trans h1_) (by decide), fun _ h1_ => absurd ((hon 12 (by kernel_rfl)).symm.trans h1_) (by decide), fun _ => (by (with_reducible repeat (first | apply Kd.V_alloc | apply Kd.V_drewN | apply Kd.V_drew)); first | exact Kd.V_mono HO160.out (fun _ hk => by first | exact ⟨hk.1.1, ⟨hk.1.2, hk.2⟩⟩ | (revert hk; (try simp only [and_imp]); intros; repeat' (first | assumption | trivial | apply And.intro))) | exact Kd.V_mono HO160.out (fun _ hk => by revert hk; (try simp only [and_imp]); intros; repeat' (first | assumption | trivial | apply And.intro))), fun _ => (by (with_reducible repeat (first | apply Kd.N_alloc | apply Kd.N_drewN | apply Kd.N_drew)); first | exact HO173.out | exact Kd.N_mono HO173.out (fun _ hk => by revert hk; (try simp only [and_imp]); intros; repeat' (first | assumption | trivial | apply And.intro))), fun _ => (by (with_reducible repeat (first | apply Kd.R_alloc | apply Kd.R_drewN | apply Kd.R_drew)); first | exact Kd.R_mono HO176.out (fun _ hk => by first | exact hk.1 | (revert hk; (try simp only [and_imp]); intros; repeat' (first | assumption | trivial | apply And.intro))) | exact Kd.R_mono HO176.out (fun _ hk => by revert hk; (try simp only [and_imp]); intros; repeat' (first | assumption | trivial | apply And.intro))), fun h0_ => absurd ((hoff 14 (by kernel_rfl)).symm.trans h0_) (by decide)⟩
                                refine steps_cons ?_ ?_
                                · rintro b a w' ⟨v159, v162, v165, v169, v172, v175, m14_, ha, Q_HO_6, Q_HB, Q_HO160, Q_HO163, Q_HO166, Q_HO170, Q_HO160_e12, Q_HO173, Q_HO176, Q_X14_⟩ hb_ hon hoff
                                  refine ⟨_, rfl, fun K hK => ?_⟩
                                  have e58 : a.tmps[58]? = some (v175) := by rw [ha]; exact putSel_on (e := (13, 58, v175)) 8 rfl rfl (hon 13 (by kernel_rfl)) rfl
                                  replace ha := Aside0.mk ha
                                  have HB := Aside0.mk Q_HB
                                  have HO160 := Aside0.mk (Q_HO160_e12 (hon 12 (by kernel_rfl)))
                                  have HO173 := Aside0.mk (Q_HO173 (hon 12 (by kernel_rfl)))
                                  have HO176 := Aside0.mk (Q_HO176 (hon 13 (by kernel_rfl)))
                                  refine value_ (w1 := w') (v := v175) (by rfl) rfl ?_ ?_
                                  · go_simp
                                    (try simp only [i64_w])
                                    try rfl
                                  refine hK.out _ _ ⟨v159, v162, v165, v169, v172, v175, (v175), (by rw [ha.out]; exact putSel_upk 9 hb_ rfl rfl rfl), fun h0_ => absurd ((hon 12 (by kernel_rfl)).symm.trans h0_) (by decide), Q_HB, fun _ h1_ => absurd ((hon 12 (by kernel_rfl)).symm.trans h1_) (by decide), fun _ h1_ => absurd ((hon 12 (by kernel_rfl)).symm.trans h1_) (by decide), fun _ h1_ => absurd ((hon 12 (by kernel_rfl)).symm.trans h1_) (by decide), fun _ h1_ => absurd ((hon 12 (by kernel_rfl)).symm.trans h1_) (by decide), Q_HO160_e12, Q_HO173, Q_HO176, fun _ => rfl⟩
                                exact steps_nil
                              rintro b a w40 hall ⟨v159, v162, v165, v169, v172, v175, m14_, ha, Q_HO_6, Q_HB, Q_HO160, Q_HO163, Q_HO166, Q_HO170, Q_HO160_e12, Q_HO173, Q_HO176, Q_X14_⟩
                              clear HB HO_6
                              have hb2_ := hall 2 (by kernel_rfl)
                              have hb3_ := hall 3 (by kernel_rfl)
                              have hb5_ := hall 5 (by kernel_rfl)
                              have hb8_ := hall 8 (by kernel_rfl)
                              have hb9_ := hall 9 (by kernel_rfl)
                              have hb10_ := hall 10 (by kernel_rfl)
                              have hb11_ := hall 11 (by kernel_rfl)
                              have hb12_ := hall 12 (by kernel_rfl)
                              have hb13_ := hall 13 (by kernel_rfl)
                              have hb14_ := hall 14 (by kernel_rfl)
                              subst ha
                              obtain rfl := Q_X14_ hb14_
                              simp only [putSel, hb2_, hb3_, hb5_, hb8_, hb9_, hb10_, hb11_, hb12_, hb13_, hb14_, if_true, Act.put, List.setIfInBounds_toArray, List.set_cons_zero, List.set_cons_succ]
                              clear Q_HO_6
                              have HB := Aside0.mk Q_HB
                              clear Q_HB
                              clear Q_HO160
                              clear Q_HO163
                              clear Q_HO166
                              clear Q_HO170
                              have HO160 := Aside0.mk (Q_HO160_e12 hb12_)
                              clear Q_HO160_e12
                              have HO173 := Aside0.mk (Q_HO173 hb12_)
                              clear Q_HO173
                              have HO176 := Aside0.mk (Q_HO176 hb13_)
                              clear Q_HO176
                              clear hall hb2_ hb3_ hb5_ hb8_ hb9_ hb10_ hb11_ hb12_ hb13_ hb14_
                              have p177 : 0 ≤ (x30_2 : Int) := of_decide_eq_true (by first | (with_reducible assumption) | assumption)
                              have q177 : x30_2 < (l1.length : Int) := of_decide_eq_true (by first | (with_reducible assumption) | assumption)
                              obtain ⟨ad177, A177_0, c177_0, e177, hx177_0, hl177_0, hi177_0⟩ := at_L2 HR1.out x30_2 p177 q177
                              obtain rfl : ad167 = ad177 := (by injection e177)
                              replace hx177_0 := (HB.out.cell (cLt w _ hx177_0)).trans hx177_0
                              have HR177_0 := Aside0.mk hi177_0
                              have HC177_0 := Aside0.mk hl177_0
                              clear hi177_0 hl177_0
                              replace p177 := eq_true p177
                              replace q177 := eq_true q177
                              try go_wp2
                              go_roundg kj10
                              case measure => have := HJ2.out; have := HK2.out; have := HJ10.out; omega
                              case rel => exact ⟨(t174), (wrap64 (x7_2 + ((rd_L2 l1 x30_2).length : Int))), (wrap64 (x30_2 + 1)), (by first | rfl | (simp; done) | (simp [*]; done)), (by first | rfl | (simp; done) | (simp [*]; done)), H', ⟨by have := HJ2.out; have := HK2.out; have := HJ10.out; omega⟩, ⟨by (with_reducible repeat (first | apply Kd.R_alloc | apply Kd.R_drewN | apply Kd.R_drew)); first | exact HO176.out | exact Kd.R_mono HO176.out (fun _ hk => by revert hk; (try simp only [and_imp]); intros; repeat' (first | assumption | trivial | apply And.intro))⟩, ⟨by repeat (first | (with_reducible first | exact HB.out | apply below_alloc | apply pw_below_drewN | apply below_drew1) | exact HB.out)⟩⟩
                            · rw [if_neg c22] at H
                              exact absurd H (by simp)
                          · rw [if_neg c21] at H
                            exact absurd H (by simp)
                        · rw [if_neg c18] at H
                          exact absurd H (by simp)
                · rw [if_neg c10] at H
                  exact absurd H (by simp)
              · rw [if_neg c9] at H
                exact absurd H (by simp)
            · rw [if_neg c8] at H
              have c8b0 : decide (x30_2 < (l0.length : Int)) = false := decide_eq_false c8
              clear c8
              replace H := Option.bind_eq_some_iff.mp H
              obtain ⟨t146, A410, H⟩ := H
              replace H : ((slices_Concat_byte_byte.f k2 (([x6_2, t146] : List (List Int)))).bind fun t152 => (some (t152, 0))) = some (r1, r2) := H
              have A41 := Aside0.mk A410
              clear A410
              obtain ⟨y149, hy149⟩ : ∃ y_ : List (List Int), y_ = (([x6_2, t146] : List (List Int))) := ⟨_, rfl⟩
              replace H : ((slices_Concat_byte_byte.f k2 y149).bind fun t152 => (some (t152, 0))) = some (r1, r2) := by first | (rw [hy149]; with_reducible exact H) | (have H2_ := (Option.bind_some _ _).symm.trans H; rw [hy149]; with_reducible exact H2_) | (have H2_ := (Option.bind_some _ _).symm.trans H; with_reducible exact H2_) | with_reducible exact H | (rw [hy149]; exact H) | exact H
              have Ny149 := Aside0.mk hy149
              clear hy149
              replace H := Option.bind_eq_some_iff.mp H
              obtain ⟨t152, A420, H⟩ := H
              replace H : (some (t152, 0)) = some (r1, r2) := H
              have A42 := Aside0.mk A420
              clear A420
              simp only [Option.some.injEq, Prod.mk.injEq] at H
              obtain ⟨rfl, rfl⟩ := H
              go_wp2_with (first | ((with_reducible refine gate_callee (f := 62) rfl ?_); refine goesL_ (some 69) rfl rfl Try.func62 (by kernel_rfl) rfl #[.slice A1 l1.length c1] rfl (by (try simp only [List.map_toArray, List.map_cons, List.map_nil]); first | done | rfl | (simp only [List.length_drop, List.length_take]; rfl)) ?_; (with_reducible refine (slices_Concat_byte_byte.calls k2 _ _ l1 t146 _ ?side1 ?side2 A41.out).mono ?_); (case side1 => repeat (first | exact (Kd.C_below HR1.out HB.out) | (with_reducible refine Kd.C_alloc ?_ _) | (with_reducible refine Kd.C_drewN ?_ _) | (with_reducible refine Kd.C_drew ?_))); (case side2 => exact HC1.out); rintro e w43 ⟨v147, rfl, ho0, hb⟩; refine ⟨_, rfl, ?_⟩; have n0_ := Aside0.mk (Kd.R_elder' (by (with_reducible repeat (first | apply Kd.R_alloc | apply Kd.R_drewN | apply Kd.R_drew)); first | exact HO_6.out | exact Kd.R_mono HO_6.out (fun _ hk => by revert hk; (try simp only [and_imp]); intros; repeat' (first | assumption | trivial | apply And.intro))) (Kd.R_base ho0) hb); have n1_ := Aside0.mk (Kd.R_lower (Kd.R_new' (Kd.R_newM (M := fun k_ => (w.heap.size ≤ k_)) ho0 (below_size (by repeat (first | (with_reducible first | exact HB.out | apply below_alloc | apply pw_below_drewN | apply below_drew1) | exact HB.out))) (fun k_ h_ => h_)) (Kd.R_lt (by (with_reducible repeat (first | apply Kd.R_alloc | apply Kd.R_drewN | apply Kd.R_drew)); first | exact HO_6.out | exact Kd.R_mono HO_6.out (fun _ hk => by revert hk; (try simp only [and_imp]); intros; repeat' (first | assumption | trivial | apply And.intro))))) (below_size (by repeat (first | (with_reducible first | exact HB.out | apply below_alloc | apply pw_below_drewN | apply below_drew1) | exact HB.out)))); have n2_ := Aside0.mk (below_step (by repeat (first | (with_reducible first | exact HB.out | apply below_alloc | apply pw_below_drewN | apply below_drew1) | exact HB.out)) hb); clear HO_6; clear HB; have HO_6 := n0_; have HO148 := n1_; have HB := n2_; clear n0_ n1_ n2_; (try clear hb); (try clear hb2); (try clear hk); (try clear hi); (try clear ho0); obtain ⟨Ao44, co44, eo44⟩ := Kd.R_slice HO_6.out; subst eo44; obtain ⟨Ao45, co45, eo45⟩ := Kd.R_slice HO148.out; subst eo45) | ((with_reducible refine gate_dst (N := 70) rfl ?_); (try (refine gate_guard (by rfl) ?_; dsimp only)); refine Kd.N_lit (Kd.slice 5 (Kd.int .u8)) _ 24 ?hg (N' := 70) ?hd (xs := ([x6_2, t146] : List (List Int))) (inner := [.slice Ao44 x6_2.length co44, .slice Ao45 t146.length co45]) (ok := (fun k_ => (w.heap.size ≤ k_))) (okp := (fun k_ => (w.heap.size ≤ k_))) ?hr ?hp (fun _ hk => by first | exact hk | (revert hk; (try simp only [and_imp]); intros; repeat' (first | assumption | trivial | apply And.intro))) ((show ∀ k_, w43.heap.size ≤ k_ → (fun k_ => (w.heap.size ≤ k_)) k_ from fun k_ hk => (Nat.le_trans (below_size (by repeat (first | (with_reducible first | exact HB.out | apply below_alloc | apply pw_below_drewN | apply below_drew1) | exact HB.out))) hk)) _ (Nat.le_refl _)) (Below.refl _ _) (Nat.le_refl _) (by simp) ?_; (case hd => rfl); (case hg => rfl); (case hr => first | (go_simp; done) | (go_simp; rfl)); (case hp => exact (Reps.one (show Kd.FK (Kd.slice 5 (Kd.int .u8)) _ _ x6_2 [.slice Ao44 x6_2.length co44] from (Kd.FK_slice_mk (Kd.R_reads' (Kd.R_mono (ok' := (fun k_ => (w.heap.size ≤ k_))) (HO_6.out) (fun k_ hk => by first | exact hk.1 | (revert hk; (try simp only [and_imp]); intros; repeat' (first | assumption | trivial | apply And.intro))))).2.1 (Kd.R_F (Kd.R_mono (ok' := (fun k_ => (w.heap.size ≤ k_))) (HO_6.out) (fun k_ hk => by first | exact hk.1 | (revert hk; (try simp only [and_imp]); intros; repeat' (first | assumption | trivial | apply And.intro))))))) (Reps.one (show Kd.FK (Kd.slice 5 (Kd.int .u8)) _ _ t146 [.slice Ao45 t146.length co45] from (Kd.FK_slice_mk (Kd.R_reads' (Kd.R_mono (ok' := (fun k_ => (w.heap.size ≤ k_))) (HO148.out) (fun k_ hk => by first | exact hk.1.1 | (revert hk; (try simp only [and_imp]); intros; repeat' (first | assumption | trivial | apply And.intro))))).2.1 (Kd.R_F (Kd.R_mono (ok' := (fun k_ => (w.heap.size ≤ k_))) (HO148.out) (fun k_ hk => by first | exact hk.1.1 | (revert hk; (try simp only [and_imp]); intros; repeat' (first | assumption | trivial | apply And.intro))))))) (Reps.none _ _)))); intro v150 w46 ho47 hb hg_ hnew_; clear hg_ hnew_; (first | rw [← Ny149.out] at ho47 | (simp only [Int.reduceToNat] at ho47; rw [← Ny149.out] at ho47)); have n0_ := Aside0.mk (Kd.N_lower ho47 (below_size (by repeat (first | (with_reducible first | exact HB.out | apply below_alloc | apply pw_below_drewN | apply below_drew1) | exact HB.out)))); have n1_ := Aside0.mk (below_step (by repeat (first | (with_reducible first | exact HB.out | apply below_alloc | apply pw_below_drewN | apply below_drew1) | exact HB.out)) hb); clear HB; clear HO148; clear HO_6; have HO151 := n0_; have HB := n1_; clear n0_ n1_; clear hb ho47; obtain ⟨Ao48, co48, eo48⟩ := Kd.N_slice HO151.out; subst eo48) | ((with_reducible refine gate_callee (f := 62) rfl ?_); refine goesL_ (some 71) rfl rfl Try.func62 (by kernel_rfl) rfl #[.slice Ao48 y149.length co48] rfl (by (try simp only [List.map_toArray, List.map_cons, List.map_nil]); first | done | rfl | (simp only [List.length_drop, List.length_take]; rfl)) ?_; (with_reducible refine (slices_Concat_byte_byte.calls k2 _ _ y149 t152 _ ?side1 ?side2 A42.out).mono ?_); (case side1 => repeat (first | exact (Kd.N_reads' HO151.out).2.2 | (with_reducible refine Kd.C_alloc ?_ _) | (with_reducible refine Kd.C_drewN ?_ _) | (with_reducible refine Kd.C_drew ?_))); (case side2 => exact (Kd.N_reads' HO151.out).2.1); rintro e w49 ⟨v153, rfl, ho0, hb⟩; refine ⟨_, rfl, ?_⟩; have n0_ := Aside0.mk (Kd.N_elder' (by (with_reducible repeat (first | apply Kd.N_alloc | apply Kd.N_drewN | apply Kd.N_drew)); first | exact HO151.out | exact Kd.N_mono HO151.out (fun _ hk => by revert hk; (try simp only [and_imp]); intros; repeat' (first | assumption | trivial | apply And.intro))) (Kd.R_base ho0) hb); have n1_ := Aside0.mk (Kd.R_lower (Kd.R_newM (M := fun k_ => (w.heap.size ≤ k_)) ho0 (below_size (by repeat (first | (with_reducible first | exact HB.out | apply below_alloc | apply pw_below_drewN | apply below_drew1) | exact HB.out))) (fun k_ h_ => h_)) (below_size (by repeat (first | (with_reducible first | exact HB.out | apply below_alloc | apply pw_below_drewN | apply below_drew1) | exact HB.out)))); have n2_ := Aside0.mk (below_step (by repeat (first | (with_reducible first | exact HB.out | apply below_alloc | apply pw_below_drewN | apply below_drew1) | exact HB.out)) hb); clear HO151; clear HB; have HO151 := n0_; have HO154 := n1_; have HB := n2_; clear n0_ n1_ n2_; (try clear hb); (try clear hb2); (try clear hk); (try clear hi); (try clear ho0)))
              go_ret2
              exact ⟨_, by first | rfl | (simp [errW_none, errW_some] <;> rfl) | (simp [*, errW_none, errW_some] <;> rfl), Kd.R_V (by (with_reducible repeat (first | apply Kd.R_alloc | apply Kd.R_drewN | apply Kd.R_drew)); first | exact Kd.R_mono HO154.out (fun _ hk => by first | exact hk.1 | (revert hk; (try simp only [and_imp]); intros; repeat' (first | assumption | trivial | apply And.intro))) | exact Kd.R_mono HO154.out (fun _ hk => by revert hk; (try simp only [and_imp]); intros; repeat' (first | assumption | trivial | apply And.intro))), by repeat (first | (with_reducible first | exact HB.out | apply below_alloc | apply pw_below_drewN | apply below_drew1) | exact HB.out)⟩

/-! ### slices_Clone_string_string: function 70 -/
def slices_Clone_string_string.f (l0 : List ByteArray) : Option (List ByteArray) := (some (([] : List ByteArray) : List ByteArray)).bind fun y178 => (if y178.length + l0.length < 8796093022208 then (some (y178 ++ l0)) else (none))
set_option maxHeartbeats 8000000 in
set_option maxRecDepth 100000 in
theorem slices_Clone_string_string.calls (A0 : Option Addr) (c0 : Nat) (l0 : List ByteArray) (r : List ByteArray) (w : World) (hr0 : Kd.C Kd.string w A0 l0.length l0) (hc0 : l0.length ≤ c0) (h : slices_Clone_string_string.f l0 = some r) :
    Calls Try.prog 70 #[.slice A0 l0.length c0] w fun e w' => ∃ v0_ : Value, e = .returned (v0_) ∧ Kd.R Kd.string 9 w' w.heap.size (fun _ => True) v0_ r ∧ Below w.heap.size w w' := by
  have HR0 := Aside0.mk hr0
  have HC0 := Aside0.mk hc0
  clear hr0 hc0
  have HB := Aside0.mk (Below.refl w.heap.size w)
  have H : ((some (([] : List ByteArray) : List ByteArray)).bind fun y178 => (if y178.length + l0.length < 8796093022208 then (some (y178 ++ l0)) else (none))) = some r := h
  clear h
  by_cases hA0 : A0 = none
  · subst hA0
    have hl_ : l0 = [] := List.eq_nil_of_length_eq_zero ((Nat.eq_zero_or_pos l0.length).elim id (fun h_ => by obtain ⟨_, e_, _⟩ := HR0.out.2.2 h_; cases e_))
    subst hl_
    have hr_ : r = [] := by simpa using H.symm
    subst hr_
    have hE_ := fun w_ => Go.Lib.run_eql_slice_nil (P := Try.prog) w_ 25 9 none 0 c0 0 0 Try.underlying25
    go_enter Try.func70, Try.ntmps70
    go_wp2
    go_ret
    exact ⟨_, rfl, Kd.R_nil _ _ _ _ _, by repeat (first | exact HB.out | apply below_alloc | apply pw_below_drewN | apply below_drew1)⟩
  · have hN_ : A0.isNone = false := by cases A0 <;> simp_all
    have hE_ := fun w_ => Go.Lib.run_eql_slice_nil (P := Try.prog) w_ 25 9 A0 l0.length c0 0 0 Try.underlying25
    simp only [hN_] at hE_
    clear hA0
    obtain ⟨y178, hy178⟩ : ∃ y_ : List ByteArray, y_ = (([] : List ByteArray)) := ⟨_, rfl⟩
    replace H : (if y178.length + l0.length < 8796093022208 then (some (y178 ++ l0)) else (none)) = some r := by first | (rw [hy178]; with_reducible exact H) | (have H2_ := (Option.bind_some _ _).symm.trans H; rw [hy178]; with_reducible exact H2_) | (have H2_ := (Option.bind_some _ _).symm.trans H; with_reducible exact H2_) | with_reducible exact H | (rw [hy178]; exact H) | exact H
    have Ny178 := Aside0.mk hy178
    clear hy178
    by_cases c2 : y178.length + l0.length < 8796093022208
    · rw [if_pos c2] at H
      have LMc2 := Aside0.mk c2
      clear c2
      obtain ⟨y181, hy181⟩ : ∃ y_ : List ByteArray, y_ = (y178 ++ l0) := ⟨_, rfl⟩
      replace H : (some y181) = some r := by first | (rw [hy181]; with_reducible exact H) | (have H2_ := (Option.bind_some _ _).symm.trans H; rw [hy181]; with_reducible exact H2_) | (have H2_ := (Option.bind_some _ _).symm.trans H; with_reducible exact H2_) | with_reducible exact H | (rw [hy181]; exact H) | exact H
      have Ny181 := Aside0.mk hy181
      clear hy181
      obtain rfl := Option.some.inj H
      go_enter Try.func70, Try.ntmps70
      go_wp2_with (first | ((with_reducible refine gate_dst (N := 5) rfl ?_); refine Kd.R_lit Kd.string _ 9 ?hg (N := 5) ?hd (xs := ([] : List ByteArray)) (inner := []) (ok := fun _ => True) (okp := fun _ => True) ?hr ?hp (fun _ hk => hk) trivial (Below.refl _ _) (Nat.le_refl _) (by simp) ?_; (case hd => rfl); (case hg => rfl); (case hr => first | (go_simp; done) | (go_simp; rfl)); (case hp => exact (Reps.none _ _)); intro v179 w3 ho4 hb hg_ hnew_; clear hg_ hnew_; (first | rw [← Ny178.out] at ho4 | (simp only [Int.reduceToNat] at ho4; rw [← Ny178.out] at ho4)); have n0_ := Aside0.mk (Kd.R_lower ho4 (below_size (by repeat (first | (with_reducible first | exact HB.out | apply below_alloc | apply pw_below_drewN | apply below_drew1) | exact HB.out)))); have n1_ := Aside0.mk (below_step (by repeat (first | (with_reducible first | exact HB.out | apply below_alloc | apply pw_below_drewN | apply below_drew1) | exact HB.out)) hb); clear HB; have HO180 := n0_; have HB := n1_; clear n0_ n1_; clear hb ho4) | ((with_reducible refine gate_builtin (b := .append) (xs := #[.tmp 5, .tmp 6]) rfl ?_); at_builtin; refine Kd.R_append_rows Kd.string (w0 := w) w.heap.size rfl (.tmp 5) (.tmp 6) 25 9 (.string ⟨#[]⟩) 16 rfl Try.underlying25 info9 rfl (by decide) (by omega) v179 y178 l0 _ _ _ (fun _ => True) (fun _ => False) rfl rfl ?aO ?aR (fun _ _ h => h) (fun _ h => h.elim) ?aF ?aB ?aS ?aL ?_; (case aR => repeat (first | exact (Kd.C_below HR0.out HB.out) | (with_reducible refine Kd.C_alloc ?_ _) | (with_reducible refine Kd.C_drewN ?_ _) | (with_reducible refine Kd.C_drew ?_))); (case aB => exact (by repeat (first | (with_reducible first | exact HB.out | apply below_alloc | apply pw_below_drewN | apply below_drew1) | exact HB.out))); (case aF => exact (fun _ _ => trivial)); (case aO => exact (by (with_reducible repeat (first | apply Kd.R_alloc | apply Kd.R_drewN | apply Kd.R_drew)); exact HO180.out)); (case aS => exact (below_size (by repeat (first | (with_reducible first | exact HB.out | apply below_alloc | apply pw_below_drewN | apply below_drew1) | exact HB.out)))); (case aL => have := LMc2.out; omega); intro v182 w5 ho hb hg hat; rw [← Ny181.out] at ho; have n0_ := Aside0.mk (hb); have n1_ := Aside0.mk (ho); clear HB; clear HO180; have HB := n0_; have HO183 := n1_; clear n0_ n1_; clear ho hb hg hat))
      go_ret
      exact ⟨_, by first | rfl | (simp [errW_none, errW_some] <;> rfl) | (simp [*, errW_none, errW_some] <;> rfl), by (with_reducible repeat (first | apply Kd.R_alloc | apply Kd.R_drewN | apply Kd.R_drew)); exact HO183.out, by repeat (first | (with_reducible first | exact HB.out | apply below_alloc | apply pw_below_drewN | apply below_drew1) | exact HB.out)⟩
    · rw [if_neg c2] at H
      exact absurd H (by simp)

/-! ### sfnt_Font_Tags: function 23 -/
def sfnt_Font_Tags.f (l0 : List S135) : Option (List ByteArray) := if 0 < (l0.length : Int) then slices_Clone_string_string.f ((rd_T135 l0 0).f0.map (·.1)) else none
set_option maxHeartbeats 8000000 in
set_option maxRecDepth 100000 in
theorem sfnt_Font_Tags.calls (A0 : Option Addr) (c0 : Nat) (l0 : List S135) (r : List ByteArray) (w : World) (hr0 : Kd.C k135 w A0 l0.length l0) (hc0 : l0.length ≤ c0) (h : sfnt_Font_Tags.f l0 = some r) :
    Calls Try.prog 23 #[.pointer (hq l0 (.slice A0 l0.length c0))] w fun e w' => ∃ v0_ : Value, e = .returned v0_ ∧ Kd.R Kd.string 9 w' w.heap.size (fun _ => True) v0_ r ∧ Below w.heap.size w w' := by
  have hu135 := Try.underlying135
  unfold sfnt_Font_Tags.f at h
  by_cases c1 : 0 < (l0.length : Int)
  case neg => rw [if_neg c1] at h; exact absurd h (by simp)
  rw [if_pos c1] at h
  obtain ⟨ad, cs, e, _, hK, hcc⟩ := Kd.C_get hr0 z135 0 (by omega) (by omega)
  subst e
  rw [hq_pos c1]
  obtain ⟨A, c, b, m, rfl, hl, hC, hm, hn, hv⟩ := (show fontK.K w (rd_T135 l0 0).f0 cs from hK)
  rw [← List.length_map (f := fun p : ByteArray × List Int => p.1)] at hl hC
  have hx0 := hcc 0 _ rfl
  rw [show (0 : Int).toNat = 0 from rfl, Nat.zero_mul, Nat.zero_add, Addr.add_zero', ← List.length_map (f := fun p : ByteArray × List Int => p.1)] at hx0
  generalize (rd_T135 l0 0).f0.map (·.1) = tg at h hl hC hx0
  replace h := Aside0.mk h
  replace hC := Aside0.mk hC
  clear hr0 hc0 hK hcc hm hn hv
  go_enter Try.func23, Try.ntmps23
  go_wp2_with (first | (go_at_call 70; refine (slices_Clone_string_string.calls A c tg r _ ?s1 ?s2 h.out).mono ?_; (case s1 => exact hC.out); (case s2 => exact hl); rintro e w' ⟨v0, rfl, hr, hb⟩))
  go_ret
  exact ⟨_, rfl, hr, hb⟩

/-! ### sfnt_Font_Table: function 24 -/
def sfnt_Font_Table.f (l0 : List S135) (a1 : ByteArray) : Option (List Int × Bool) := if 0 < (l0.length : Int) then (if a1.size ≤ 9223372036854775807 then ((slices_Clone_byte_byte.f ((mapGet (rd_T135 l0 0).f0 a1).getD [])).bind fun c => some (c, (mapGet (rd_T135 l0 0).f0 a1).isSome)) else none) else none
set_option maxHeartbeats 8000000 in
set_option maxRecDepth 100000 in
theorem sfnt_Font_Table.calls (A0 : Option Addr) (c0 : Nat) (l0 : List S135) (a1 : ByteArray) (r1 : List Int) (r2 : Bool) (w : World) (hr0 : Kd.C k135 w A0 l0.length l0) (hc0 : l0.length ≤ c0) (h : sfnt_Font_Table.f l0 a1 = some (r1, r2)) :
    Calls Try.prog 24 #[.pointer (hq l0 (.slice A0 l0.length c0)), .string a1] w fun e w' => ∃ v0_ : Value, e = .returned (.tuple #[v0_, .bool r2]) ∧ Kd.R (Kd.int .u8) 5 w' w.heap.size (fun _ => True) v0_ r1 ∧ Below w.heap.size w w' := by
  have hu135 := Try.underlying135
  unfold sfnt_Font_Table.f at h
  by_cases c1 : 0 < (l0.length : Int)
  case neg => rw [if_neg c1] at h; exact absurd h (by simp)
  rw [if_pos c1] at h
  by_cases c2 : a1.size ≤ 9223372036854775807
  case neg => rw [if_neg c2] at h; exact absurd h (by simp)
  rw [if_pos c2] at h
  obtain ⟨ad, cs, e, _, hK, hcc⟩ := Kd.C_get hr0 z135 0 (by omega) (by omega)
  subst e
  rw [hq_pos c1]
  obtain ⟨A, c, b, m, rfl, hl, hC, hm, hn, hv⟩ := (show fontK.K w (rd_T135 l0 0).f0 cs from hK)
  generalize (rd_T135 l0 0).f0 = x at h hl hC hn hv
  have hx1 : w.cell? ⟨ad.block, ad.off + 1, none⟩ = some (.map (some b)) := by
    have := hcc 1 _ rfl
    rwa [show (0 : Int).toNat = 0 from rfl, Nat.zero_mul, Nat.zero_add, add_one'] at this
  have hlk := MapAt_look (P := Try.prog) Try.underlying9 Try.underlying133 (z := .slice none 0 0) (by kernel_rfl) hm (s := a1) c2
  clear hr0 hc0 hK hcc hC hl
  rcases mapGet_rel hn hv a1 with ⟨g1, g2⟩ | ⟨v, l, g1, g2, A', c', rfl, hl', hC'⟩
  · rw [g2] at h
    rw [g1] at hlk
    replace h := Option.bind_eq_some_iff.mp h
    obtain ⟨y, B1, h⟩ := h
    simp only [Option.some.injEq, Prod.mk.injEq] at h
    obtain ⟨rfl, rfl⟩ := h
    replace B1 := Aside0.mk B1
    clear hv hm
    go_enter Try.func24, Try.ntmps24
    go_wp2_with (first | (go_at_call 71; refine (slices_Clone_byte_byte.calls none 0 [] y _ ?s1 ?s2 B1.out).mono ?_; (case s1 => exact Kd.C_nil _ _); (case s2 => exact Nat.le_refl _); rintro e w' ⟨v0, rfl, hr, hb⟩))
    go_ret2
    exact ⟨_, rfl, hr, hb⟩
  · rw [g2] at h
    rw [g1] at hlk
    replace h := Option.bind_eq_some_iff.mp h
    obtain ⟨y, B1, h⟩ := h
    simp only [Option.some.injEq, Prod.mk.injEq] at h
    obtain ⟨rfl, rfl⟩ := h
    replace B1 := Aside0.mk B1
    replace hC' := Aside0.mk hC'
    clear hv hm
    go_enter Try.func24, Try.ntmps24
    go_wp2_with (first | (go_at_call 71; refine (slices_Clone_byte_byte.calls A' c' l y _ ?s1 ?s2 B1.out).mono ?_; (case s1 => exact hC'.out); (case s2 => exact hl'); rintro e w' ⟨v0, rfl, hr, hb⟩))
    go_ret2
    exact ⟨_, rfl, hr, hb⟩

end Go.Proofs.Ytenlimmgbgcgpaa.PAn
