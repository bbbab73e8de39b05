-- WRITTEN BY A PROGRAM OF THIS SESSION (wip/xprint) out of the translation. Not trusted: Lean checks it.
import Derived.Test.YtenlimmgbgcgpaaPAnx0
import Derived.Test.YtenlimmgbgcgpaaPAnx2
import Derived.Test.YtenlimmgbgcgpaaPAnx3
namespace Go.Proofs.Ytenlimmgbgcgpaa.PAn
open Go.RowKit Go.Proofs.YtenlimmgbgcgpaaW.PrintWords Go.Proofs.YtenlimmgbgcgpaaW.PrintLast Go.Proofs.YtenlimmgbgcgpaaW.PrintMore
attribute [local go_sem] max2_int min2_int max_two min_two max_three min_three max_four min_four   -- for this text's walks alone
set_option linter.unusedVariables false
set_option linter.unusedSimpArgs false

/-! ### versallaw14_known: function 22 -/
def versallaw14_known.j0 : Nat → List (S135) → Bool → Option (Bool)
  | 0, _, _ => none
  | k + 1, x3, x30 => if x30 = true then (some false) else ((sfnt_Font_Table.f x3 (⟨#[101, 102, 103, 104]⟩ : ByteArray)).bind fun bt204 => ((sfnt_Font_Tags.f x3).bind fun t208 => (if (strOfNums bt204.1).toList = ([3] : List UInt8) then (if bt204.2 = true then (if (t208.length : Int) = 2 then (if 0 < (t208.length : Int) then (if (rdOf ByteArray.empty t208 0).toList = ([97, 98, 99, 100] : List UInt8) then (if 1 < (t208.length : Int) then (some ((rdOf ByteArray.empty t208 1).toList == ([101, 102, 103, 104] : List UInt8))) else (none)) else (some false)) else (none)) else (some false)) else (some false)) else (some false))))
def versallaw14_known.f (k : Nat)  : Option (Bool) := (sfnt_Lay.f k (([(⟨#[97, 98, 99, 100]⟩ : ByteArray), (⟨#[101, 102, 103, 104]⟩ : ByteArray)] : List ByteArray)) (([(([1, 2] : List Int)), (([3] : List Int))] : List (List Int)))).bind fun bt196 => ((sfnt_Open.f k bt196.1).bind fun bt200 => (if bt196.2 = 0 then (if bt200.2 = 0 then (versallaw14_known.j0 k bt200.1 ((bt200.1.length : Int) == 0)) else (versallaw14_known.j0 k bt200.1 true)) else (versallaw14_known.j0 k bt200.1 true)))
theorem versallaw14_known.mono_l : ∀ k, (∀ y0 y1, LeO (versallaw14_known.j0 k y0 y1) (versallaw14_known.j0 (k + 1) y0 y1))
  | 0 => fun _ _ r h => by simp [versallaw14_known.j0] at h
  | k + 1 => by
    have ih0 := versallaw14_known.mono_l k
    · intro y0 y1
      unfold versallaw14_known.j0
      repeat' first
      | (with_reducible exact ih0 _ _)
      | (with_reducible exact sfnt_Lay.mono _ _ _)
      | (with_reducible exact sfnt_Open.mono _ _)
      | (with_reducible exact LeO.refl _)
      | (with_reducible exact LeO.none _)
      | (with_reducible refine LeO.ite ?_ ?_)
      | (with_reducible refine LeO.bind ?_ (fun _ => ?_))
      | exact ih0 _ _
      | exact sfnt_Lay.mono _ _ _
      | exact sfnt_Open.mono _ _
      | exact LeO.none _
      | refine LeO.ite ?_ ?_
      | refine LeO.bind ?_ (fun _ => ?_)
theorem versallaw14_known.mono : ∀ k, LeO (versallaw14_known.f k ) (versallaw14_known.f (k + 1) ) := by
  intro  k
  have ih0 := versallaw14_known.mono_l k
  unfold versallaw14_known.f
  repeat' first
      | (with_reducible exact ih0 _ _)
      | (with_reducible exact sfnt_Lay.mono _ _ _)
      | (with_reducible exact sfnt_Open.mono _ _)
      | (with_reducible exact LeO.refl _)
      | (with_reducible exact LeO.none _)
      | (with_reducible refine LeO.ite ?_ ?_)
      | (with_reducible refine LeO.bind ?_ (fun _ => ?_))
      | exact ih0 _ _
      | exact sfnt_Lay.mono _ _ _
      | exact sfnt_Open.mono _ _
      | exact LeO.none _
      | refine LeO.ite ?_ ?_
      | refine LeO.bind ?_ (fun _ => ?_)
set_option maxHeartbeats 8000000 in
set_option maxRecDepth 100000 in
theorem versallaw14_known.calls (k : Nat)  (r : Bool) (w : World) (h : versallaw14_known.f k  = some r) :
    Calls Try.prog 22 #[] w fun e w' => e = .returned (.bool r) ∧ Below w.heap.size w w' := by
  have HB := Aside0.mk (Below.refl w.heap.size w)
  have H : ((sfnt_Lay.f k (([(⟨#[97, 98, 99, 100]⟩ : ByteArray), (⟨#[101, 102, 103, 104]⟩ : ByteArray)] : List ByteArray)) (([(([1, 2] : List Int)), (([3] : List Int))] : List (List Int)))).bind fun bt196 => ((sfnt_Open.f k bt196.1).bind fun bt200 => (if bt196.2 = 0 then (if bt200.2 = 0 then (versallaw14_known.j0 k bt200.1 ((bt200.1.length : Int) == 0)) else (versallaw14_known.j0 k bt200.1 true)) else (versallaw14_known.j0 k bt200.1 true)))) = some r := h
  clear h
  obtain ⟨y184, hy184⟩ : ∃ y_ : List ByteArray, y_ = (([(⟨#[97, 98, 99, 100]⟩ : ByteArray), (⟨#[101, 102, 103, 104]⟩ : ByteArray)] : List ByteArray)) := ⟨_, rfl⟩
  replace H : ((sfnt_Lay.f k y184 (([(([1, 2] : List Int)), (([3] : List Int))] : List (List Int)))).bind fun bt196 => ((sfnt_Open.f k bt196.1).bind fun bt200 => (if bt196.2 = 0 then (if bt200.2 = 0 then (versallaw14_known.j0 k bt200.1 ((bt200.1.length : Int) == 0)) else (versallaw14_known.j0 k bt200.1 true)) else (versallaw14_known.j0 k bt200.1 true)))) = some r := by first | (rw [hy184]; with_reducible exact H) | (have H2_ := (Option.bind_some _ _).symm.trans H; rw [hy184]; with_reducible exact H2_) | (have H2_ := (Option.bind_some _ _).symm.trans H; with_reducible exact H2_) | with_reducible exact H | (rw [hy184]; exact H) | exact H
  have Ny184 := Aside0.mk hy184
  clear hy184
  obtain ⟨y187, hy187⟩ : ∃ y_ : List Int, y_ = (([1, 2] : List Int)) := ⟨_, rfl⟩
  replace H : ((sfnt_Lay.f k y184 (([y187, (([3] : List Int))] : List (List Int)))).bind fun bt196 => ((sfnt_Open.f k bt196.1).bind fun bt200 => (if bt196.2 = 0 then (if bt200.2 = 0 then (versallaw14_known.j0 k bt200.1 ((bt200.1.length : Int) == 0)) else (versallaw14_known.j0 k bt200.1 true)) else (versallaw14_known.j0 k bt200.1 true)))) = some r := by first | (rw [hy187]; with_reducible exact H) | (have H2_ := (Option.bind_some _ _).symm.trans H; rw [hy187]; with_reducible exact H2_) | (have H2_ := (Option.bind_some _ _).symm.trans H; with_reducible exact H2_) | with_reducible exact H | (rw [hy187]; exact H) | exact H
  have Ny187 := Aside0.mk hy187
  clear hy187
  obtain ⟨y190, hy190⟩ : ∃ y_ : List Int, y_ = (([3] : List Int)) := ⟨_, rfl⟩
  replace H : ((sfnt_Lay.f k y184 (([y187, y190] : List (List Int)))).bind fun bt196 => ((sfnt_Open.f k bt196.1).bind fun bt200 => (if bt196.2 = 0 then (if bt200.2 = 0 then (versallaw14_known.j0 k bt200.1 ((bt200.1.length : Int) == 0)) else (versallaw14_known.j0 k bt200.1 true)) else (versallaw14_known.j0 k bt200.1 true)))) = some r := by first | (rw [hy190]; with_reducible exact H) | (have H2_ := (Option.bind_some _ _).symm.trans H; rw [hy190]; with_reducible exact H2_) | (have H2_ := (Option.bind_some _ _).symm.trans H; with_reducible exact H2_) | with_reducible exact H | (rw [hy190]; exact H) | exact H
  have Ny190 := Aside0.mk hy190
  clear hy190
  obtain ⟨y193, hy193⟩ : ∃ y_ : List (List Int), y_ = (([y187, y190] : List (List Int))) := ⟨_, rfl⟩
  replace H : ((sfnt_Lay.f k y184 y193).bind fun bt196 => ((sfnt_Open.f k bt196.1).bind fun bt200 => (if bt196.2 = 0 then (if bt200.2 = 0 then (versallaw14_known.j0 k bt200.1 ((bt200.1.length : Int) == 0)) else (versallaw14_known.j0 k bt200.1 true)) else (versallaw14_known.j0 k bt200.1 true)))) = some r := by first | (rw [hy193]; with_reducible exact H) | (have H2_ := (Option.bind_some _ _).symm.trans H; rw [hy193]; with_reducible exact H2_) | (have H2_ := (Option.bind_some _ _).symm.trans H; with_reducible exact H2_) | with_reducible exact H | (rw [hy193]; exact H) | exact H
  have Ny193 := Aside0.mk hy193
  clear hy193
  replace H := Option.bind_eq_some_iff.mp H
  obtain ⟨⟨t196, t199⟩, A10, H⟩ := H
  replace H : ((sfnt_Open.f k t196).bind fun bt200 => (if t199 = 0 then (if bt200.2 = 0 then (versallaw14_known.j0 k bt200.1 ((bt200.1.length : Int) == 0)) else (versallaw14_known.j0 k bt200.1 true)) else (versallaw14_known.j0 k bt200.1 true))) = some r := H
  have A1 := Aside0.mk A10
  clear A10
  replace H := Option.bind_eq_some_iff.mp H
  obtain ⟨⟨t200, t203⟩, A20, H⟩ := H
  replace H : (if t199 = 0 then (if t203 = 0 then (versallaw14_known.j0 k t200 ((t200.length : Int) == 0)) else (versallaw14_known.j0 k t200 true)) else (versallaw14_known.j0 k t200 true)) = some r := H
  have A2 := Aside0.mk A20
  clear A20
  have HC3 := Aside0.mk H
  clear H
  go_enter Try.func22, Try.ntmps22
  go_upto_region 3 with (first | ((with_reducible refine gate_dst (N := 9) rfl ?_); (try (refine gate_guard (by rfl) ?_; dsimp only)); refine Kd.R_lit Kd.string _ 9 ?hg (N := 9) ?hd (xs := ([(⟨#[97, 98, 99, 100]⟩ : ByteArray), (⟨#[101, 102, 103, 104]⟩ : ByteArray)] : List ByteArray)) (inner := [.string (⟨#[97, 98, 99, 100]⟩ : ByteArray), .string (⟨#[101, 102, 103, 104]⟩ : ByteArray)]) (ok := fun _ => True) (okp := fun _ => True) ?hr ?hp (fun _ hk => hk) trivial (Below.refl _ _) (Nat.le_refl _) (by simp) ?_; (case hd => rfl); (case hg => rfl); (case hr => first | (go_simp; done) | (go_simp; rfl)); (case hp => exact (Reps.one (show Kd.M Kd.string _ _ _ (⟨#[97, 98, 99, 100]⟩ : ByteArray) [.string (⟨#[97, 98, 99, 100]⟩ : ByteArray)] from rfl) (Reps.one (show Kd.M Kd.string _ _ _ (⟨#[101, 102, 103, 104]⟩ : ByteArray) [.string (⟨#[101, 102, 103, 104]⟩ : ByteArray)] from rfl) (Reps.none _ _)))); intro v185 w4 ho5 hb hg_ hnew_; clear hg_ hnew_; (first | rw [← Ny184.out] at ho5 | (simp only [Int.reduceToNat] at ho5; rw [← Ny184.out] at ho5)); have n0_ := Aside0.mk (Kd.R_lower ho5 (below_size (by repeat (first | (with_reducible first | exact HB.out | apply below_alloc | apply pw_below_drewN | apply below_drew1) | exact HB.out)))); have n1_ := Aside0.mk (below_step (by repeat (first | (with_reducible first | exact HB.out | apply below_alloc | apply pw_below_drewN | apply below_drew1) | exact HB.out)) hb); clear HB; have HO186 := n0_; have HB := n1_; clear n0_ n1_; clear hb ho5) | ((with_reducible refine gate_dst (N := 10) rfl ?_); (try (refine gate_guard (by rfl) ?_; dsimp only)); refine Kd.R_lit (Kd.int .u8) _ 5 ?hg (N := 10) ?hd (xs := ([1, 2] : List Int)) (inner := [.int .u8 1, .int .u8 2]) (ok := fun _ => True) (okp := fun _ => True) ?hr ?hp (fun _ hk => hk) trivial (Below.refl _ _) (Nat.le_refl _) (by simp) ?_; (case hd => rfl); (case hg => rfl); (case hr => first | (go_simp; done) | (go_simp; rfl)); (case hp => exact (Reps.one (show Kd.M (Kd.int .u8) _ _ _ 1 [.int .u8 1] from rfl) (Reps.one (show Kd.M (Kd.int .u8) _ _ _ 2 [.int .u8 2] from rfl) (Reps.none _ _)))); intro v188 w6 ho7 hb hg_ hnew_; clear hg_ hnew_; (first | rw [← Ny187.out] at ho7 | (simp only [Int.reduceToNat] at ho7; rw [← Ny187.out] at ho7)); have n0_ := Aside0.mk (Kd.R_below (by (with_reducible repeat (first | apply Kd.R_alloc | apply Kd.R_drewN | apply Kd.R_drew)); exact HO186.out) hb); have n1_ := Aside0.mk (Kd.R_lower ho7 (below_size (by repeat (first | (with_reducible first | exact HB.out | apply below_alloc | apply pw_below_drewN | apply below_drew1) | exact HB.out)))); have n2_ := Aside0.mk (below_step (by repeat (first | (with_reducible first | exact HB.out | apply below_alloc | apply pw_below_drewN | apply below_drew1) | exact HB.out)) hb); clear HO186; clear HB; have HO186 := n0_; have HO189 := n1_; have HB := n2_; clear n0_ n1_ n2_; clear hb ho7) | ((with_reducible refine gate_dst (N := 11) rfl ?_); (try (refine gate_guard (by rfl) ?_; dsimp only)); refine Kd.R_lit (Kd.int .u8) _ 5 ?hg (N := 11) ?hd (xs := ([3] : List Int)) (inner := [.int .u8 3]) (ok := fun _ => True) (okp := fun _ => True) ?hr ?hp (fun _ hk => hk) trivial (Below.refl _ _) (Nat.le_refl _) (by simp) ?_; (case hd => rfl); (case hg => rfl); (case hr => first | (go_simp; done) | (go_simp; rfl)); (case hp => exact (Reps.one (show Kd.M (Kd.int .u8) _ _ _ 3 [.int .u8 3] from rfl) (Reps.none _ _))); intro v191 w8 ho9 hb hg_ hnew_; clear hg_ hnew_; (first | rw [← Ny190.out] at ho9 | (simp only [Int.reduceToNat] at ho9; rw [← Ny190.out] at ho9)); have n0_ := Aside0.mk (Kd.R_below (by (with_reducible repeat (first | apply Kd.R_alloc | apply Kd.R_drewN | apply Kd.R_drew)); exact HO186.out) hb); have n1_ := Aside0.mk (Kd.R_elder' (by (with_reducible repeat (first | apply Kd.R_alloc | apply Kd.R_drewN | apply Kd.R_drew)); exact HO189.out) (Kd.R_base ho9) hb); have n2_ := Aside0.mk (Kd.R_lower (Kd.R_new' ho9 (Kd.R_lt (by (with_reducible repeat (first | apply Kd.R_alloc | apply Kd.R_drewN | apply Kd.R_drew)); exact HO189.out))) (below_size (by repeat (first | (with_reducible first | exact HB.out | apply below_alloc | apply pw_below_drewN | apply below_drew1) | exact HB.out)))); have n3_ := Aside0.mk (below_step (by repeat (first | (with_reducible first | exact HB.out | apply below_alloc | apply pw_below_drewN | apply below_drew1) | exact HB.out)) hb); clear HO186; clear HO189; clear HB; have HO186 := n0_; have HO189 := n1_; have HO192 := n2_; have HB := n3_; clear n0_ n1_ n2_ n3_; clear hb ho9; obtain ⟨Ao10, co10, eo10⟩ := Kd.R_slice HO189.out; subst eo10; obtain ⟨Ao11, co11, eo11⟩ := Kd.R_slice HO192.out; subst eo11) | ((with_reducible refine gate_dst (N := 12) rfl ?_); (try (refine gate_guard (by rfl) ?_; dsimp only)); refine Kd.N_lit (Kd.slice 5 (Kd.int .u8)) _ 24 ?hg (N' := 12) ?hd (xs := ([y187, y190] : List (List Int))) (inner := [.slice Ao10 y187.length co10, .slice Ao11 y190.length co11]) (ok := (fun k_ => some k_ ≠ (v185 : Value).ownBlock)) (okp := (fun k_ => some k_ ≠ (v185 : Value).ownBlock)) ?hr ?hp (fun _ hk => hk) ((show ∀ k_, w8.heap.size ≤ k_ → (fun k_ => some k_ ≠ (v185 : Value).ownBlock) k_ from fun k_ hk => Kd.fresh' (Kd.R_lt (by (with_reducible repeat (first | apply Kd.R_alloc | apply Kd.R_drewN | apply Kd.R_drew)); exact HO186.out)) k_ hk) _ (Nat.le_refl _)) (Below.refl _ _) (Nat.le_refl _) (by simp) ?_; (case hd => rfl); (case hg => rfl); (case hr => first | (go_simp; done) | (go_simp; rfl)); (case hp => exact (Reps.one (show Kd.FK (Kd.slice 5 (Kd.int .u8)) _ _ y187 [.slice Ao10 y187.length co10] from (Kd.FK_slice_mk (Kd.R_reads' (Kd.R_mono (ok' := (fun k_ => some k_ ≠ (v185 : Value).ownBlock)) (Kd.R_apart' (HO189.out) (Kd.R_typed HO186.out) (by decide)) (fun k_ hk => hk.2))).2.1 (Kd.R_F (Kd.R_mono (ok' := (fun k_ => some k_ ≠ (v185 : Value).ownBlock)) (Kd.R_apart' (HO189.out) (Kd.R_typed HO186.out) (by decide)) (fun k_ hk => hk.2))))) (Reps.one (show Kd.FK (Kd.slice 5 (Kd.int .u8)) _ _ y190 [.slice Ao11 y190.length co11] from (Kd.FK_slice_mk (Kd.R_reads' (Kd.R_mono (ok' := (fun k_ => some k_ ≠ (v185 : Value).ownBlock)) (Kd.R_apart' (HO192.out) (Kd.R_typed HO186.out) (by decide)) (fun k_ hk => hk.2))).2.1 (Kd.R_F (Kd.R_mono (ok' := (fun k_ => some k_ ≠ (v185 : Value).ownBlock)) (Kd.R_apart' (HO192.out) (Kd.R_typed HO186.out) (by decide)) (fun k_ hk => hk.2))))) (Reps.none _ _)))); intro v194 w12 ho13 hb hg_ hnew_; clear hg_ hnew_; (first | rw [← Ny193.out] at ho13 | (simp only [Int.reduceToNat] at ho13; rw [← Ny193.out] at ho13)); have n0_ := Aside0.mk (Kd.R_below (by (with_reducible repeat (first | apply Kd.R_alloc | apply Kd.R_drewN | apply Kd.R_drew)); exact HO186.out) hb); have n1_ := Aside0.mk (Kd.N_lower ho13 (below_size (by repeat (first | (with_reducible first | exact HB.out | apply below_alloc | apply pw_below_drewN | apply below_drew1) | exact HB.out)))); have n2_ := Aside0.mk (below_step (by repeat (first | (with_reducible first | exact HB.out | apply below_alloc | apply pw_below_drewN | apply below_drew1) | exact HB.out)) hb); clear HO186; clear HB; clear HO189; clear HO192; have HO186 := n0_; have HO195 := n1_; have HB := n2_; clear n0_ n1_ n2_; clear hb ho13; obtain ⟨Ao14, co14, eo14⟩ := Kd.R_slice HO186.out; subst eo14; obtain ⟨Ao15, co15, eo15⟩ := Kd.N_slice HO195.out; subst eo15) | ((with_reducible refine gate_callee (f := 16) rfl ?_); refine goesL_ (some 13) rfl rfl Try.func16 (by kernel_rfl) rfl #[.slice Ao14 y184.length co14, .slice Ao15 y193.length co15] rfl (by (try simp only [List.map_toArray, List.map_cons, List.map_nil]); first | done | rfl | (simp only [List.length_drop, List.length_take]; rfl)) ?_; (with_reducible refine (sfnt_Lay.calls k _ _ y184 _ _ y193 t196 t199 _ ?side1 ?side2 ?side3 ?side4 A1.out).mono ?_); (case side1 => repeat (first | exact (Kd.R_reads' HO186.out).2.2 | (with_reducible refine Kd.C_alloc ?_ _) | (with_reducible refine Kd.C_drewN ?_ _) | (with_reducible refine Kd.C_drew ?_))); (case side2 => exact (Kd.R_reads' HO186.out).2.1); (case side3 => repeat (first | exact (Kd.N_reads' HO195.out).2.2 | (with_reducible refine Kd.C_alloc ?_ _) | (with_reducible refine Kd.C_drewN ?_ _) | (with_reducible refine Kd.C_drew ?_))); (case side4 => exact (Kd.N_reads' HO195.out).2.1); rintro e w16 ⟨v197, rfl, ho0, hb⟩; refine ⟨_, rfl, ?_⟩; have n0_ := Aside0.mk (Kd.R_below (by (with_reducible repeat (first | apply Kd.R_alloc | apply Kd.R_drewN | apply Kd.R_drew)); exact HO186.out) hb); have n1_ := Aside0.mk (Kd.N_below (by (with_reducible repeat (first | apply Kd.N_alloc | apply Kd.N_drewN | apply Kd.N_drew)); exact HO195.out) hb); have n2_ := Aside0.mk (Kd.V_lower (Kd.V_mono (ok' := fun k_ => some k_ ≠ (.slice Ao14 y184.length co14 : Value).ownBlock ∧ some k_ ≠ (.slice Ao15 y193.length co15 : Value).ownBlock) ho0 (fun k_ hk_ => ⟨(Kd.fresh' (Kd.R_lt (by (with_reducible repeat (first | apply Kd.R_alloc | apply Kd.R_drewN | apply Kd.R_drew)); exact HO186.out)) k_ hk_), (Kd.fresh' (Kd.N_lt (by (with_reducible repeat (first | apply Kd.N_alloc | apply Kd.N_drewN | apply Kd.N_drew)); exact HO195.out)) k_ hk_)⟩)) (below_size (by repeat (first | (with_reducible first | exact HB.out | apply below_alloc | apply pw_below_drewN | apply below_drew1) | exact HB.out)))); have n3_ := Aside0.mk (below_step (by repeat (first | (with_reducible first | exact HB.out | apply below_alloc | apply pw_below_drewN | apply below_drew1) | exact HB.out)) hb); clear HO186; clear HO195; clear HB; have HO186 := n0_; have HO195 := n1_; have HO198 := n2_; have HB := n3_; clear n0_ n1_ n2_ n3_; (try clear hb); (try clear hb2); (try clear hk); (try clear hi); (try clear ho0); obtain ⟨Ao17, co17, eo17⟩ := Kd.V_slice HO198.out; subst eo17) | ((with_reducible refine gate_callee (f := 20) rfl ?_); refine goesL_ (some 18) rfl rfl Try.func20 (by kernel_rfl) rfl #[.slice Ao17 t196.length co17] rfl (by (try simp only [List.map_toArray, List.map_cons, List.map_nil]); first | done | rfl | (simp only [List.length_drop, List.length_take]; rfl)) ?_; (with_reducible refine (sfnt_Open.calls k _ _ t196 t200 t203 _ ?side1 ?side2 A2.out).mono ?_); (case side1 => repeat (first | exact (Kd.V_reads' HO198.out).2.2 | (with_reducible refine Kd.C_alloc ?_ _) | (with_reducible refine Kd.C_drewN ?_ _) | (with_reducible refine Kd.C_drew ?_))); (case side2 => exact (Kd.V_reads' HO198.out).2.1); rintro e w18 ⟨v201, rfl, ho0, hb⟩; refine ⟨_, rfl, ?_⟩; have n0_ := Aside0.mk (Kd.R_below (by (with_reducible repeat (first | apply Kd.R_alloc | apply Kd.R_drewN | apply Kd.R_drew)); exact HO186.out) hb); have n1_ := Aside0.mk (Kd.N_below (by (with_reducible repeat (first | apply Kd.N_alloc | apply Kd.N_drewN | apply Kd.N_drew)); exact HO195.out) hb); have n2_ := Aside0.mk (Kd.V_below (by (with_reducible repeat (first | apply Kd.V_alloc | apply Kd.V_drewN | apply Kd.V_drew)); exact HO198.out) hb); have n3_ := Aside0.mk (Kd.V_lower (Kd.V_mono (ok' := fun k_ => some k_ ≠ (.slice Ao14 y184.length co14 : Value).ownBlock ∧ some k_ ≠ (.slice Ao15 y193.length co15 : Value).ownBlock) ho0 (fun k_ hk_ => ⟨(Kd.fresh' (Kd.R_lt (by (with_reducible repeat (first | apply Kd.R_alloc | apply Kd.R_drewN | apply Kd.R_drew)); exact HO186.out)) k_ hk_), (Kd.fresh' (Kd.N_lt (by (with_reducible repeat (first | apply Kd.N_alloc | apply Kd.N_drewN | apply Kd.N_drew)); exact HO195.out)) k_ hk_)⟩)) (below_size (by repeat (first | (with_reducible first | exact HB.out | apply below_alloc | apply pw_below_drewN | apply below_drew1) | exact HB.out)))); have n4_ := Aside0.mk (below_step (by repeat (first | (with_reducible first | exact HB.out | apply below_alloc | apply pw_below_drewN | apply below_drew1) | exact HB.out)) hb); clear HO186; clear HO195; clear HO198; clear HB; have HO186 := n0_; have HO195 := n1_; have HO198 := n2_; have HO202 := n3_; have HB := n4_; clear n0_ n1_ n2_ n3_ n4_; (try clear hb); (try clear hb2); (try clear hk); (try clear hi); (try clear ho0)))
  (try simp only [Act.put, List.setIfInBounds_toArray, List.set_cons_zero, List.set_cons_succ])
  go_cut [30] (fun v30 wc => ∃ (kq : Nat) (x30_2 : Bool), v30 = .bool x30_2 ∧ Aside0 (versallaw14_known.j0 kq t200 x30_2 = some r) ∧ Aside0 (kq ≤ k) ∧ Aside0 (Kd.V k135 135 wc w.heap.size (fun _ => True) v201 t200) ∧ Aside0 (Below w.heap.size w wc))
  case first =>
    have H := HC3.out
    clear HC3
    by_cases c19 : t199 = 0
    · rw [if_pos c19] at H
      have c19b0 : (t199 == 0) = true := beq_iff_eq.mpr c19
      have c19b1 : (t199 != 0) = false := bne_eq_false_iff_eq.mpr c19
      clear c19
      (first | rw [c19b0] | (simp only [i64_w, i32_w]; rw [c19b0]) | skip)
      by_cases c20 : t203 = 0
      · rw [if_pos c20] at H
        have c20b0 : (t203 == 0) = true := beq_iff_eq.mpr c20
        have c20b1 : (t203 != 0) = false := bne_eq_false_iff_eq.mpr c20
        clear c20
        have H' := Aside0.mk H
        clear H
        have hz21 := hq_isNone t200 v201
        go_wp2
        go_meet
        case rel => exact ⟨_, (((t200.length : Int) == 0)), (by first | rfl | (simp; done) | (simp [*]; done)), H', ⟨by first | omega | exact Nat.le_refl _⟩, ⟨by (with_reducible repeat (first | apply Kd.V_alloc | apply Kd.V_drewN | apply Kd.V_drew)); exact Kd.V_mono HO202.out (fun _ hk => trivial)⟩, ⟨by repeat (first | (with_reducible first | exact HB.out | apply below_alloc | apply pw_below_drewN | apply below_drew1) | exact HB.out)⟩⟩
      · rw [if_neg c20] at H
        have c20b0 : (t203 == 0) = false := beq_eq_false_iff_ne.mpr c20
        have c20b1 : (t203 != 0) = true := bne_iff_ne.mpr c20
        have H' := Aside0.mk H
        clear H
        go_wp2
        go_meet
        case rel => exact ⟨_, (true), (by first | rfl | (simp; done) | (simp [*]; done)), H', ⟨by first | omega | exact Nat.le_refl _⟩, ⟨by (with_reducible repeat (first | apply Kd.V_alloc | apply Kd.V_drewN | apply Kd.V_drew)); exact Kd.V_mono HO202.out (fun _ hk => trivial)⟩, ⟨by repeat (first | (with_reducible first | exact HB.out | apply below_alloc | apply pw_below_drewN | apply below_drew1) | exact HB.out)⟩⟩
    · rw [if_neg c19] at H
      have c19b0 : (t199 == 0) = false := beq_eq_false_iff_ne.mpr c19
      have c19b1 : (t199 != 0) = true := bne_iff_ne.mpr c19
      (first | rw [c19b0] | (simp only [i64_w, i32_w]; rw [c19b0]) | skip)
      have H' := Aside0.mk H
      clear H
      go_wp2
      go_meet
      case rel => exact ⟨_, (true), (by first | rfl | (simp; done) | (simp [*]; done)), H', ⟨by first | omega | exact Nat.le_refl _⟩, ⟨by (with_reducible repeat (first | apply Kd.V_alloc | apply Kd.V_drewN | apply Kd.V_drew)); exact Kd.V_mono HO202.out (fun _ hk => trivial)⟩, ⟨by repeat (first | (with_reducible first | exact HB.out | apply below_alloc | apply pw_below_drewN | apply below_drew1) | exact HB.out)⟩⟩
  case rest =>
    clear HC3
    try clear c1
    try clear c2
    try clear p2
    try clear c16
    try clear c19
    try clear c19b0
    try clear c19b1
    try clear c20
    try clear c20b0
    try clear c20b1
    obtain ⟨kq, x30_2, rfl, HA, HJ2, HO_3, HB⟩ := hcut
    cases kq with
    | zero => exact absurd HA.out (by simp [versallaw14_known.j0])
    | succ kj2 =>
      have H := HA.out
      clear HA
      simp only [versallaw14_known.j0] at H
      by_cases c22 : x30_2 = true
      · subst c22
        have H1 : (some false) = some r := by rw [if_pos rfl] at H; exact H
        clear H
        have H := H1
        clear H1
        obtain rfl := Option.some.inj H
        go_wp2
        go_ret
        exact ⟨by first | rfl | (simp [errW_none, errW_some] <;> rfl) | (simp [*, errW_none, errW_some] <;> rfl), by repeat (first | (with_reducible first | exact HB.out | apply below_alloc | apply pw_below_drewN | apply below_drew1) | exact HB.out)⟩
      · replace c22 := Bool.eq_false_iff.mpr c22
        subst c22
        have H1 : ((sfnt_Font_Table.f t200 (⟨#[101, 102, 103, 104]⟩ : ByteArray)).bind fun bt204 => ((sfnt_Font_Tags.f t200).bind fun t208 => (if (strOfNums bt204.1).toList = ([3] : List UInt8) then (if bt204.2 = true then (if (t208.length : Int) = 2 then (if 0 < (t208.length : Int) then (if (rdOf ByteArray.empty t208 0).toList = ([97, 98, 99, 100] : List UInt8) then (if 1 < (t208.length : Int) then (some ((rdOf ByteArray.empty t208 1).toList == ([101, 102, 103, 104] : List UInt8))) else (none)) else (some false)) else (none)) else (some false)) else (some false)) else (some false)))) = some r := by rw [if_neg (show ¬ (false = true) by decide)] at H; exact H
        clear H
        have H := H1
        clear H1
        replace H := Option.bind_eq_some_iff.mp H
        obtain ⟨⟨t204, t205⟩, A230, H⟩ := H
        replace H : ((sfnt_Font_Tags.f t200).bind fun t208 => (if (strOfNums t204).toList = ([3] : List UInt8) then (if t205 = true then (if (t208.length : Int) = 2 then (if 0 < (t208.length : Int) then (if (rdOf ByteArray.empty t208 0).toList = ([97, 98, 99, 100] : List UInt8) then (if 1 < (t208.length : Int) then (some ((rdOf ByteArray.empty t208 1).toList == ([101, 102, 103, 104] : List UInt8))) else (none)) else (some false)) else (none)) else (some false)) else (some false)) else (some false))) = some r := H
        have A23 := Aside0.mk A230
        clear A230
        replace H := Option.bind_eq_some_iff.mp H
        obtain ⟨t208, A240, H⟩ := H
        replace H : (if (strOfNums t204).toList = ([3] : List UInt8) then (if t205 = true then (if (t208.length : Int) = 2 then (if 0 < (t208.length : Int) then (if (rdOf ByteArray.empty t208 0).toList = ([97, 98, 99, 100] : List UInt8) then (if 1 < (t208.length : Int) then (some ((rdOf ByteArray.empty t208 1).toList == ([101, 102, 103, 104] : List UInt8))) else (none)) else (some false)) else (none)) else (some false)) else (some false)) else (some false)) = some r := H
        have A24 := Aside0.mk A240
        clear A240
        by_cases c25 : (strOfNums t204).toList = ([3] : List UInt8)
        · rw [if_pos c25] at H
          have c25b0 : ((strOfNums t204).toList == ([3] : List UInt8)) = true := beq_iff_eq.mpr c25
          have c25b1 : ((strOfNums t204).toList != ([3] : List UInt8)) = false := bne_eq_false_iff_eq.mpr c25
          clear c25
          by_cases c26 : t205 = true
          · subst c26
            have H1 : (if (t208.length : Int) = 2 then (if 0 < (t208.length : Int) then (if (rdOf ByteArray.empty t208 0).toList = ([97, 98, 99, 100] : List UInt8) then (if 1 < (t208.length : Int) then (some ((rdOf ByteArray.empty t208 1).toList == ([101, 102, 103, 104] : List UInt8))) else (none)) else (some false)) else (none)) else (some false)) = some r := by rw [if_pos rfl] at H; exact H
            clear H
            have H := H1
            clear H1
            by_cases c27 : (t208.length : Int) = 2
            · rw [if_pos c27] at H
              have c27b0 : ((t208.length : Int) == 2) = true := beq_iff_eq.mpr c27
              have c27b1 : ((t208.length : Int) != 2) = false := bne_eq_false_iff_eq.mpr c27
              clear c27
              by_cases c28 : 0 < (t208.length : Int)
              · rw [if_pos c28] at H
                have c28b0 : decide (0 < (t208.length : Int)) = true := decide_eq_true c28
                have c28b1 : decide (0 < t208.length) = true := decide_eq_true (by omega)
                clear c28
                by_cases c29 : (rdOf ByteArray.empty t208 0).toList = ([97, 98, 99, 100] : List UInt8)
                · rw [if_pos c29] at H
                  have c29b0 : ((rdOf ByteArray.empty t208 0).toList == ([97, 98, 99, 100] : List UInt8)) = true := beq_iff_eq.mpr c29
                  have c29b1 : ((rdOf ByteArray.empty t208 0).toList != ([97, 98, 99, 100] : List UInt8)) = false := bne_eq_false_iff_eq.mpr c29
                  clear c29
                  by_cases c30 : 1 < (t208.length : Int)
                  · rw [if_pos c30] at H
                    have c30b0 : decide (1 < (t208.length : Int)) = true := decide_eq_true c30
                    have c30b1 : decide (1 < t208.length) = true := decide_eq_true (by omega)
                    clear c30
                    obtain rfl := Option.some.inj H
                    obtain ⟨Ao31, co31, eo31⟩ := Kd.V_slice HO_3.out
                    subst eo31
                    go_wp2_with (first | ((with_reducible refine gate_callee (f := 24) rfl ?_); refine goesL_ (some 33) rfl rfl Try.func24 (by kernel_rfl) rfl #[.pointer (hq t200 (.slice Ao31 t200.length co31)), .string (⟨#[101, 102, 103, 104]⟩ : ByteArray)] rfl (by (try simp only [List.map_toArray, List.map_cons, List.map_nil]); first | done | rfl | (simp only [List.length_drop, List.length_take]; rfl)) ?_; (with_reducible refine (sfnt_Font_Table.calls _ _ t200 (⟨#[101, 102, 103, 104]⟩ : ByteArray) t204 true _ ?side1 ?side2 A23.out).mono ?_); (case side1 => repeat (first | exact (Kd.V_reads' HO_3.out).2.2 | (with_reducible refine Kd.C_alloc ?_ _) | (with_reducible refine Kd.C_drewN ?_ _) | (with_reducible refine Kd.C_drew ?_))); (case side2 => exact (Kd.V_reads' HO_3.out).2.1); rintro e w32 ⟨v206, rfl, ho0, hb⟩; refine ⟨_, rfl, ?_⟩; have n0_ := Aside0.mk (Kd.V_elder' (by (with_reducible repeat (first | apply Kd.V_alloc | apply Kd.V_drewN | apply Kd.V_drew)); exact HO_3.out) (Kd.R_base ho0) hb); have n1_ := Aside0.mk (Kd.R_lower ho0 (below_size (by repeat (first | (with_reducible first | exact HB.out | apply below_alloc | apply pw_below_drewN | apply below_drew1) | exact HB.out)))); have n2_ := Aside0.mk (below_step (by repeat (first | (with_reducible first | exact HB.out | apply below_alloc | apply pw_below_drewN | apply below_drew1) | exact HB.out)) hb); clear HO_3; clear HB; have HO_3 := n0_; have HO207 := n1_; have HB := n2_; clear n0_ n1_ n2_; (try clear hb); (try clear hb2); (try clear hk); (try clear hi); (try clear ho0)) | ((with_reducible refine gate_callee (f := 23) rfl ?_); refine goesL_ (some 37) rfl rfl Try.func23 (by kernel_rfl) rfl #[.pointer (hq t200 (.slice Ao31 t200.length co31))] rfl (by (try simp only [List.map_toArray, List.map_cons, List.map_nil]); first | done | rfl | (simp only [List.length_drop, List.length_take]; rfl)) ?_; (with_reducible refine (sfnt_Font_Tags.calls _ _ t200 t208 _ ?side1 ?side2 A24.out).mono ?_); (case side1 => repeat (first | exact (Kd.V_reads' HO_3.out).2.2 | (with_reducible refine Kd.C_alloc ?_ _) | (with_reducible refine Kd.C_drewN ?_ _) | (with_reducible refine Kd.C_drew ?_))); (case side2 => exact (Kd.V_reads' HO_3.out).2.1); rintro e w33 ⟨v209, rfl, ho0, hb⟩; refine ⟨_, rfl, ?_⟩; have n0_ := Aside0.mk (Kd.V_elder' (by (with_reducible repeat (first | apply Kd.V_alloc | apply Kd.V_drewN | apply Kd.V_drew)); exact HO_3.out) (Kd.R_base ho0) hb); have n1_ := Aside0.mk (Kd.R_below (by (with_reducible repeat (first | apply Kd.R_alloc | apply Kd.R_drewN | apply Kd.R_drew)); exact HO207.out) hb); have n2_ := Aside0.mk (Kd.R_lower ho0 (below_size (by repeat (first | (with_reducible first | exact HB.out | apply below_alloc | apply pw_below_drewN | apply below_drew1) | exact HB.out)))); have n3_ := Aside0.mk (below_step (by repeat (first | (with_reducible first | exact HB.out | apply below_alloc | apply pw_below_drewN | apply below_drew1) | exact HB.out)) hb); clear HO_3; clear HO207; clear HB; have HO_3 := n0_; have HO207 := n1_; have HO210 := n2_; have HB := n3_; clear n0_ n1_ n2_ n3_; (try clear hb); (try clear hb2); (try clear hk); (try clear hi); (try clear ho0); have hcv34 := own_string (P := Try.prog) Try.underlying24 Try.underlying5 Try.underlying9 (Kd.own_of_R HO207.out); have hcvd34 := fun n_ : Nat => own_string (P := Try.prog) Try.underlying24 Try.underlying5 Try.underlying9 (Kd.own_of_R (Kd.R_drewN HO207.out n_)); have hcve34 := own_string (P := Try.prog) Try.underlying24 Try.underlying5 Try.underlying9 (Kd.own_of_R (Kd.R_drew HO207.out)); obtain ⟨Ao35, co35, eo35⟩ := Kd.R_slice HO210.out; subst eo35; have p211 : 0 ≤ (0 : Int) := (by omega); have q211 : 0 < (t208.length : Int) := of_decide_eq_true (by first | (with_reducible assumption) | assumption); obtain ⟨ad211, e211, hx211_0⟩ := Kd.at_string (Kd.R_reads' HO210.out).2.2 0 p211 q211; cases e211; have qi211 : (0 < t208.length) = True := eq_true (by omega); (try rw [show ((0 : Int)).toNat = 0 from rfl] at hx211_0); (try rw [Addr.add_zero'] at hx211_0); replace p211 := eq_true p211; replace q211 := eq_true q211; have p212 : 0 ≤ (1 : Int) := (by omega); have q212 : 1 < (t208.length : Int) := of_decide_eq_true (by first | (with_reducible assumption) | assumption); obtain ⟨ad212, e212, hx212_0⟩ := Kd.at_string (Kd.R_reads' HO210.out).2.2 1 p212 q212; obtain rfl : ad211 = ad212 := (by injection e212); (try simp only [show (1 : Int).toNat = 1 from rfl, Nat.reduceMul, Nat.reduceEqDiff, Go.Addr.add, ↓reduceIte] at hx212_0); have qi212 : (1 < t208.length) = True := eq_true (by omega); (try rw [show ((1 : Int)).toNat = 1 from rfl] at hx212_0); replace p212 := eq_true p212; replace q212 := eq_true q212))
                    go_ret
                    exact ⟨by first | rfl | (simp [errW_none, errW_some] <;> rfl) | (simp [*, errW_none, errW_some] <;> rfl), by repeat (first | (with_reducible first | exact HB.out | apply below_alloc | apply pw_below_drewN | apply below_drew1) | exact HB.out)⟩
                  · rw [if_neg c30] at H
                    exact absurd H (by simp)
                · rw [if_neg c29] at H
                  have c29b0 : ((rdOf ByteArray.empty t208 0).toList == ([97, 98, 99, 100] : List UInt8)) = false := beq_eq_false_iff_ne.mpr c29
                  have c29b1 : ((rdOf ByteArray.empty t208 0).toList != ([97, 98, 99, 100] : List UInt8)) = true := bne_iff_ne.mpr c29
                  obtain rfl := Option.some.inj H
                  obtain ⟨Ao36, co36, eo36⟩ := Kd.V_slice HO_3.out
                  subst eo36
                  go_wp2_with (first | ((with_reducible refine gate_callee (f := 24) rfl ?_); refine goesL_ (some 33) rfl rfl Try.func24 (by kernel_rfl) rfl #[.pointer (hq t200 (.slice Ao36 t200.length co36)), .string (⟨#[101, 102, 103, 104]⟩ : ByteArray)] rfl (by (try simp only [List.map_toArray, List.map_cons, List.map_nil]); first | done | rfl | (simp only [List.length_drop, List.length_take]; rfl)) ?_; (with_reducible refine (sfnt_Font_Table.calls _ _ t200 (⟨#[101, 102, 103, 104]⟩ : ByteArray) t204 true _ ?side1 ?side2 A23.out).mono ?_); (case side1 => repeat (first | exact (Kd.V_reads' HO_3.out).2.2 | (with_reducible refine Kd.C_alloc ?_ _) | (with_reducible refine Kd.C_drewN ?_ _) | (with_reducible refine Kd.C_drew ?_))); (case side2 => exact (Kd.V_reads' HO_3.out).2.1); rintro e w37 ⟨v206, rfl, ho0, hb⟩; refine ⟨_, rfl, ?_⟩; have n0_ := Aside0.mk (Kd.V_elder' (by (with_reducible repeat (first | apply Kd.V_alloc | apply Kd.V_drewN | apply Kd.V_drew)); exact HO_3.out) (Kd.R_base ho0) hb); have n1_ := Aside0.mk (Kd.R_lower ho0 (below_size (by repeat (first | (with_reducible first | exact HB.out | apply below_alloc | apply pw_below_drewN | apply below_drew1) | exact HB.out)))); have n2_ := Aside0.mk (below_step (by repeat (first | (with_reducible first | exact HB.out | apply below_alloc | apply pw_below_drewN | apply below_drew1) | exact HB.out)) hb); clear HO_3; clear HB; have HO_3 := n0_; have HO207 := n1_; have HB := n2_; clear n0_ n1_ n2_; (try clear hb); (try clear hb2); (try clear hk); (try clear hi); (try clear ho0)) | ((with_reducible refine gate_callee (f := 23) rfl ?_); refine goesL_ (some 37) rfl rfl Try.func23 (by kernel_rfl) rfl #[.pointer (hq t200 (.slice Ao36 t200.length co36))] rfl (by (try simp only [List.map_toArray, List.map_cons, List.map_nil]); first | done | rfl | (simp only [List.length_drop, List.length_take]; rfl)) ?_; (with_reducible refine (sfnt_Font_Tags.calls _ _ t200 t208 _ ?side1 ?side2 A24.out).mono ?_); (case side1 => repeat (first | exact (Kd.V_reads' HO_3.out).2.2 | (with_reducible refine Kd.C_alloc ?_ _) | (with_reducible refine Kd.C_drewN ?_ _) | (with_reducible refine Kd.C_drew ?_))); (case side2 => exact (Kd.V_reads' HO_3.out).2.1); rintro e w38 ⟨v209, rfl, ho0, hb⟩; refine ⟨_, rfl, ?_⟩; have n0_ := Aside0.mk (Kd.V_elder' (by (with_reducible repeat (first | apply Kd.V_alloc | apply Kd.V_drewN | apply Kd.V_drew)); exact HO_3.out) (Kd.R_base ho0) hb); have n1_ := Aside0.mk (Kd.R_below (by (with_reducible repeat (first | apply Kd.R_alloc | apply Kd.R_drewN | apply Kd.R_drew)); exact HO207.out) hb); have n2_ := Aside0.mk (Kd.R_lower ho0 (below_size (by repeat (first | (with_reducible first | exact HB.out | apply below_alloc | apply pw_below_drewN | apply below_drew1) | exact HB.out)))); have n3_ := Aside0.mk (below_step (by repeat (first | (with_reducible first | exact HB.out | apply below_alloc | apply pw_below_drewN | apply below_drew1) | exact HB.out)) hb); clear HO_3; clear HO207; clear HB; have HO_3 := n0_; have HO207 := n1_; have HO210 := n2_; have HB := n3_; clear n0_ n1_ n2_ n3_; (try clear hb); (try clear hb2); (try clear hk); (try clear hi); (try clear ho0); have hcv39 := own_string (P := Try.prog) Try.underlying24 Try.underlying5 Try.underlying9 (Kd.own_of_R HO207.out); have hcvd39 := fun n_ : Nat => own_string (P := Try.prog) Try.underlying24 Try.underlying5 Try.underlying9 (Kd.own_of_R (Kd.R_drewN HO207.out n_)); have hcve39 := own_string (P := Try.prog) Try.underlying24 Try.underlying5 Try.underlying9 (Kd.own_of_R (Kd.R_drew HO207.out)); obtain ⟨Ao40, co40, eo40⟩ := Kd.R_slice HO210.out; subst eo40; have p211 : 0 ≤ (0 : Int) := (by omega); have q211 : 0 < (t208.length : Int) := of_decide_eq_true (by first | (with_reducible assumption) | assumption); obtain ⟨ad211, e211, hx211_0⟩ := Kd.at_string (Kd.R_reads' HO210.out).2.2 0 p211 q211; cases e211; have qi211 : (0 < t208.length) = True := eq_true (by omega); (try rw [show ((0 : Int)).toNat = 0 from rfl] at hx211_0); (try rw [Addr.add_zero'] at hx211_0); replace p211 := eq_true p211; replace q211 := eq_true q211))
                  go_ret
                  exact ⟨by first | rfl | (simp [errW_none, errW_some] <;> rfl) | (simp [*, errW_none, errW_some] <;> rfl), by repeat (first | (with_reducible first | exact HB.out | apply below_alloc | apply pw_below_drewN | apply below_drew1) | exact HB.out)⟩
              · rw [if_neg c28] at H
                exact absurd H (by simp)
            · rw [if_neg c27] at H
              have c27b0 : ((t208.length : Int) == 2) = false := beq_eq_false_iff_ne.mpr c27
              have c27b1 : ((t208.length : Int) != 2) = true := bne_iff_ne.mpr c27
              obtain rfl := Option.some.inj H
              obtain ⟨Ao41, co41, eo41⟩ := Kd.V_slice HO_3.out
              subst eo41
              go_wp2_with (first | ((with_reducible refine gate_callee (f := 24) rfl ?_); refine goesL_ (some 33) rfl rfl Try.func24 (by kernel_rfl) rfl #[.pointer (hq t200 (.slice Ao41 t200.length co41)), .string (⟨#[101, 102, 103, 104]⟩ : ByteArray)] rfl (by (try simp only [List.map_toArray, List.map_cons, List.map_nil]); first | done | rfl | (simp only [List.length_drop, List.length_take]; rfl)) ?_; (with_reducible refine (sfnt_Font_Table.calls _ _ t200 (⟨#[101, 102, 103, 104]⟩ : ByteArray) t204 true _ ?side1 ?side2 A23.out).mono ?_); (case side1 => repeat (first | exact (Kd.V_reads' HO_3.out).2.2 | (with_reducible refine Kd.C_alloc ?_ _) | (with_reducible refine Kd.C_drewN ?_ _) | (with_reducible refine Kd.C_drew ?_))); (case side2 => exact (Kd.V_reads' HO_3.out).2.1); rintro e w42 ⟨v206, rfl, ho0, hb⟩; refine ⟨_, rfl, ?_⟩; have n0_ := Aside0.mk (Kd.V_elder' (by (with_reducible repeat (first | apply Kd.V_alloc | apply Kd.V_drewN | apply Kd.V_drew)); exact HO_3.out) (Kd.R_base ho0) hb); have n1_ := Aside0.mk (Kd.R_lower ho0 (below_size (by repeat (first | (with_reducible first | exact HB.out | apply below_alloc | apply pw_below_drewN | apply below_drew1) | exact HB.out)))); have n2_ := Aside0.mk (below_step (by repeat (first | (with_reducible first | exact HB.out | apply below_alloc | apply pw_below_drewN | apply below_drew1) | exact HB.out)) hb); clear HO_3; clear HB; have HO_3 := n0_; have HO207 := n1_; have HB := n2_; clear n0_ n1_ n2_; (try clear hb); (try clear hb2); (try clear hk); (try clear hi); (try clear ho0)) | ((with_reducible refine gate_callee (f := 23) rfl ?_); refine goesL_ (some 37) rfl rfl Try.func23 (by kernel_rfl) rfl #[.pointer (hq t200 (.slice Ao41 t200.length co41))] rfl (by (try simp only [List.map_toArray, List.map_cons, List.map_nil]); first | done | rfl | (simp only [List.length_drop, List.length_take]; rfl)) ?_; (with_reducible refine (sfnt_Font_Tags.calls _ _ t200 t208 _ ?side1 ?side2 A24.out).mono ?_); (case side1 => repeat (first | exact (Kd.V_reads' HO_3.out).2.2 | (with_reducible refine Kd.C_alloc ?_ _) | (with_reducible refine Kd.C_drewN ?_ _) | (with_reducible refine Kd.C_drew ?_))); (case side2 => exact (Kd.V_reads' HO_3.out).2.1); rintro e w43 ⟨v209, rfl, ho0, hb⟩; refine ⟨_, rfl, ?_⟩; have n0_ := Aside0.mk (Kd.V_elder' (by (with_reducible repeat (first | apply Kd.V_alloc | apply Kd.V_drewN | apply Kd.V_drew)); exact HO_3.out) (Kd.R_base ho0) hb); have n1_ := Aside0.mk (Kd.R_below (by (with_reducible repeat (first | apply Kd.R_alloc | apply Kd.R_drewN | apply Kd.R_drew)); exact HO207.out) hb); have n2_ := Aside0.mk (Kd.R_lower ho0 (below_size (by repeat (first | (with_reducible first | exact HB.out | apply below_alloc | apply pw_below_drewN | apply below_drew1) | exact HB.out)))); have n3_ := Aside0.mk (below_step (by repeat (first | (with_reducible first | exact HB.out | apply below_alloc | apply pw_below_drewN | apply below_drew1) | exact HB.out)) hb); clear HO_3; clear HO207; clear HB; have HO_3 := n0_; have HO207 := n1_; have HO210 := n2_; have HB := n3_; clear n0_ n1_ n2_ n3_; (try clear hb); (try clear hb2); (try clear hk); (try clear hi); (try clear ho0); have hcv44 := own_string (P := Try.prog) Try.underlying24 Try.underlying5 Try.underlying9 (Kd.own_of_R HO207.out); have hcvd44 := fun n_ : Nat => own_string (P := Try.prog) Try.underlying24 Try.underlying5 Try.underlying9 (Kd.own_of_R (Kd.R_drewN HO207.out n_)); have hcve44 := own_string (P := Try.prog) Try.underlying24 Try.underlying5 Try.underlying9 (Kd.own_of_R (Kd.R_drew HO207.out)); obtain ⟨Ao45, co45, eo45⟩ := Kd.R_slice HO210.out; subst eo45))
              go_ret
              exact ⟨by first | rfl | (simp [errW_none, errW_some] <;> rfl) | (simp [*, errW_none, errW_some] <;> rfl), by repeat (first | (with_reducible first | exact HB.out | apply below_alloc | apply pw_below_drewN | apply below_drew1) | exact HB.out)⟩
          · replace c26 := Bool.eq_false_iff.mpr c26
            subst c26
            have H1 : (some false) = some r := by rw [if_neg (show ¬ (false = true) by decide)] at H; exact H
            clear H
            have H := H1
            clear H1
            obtain rfl := Option.some.inj H
            obtain ⟨Ao46, co46, eo46⟩ := Kd.V_slice HO_3.out
            subst eo46
            go_wp2_with (first | ((with_reducible refine gate_callee (f := 24) rfl ?_); refine goesL_ (some 33) rfl rfl Try.func24 (by kernel_rfl) rfl #[.pointer (hq t200 (.slice Ao46 t200.length co46)), .string (⟨#[101, 102, 103, 104]⟩ : ByteArray)] rfl (by (try simp only [List.map_toArray, List.map_cons, List.map_nil]); first | done | rfl | (simp only [List.length_drop, List.length_take]; rfl)) ?_; (with_reducible refine (sfnt_Font_Table.calls _ _ t200 (⟨#[101, 102, 103, 104]⟩ : ByteArray) t204 false _ ?side1 ?side2 A23.out).mono ?_); (case side1 => repeat (first | exact (Kd.V_reads' HO_3.out).2.2 | (with_reducible refine Kd.C_alloc ?_ _) | (with_reducible refine Kd.C_drewN ?_ _) | (with_reducible refine Kd.C_drew ?_))); (case side2 => exact (Kd.V_reads' HO_3.out).2.1); rintro e w47 ⟨v206, rfl, ho0, hb⟩; refine ⟨_, rfl, ?_⟩; have n0_ := Aside0.mk (Kd.V_elder' (by (with_reducible repeat (first | apply Kd.V_alloc | apply Kd.V_drewN | apply Kd.V_drew)); exact HO_3.out) (Kd.R_base ho0) hb); have n1_ := Aside0.mk (Kd.R_lower ho0 (below_size (by repeat (first | (with_reducible first | exact HB.out | apply below_alloc | apply pw_below_drewN | apply below_drew1) | exact HB.out)))); have n2_ := Aside0.mk (below_step (by repeat (first | (with_reducible first | exact HB.out | apply below_alloc | apply pw_below_drewN | apply below_drew1) | exact HB.out)) hb); clear HO_3; clear HB; have HO_3 := n0_; have HO207 := n1_; have HB := n2_; clear n0_ n1_ n2_; (try clear hb); (try clear hb2); (try clear hk); (try clear hi); (try clear ho0)) | ((with_reducible refine gate_callee (f := 23) rfl ?_); refine goesL_ (some 37) rfl rfl Try.func23 (by kernel_rfl) rfl #[.pointer (hq t200 (.slice Ao46 t200.length co46))] rfl (by (try simp only [List.map_toArray, List.map_cons, List.map_nil]); first | done | rfl | (simp only [List.length_drop, List.length_take]; rfl)) ?_; (with_reducible refine (sfnt_Font_Tags.calls _ _ t200 t208 _ ?side1 ?side2 A24.out).mono ?_); (case side1 => repeat (first | exact (Kd.V_reads' HO_3.out).2.2 | (with_reducible refine Kd.C_alloc ?_ _) | (with_reducible refine Kd.C_drewN ?_ _) | (with_reducible refine Kd.C_drew ?_))); (case side2 => exact (Kd.V_reads' HO_3.out).2.1); rintro e w48 ⟨v209, rfl, ho0, hb⟩; refine ⟨_, rfl, ?_⟩; have n0_ := Aside0.mk (Kd.V_elder' (by (with_reducible repeat (first | apply Kd.V_alloc | apply Kd.V_drewN | apply Kd.V_drew)); exact HO_3.out) (Kd.R_base ho0) hb); have n1_ := Aside0.mk (Kd.R_below (by (with_reducible repeat (first | apply Kd.R_alloc | apply Kd.R_drewN | apply Kd.R_drew)); exact HO207.out) hb); have n2_ := Aside0.mk (Kd.R_lower ho0 (below_size (by repeat (first | (with_reducible first | exact HB.out | apply below_alloc | apply pw_below_drewN | apply below_drew1) | exact HB.out)))); have n3_ := Aside0.mk (below_step (by repeat (first | (with_reducible first | exact HB.out | apply below_alloc | apply pw_below_drewN | apply below_drew1) | exact HB.out)) hb); clear HO_3; clear HO207; clear HB; have HO_3 := n0_; have HO207 := n1_; have HO210 := n2_; have HB := n3_; clear n0_ n1_ n2_ n3_; (try clear hb); (try clear hb2); (try clear hk); (try clear hi); (try clear ho0); have hcv49 := own_string (P := Try.prog) Try.underlying24 Try.underlying5 Try.underlying9 (Kd.own_of_R HO207.out); have hcvd49 := fun n_ : Nat => own_string (P := Try.prog) Try.underlying24 Try.underlying5 Try.underlying9 (Kd.own_of_R (Kd.R_drewN HO207.out n_)); have hcve49 := own_string (P := Try.prog) Try.underlying24 Try.underlying5 Try.underlying9 (Kd.own_of_R (Kd.R_drew HO207.out))))
            go_ret
            exact ⟨by first | rfl | (simp [errW_none, errW_some] <;> rfl) | (simp [*, errW_none, errW_some] <;> rfl), by repeat (first | (with_reducible first | exact HB.out | apply below_alloc | apply pw_below_drewN | apply below_drew1) | exact HB.out)⟩
        · rw [if_neg c25] at H
          have c25b0 : ((strOfNums t204).toList == ([3] : List UInt8)) = false := beq_eq_false_iff_ne.mpr c25
          have c25b1 : ((strOfNums t204).toList != ([3] : List UInt8)) = true := bne_iff_ne.mpr c25
          obtain rfl := Option.some.inj H
          obtain ⟨Ao50, co50, eo50⟩ := Kd.V_slice HO_3.out
          subst eo50
          go_wp2_with (first | ((with_reducible refine gate_callee (f := 24) rfl ?_); refine goesL_ (some 33) rfl rfl Try.func24 (by kernel_rfl) rfl #[.pointer (hq t200 (.slice Ao50 t200.length co50)), .string (⟨#[101, 102, 103, 104]⟩ : ByteArray)] rfl (by (try simp only [List.map_toArray, List.map_cons, List.map_nil]); first | done | rfl | (simp only [List.length_drop, List.length_take]; rfl)) ?_; (with_reducible refine (sfnt_Font_Table.calls _ _ t200 (⟨#[101, 102, 103, 104]⟩ : ByteArray) t204 t205 _ ?side1 ?side2 A23.out).mono ?_); (case side1 => repeat (first | exact (Kd.V_reads' HO_3.out).2.2 | (with_reducible refine Kd.C_alloc ?_ _) | (with_reducible refine Kd.C_drewN ?_ _) | (with_reducible refine Kd.C_drew ?_))); (case side2 => exact (Kd.V_reads' HO_3.out).2.1); rintro e w51 ⟨v206, rfl, ho0, hb⟩; refine ⟨_, rfl, ?_⟩; have n0_ := Aside0.mk (Kd.V_elder' (by (with_reducible repeat (first | apply Kd.V_alloc | apply Kd.V_drewN | apply Kd.V_drew)); exact HO_3.out) (Kd.R_base ho0) hb); have n1_ := Aside0.mk (Kd.R_lower ho0 (below_size (by repeat (first | (with_reducible first | exact HB.out | apply below_alloc | apply pw_below_drewN | apply below_drew1) | exact HB.out)))); have n2_ := Aside0.mk (below_step (by repeat (first | (with_reducible first | exact HB.out | apply below_alloc | apply pw_below_drewN | apply below_drew1) | exact HB.out)) hb); clear HO_3; clear HB; have HO_3 := n0_; have HO207 := n1_; have HB := n2_; clear n0_ n1_ n2_; (try clear hb); (try clear hb2); (try clear hk); (try clear hi); (try clear ho0)) | ((with_reducible refine gate_callee (f := 23) rfl ?_); refine goesL_ (some 37) rfl rfl Try.func23 (by kernel_rfl) rfl #[.pointer (hq t200 (.slice Ao50 t200.length co50))] rfl (by (try simp only [List.map_toArray, List.map_cons, List.map_nil]); first | done | rfl | (simp only [List.length_drop, List.length_take]; rfl)) ?_; (with_reducible refine (sfnt_Font_Tags.calls _ _ t200 t208 _ ?side1 ?side2 A24.out).mono ?_); (case side1 => repeat (first | exact (Kd.V_reads' HO_3.out).2.2 | (with_reducible refine Kd.C_alloc ?_ _) | (with_reducible refine Kd.C_drewN ?_ _) | (with_reducible refine Kd.C_drew ?_))); (case side2 => exact (Kd.V_reads' HO_3.out).2.1); rintro e w52 ⟨v209, rfl, ho0, hb⟩; refine ⟨_, rfl, ?_⟩; have n0_ := Aside0.mk (Kd.V_elder' (by (with_reducible repeat (first | apply Kd.V_alloc | apply Kd.V_drewN | apply Kd.V_drew)); exact HO_3.out) (Kd.R_base ho0) hb); have n1_ := Aside0.mk (Kd.R_below (by (with_reducible repeat (first | apply Kd.R_alloc | apply Kd.R_drewN | apply Kd.R_drew)); exact HO207.out) hb); have n2_ := Aside0.mk (Kd.R_lower ho0 (below_size (by repeat (first | (with_reducible first | exact HB.out | apply below_alloc | apply pw_below_drewN | apply below_drew1) | exact HB.out)))); have n3_ := Aside0.mk (below_step (by repeat (first | (with_reducible first | exact HB.out | apply below_alloc | apply pw_below_drewN | apply below_drew1) | exact HB.out)) hb); clear HO_3; clear HO207; clear HB; have HO_3 := n0_; have HO207 := n1_; have HO210 := n2_; have HB := n3_; clear n0_ n1_ n2_ n3_; (try clear hb); (try clear hb2); (try clear hk); (try clear hi); (try clear ho0); have hcv53 := own_string (P := Try.prog) Try.underlying24 Try.underlying5 Try.underlying9 (Kd.own_of_R HO207.out); have hcvd53 := fun n_ : Nat => own_string (P := Try.prog) Try.underlying24 Try.underlying5 Try.underlying9 (Kd.own_of_R (Kd.R_drewN HO207.out n_)); have hcve53 := own_string (P := Try.prog) Try.underlying24 Try.underlying5 Try.underlying9 (Kd.own_of_R (Kd.R_drew HO207.out))))
          go_ret
          exact ⟨by first | rfl | (simp [errW_none, errW_some] <;> rfl) | (simp [*, errW_none, errW_some] <;> rfl), by repeat (first | (with_reducible first | exact HB.out | apply below_alloc | apply pw_below_drewN | apply below_drew1) | exact HB.out)⟩

/-! ### versalref6_Big: function 26 -/
def versalref6_Big.l0 : Nat → Int → List Int → Int → Option (List Int)
  | 0, _, _, _ => none
  | k + 1, x0, x5, x6 => if x6 ≥ 0 then (if 0 ≤ (IntKind.u64.wrap (wrap64 (8 * x6))) then (if x5.length < 140737488355328 then (versalref6_Big.l0 k x0 (x5 ++ [(shr .i64 x0 (IntKind.u64.wrap (wrap64 (8 * x6)))) % 256]) (wrap64 (x6 - 1))) else (none)) else (none)) else (some x5)
def versalref6_Big.f (k : Nat) (a0 : Int) (a1 : Int) : Option (List Int) := versalref6_Big.l0 k a0 ([] : List Int) (wrap64 (a1 - 1))
theorem versalref6_Big.mono_l : ∀ k, (∀ y0 y1 y2, LeO (versalref6_Big.l0 k y0 y1 y2) (versalref6_Big.l0 (k + 1) y0 y1 y2))
  | 0 => fun _ _ _ r h => by simp [versalref6_Big.l0] at h
  | k + 1 => by
    have ih0 := versalref6_Big.mono_l k
    · intro y0 y1 y2
      unfold versalref6_Big.l0
      repeat' first
      | (with_reducible exact ih0 _ _ _)
      | (with_reducible exact LeO.refl _)
      | (with_reducible exact LeO.none _)
      | (with_reducible refine LeO.ite ?_ ?_)
      | (with_reducible refine LeO.bind ?_ (fun _ => ?_))
      | exact ih0 _ _ _
      | exact LeO.none _
      | refine LeO.ite ?_ ?_
      | refine LeO.bind ?_ (fun _ => ?_)
theorem versalref6_Big.mono : ∀ a0 a1 k, LeO (versalref6_Big.f k a0 a1) (versalref6_Big.f (k + 1) a0 a1) := by
  intro a0 a1 k
  have ih0 := versalref6_Big.mono_l k
  unfold versalref6_Big.f
  repeat' first
      | (with_reducible exact ih0 _ _ _)
      | (with_reducible exact LeO.refl _)
      | (with_reducible exact LeO.none _)
      | (with_reducible refine LeO.ite ?_ ?_)
      | (with_reducible refine LeO.bind ?_ (fun _ => ?_))
      | exact ih0 _ _ _
      | exact LeO.none _
      | refine LeO.ite ?_ ?_
      | refine LeO.bind ?_ (fun _ => ?_)
set_option maxHeartbeats 8000000 in
set_option maxRecDepth 100000 in
theorem versalref6_Big.calls (k : Nat) (a0 : Int) (a1 : Int) (r : List Int) (w : World) (h : versalref6_Big.f k a0 a1 = some r) :
    Calls Try.prog 26 #[.int .i64 a0, .int .i64 a1] w fun e w' => ∃ v0_ : Value, e = .returned (v0_) ∧ Kd.R (Kd.int .u8) 5 w' w.heap.size (fun _ => True) v0_ r ∧ Below w.heap.size w w' := by
  have HB := Aside0.mk (Below.refl w.heap.size w)
  have H : (versalref6_Big.l0 k a0 ([] : List Int) (wrap64 (a1 - 1))) = some r := h
  clear h
  have H' := Aside0.mk H
  clear H
  go_enter Try.func26, Try.ntmps26
  go_wp2
  go_loopg [5, 6] k (fun kq v5 v6 w' => ∃ (x5_1 : List Int) (x6_1 : Int), v6 = .int .i64 x6_1 ∧ Aside0 (versalref6_Big.l0 kq a0 x5_1 x6_1 = some r) ∧ Aside0 (kq ≤ k) ∧ Aside0 (Kd.R (Kd.int .u8) 5 w' w.heap.size (fun _ => True) v5 x5_1) ∧ Aside0 (Below w.heap.size w w'))
  case atStart => exact ⟨(([] : List Int)), (wrap64 (a1 - 1)), (by first | rfl | (simp; done) | (simp [*]; done)), H', ⟨Nat.le_refl _⟩, ⟨by first | exact Kd.R_nil _ _ _ _ _ | exact Kd.N_nil _ _ _ _ _ | exact Kd.V_nil _ _ _ _ _ | exact Kd.Q_nil _ _ _ _ _ | exact Kd.S_nil _ _ _ _ _⟩, ⟨by repeat (first | (with_reducible first | exact HB.out | apply below_alloc | apply pw_below_drewN | apply below_drew1) | exact HB.out)⟩⟩
  case round =>
    clear H'
    try clear c2
    try clear p2
    obtain ⟨x5_1, x6_1, rfl, HA, HK1, HO_5, HB⟩ := hrel
    cases gk with
    | zero => exact absurd HA.out (by simp [versalref6_Big.l0])
    | succ k1 =>
      have H := HA.out
      clear HA
      simp only [versalref6_Big.l0] at H
      by_cases c3 : x6_1 ≥ 0
      · rw [if_pos c3] at H
        have c3b0 : decide (0 ≤ x6_1) = true := decide_eq_true c3
        clear c3
        obtain ⟨ji4, hji4⟩ : ∃ j_ : Int, (IntKind.u64.wrap (wrap64 (8 * x6_1))) = j_ := ⟨_, rfl⟩
        replace H : (if 0 ≤ (ji4) then (if x5_1.length < 140737488355328 then (versalref6_Big.l0 k1 a0 (x5_1 ++ [(shr .i64 a0 (ji4)) % 256]) (wrap64 (x6_1 - 1))) else (none)) else (none)) = some r := by first | (rw [hji4] at H; exact H) | (simp only [hji4] at H ⊢; exact H)
        by_cases c5 : 0 ≤ (ji4)
        · rw [if_pos c5] at H
          have c5b0 := eq_true c5
          have c5b1 : decide (0 ≤ (ji4)) = true := decide_eq_true c5
          clear c5
          obtain ⟨ji6, hji6⟩ : ∃ j_ : Int, (shr .i64 a0 (ji4)) = j_ := ⟨_, rfl⟩
          replace H : (if x5_1.length < 140737488355328 then (versalref6_Big.l0 k1 a0 (x5_1 ++ [(ji6) % 256]) (wrap64 (x6_1 - 1))) else (none)) = some r := by first | (rw [hji6] at H; exact H) | (simp only [hji6] at H ⊢; exact H)
          have hji6_ : (a0 / 2 ^ min (ji4).toNat 64) = ji6 := hji6
          have hji6z : (ji4) ≤ 64 → (a0 / 2 ^ (ji4).toNat) = ji6 := shr_small hji6
          by_cases c7 : x5_1.length < 140737488355328
          · rw [if_pos c7] at H
            have LMc7 := Aside0.mk c7
            clear c7
            obtain ⟨y213, hy213⟩ : ∃ y_ : List Int, y_ = (x5_1 ++ [(ji6) % 256]) := ⟨_, rfl⟩
            replace H : (versalref6_Big.l0 k1 a0 y213 (wrap64 (x6_1 - 1))) = some r := by first | (rw [hy213]; with_reducible exact H) | (have H2_ := (Option.bind_some _ _).symm.trans H; rw [hy213]; with_reducible exact H2_) | (have H2_ := (Option.bind_some _ _).symm.trans H; with_reducible exact H2_) | with_reducible exact H | (rw [hy213]; exact H) | exact H
            have Ny213 := Aside0.mk hy213
            clear hy213
            have H' := Aside0.mk H
            clear H
            go_wp2_with (first | ((with_reducible refine gate_builtin (b := .append) (xs := #[.tmp 13, .tmp 20]) rfl ?_); at_builtin; refine Kd.R_append (Kd.int .u8) (w0 := w) w.heap.size rfl (.tmp 13) (.tmp 20) 24 5 (.int .u8 0) 1 rfl Try.underlying24 info5 rfl (by decide) (by omega) u5 x5_1 ((ji6) % 256) [.int .u8 ((ji6) % 256)] (fun _ => True) (fun _ => False) rfl rfl ?aP (fun _ hk => hk.elim) ?aF ?aO ?aB ?aS ?aL ?_; (case aP => exact rfl); (case aB => exact (by repeat (first | (with_reducible first | exact HB.out | apply below_alloc | apply pw_below_drewN | apply below_drew1) | exact HB.out))); (case aF => exact (fun _ _ => trivial)); (case aO => exact (by (with_reducible repeat (first | apply Kd.R_alloc | apply Kd.R_drewN | apply Kd.R_drew)); exact HO_5.out)); (case aS => exact (below_size (by repeat (first | (with_reducible first | exact HB.out | apply below_alloc | apply pw_below_drewN | apply below_drew1) | exact HB.out)))); (case aL => have := LMc7.out; omega); intro v214 w8 ho hb hg hat; rw [← Ny213.out] at ho; have n0_ := Aside0.mk (hb); have n1_ := Aside0.mk (ho); clear HB; clear HO_5; have HB := n0_; have HO215 := n1_; clear n0_ n1_; clear ho hb hg hat))
            go_roundg k1
            case measure => have := HK1.out; omega
            case rel => exact ⟨(y213), (wrap64 (x6_1 - 1)), (by first | rfl | (simp; done) | (simp [*]; done)), H', ⟨by have := HK1.out; omega⟩, ⟨by (with_reducible repeat (first | apply Kd.R_alloc | apply Kd.R_drewN | apply Kd.R_drew)); exact HO215.out⟩, ⟨by repeat (first | (with_reducible first | exact HB.out | apply below_alloc | apply pw_below_drewN | apply below_drew1) | exact HB.out)⟩⟩
          · rw [if_neg c7] at H
            exact absurd H (by simp)
        · rw [if_neg c5] at H
          exact absurd H (by simp)
      · rw [if_neg c3] at H
        have c3b0 : decide (0 ≤ x6_1) = false := decide_eq_false c3
        clear c3
        obtain rfl := Option.some.inj H
        go_wp2
        go_ret
        exact ⟨_, by first | rfl | (simp [errW_none, errW_some] <;> rfl) | (simp [*, errW_none, errW_some] <;> rfl), by (with_reducible repeat (first | apply Kd.R_alloc | apply Kd.R_drewN | apply Kd.R_drew)); exact HO_5.out, by repeat (first | (with_reducible first | exact HB.out | apply below_alloc | apply pw_below_drewN | apply below_drew1) | exact HB.out)⟩

end Go.Proofs.Ytenlimmgbgcgpaa.PAn
