-- WRITTEN BY A PROGRAM OF THIS SESSION (wip/xprint) out of the translation. Not trusted: Lean checks it.
import Derived.Test.YtjmflccbddjlhaaPFmx0
import Derived.Test.YtjmflccbddjlhaaPFmx2
import Derived.Test.YtjmflccbddjlhaaPFmx4
namespace Go.Proofs.Ytjmflccbddjlhaa.PFm
open Go.RowKit Go.Proofs.YtjmflccbddjlhaaW.PrintWords Go.Proofs.YtjmflccbddjlhaaW.PrintLast Go.Proofs.YtjmflccbddjlhaaW.PrintMore
attribute [local go_sem] max2_int min2_int max_two min_two max_three min_three max_four min_four   -- for this text's walks alone
set_option linter.unusedVariables false
set_option linter.unusedSimpArgs false

/-! ### flat_begun: function 31 -/
def flat_begun.f (k : Nat) (l0 : List (S78)) : Option ((List (S78))) := (flat_place_49.f l0).bind fun t169 => (if t169 < 0 then (if 0 ≤ (wrap64 ((l0.length : Int) - 1)) then (if (wrap64 ((l0.length : Int) - 1)) < (l0.length : Int) then (if 0 < (l0.length : Int) then ((flat_between.f ((rd_T78 l0 (wrap64 ((l0.length : Int) - 1))).f0) ((rd_T78 l0 (wrap64 ((l0.length : Int) - 1))).f1) ((rd_T78 l0 (wrap64 ((l0.length : Int) - 1))).f2) ((rd_T78 l0 0).f0) ((rd_T78 l0 0).f1) ((rd_T78 l0 0).f2)).bind fun bt172 => ((flat_place_51.f k (([(([(⟨bt172.1, bt172.2.1, bt172.2.2⟩ : S78)] : List (S78))), l0, (([(⟨bt172.1, bt172.2.1, bt172.2.2⟩ : S78)] : List (S78)))] : List (List (S78))))).bind fun t185 => (some t185))) else (none)) else (none)) else (none)) else (if 0 ≤ t169 then (if t169 ≤ (l0.length : Int) then (if 0 ≤ (wrap64 (t169 + 1)) then (if (wrap64 (t169 + 1)) ≤ (l0.length : Int) then ((flat_place_51.f k (([(l0.drop (t169 : Int).toNat), (l0.take ((wrap64 (t169 + 1)) : Int).toNat)] : List (List (S78))))).bind fun t201 => (some t201)) else (none)) else (none)) else (none)) else (none)))
theorem flat_begun.mono : ∀ a0 k, LeO (flat_begun.f k a0) (flat_begun.f (k + 1) a0) := by
 intro a0 k
 unfold flat_begun.f
 repeat' first
   | (with_reducible exact flat_place_51.mono _ _)
   | (with_reducible exact LeO.refl _)
   | (with_reducible exact LeO.none _)
   | (with_reducible refine LeO.ite ?_ ?_)
   | (with_reducible refine LeO.bind ?_ (fun _ => ?_))
   | exact flat_place_51.mono _ _
   | exact LeO.none _
   | refine LeO.ite ?_ ?_
   | refine LeO.bind ?_ (fun _ => ?_)
def flat_begun.T3 : Bool × List (List Nat × List Nat) := (true, [([], []), ([], []), ([1], [1]), ([2], [2]), ([0, 3], [0, 3]), ([4], [4]), ([], []), ([6], [6]), ([7], [7]), ([5, 8], [5, 8]), ([], []), ([10, 9, 9, 0, 1, 2, 3, 4, 5, 6, 7, 8, 9, 10], [9, 10])])
def flat_begun.B3 : List Nat := [0, 0, 2, 6, 15, 31, 0, 64, 192, 511, 0, 2047]
theorem flat_begun.tab3 : rtab .any (opsOf Try.f31 3) = flat_begun.T3 := by kernel_rfl
theorem flat_begun.bits3 : waitsOk flat_begun.T3.2 flat_begun.B3 = true := by kernel_rfl
def flat_begun.T5 : Bool × List (List Nat × List Nat) := (true, [([], []), ([], []), ([0, 1], [0, 1]), ([], []), ([], []), ([4], [4]), ([3, 5], [3, 5]), ([2, 6], [2, 6]), ([7], [7]), ([8, 8, 0, 1, 2, 3, 4, 5, 6, 7, 8], [8])])
def flat_begun.B5 : List Nat := [0, 0, 3, 0, 0, 16, 56, 127, 255, 511]
theorem flat_begun.tab5 : rtab .any (opsOf Try.f31 5) = flat_begun.T5 := by kernel_rfl
theorem flat_begun.bits5 : waitsOk flat_begun.T5.2 flat_begun.B5 = true := by kernel_rfl
set_option maxHeartbeats 8000000 in
set_option maxRecDepth 100000 in
theorem flat_begun.calls (k : Nat) (P0_ : Nat → Prop) (A0 : Option Addr) (c0 : Nat) (l0 : List (S78)) (r : List (S78)) (w : World) (hs0 : Kd.V k78 78 w w.heap.size (fun k_ => P0_ k_) (.slice A0 l0.length c0) l0) (h : flat_begun.f k l0 = some r) :
  Calls Try.prog 31 #[.slice A0 l0.length c0] w fun e w' => ∃ v0_ : Value, e = .returned (v0_) ∧ Kd.R k78 78 w' w.heap.size (fun k_ => (w.heap.size ≤ k_)) v0_ r ∧ Below w.heap.size w w' := by
 have hu78 := Try.underlying78
 have HO0 := amk (show Kd.V k78 78 w w.heap.size (fun k_ => (P0_ k_ ∨ w.heap.size ≤ k_)) (.slice A0 l0.length c0) l0 from Kd.V_mono hs0 (fun k_ hk => .inl hk))
 have HB := amk (Below.refl w.heap.size w)
 have H : ((flat_place_49.f l0).bind fun t169 => (if t169 < 0 then (if 0 ≤ (wrap64 ((l0.length : Int) - 1)) then (if (wrap64 ((l0.length : Int) - 1)) < (l0.length : Int) then (if 0 < (l0.length : Int) then ((flat_between.f ((rd_T78 l0 (wrap64 ((l0.length : Int) - 1))).f0) ((rd_T78 l0 (wrap64 ((l0.length : Int) - 1))).f1) ((rd_T78 l0 (wrap64 ((l0.length : Int) - 1))).f2) ((rd_T78 l0 0).f0) ((rd_T78 l0 0).f1) ((rd_T78 l0 0).f2)).bind fun bt172 => ((flat_place_51.f k (([(([(⟨bt172.1, bt172.2.1, bt172.2.2⟩ : S78)] : List (S78))), l0, (([(⟨bt172.1, bt172.2.1, bt172.2.2⟩ : S78)] : List (S78)))] : List (List (S78))))).bind fun t185 => (some t185))) else (none)) else (none)) else (none)) else (if 0 ≤ t169 then (if t169 ≤ (l0.length : Int) then (if 0 ≤ (wrap64 (t169 + 1)) then (if (wrap64 (t169 + 1)) ≤ (l0.length : Int) then ((flat_place_51.f k (([(l0.drop (t169 : Int).toNat), (l0.take ((wrap64 (t169 + 1)) : Int).toNat)] : List (List (S78))))).bind fun t201 => (some t201)) else (none)) else (none)) else (none)) else (none)))) = some r := h
 clear h
 replace H := Option.bind_eq_some_iff.mp H
 obtain ⟨t169, A20, H⟩ := H
 replace H : (if t169 < 0 then (if 0 ≤ (wrap64 ((l0.length : Int) - 1)) then (if (wrap64 ((l0.length : Int) - 1)) < (l0.length : Int) then (if 0 < (l0.length : Int) then ((flat_between.f ((rd_T78 l0 (wrap64 ((l0.length : Int) - 1))).f0) ((rd_T78 l0 (wrap64 ((l0.length : Int) - 1))).f1) ((rd_T78 l0 (wrap64 ((l0.length : Int) - 1))).f2) ((rd_T78 l0 0).f0) ((rd_T78 l0 0).f1) ((rd_T78 l0 0).f2)).bind fun bt172 => ((flat_place_51.f k (([(([(⟨bt172.1, bt172.2.1, bt172.2.2⟩ : S78)] : List (S78))), l0, (([(⟨bt172.1, bt172.2.1, bt172.2.2⟩ : S78)] : List (S78)))] : List (List (S78))))).bind fun t185 => (some t185))) else (none)) else (none)) else (none)) else (if 0 ≤ t169 then (if t169 ≤ (l0.length : Int) then (if 0 ≤ (wrap64 (t169 + 1)) then (if (wrap64 (t169 + 1)) ≤ (l0.length : Int) then ((flat_place_51.f k (([(l0.drop (t169 : Int).toNat), (l0.take ((wrap64 (t169 + 1)) : Int).toNat)] : List (List (S78))))).bind fun t201 => (some t201)) else (none)) else (none)) else (none)) else (none))) = some r := H
 have A2 := amk A20
 clear A20
 by_cases c3 : t169 < 0
 ·rw [if_pos c3] at H
  have c3b0 : decide (t169 < 0) = true := decide_eq_true c3
  clear c3
  obtain ⟨ji4, hji4⟩ : ∃ j_ : Int, (wrap64 ((l0.length : Int) - 1)) = j_ := ⟨_, rfl⟩
  replace H : (if 0 ≤ (ji4) then (if (ji4) < (l0.length : Int) then (if 0 < (l0.length : Int) then ((flat_between.f ((rd_T78 l0 (ji4)).f0) ((rd_T78 l0 (ji4)).f1) ((rd_T78 l0 (ji4)).f2) ((rd_T78 l0 0).f0) ((rd_T78 l0 0).f1) ((rd_T78 l0 0).f2)).bind fun bt172 => ((flat_place_51.f k (([(([(⟨bt172.1, bt172.2.1, bt172.2.2⟩ : S78)] : List (S78))), l0, (([(⟨bt172.1, bt172.2.1, bt172.2.2⟩ : S78)] : List (S78)))] : List (List (S78))))).bind fun t185 => (some t185))) else (none)) else (none)) else (none)) = some r := by first | (rw [hji4] at H; exact H) | (simp only [hji4] at H ⊢; exact H)
  (try rw [hji4] at A2)
  have hji4w : (IntKind.i64.wrap ((l0.length : Int) - 1)) = ji4 := (i64_w _).trans hji4
  by_cases c5 : 0 ≤ (ji4)
  ·rw [if_pos c5] at H
   have c5b0 : decide (0 ≤ (ji4)) = true := decide_eq_true c5
   clear c5
   by_cases c6 : (ji4) < (l0.length : Int)
   ·rw [if_pos c6] at H
    have c6b0 : decide ((ji4) < (l0.length : Int)) = true := decide_eq_true c6
    clear c6
    by_cases c7 : 0 < (l0.length : Int)
    ·rw [if_pos c7] at H
     have c7b0 : decide (0 < (l0.length : Int)) = true := decide_eq_true c7
     have c7b1 : decide (0 < l0.length) = true := decide_eq_true (by omega)
     clear c7
     replace H := Option.bind_eq_some_iff.mp H
     obtain ⟨⟨t172, t173, t174⟩, A80, H⟩ := H
     replace H : ((flat_place_51.f k (([(([(⟨t172, t173, t174⟩ : S78)] : List (S78))), l0, (([(⟨t172, t173, t174⟩ : S78)] : List (S78)))] : List (List (S78))))).bind fun t185 => (some t185)) = some r := H
     have A8 := amk A80
     clear A80
     obtain ⟨y176, hy176⟩ : ∃ y_ : List (S78), y_ = (([(⟨t172, t173, t174⟩ : S78)] : List (S78))) := ⟨_, rfl⟩
     replace H : ((flat_place_51.f k (([y176, l0, (([(⟨t172, t173, t174⟩ : S78)] : List (S78)))] : List (List (S78))))).bind fun t185 => (some t185)) = some r := by first | (rw [hy176]; with_reducible exact H) | (have H2_ := (Option.bind_some _ _).symm.trans H; rw [hy176]; with_reducible exact H2_) | (have H2_ := (Option.bind_some _ _).symm.trans H; with_reducible exact H2_) | with_reducible exact H | (rw [hy176]; exact H) | exact H
     have Ny176 := amk hy176
     clear hy176
     obtain ⟨y179, hy179⟩ : ∃ y_ : List (S78), y_ = (([(⟨t172, t173, t174⟩ : S78)] : List (S78))) := ⟨_, rfl⟩
     replace H : ((flat_place_51.f k (([y176, l0, y179] : List (List (S78))))).bind fun t185 => (some t185)) = some r := by first | (rw [hy179]; with_reducible exact H) | (have H2_ := (Option.bind_some _ _).symm.trans H; rw [hy179]; with_reducible exact H2_) | (have H2_ := (Option.bind_some _ _).symm.trans H; with_reducible exact H2_) | with_reducible exact H | (rw [hy179]; exact H) | exact H
     have Ny179 := amk hy179
     clear hy179
     obtain ⟨y182, hy182⟩ : ∃ y_ : List (List (S78)), y_ = (([y176, l0, y179] : List (List (S78)))) := ⟨_, rfl⟩
     replace H : ((flat_place_51.f k y182).bind fun t185 => (some t185)) = some r := by first | (rw [hy182]; with_reducible exact H) | (have H2_ := (Option.bind_some _ _).symm.trans H; rw [hy182]; with_reducible exact H2_) | (have H2_ := (Option.bind_some _ _).symm.trans H; with_reducible exact H2_) | with_reducible exact H | (rw [hy182]; exact H) | exact H
     have Ny182 := amk hy182
     clear hy182
     replace H := Option.bind_eq_some_iff.mp H
     obtain ⟨t185, A90, H⟩ := H
     replace H : (some t185) = some r := H
     have A9 := amk A90
     clear A90
     obtain rfl := Option.some.inj H
     go_enter Try.func31, Try.ntmps31
     try go_wp2_with (first | ((with_reducible refine gate_callee (f := 49) rfl ?_); refine goesL_ (some 6) rfl rfl Try.func49 (by kernel_rfl) rfl #[.slice A0 l0.length c0, .func (.func 50) #[] #[]] rfl (by (try simp only [List.map_toArray, List.map_cons, List.map_nil]); first | done | rfl | (simp only [List.length_drop, List.length_take]; rfl)) ?_; (with_reducible refine (flat_place_49.calls _ _ l0  t169 _ ?side1 ?side2 A2.out).mono ?_); (case side1 => repeat (first | exact (Kd.V_reads' HO0.out).2.2 | (with_reducible refine Kd.C_alloc ?_ _) | (with_reducible refine Kd.C_drewN ?_ _) | (with_reducible refine Kd.C_drew ?_))); (case side2 => exact (Kd.V_reads' HO0.out).2.1); rintro e w10 ⟨rfl, hb⟩; refine ⟨_, rfl, ?_⟩; have n0_ := amk (Kd.V_below (by (with_reducible repeat (first | apply Kd.V_alloc | apply Kd.V_drewN | apply Kd.V_drew)); exact HO0.out) hb); have n1_ := amk (below_step (by repeat (first | (with_reducible first | exact HB.out | apply bAl | apply bDN | apply bD1) | exact HB.out)) hb); clear HO0; clear HB; have HO0 := n0_; have HB := n1_; clear n0_ n1_; (try clear hb); (try clear hb2); (try clear hk); (try clear hi)))
     have n0_ := amk (Kd.V_drew HO0.out)
     have n1_ := amk (bD1 HB.out)
     clear HO0
     clear HB
     have HO0 := n0_
     have HB := n1_
     clear n0_ n1_
     have p170 : 0 ≤ ((ji4) : Int) := of_decide_eq_true (by first | (with_reducible assumption) | assumption)
     have q170 : (ji4) < (l0.length : Int) := of_decide_eq_true (by first | (with_reducible assumption) | assumption)
     obtain ⟨ad170, e170, hx170_0, hx170_1, hx170_2⟩ := at_T78 (Kd.V_reads' HO0.out).2.2 (ji4) p170 q170
     cases e170
     replace p170 := eq_true p170
     replace q170 := eq_true q170
     have p171 : 0 ≤ (0 : Int) := (by omega)
     have q171 : 0 < (l0.length : Int) := of_decide_eq_true (by first | (with_reducible assumption) | assumption)
     obtain ⟨ad171, e171, hx171_0, hx171_1, hx171_2⟩ := at_T78 (Kd.V_reads' HO0.out).2.2 0 p171 q171
     obtain rfl : ad170 = ad171 := (by injection e171)
     have qi171 : (0 < l0.length) = True := eq_true (by omega)
     (try rw [show ((0 : Int)).toNat = 0 from rfl] at hx171_0)
     (try rw [show 0 * 3 = 0 from rfl] at hx171_0)
     (try rw [Addr.add_zero'] at hx171_0)
     (try rw [show ((0 : Int)).toNat = 0 from rfl] at hx171_1)
     (try rw [show 0 * 3 = 0 from rfl] at hx171_1)
     (try rw [Addr.add_zero'] at hx171_1)
     (try rw [show ((0 : Int)).toNat = 0 from rfl] at hx171_2)
     (try rw [show 0 * 3 = 0 from rfl] at hx171_2)
     (try rw [Addr.add_zero'] at hx171_2)
     replace p171 := eq_true p171
     replace q171 := eq_true q171
     refine start_ (n := 12) (S := fun w' => w'.cell? (ad170.add (((ji4)).toNat * 3)) = some (.int .i64 ((rd_T78 l0 (ji4)).f0)) ∧ w'.cell? ⟨(ad170.add (((ji4)).toNat * 3)).block, (ad170.add (((ji4)).toNat * 3)).off + 1, none⟩ = some (.int .i64 ((rd_T78 l0 (ji4)).f1)) ∧ w'.cell? ⟨(ad170.add (((ji4)).toNat * 3)).block, (ad170.add (((ji4)).toNat * 3)).off + 2, none⟩ = some (.bool ((rd_T78 l0 (ji4)).f2)) ∧ w'.cell? ad170 = some (.int .i64 ((rd_T78 l0 0).f0)) ∧ w'.cell? ⟨ad170.block, ad170.off + 1, none⟩ = some (.int .i64 ((rd_T78 l0 0).f1)) ∧ w'.cell? ⟨ad170.block, ad170.off + 2, none⟩ = some (.bool ((rd_T78 l0 0).f2))) (ds := []) #[false, false, false, false, false, false, false, false, false, false, false, false] (by kernel_rfl) rfl rfl ⟨hx170_0, hx170_1, hx170_2, hx171_0, hx171_1, hx171_2⟩ (fun hHeld => ?_); refine with_tabW flat_begun.tab3 flat_begun.bits3 (fun HT_ HW_ => ?_)
     generalize w10.drew = w11 at HO0 HB hx170_0 hx170_1 hx170_2 hx171_0 hx171_1 hx171_2 hHeld ⊢
     refine pure_ (i := 0) (N := some 9) (v := ?_) (a' := ?_) #[true, false, false, false, false, false, false, false, false, false, false, false] rfl rfl (any_of HT_.out (by kernel_rfl)) (fun _ _ _ h => h) (Or.inl ⟨by rfl, ?_⟩) ?_ ?_
     rotate_left
     ·intro w'
      go_simp
      with_reducible rfl
     rotate_left
     ·simp only [Act.put, sTA, sCZ, sCS, i64_w, i32_w]
      rfl
     refine pure_ (i := 1) (N := some 10) (v := ?_) (a' := ?_) #[true, true, false, false, false, false, false, false, false, false, false, false] rfl rfl (any_of HT_.out (by kernel_rfl)) (fun _ _ _ h => h) (Or.inl ⟨by rfl, ?_⟩) ?_ ?_
     rotate_left
     ·intro w'
      go_simp
      with_reducible rfl
     rotate_left
     ·simp only [Act.put, sTA, sCZ, sCS, i64_w, i32_w]
      rfl
     refine pure_ (i := 2) (N := some 11) (v := ?_) (a' := ?_) #[true, true, true, false, false, false, false, false, false, false, false, false] rfl rfl (any_of HT_.out (by kernel_rfl)) (fun _ _ _ h => h) (Or.inl ⟨by rfl, ?_⟩) ?_ ?_
     rotate_left
     ·intro w'
      go_simp
      with_reducible rfl
     rotate_left
     ·simp only [Act.put, sTA, sCZ, sCS, i64_w, i32_w]
      rfl
     refine pure_ (i := 3) (N := some 12) (v := ?_) (a' := ?_) #[true, true, true, true, false, false, false, false, false, false, false, false] rfl rfl (any_of HT_.out (by kernel_rfl)) (fun _ _ _ h => h) (Or.inl ⟨by rfl, ?_⟩) ?_ ?_
     rotate_left
     ·intro w'
      go_simp
      with_reducible rfl
     rotate_left
     ·simp only [Act.put, sTA, sCZ, sCS, i64_w, i32_w]
      rfl
     refine pure_ (i := 4) (N := some 13) (v := ?_) (a' := ?_) #[true, true, true, true, true, false, false, false, false, false, false, false] rfl rfl (any_of HT_.out (by kernel_rfl)) (fun _ _ _ h => h) (Or.inl ⟨by rfl, ?_⟩) ?_ ?_
     rotate_left
     ·intro w'
      go_simp
      with_reducible rfl
     rotate_left
     ·simp only [Act.put, sTA, sCZ, sCS, i64_w, i32_w]
      rfl
     refine pure_ (i := 6) (N := some 15) (v := ?_) (a' := ?_) #[true, true, true, true, true, false, true, false, false, false, false, false] rfl rfl (any_of HT_.out (by kernel_rfl)) (fun _ _ _ h => h) (Or.inl ⟨by rfl, ?_⟩) ?_ ?_
     rotate_left
     ·intro w'
      go_simp
      with_reducible rfl
     rotate_left
     ·simp only [Act.put, sTA, sCZ, sCS, i64_w, i32_w]
      rfl
     refine pure_ (i := 7) (N := some 16) (v := ?_) (a' := ?_) #[true, true, true, true, true, false, true, true, false, false, false, false] rfl rfl (any_of HT_.out (by kernel_rfl)) (fun _ _ _ h => h) (Or.inl ⟨by rfl, ?_⟩) ?_ ?_
     rotate_left
     ·intro w'
      go_simp
      with_reducible rfl
     rotate_left
     ·simp only [Act.put, sTA, sCZ, sCS, i64_w, i32_w]
      rfl
     refine take_ (i := 5) (N := some 14) (v := ?_) (a' := ?_) #[true, true, true, true, true, true, true, true, false, false, false, false] rfl rfl (take_ofW HT_.out HW_.out (by kernel_rfl)) (fun _ _ _ h => h) (Or.inl ⟨by rfl, ?_⟩) hHeld ?_ ?_
     rotate_left
     ·rintro w' ⟨s0, s1, s2, s3, s4, s5⟩
      go_simp
      with_reducible rfl
     rotate_left
     ·simp only [Act.put, sTA, sCZ, sCS, i64_w, i32_w]
      rfl
     refine take_ (i := 8) (N := some 17) (v := ?_) (a' := ?_) #[true, true, true, true, true, true, true, true, true, false, false, false] rfl rfl (take_ofW HT_.out HW_.out (by kernel_rfl)) (fun _ _ _ h => h) (Or.inl ⟨by rfl, ?_⟩) hHeld ?_ ?_
     rotate_left
     ·rintro w' ⟨s0, s1, s2, s3, s4, s5⟩
      go_simp
      with_reducible rfl
     rotate_left
     ·simp only [Act.put, sTA, sCZ, sCS, i64_w, i32_w]
      rfl
     refine join_ (σ := Nat) 1 #[true, true, true, true, true, true, true, true, true, true, true, false] (fun s_ => [(18, .agg #[.int .i64 t172, .int .i64 t173, .bool t174]), (4, .pointer (some ⟨s_, 0, none⟩))]) (fun s_ w' => (w'.cell? (ad170.add (((ji4)).toNat * 3)) = some (.int .i64 ((rd_T78 l0 (ji4)).f0)) ∧ w'.cell? ⟨(ad170.add (((ji4)).toNat * 3)).block, (ad170.add (((ji4)).toNat * 3)).off + 1, none⟩ = some (.int .i64 ((rd_T78 l0 (ji4)).f1)) ∧ w'.cell? ⟨(ad170.add (((ji4)).toNat * 3)).block, (ad170.add (((ji4)).toNat * 3)).off + 2, none⟩ = some (.bool ((rd_T78 l0 (ji4)).f2)) ∧ w'.cell? ad170 = some (.int .i64 ((rd_T78 l0 0).f0)) ∧ w'.cell? ⟨ad170.block, ad170.off + 1, none⟩ = some (.int .i64 ((rd_T78 l0 0).f1)) ∧ w'.cell? ⟨ad170.block, ad170.off + 2, none⟩ = some (.bool ((rd_T78 l0 0).f2))) ∧ (Kd.V k78 78 w' w.heap.size (fun k_ => (P0_ k_ ∨ w.heap.size ≤ k_) ∧ k_ ≠ s_) (.slice (some ad170) l0.length c0) l0) ∧ (w'.heap[s_]? = some (.cells #[.int .i64 0, .int .i64 0, .bool false] 78 (0, 0))) ∧ (w.heap.size ≤ s_) ∧ (w.heap.size ≤ s_) ∧ (Below w.heap.size w w')) ?_ ?_
     rotate_left
     ·intro hCont
      refine two_ (i := 9) (j := 10) (Ni := some 18) (Nj := some 4) #[true, true, true, true, true, true, true, true, true, true, false, false] #[true, true, true, true, true, true, true, true, true, false, true, false] rfl rfl rfl rfl (two_of HT_.out (by kernel_rfl)) (by decide) (by decide) (fun K hK => ?_) (fun K hK => ?_)
      ·skip
       refine goes_ Try.func47 (by kernel_rfl) rfl #[.agg #[.int .i64 ((rd_T78 l0 (ji4)).f0), .int .i64 ((rd_T78 l0 (ji4)).f1), .bool ((rd_T78 l0 (ji4)).f2)], .agg #[.int .i64 ((rd_T78 l0 0).f0), .int .i64 ((rd_T78 l0 0).f1), .bool ((rd_T78 l0 0).f2)]] (by rfl) rfl rfl (by (try simp only [List.map_toArray, List.map_cons, List.map_nil]); first | done | (simp only [hji4]; rfl) | rfl | (simp only [List.length_drop, List.length_take]; rfl)) ?_
       with_reducible refine (flat_between.calls ((rd_T78 l0 (ji4)).f0) ((rd_T78 l0 (ji4)).f1) ((rd_T78 l0 (ji4)).f2) ((rd_T78 l0 0).f0) ((rd_T78 l0 0).f1) ((rd_T78 l0 0).f2) t172 t173 t174 _ A8.out).mono ?_
       rintro e w12 ⟨rfl, hb⟩
       have HS0_ := (hb.cell (cLt _ _ (hHeld.1))).trans (hHeld.1)
       have HS1_ := (hb.cell (cLt _ _ (hHeld.2.1))).trans (hHeld.2.1)
       have HS2_ := (hb.cell (cLt _ _ (hHeld.2.2.1))).trans (hHeld.2.2.1)
       have HS3_ := (hb.cell (cLt _ _ (hHeld.2.2.2.1))).trans (hHeld.2.2.2.1)
       have HS4_ := (hb.cell (cLt _ _ (hHeld.2.2.2.2.1))).trans (hHeld.2.2.2.2.1)
       have HS5_ := (hb.cell (cLt _ _ (hHeld.2.2.2.2.2))).trans (hHeld.2.2.2.2.2)
       refine ⟨_, rfl, ?_⟩
       have n0_ := amk (Kd.V_below (by (with_reducible repeat (first | apply Kd.V_alloc | apply Kd.V_drewN | apply Kd.V_drew)); exact HO0.out) hb)
       have n1_ := amk (below_step (by repeat (first | (with_reducible first | exact HB.out | apply bAl | apply bDN | apply bD1) | exact HB.out)) hb)
       clear HO0
       clear HB
       have HO0 := n0_
       have HB := n1_
       clear n0_ n1_
       (try clear hb)
       (try clear hb2)
       (try clear hk)
       (try clear hi)
       refine hK.out _ _ ⟨HS0_, HS1_, HS2_, HS3_, HS4_, HS5_⟩ (fun hHeld => ?_)
       clear hK K
       refine norm_ (a' := ?_) ?_ ?_
       rotate_left
       ·show Act.put _ (some 18) _ = _
        simp only [Act.put, sTA, sCZ, sCS, i64_w, i32_w]
        rfl
       refine one_ (i := 10) (N := some 4) #[true, true, true, true, true, true, true, true, true, true, true, false] rfl rfl (one_of HT_.out (by kernel_rfl)) (by decide) (fun K hK => ?_)
       refine box_step ?hg (N := 4) ?hd (cs := #[.int .i64 0, .int .i64 0, .bool false]) (t := 78) ?hr ?_; (case hd => rfl); (case hg => rfl); (case hr => first | (go_simp; done) | (go_simp; rfl))
       intro gb175 hg w13 hbox hb
       have HS0_ := (hb.cell (cLt _ _ (hHeld.1))).trans (hHeld.1)
       have HS1_ := (hb.cell (cLt _ _ (hHeld.2.1))).trans (hHeld.2.1)
       have HS2_ := (hb.cell (cLt _ _ (hHeld.2.2.1))).trans (hHeld.2.2.1)
       have HS3_ := (hb.cell (cLt _ _ (hHeld.2.2.2.1))).trans (hHeld.2.2.2.1)
       have HS4_ := (hb.cell (cLt _ _ (hHeld.2.2.2.2.1))).trans (hHeld.2.2.2.2.1)
       have HS5_ := (hb.cell (cLt _ _ (hHeld.2.2.2.2.2))).trans (hHeld.2.2.2.2.2)
       have n0_ := amk (Kd.V_below (Kd.V_elderB (by (with_reducible repeat (first | apply Kd.V_alloc | apply Kd.V_drewN | apply Kd.V_drew)); exact HO0.out) gb175 (Nat.le_of_eq hg.symm)) hb)
       have n1_ := amk (below_step (by repeat (first | (with_reducible first | exact HB.out | apply bAl | apply bDN | apply bD1) | exact HB.out)) hb)
       have n2_ := amk (hbox)
       have n3_ := amk ((by rw [hg]; exact (below_size (by repeat (first | (with_reducible first | exact HB.out | apply bAl | apply bDN | apply bD1) | exact HB.out))) : w.heap.size ≤ gb175))
       have n4_ := amk ((by rw [hg]; exact (below_size (by repeat (first | (with_reducible first | exact HB.out | apply bAl | apply bDN | apply bD1) | exact HB.out))) : w.heap.size ≤ gb175))
       clear HO0
       clear HB
       have HO0 := n0_
       have HB := n1_
       have BK175 := n2_
       have GW175 := n3_
       have GE175 := n4_
       clear n0_ n1_ n2_ n3_ n4_
       clear hb hbox hg
       refine hK.out _ _ ⟨HS0_, HS1_, HS2_, HS3_, HS4_, HS5_⟩ (fun hHeld => ?_)
       clear hK K
       refine norm_ (a' := ?_) ?_ ?_
       rotate_left
       ·show Act.put _ (some 4) _ = _
        simp only [Act.put, sTA, sCZ, sCS, i64_w, i32_w]
        rfl
       exact norm_ (by simp only [putAll, Act.put, sTA, sCZ, sCS]) (hCont (gb175) _ ⟨hHeld, (by (with_reducible repeat (first | apply Kd.V_alloc | apply Kd.V_drewN | apply Kd.V_drew)); exact HO0.out), (by (with_reducible repeat first | apply kN | apply kD | apply kA); exact BK175.out), GW175.out, GE175.out, (by repeat (first | (with_reducible first | exact HB.out | apply bAl | apply bDN | apply bD1 | refine bSe ?_ GE175.out) | exact HB.out))⟩)
      ·skip
       refine box_step ?hg (N := 4) ?hd (cs := #[.int .i64 0, .int .i64 0, .bool false]) (t := 78) ?hr ?_; (case hd => rfl); (case hg => rfl); (case hr => first | (go_simp; done) | (go_simp; rfl))
       intro gb175 hg w12 hbox hb
       have HS0_ := (hb.cell (cLt _ _ (hHeld.1))).trans (hHeld.1)
       have HS1_ := (hb.cell (cLt _ _ (hHeld.2.1))).trans (hHeld.2.1)
       have HS2_ := (hb.cell (cLt _ _ (hHeld.2.2.1))).trans (hHeld.2.2.1)
       have HS3_ := (hb.cell (cLt _ _ (hHeld.2.2.2.1))).trans (hHeld.2.2.2.1)
       have HS4_ := (hb.cell (cLt _ _ (hHeld.2.2.2.2.1))).trans (hHeld.2.2.2.2.1)
       have HS5_ := (hb.cell (cLt _ _ (hHeld.2.2.2.2.2))).trans (hHeld.2.2.2.2.2)
       have n0_ := amk (Kd.V_below (Kd.V_elderB (by (with_reducible repeat (first | apply Kd.V_alloc | apply Kd.V_drewN | apply Kd.V_drew)); exact HO0.out) gb175 (Nat.le_of_eq hg.symm)) hb)
       have n1_ := amk (below_step (by repeat (first | (with_reducible first | exact HB.out | apply bAl | apply bDN | apply bD1) | exact HB.out)) hb)
       have n2_ := amk (hbox)
       have n3_ := amk ((by rw [hg]; exact (below_size (by repeat (first | (with_reducible first | exact HB.out | apply bAl | apply bDN | apply bD1) | exact HB.out))) : w.heap.size ≤ gb175))
       have n4_ := amk ((by rw [hg]; exact (below_size (by repeat (first | (with_reducible first | exact HB.out | apply bAl | apply bDN | apply bD1) | exact HB.out))) : w.heap.size ≤ gb175))
       clear HO0
       clear HB
       have HO0 := n0_
       have HB := n1_
       have BK175 := n2_
       have GW175 := n3_
       have GE175 := n4_
       clear n0_ n1_ n2_ n3_ n4_
       clear hb hbox hg
       refine hK.out _ _ ⟨HS0_, HS1_, HS2_, HS3_, HS4_, HS5_⟩ (fun hHeld => ?_)
       clear hK K
       refine norm_ (a' := ?_) ?_ ?_
       rotate_left
       ·show Act.put _ (some 4) _ = _
        simp only [Act.put, sTA, sCZ, sCS, i64_w, i32_w]
        rfl
       refine one_ (i := 9) (N := some 18) #[true, true, true, true, true, true, true, true, true, true, true, false] rfl rfl (one_of HT_.out (by kernel_rfl)) (by decide) (fun K hK => ?_)
       refine goes_ Try.func47 (by kernel_rfl) rfl #[.agg #[.int .i64 ((rd_T78 l0 (ji4)).f0), .int .i64 ((rd_T78 l0 (ji4)).f1), .bool ((rd_T78 l0 (ji4)).f2)], .agg #[.int .i64 ((rd_T78 l0 0).f0), .int .i64 ((rd_T78 l0 0).f1), .bool ((rd_T78 l0 0).f2)]] (by rfl) rfl rfl (by (try simp only [List.map_toArray, List.map_cons, List.map_nil]); first | done | (simp only [hji4]; rfl) | rfl | (simp only [List.length_drop, List.length_take]; rfl)) ?_
       with_reducible refine (flat_between.calls ((rd_T78 l0 (ji4)).f0) ((rd_T78 l0 (ji4)).f1) ((rd_T78 l0 (ji4)).f2) ((rd_T78 l0 0).f0) ((rd_T78 l0 0).f1) ((rd_T78 l0 0).f2) t172 t173 t174 _ A8.out).mono ?_
       rintro e w13 ⟨rfl, hb⟩
       have HS0_ := (hb.cell (cLt _ _ (hHeld.1))).trans (hHeld.1)
       have HS1_ := (hb.cell (cLt _ _ (hHeld.2.1))).trans (hHeld.2.1)
       have HS2_ := (hb.cell (cLt _ _ (hHeld.2.2.1))).trans (hHeld.2.2.1)
       have HS3_ := (hb.cell (cLt _ _ (hHeld.2.2.2.1))).trans (hHeld.2.2.2.1)
       have HS4_ := (hb.cell (cLt _ _ (hHeld.2.2.2.2.1))).trans (hHeld.2.2.2.2.1)
       have HS5_ := (hb.cell (cLt _ _ (hHeld.2.2.2.2.2))).trans (hHeld.2.2.2.2.2)
       refine ⟨_, rfl, ?_⟩
       have n0_ := amk (Kd.V_below (by (with_reducible repeat (first | apply Kd.V_alloc | apply Kd.V_drewN | apply Kd.V_drew)); exact HO0.out) hb)
       have n1_ := amk (blk_below (g := gb175) (o := .cells #[.int .i64 0, .int .i64 0, .bool false] 78 (0, 0)) (by (with_reducible repeat first | apply kN | apply kD | apply kA); exact BK175.out) hb)
       have n2_ := amk (below_step (by repeat (first | (with_reducible first | exact HB.out | apply bAl | apply bDN | apply bD1 | refine bSe ?_ GE175.out) | exact HB.out)) hb)
       clear HO0
       clear BK175
       clear HB
       have HO0 := n0_
       have BK175 := n1_
       have HB := n2_
       clear n0_ n1_ n2_
       (try clear hb)
       (try clear hb2)
       (try clear hk)
       (try clear hi)
       refine hK.out _ _ ⟨HS0_, HS1_, HS2_, HS3_, HS4_, HS5_⟩ (fun hHeld => ?_)
       clear hK K
       refine norm_ (a' := ?_) ?_ ?_
       rotate_left
       ·show Act.put _ (some 18) _ = _
        simp only [Act.put, sTA, sCZ, sCS, i64_w, i32_w]
        rfl
       exact norm_ (by simp only [putAll, Act.put, sTA, sCZ, sCS]) (hCont (gb175) _ ⟨hHeld, (by (with_reducible repeat (first | apply Kd.V_alloc | apply Kd.V_drewN | apply Kd.V_drew)); exact HO0.out), (by (with_reducible repeat first | apply kN | apply kD | apply kA); exact BK175.out), GW175.out, GE175.out, (by repeat (first | (with_reducible first | exact HB.out | apply bAl | apply bDN | apply bD1 | refine bSe ?_ GE175.out) | exact HB.out))⟩)
     rintro gb175 w14 ⟨hS_, h0_, h1_, h2_, h3_, h4_⟩
     have n0_ : Aside0 (Kd.V k78 78 w14 w.heap.size (fun k_ => (P0_ k_ ∨ w.heap.size ≤ k_) ∧ k_ ≠ gb175) (.slice (some ad170) l0.length c0) l0) := ⟨h0_⟩
     have n1_ : Aside0 (w14.heap[gb175]? = some (.cells #[.int .i64 0, .int .i64 0, .bool false] 78 (0, 0))) := ⟨h1_⟩
     have n2_ : Aside0 (w.heap.size ≤ gb175) := ⟨h2_⟩
     have n3_ : Aside0 (w.heap.size ≤ gb175) := ⟨h3_⟩
     have n4_ : Aside0 (Below w.heap.size w w14) := ⟨h4_⟩
     clear HO0
     clear HB
     clear h0_ h1_ h2_ h3_ h4_
     have HO0 := n0_
     have BK175 := n1_
     have GW175 := n2_
     have GE175 := n3_
     have HB := n4_
     clear n0_ n1_ n2_ n3_ n4_
     have hHeld : w14.cell? (ad170.add (((ji4)).toNat * 3)) = some (.int .i64 ((rd_T78 l0 (ji4)).f0)) ∧ w14.cell? ⟨(ad170.add (((ji4)).toNat * 3)).block, (ad170.add (((ji4)).toNat * 3)).off + 1, none⟩ = some (.int .i64 ((rd_T78 l0 (ji4)).f1)) ∧ w14.cell? ⟨(ad170.add (((ji4)).toNat * 3)).block, (ad170.add (((ji4)).toNat * 3)).off + 2, none⟩ = some (.bool ((rd_T78 l0 (ji4)).f2)) ∧ w14.cell? ad170 = some (.int .i64 ((rd_T78 l0 0).f0)) ∧ w14.cell? ⟨ad170.block, ad170.off + 1, none⟩ = some (.int .i64 ((rd_T78 l0 0).f1)) ∧ w14.cell? ⟨ad170.block, ad170.off + 2, none⟩ = some (.bool ((rd_T78 l0 0).f2)) := hS_
     refine norm_ (a' := ?_) ?_ ?_
     rotate_left
     ·simp only [putAll, Act.put, sTA, sCZ, sCS]
      rfl
     refine one_ (i := 11) (N := none) #[true, true, true, true, true, true, true, true, true, true, true, true] rfl rfl (one_of HT_.out (by kernel_rfl)) (by decide) (fun K hK => ?_)
     have hs15 : w14.cell? ⟨gb175, 0, none⟩ = some (.int .i64 0) := (blk_cell BK175.out 0).trans rfl
     have hfs15 := blk_frozen BK175.out 0
     have hs16 : w14.cell? ⟨gb175, 1, none⟩ = some (.int .i64 0) := (blk_cell BK175.out 1).trans rfl
     have hfs16 := blk_frozen BK175.out 1
     have hs17 : w14.cell? ⟨gb175, 2, none⟩ = some (.bool false) := (blk_cell BK175.out 2).trans rfl
     have hfs17 := blk_frozen BK175.out 2
     refine skip_ (w1 := ?_) (by rfl) rfl ?_ ?_
     rotate_left
     ·go_simp
      rfl
     refine hK.out _ _ ⟨((cell_far (p := ⟨gb175, _, none⟩) (by first | exact (Kd.F_in (Kd.V_F HO0.out) rfl (by first | omega | (have h1_ := of_eq_true p170; have h2_ := of_eq_true q170; omega)) (by decide)).2 | (rw [add_block]; exact (Kd.F_in (Kd.V_F HO0.out) rfl (by first | omega | (have h1_ := of_eq_true p170; have h2_ := of_eq_true q170; omega)) (by decide)).2) | (show (Addr.add _ _).block ≠ _; rw [add_block]; exact (Kd.F_in (Kd.V_F HO0.out) rfl (by first | omega | (have h1_ := of_eq_true p170; have h2_ := of_eq_true q170; omega)) (by decide)).2) | (dsimp only; exact (Kd.F_in (Kd.V_F HO0.out) rfl (by first | omega | (have h1_ := of_eq_true p170; have h2_ := of_eq_true q170; omega)) (by decide)).2)) _).trans (((cell_far (p := ⟨gb175, _, none⟩) (by first | exact (Kd.F_in (Kd.V_F HO0.out) rfl (by first | omega | (have h1_ := of_eq_true p170; have h2_ := of_eq_true q170; omega)) (by decide)).2 | (rw [add_block]; exact (Kd.F_in (Kd.V_F HO0.out) rfl (by first | omega | (have h1_ := of_eq_true p170; have h2_ := of_eq_true q170; omega)) (by decide)).2) | (show (Addr.add _ _).block ≠ _; rw [add_block]; exact (Kd.F_in (Kd.V_F HO0.out) rfl (by first | omega | (have h1_ := of_eq_true p170; have h2_ := of_eq_true q170; omega)) (by decide)).2) | (dsimp only; exact (Kd.F_in (Kd.V_F HO0.out) rfl (by first | omega | (have h1_ := of_eq_true p170; have h2_ := of_eq_true q170; omega)) (by decide)).2)) _).trans (((cell_far (p := ⟨gb175, _, none⟩) (by first | exact (Kd.F_in (Kd.V_F HO0.out) rfl (by first | omega | (have h1_ := of_eq_true p170; have h2_ := of_eq_true q170; omega)) (by decide)).2 | (rw [add_block]; exact (Kd.F_in (Kd.V_F HO0.out) rfl (by first | omega | (have h1_ := of_eq_true p170; have h2_ := of_eq_true q170; omega)) (by decide)).2) | (show (Addr.add _ _).block ≠ _; rw [add_block]; exact (Kd.F_in (Kd.V_F HO0.out) rfl (by first | omega | (have h1_ := of_eq_true p170; have h2_ := of_eq_true q170; omega)) (by decide)).2) | (dsimp only; exact (Kd.F_in (Kd.V_F HO0.out) rfl (by first | omega | (have h1_ := of_eq_true p170; have h2_ := of_eq_true q170; omega)) (by decide)).2)) _).trans (hHeld.1)))))), ((cell_far (p := ⟨gb175, _, none⟩) (by first | exact (Kd.F_in (Kd.V_F HO0.out) rfl (by first | omega | (have h1_ := of_eq_true p170; have h2_ := of_eq_true q170; omega)) (by decide)).2 | (rw [add_block]; exact (Kd.F_in (Kd.V_F HO0.out) rfl (by first | omega | (have h1_ := of_eq_true p170; have h2_ := of_eq_true q170; omega)) (by decide)).2) | (show (Addr.add _ _).block ≠ _; rw [add_block]; exact (Kd.F_in (Kd.V_F HO0.out) rfl (by first | omega | (have h1_ := of_eq_true p170; have h2_ := of_eq_true q170; omega)) (by decide)).2) | (dsimp only; exact (Kd.F_in (Kd.V_F HO0.out) rfl (by first | omega | (have h1_ := of_eq_true p170; have h2_ := of_eq_true q170; omega)) (by decide)).2)) _).trans (((cell_far (p := ⟨gb175, _, none⟩) (by first | exact (Kd.F_in (Kd.V_F HO0.out) rfl (by first | omega | (have h1_ := of_eq_true p170; have h2_ := of_eq_true q170; omega)) (by decide)).2 | (rw [add_block]; exact (Kd.F_in (Kd.V_F HO0.out) rfl (by first | omega | (have h1_ := of_eq_true p170; have h2_ := of_eq_true q170; omega)) (by decide)).2) | (show (Addr.add _ _).block ≠ _; rw [add_block]; exact (Kd.F_in (Kd.V_F HO0.out) rfl (by first | omega | (have h1_ := of_eq_true p170; have h2_ := of_eq_true q170; omega)) (by decide)).2) | (dsimp only; exact (Kd.F_in (Kd.V_F HO0.out) rfl (by first | omega | (have h1_ := of_eq_true p170; have h2_ := of_eq_true q170; omega)) (by decide)).2)) _).trans (((cell_far (p := ⟨gb175, _, none⟩) (by first | exact (Kd.F_in (Kd.V_F HO0.out) rfl (by first | omega | (have h1_ := of_eq_true p170; have h2_ := of_eq_true q170; omega)) (by decide)).2 | (rw [add_block]; exact (Kd.F_in (Kd.V_F HO0.out) rfl (by first | omega | (have h1_ := of_eq_true p170; have h2_ := of_eq_true q170; omega)) (by decide)).2) | (show (Addr.add _ _).block ≠ _; rw [add_block]; exact (Kd.F_in (Kd.V_F HO0.out) rfl (by first | omega | (have h1_ := of_eq_true p170; have h2_ := of_eq_true q170; omega)) (by decide)).2) | (dsimp only; exact (Kd.F_in (Kd.V_F HO0.out) rfl (by first | omega | (have h1_ := of_eq_true p170; have h2_ := of_eq_true q170; omega)) (by decide)).2)) _).trans (hHeld.2.1)))))), ((cell_far (p := ⟨gb175, _, none⟩) (by first | exact (Kd.F_in (Kd.V_F HO0.out) rfl (by first | omega | (have h1_ := of_eq_true p170; have h2_ := of_eq_true q170; omega)) (by decide)).2 | (rw [add_block]; exact (Kd.F_in (Kd.V_F HO0.out) rfl (by first | omega | (have h1_ := of_eq_true p170; have h2_ := of_eq_true q170; omega)) (by decide)).2) | (show (Addr.add _ _).block ≠ _; rw [add_block]; exact (Kd.F_in (Kd.V_F HO0.out) rfl (by first | omega | (have h1_ := of_eq_true p170; have h2_ := of_eq_true q170; omega)) (by decide)).2) | (dsimp only; exact (Kd.F_in (Kd.V_F HO0.out) rfl (by first | omega | (have h1_ := of_eq_true p170; have h2_ := of_eq_true q170; omega)) (by decide)).2)) _).trans (((cell_far (p := ⟨gb175, _, none⟩) (by first | exact (Kd.F_in (Kd.V_F HO0.out) rfl (by first | omega | (have h1_ := of_eq_true p170; have h2_ := of_eq_true q170; omega)) (by decide)).2 | (rw [add_block]; exact (Kd.F_in (Kd.V_F HO0.out) rfl (by first | omega | (have h1_ := of_eq_true p170; have h2_ := of_eq_true q170; omega)) (by decide)).2) | (show (Addr.add _ _).block ≠ _; rw [add_block]; exact (Kd.F_in (Kd.V_F HO0.out) rfl (by first | omega | (have h1_ := of_eq_true p170; have h2_ := of_eq_true q170; omega)) (by decide)).2) | (dsimp only; exact (Kd.F_in (Kd.V_F HO0.out) rfl (by first | omega | (have h1_ := of_eq_true p170; have h2_ := of_eq_true q170; omega)) (by decide)).2)) _).trans (((cell_far (p := ⟨gb175, _, none⟩) (by first | exact (Kd.F_in (Kd.V_F HO0.out) rfl (by first | omega | (have h1_ := of_eq_true p170; have h2_ := of_eq_true q170; omega)) (by decide)).2 | (rw [add_block]; exact (Kd.F_in (Kd.V_F HO0.out) rfl (by first | omega | (have h1_ := of_eq_true p170; have h2_ := of_eq_true q170; omega)) (by decide)).2) | (show (Addr.add _ _).block ≠ _; rw [add_block]; exact (Kd.F_in (Kd.V_F HO0.out) rfl (by first | omega | (have h1_ := of_eq_true p170; have h2_ := of_eq_true q170; omega)) (by decide)).2) | (dsimp only; exact (Kd.F_in (Kd.V_F HO0.out) rfl (by first | omega | (have h1_ := of_eq_true p170; have h2_ := of_eq_true q170; omega)) (by decide)).2)) _).trans (hHeld.2.2.1)))))), ((cell_far (p := ⟨gb175, _, none⟩) (by first | exact (Kd.F_in (Kd.V_F HO0.out) rfl (by first | omega | (have h1_ := of_eq_true p171; have h2_ := of_eq_true q171; omega)) (by decide)).2 | (rw [add_block]; exact (Kd.F_in (Kd.V_F HO0.out) rfl (by first | omega | (have h1_ := of_eq_true p171; have h2_ := of_eq_true q171; omega)) (by decide)).2) | (show (Addr.add _ _).block ≠ _; rw [add_block]; exact (Kd.F_in (Kd.V_F HO0.out) rfl (by first | omega | (have h1_ := of_eq_true p171; have h2_ := of_eq_true q171; omega)) (by decide)).2) | (dsimp only; exact (Kd.F_in (Kd.V_F HO0.out) rfl (by first | omega | (have h1_ := of_eq_true p171; have h2_ := of_eq_true q171; omega)) (by decide)).2)) _).trans (((cell_far (p := ⟨gb175, _, none⟩) (by first | exact (Kd.F_in (Kd.V_F HO0.out) rfl (by first | omega | (have h1_ := of_eq_true p171; have h2_ := of_eq_true q171; omega)) (by decide)).2 | (rw [add_block]; exact (Kd.F_in (Kd.V_F HO0.out) rfl (by first | omega | (have h1_ := of_eq_true p171; have h2_ := of_eq_true q171; omega)) (by decide)).2) | (show (Addr.add _ _).block ≠ _; rw [add_block]; exact (Kd.F_in (Kd.V_F HO0.out) rfl (by first | omega | (have h1_ := of_eq_true p171; have h2_ := of_eq_true q171; omega)) (by decide)).2) | (dsimp only; exact (Kd.F_in (Kd.V_F HO0.out) rfl (by first | omega | (have h1_ := of_eq_true p171; have h2_ := of_eq_true q171; omega)) (by decide)).2)) _).trans (((cell_far (p := ⟨gb175, _, none⟩) (by first | exact (Kd.F_in (Kd.V_F HO0.out) rfl (by first | omega | (have h1_ := of_eq_true p171; have h2_ := of_eq_true q171; omega)) (by decide)).2 | (rw [add_block]; exact (Kd.F_in (Kd.V_F HO0.out) rfl (by first | omega | (have h1_ := of_eq_true p171; have h2_ := of_eq_true q171; omega)) (by decide)).2) | (show (Addr.add _ _).block ≠ _; rw [add_block]; exact (Kd.F_in (Kd.V_F HO0.out) rfl (by first | omega | (have h1_ := of_eq_true p171; have h2_ := of_eq_true q171; omega)) (by decide)).2) | (dsimp only; exact (Kd.F_in (Kd.V_F HO0.out) rfl (by first | omega | (have h1_ := of_eq_true p171; have h2_ := of_eq_true q171; omega)) (by decide)).2)) _).trans (hHeld.2.2.2.1)))))), ((cell_far (p := ⟨gb175, _, none⟩) (by first | exact (Kd.F_in (Kd.V_F HO0.out) rfl (by first | omega | (have h1_ := of_eq_true p171; have h2_ := of_eq_true q171; omega)) (by decide)).2 | (rw [add_block]; exact (Kd.F_in (Kd.V_F HO0.out) rfl (by first | omega | (have h1_ := of_eq_true p171; have h2_ := of_eq_true q171; omega)) (by decide)).2) | (show (Addr.add _ _).block ≠ _; rw [add_block]; exact (Kd.F_in (Kd.V_F HO0.out) rfl (by first | omega | (have h1_ := of_eq_true p171; have h2_ := of_eq_true q171; omega)) (by decide)).2) | (dsimp only; exact (Kd.F_in (Kd.V_F HO0.out) rfl (by first | omega | (have h1_ := of_eq_true p171; have h2_ := of_eq_true q171; omega)) (by decide)).2)) _).trans (((cell_far (p := ⟨gb175, _, none⟩) (by first | exact (Kd.F_in (Kd.V_F HO0.out) rfl (by first | omega | (have h1_ := of_eq_true p171; have h2_ := of_eq_true q171; omega)) (by decide)).2 | (rw [add_block]; exact (Kd.F_in (Kd.V_F HO0.out) rfl (by first | omega | (have h1_ := of_eq_true p171; have h2_ := of_eq_true q171; omega)) (by decide)).2) | (show (Addr.add _ _).block ≠ _; rw [add_block]; exact (Kd.F_in (Kd.V_F HO0.out) rfl (by first | omega | (have h1_ := of_eq_true p171; have h2_ := of_eq_true q171; omega)) (by decide)).2) | (dsimp only; exact (Kd.F_in (Kd.V_F HO0.out) rfl (by first | omega | (have h1_ := of_eq_true p171; have h2_ := of_eq_true q171; omega)) (by decide)).2)) _).trans (((cell_far (p := ⟨gb175, _, none⟩) (by first | exact (Kd.F_in (Kd.V_F HO0.out) rfl (by first | omega | (have h1_ := of_eq_true p171; have h2_ := of_eq_true q171; omega)) (by decide)).2 | (rw [add_block]; exact (Kd.F_in (Kd.V_F HO0.out) rfl (by first | omega | (have h1_ := of_eq_true p171; have h2_ := of_eq_true q171; omega)) (by decide)).2) | (show (Addr.add _ _).block ≠ _; rw [add_block]; exact (Kd.F_in (Kd.V_F HO0.out) rfl (by first | omega | (have h1_ := of_eq_true p171; have h2_ := of_eq_true q171; omega)) (by decide)).2) | (dsimp only; exact (Kd.F_in (Kd.V_F HO0.out) rfl (by first | omega | (have h1_ := of_eq_true p171; have h2_ := of_eq_true q171; omega)) (by decide)).2)) _).trans (hHeld.2.2.2.2.1)))))), ((cell_far (p := ⟨gb175, _, none⟩) (by first | exact (Kd.F_in (Kd.V_F HO0.out) rfl (by first | omega | (have h1_ := of_eq_true p171; have h2_ := of_eq_true q171; omega)) (by decide)).2 | (rw [add_block]; exact (Kd.F_in (Kd.V_F HO0.out) rfl (by first | omega | (have h1_ := of_eq_true p171; have h2_ := of_eq_true q171; omega)) (by decide)).2) | (show (Addr.add _ _).block ≠ _; rw [add_block]; exact (Kd.F_in (Kd.V_F HO0.out) rfl (by first | omega | (have h1_ := of_eq_true p171; have h2_ := of_eq_true q171; omega)) (by decide)).2) | (dsimp only; exact (Kd.F_in (Kd.V_F HO0.out) rfl (by first | omega | (have h1_ := of_eq_true p171; have h2_ := of_eq_true q171; omega)) (by decide)).2)) _).trans (((cell_far (p := ⟨gb175, _, none⟩) (by first | exact (Kd.F_in (Kd.V_F HO0.out) rfl (by first | omega | (have h1_ := of_eq_true p171; have h2_ := of_eq_true q171; omega)) (by decide)).2 | (rw [add_block]; exact (Kd.F_in (Kd.V_F HO0.out) rfl (by first | omega | (have h1_ := of_eq_true p171; have h2_ := of_eq_true q171; omega)) (by decide)).2) | (show (Addr.add _ _).block ≠ _; rw [add_block]; exact (Kd.F_in (Kd.V_F HO0.out) rfl (by first | omega | (have h1_ := of_eq_true p171; have h2_ := of_eq_true q171; omega)) (by decide)).2) | (dsimp only; exact (Kd.F_in (Kd.V_F HO0.out) rfl (by first | omega | (have h1_ := of_eq_true p171; have h2_ := of_eq_true q171; omega)) (by decide)).2)) _).trans (((cell_far (p := ⟨gb175, _, none⟩) (by first | exact (Kd.F_in (Kd.V_F HO0.out) rfl (by first | omega | (have h1_ := of_eq_true p171; have h2_ := of_eq_true q171; omega)) (by decide)).2 | (rw [add_block]; exact (Kd.F_in (Kd.V_F HO0.out) rfl (by first | omega | (have h1_ := of_eq_true p171; have h2_ := of_eq_true q171; omega)) (by decide)).2) | (show (Addr.add _ _).block ≠ _; rw [add_block]; exact (Kd.F_in (Kd.V_F HO0.out) rfl (by first | omega | (have h1_ := of_eq_true p171; have h2_ := of_eq_true q171; omega)) (by decide)).2) | (dsimp only; exact (Kd.F_in (Kd.V_F HO0.out) rfl (by first | omega | (have h1_ := of_eq_true p171; have h2_ := of_eq_true q171; omega)) (by decide)).2)) _).trans (hHeld.2.2.2.2.2))))))⟩ (fun hHeld => ?_)
     clear hK K
     refine done_ (done_of HT_.out (by kernel_rfl)) ?_
     have hcz18_0 : w14.cell? ⟨gb175, 0, none⟩ = some (.int .i64 0) := (blk_cell BK175.out 0).trans rfl
     have hcz18_1 : w14.cell? ⟨gb175, 1, none⟩ = some (.int .i64 0) := (blk_cell BK175.out 1).trans rfl
     have hcz18_2 : w14.cell? ⟨gb175, 2, none⟩ = some (.bool false) := (blk_cell BK175.out 2).trans rfl
     have hfz18_0 := blk_frozen BK175.out 0
     have hfz18_1 := blk_frozen BK175.out 1
     have hfz18_2 := blk_frozen BK175.out 2
     try go_wp2_with (first | ((with_reducible refine gate_dst (N := 20) rfl ?_); refine Kd.R_lit k78 _ 78 ?hg (N := 20) ?hd (xs := ([(⟨t172, t173, t174⟩ : S78)] : List (S78))) (inner := [.int .i64 t172, .int .i64 t173, .bool t174]) (ok := fun _ => True) (okp := fun _ => True) ?hr ?hp (fun _ hk => hk) trivial (Below.refl _ _) (Nat.le_refl _) (by simp) ?_; (case hd => rfl); (case hg => rfl); (case hr => first | (go_simp; done) | (go_simp; rfl)); (case hp => exact (Reps.c3 (show Kd.M k78 _ _ _ (⟨t172, t173, t174⟩ : S78) [.int .i64 t172, .int .i64 t173, .bool t174] from (k78_mkM _ _ _ (⟨t172, t173, t174⟩ : S78) )) (Reps.none _ _))); intro v177 w19 ho20 hb hg_ hnew_; clear hg_ hnew_; (first | rw [← Ny176.out] at ho20 | (simp only [Int.reduceToNat] at ho20; rw [← Ny176.out] at ho20)); have n0_ := amk (Kd.V_elder' (by (with_reducible repeat (first | apply Kd.V_alloc | apply Kd.V_drewN | apply Kd.V_drew)); exact (Kd.V_mono (Kd.V_far (p := ⟨gb175, 2, none⟩) (Kd.V_far (p := ⟨gb175, 1, none⟩) (Kd.V_far (p := ⟨gb175, 0, none⟩) (Kd.V_mono HO0.out (fun k_ hk => (⟨hk, hk.2⟩ : _ ∧ k_ ≠ gb175))) (fun _ hk => hk.2) (.int .i64 t172)) (fun _ hk => hk.2) (.int .i64 t173)) (fun _ hk => hk.2) (.bool t174)) (fun _ h_ => h_.1))) (Kd.R_base ho20) hb); have n1_ := amk (Kd.R_lower (Kd.R_newB (Kd.R_newM (M := fun k_ => (w.heap.size ≤ k_)) ho20 (below_size (by repeat (first | (with_reducible first | exact HB.out | apply bAl | apply bDN | apply bD1 | refine bSe ?_ GE175.out) | exact HB.out))) (fun k_ h_ => h_)) (g := gb175) (o := .cells #[.int .i64 t172, .int .i64 t173, .bool t174] 78 (0, 0)) (by (with_reducible repeat first | apply kN | apply kD | apply kA); refine blk_put (cs := #[.int .i64 t172, .int .i64 t173, .bool false]) ?_ 2 _ rfl; (with_reducible repeat first | apply kN | apply kD | apply kA); refine blk_put (cs := #[.int .i64 t172, .int .i64 0, .bool false]) ?_ 1 _ rfl; (with_reducible repeat first | apply kN | apply kD | apply kA); refine blk_put (cs := #[.int .i64 0, .int .i64 0, .bool false]) ?_ 0 _ rfl; (with_reducible repeat first | apply kN | apply kD | apply kA); exact BK175.out)) (below_size (by repeat (first | (with_reducible first | exact HB.out | apply bAl | apply bDN | apply bD1 | refine bSe ?_ GE175.out) | exact HB.out)))); have n2_ := amk (blk_below (g := gb175) (o := .cells #[.int .i64 t172, .int .i64 t173, .bool t174] 78 (0, 0)) (by (with_reducible repeat first | apply kN | apply kD | apply kA); refine blk_put (cs := #[.int .i64 t172, .int .i64 t173, .bool false]) ?_ 2 _ rfl; (with_reducible repeat first | apply kN | apply kD | apply kA); refine blk_put (cs := #[.int .i64 t172, .int .i64 0, .bool false]) ?_ 1 _ rfl; (with_reducible repeat first | apply kN | apply kD | apply kA); refine blk_put (cs := #[.int .i64 0, .int .i64 0, .bool false]) ?_ 0 _ rfl; (with_reducible repeat first | apply kN | apply kD | apply kA); exact BK175.out) hb); have n3_ := amk (below_step (by repeat (first | (with_reducible first | exact HB.out | apply bAl | apply bDN | apply bD1 | refine bSe ?_ GE175.out) | exact HB.out)) hb); clear HO0; clear BK175; clear HB; have HO0 := n0_; have HO178 := n1_; have BK175 := n2_; have HB := n3_; clear n0_ n1_ n2_ n3_; clear hb ho20; have hcz21_0 : w19.cell? ⟨gb175, 0, none⟩ = some (.int .i64 t172) := (blk_cell BK175.out 0).trans rfl; have hcz21_1 : w19.cell? ⟨gb175, 1, none⟩ = some (.int .i64 t173) := (blk_cell BK175.out 1).trans rfl; have hcz21_2 : w19.cell? ⟨gb175, 2, none⟩ = some (.bool t174) := (blk_cell BK175.out 2).trans rfl; have hfz21_0 := blk_frozen BK175.out 0; have hfz21_1 := blk_frozen BK175.out 1; have hfz21_2 := blk_frozen BK175.out 2) | ((with_reducible refine gate_dst (N := 23) rfl ?_); refine Kd.R_lit k78 _ 78 ?hg (N := 23) ?hd (xs := ([(⟨t172, t173, t174⟩ : S78)] : List (S78))) (inner := [.int .i64 t172, .int .i64 t173, .bool t174]) (ok := fun _ => True) (okp := fun _ => True) ?hr ?hp (fun _ hk => hk) trivial (Below.refl _ _) (Nat.le_refl _) (by simp) ?_; (case hd => rfl); (case hg => rfl); (case hr => first | (go_simp; done) | (go_simp; rfl)); (case hp => exact (Reps.c3 (show Kd.M k78 _ _ _ (⟨t172, t173, t174⟩ : S78) [.int .i64 t172, .int .i64 t173, .bool t174] from (k78_mkM _ _ _ (⟨t172, t173, t174⟩ : S78) )) (Reps.none _ _))); intro v180 w22 ho23 hb hg_ hnew_; clear hg_ hnew_; (first | rw [← Ny179.out] at ho23 | (simp only [Int.reduceToNat] at ho23; rw [← Ny179.out] at ho23)); have n0_ := amk (Kd.V_elder' (by (with_reducible repeat (first | apply Kd.V_alloc | apply Kd.V_drewN | apply Kd.V_drew)); exact HO0.out) (Kd.R_base ho23) hb); have n1_ := amk (Kd.R_elder' (by (with_reducible repeat (first | apply Kd.R_alloc | apply Kd.R_drewN | apply Kd.R_drew)); exact HO178.out) (Kd.R_base ho23) hb); have n2_ := amk (Kd.R_lower (Kd.R_newB (Kd.R_new' (Kd.R_newM (M := fun k_ => (w.heap.size ≤ k_)) ho23 (below_size (by repeat (first | (with_reducible first | exact HB.out | apply bAl | apply bDN | apply bD1 | refine bSe ?_ GE175.out) | exact HB.out))) (fun k_ h_ => h_)) (Kd.R_lt (by (with_reducible repeat (first | apply Kd.R_alloc | apply Kd.R_drewN | apply Kd.R_drew)); exact HO178.out))) (g := gb175) (o := .cells #[.int .i64 t172, .int .i64 t173, .bool t174] 78 (0, 0)) (by (with_reducible repeat first | apply kN | apply kD | apply kA); exact BK175.out)) (below_size (by repeat (first | (with_reducible first | exact HB.out | apply bAl | apply bDN | apply bD1 | refine bSe ?_ GE175.out) | exact HB.out)))); have n3_ := amk (blk_below (g := gb175) (o := .cells #[.int .i64 t172, .int .i64 t173, .bool t174] 78 (0, 0)) (by (with_reducible repeat first | apply kN | apply kD | apply kA); exact BK175.out) hb); have n4_ := amk (below_step (by repeat (first | (with_reducible first | exact HB.out | apply bAl | apply bDN | apply bD1 | refine bSe ?_ GE175.out) | exact HB.out)) hb); clear HO0; clear HO178; clear BK175; clear HB; have HO0 := n0_; have HO178 := n1_; have HO181 := n2_; have BK175 := n3_; have HB := n4_; clear n0_ n1_ n2_ n3_ n4_; clear hb ho23; obtain ⟨Ao24, co24, eo24⟩ := Kd.R_slice HO178.out; subst eo24; obtain ⟨Ao25, co25, eo25⟩ := Kd.R_slice HO181.out; subst eo25) | ((with_reducible refine gate_dst (N := 24) rfl ?_); refine Kd.N_lit (Kd.slice 78 k78) _ 72 ?hg (N' := 24) ?hd (xs := ([y176, l0, y179] : List (List (S78)))) (inner := [.slice Ao24 y176.length co24, .slice (some ad170) l0.length c0, .slice Ao25 y179.length co25]) (ok := (fun k_ => (P0_ k_ ∨ w.heap.size ≤ k_) ∧ k_ ≠ gb175)) (okp := (fun k_ => (P0_ k_ ∨ w.heap.size ≤ k_) ∧ k_ ≠ gb175)) ?hr ?hp (fun _ hk => hk) ((show ∀ k_, w22.heap.size ≤ k_ → (fun k_ => (P0_ k_ ∨ w.heap.size ≤ k_) ∧ k_ ≠ gb175) k_ from fun k_ hk => ⟨(.inr (Nat.le_trans (below_size (by repeat (first | (with_reducible first | exact HB.out | apply bAl | apply bDN | apply bD1 | refine bSe ?_ GE175.out) | exact HB.out))) hk)), Kd.freshB (g := gb175) (o := .cells #[.int .i64 t172, .int .i64 t173, .bool t174] 78 (0, 0)) (by (with_reducible repeat first | apply kN | apply kD | apply kA); exact BK175.out) k_ hk⟩) _ (Nat.le_refl _)) (Below.refl _ _) (Nat.le_refl _) (by simp) ?_; (case hd => rfl); (case hg => rfl); (case hr => first | (go_simp; done) | (go_simp; rfl)); (case hp => exact (Reps.one (show Kd.FK (Kd.slice 78 k78) _ _ y176 [.slice Ao24 y176.length co24] from (Kd.FK_slice_mk (Kd.R_reads' (Kd.R_mono (ok' := (fun k_ => (P0_ k_ ∨ w.heap.size ≤ k_) ∧ k_ ≠ gb175)) (HO178.out) (fun k_ hk => ⟨(.inr (hk.1.1.1)), hk.1.2⟩))).2.1 (Kd.R_F (Kd.R_mono (ok' := (fun k_ => (P0_ k_ ∨ w.heap.size ≤ k_) ∧ k_ ≠ gb175)) (HO178.out) (fun k_ hk => ⟨(.inr (hk.1.1.1)), hk.1.2⟩))))) (Reps.one (show Kd.FK (Kd.slice 78 k78) _ _ l0 [.slice (some ad170) l0.length c0] from (Kd.FK_slice_mk (Kd.V_reads' (Kd.V_mono (ok' := (fun k_ => (P0_ k_ ∨ w.heap.size ≤ k_) ∧ k_ ≠ gb175)) (HO0.out) (fun k_ hk => ⟨hk.1.1.1, hk.1.1.2⟩))).2.1 (Kd.V_F (Kd.V_mono (ok' := (fun k_ => (P0_ k_ ∨ w.heap.size ≤ k_) ∧ k_ ≠ gb175)) (HO0.out) (fun k_ hk => ⟨hk.1.1.1, hk.1.1.2⟩))))) (Reps.one (show Kd.FK (Kd.slice 78 k78) _ _ y179 [.slice Ao25 y179.length co25] from (Kd.FK_slice_mk (Kd.R_reads' (Kd.R_mono (ok' := (fun k_ => (P0_ k_ ∨ w.heap.size ≤ k_) ∧ k_ ≠ gb175)) (HO181.out) (fun k_ hk => ⟨(.inr (hk.1.1.1)), hk.2⟩))).2.1 (Kd.R_F (Kd.R_mono (ok' := (fun k_ => (P0_ k_ ∨ w.heap.size ≤ k_) ∧ k_ ≠ gb175)) (HO181.out) (fun k_ hk => ⟨(.inr (hk.1.1.1)), hk.2⟩))))) (Reps.none _ _))))); intro v183 w26 ho27 hb hg_ hnew_; clear hg_ hnew_; (first | rw [← Ny182.out] at ho27 | (simp only [Int.reduceToNat] at ho27; rw [← Ny182.out] at ho27)); have n0_ := amk (Kd.V_elder' (by (with_reducible repeat (first | apply Kd.V_alloc | apply Kd.V_drewN | apply Kd.V_drew)); exact HO0.out) (Kd.N_base ho27) hb); have n1_ := amk (Kd.N_lower ho27 (below_size (by repeat (first | (with_reducible first | exact HB.out | apply bAl | apply bDN | apply bD1 | refine bSe ?_ GE175.out) | exact HB.out)))); have n2_ := amk (blk_below (g := gb175) (o := .cells #[.int .i64 t172, .int .i64 t173, .bool t174] 78 (0, 0)) (by (with_reducible repeat first | apply kN | apply kD | apply kA); exact BK175.out) hb); have n3_ := amk (below_step (by repeat (first | (with_reducible first | exact HB.out | apply bAl | apply bDN | apply bD1 | refine bSe ?_ GE175.out) | exact HB.out)) hb); clear HO0; clear BK175; clear HB; clear HO178; clear HO181; have HO0 := n0_; have HO184 := n1_; have BK175 := n2_; have HB := n3_; clear n0_ n1_ n2_ n3_; clear hb ho27; obtain ⟨Ao28, co28, eo28⟩ := Kd.N_slice HO184.out; subst eo28) | ((with_reducible refine gate_callee (f := 51) rfl ?_); refine goesL_ (some 25) rfl rfl Try.func51 (by kernel_rfl) rfl #[.slice Ao28 y182.length co28] rfl (by (try simp only [List.map_toArray, List.map_cons, List.map_nil]); first | done | rfl | (simp only [List.length_drop, List.length_take]; rfl)) ?_; (with_reducible refine (flat_place_51.calls k _ _ y182 t185 _ ?side1 ?side2 A9.out).mono ?_); (case side1 => repeat (first | exact (Kd.N_reads' HO184.out).2.2 | (with_reducible refine Kd.C_alloc ?_ _) | (with_reducible refine Kd.C_drewN ?_ _) | (with_reducible refine Kd.C_drew ?_))); (case side2 => exact (Kd.N_reads' HO184.out).2.1); rintro e w29 ⟨v186, rfl, ho0, hb⟩; refine ⟨_, rfl, ?_⟩; have n0_ := amk (Kd.V_elder' (by (with_reducible repeat (first | apply Kd.V_alloc | apply Kd.V_drewN | apply Kd.V_drew)); exact HO0.out) (Kd.R_base ho0) hb); have n1_ := amk (Kd.N_elder' (by (with_reducible repeat (first | apply Kd.N_alloc | apply Kd.N_drewN | apply Kd.N_drew)); exact HO184.out) (Kd.R_base ho0) hb); have n2_ := amk (Kd.R_lower (Kd.R_newB (Kd.R_newM (M := fun k_ => (w.heap.size ≤ k_)) ho0 (below_size (by repeat (first | (with_reducible first | exact HB.out | apply bAl | apply bDN | apply bD1 | refine bSe ?_ GE175.out) | exact HB.out))) (fun k_ h_ => h_)) (g := gb175) (o := .cells #[.int .i64 t172, .int .i64 t173, .bool t174] 78 (0, 0)) (by (with_reducible repeat first | apply kN | apply kD | apply kA); exact BK175.out)) (below_size (by repeat (first | (with_reducible first | exact HB.out | apply bAl | apply bDN | apply bD1 | refine bSe ?_ GE175.out) | exact HB.out)))); have n3_ := amk (blk_below (g := gb175) (o := .cells #[.int .i64 t172, .int .i64 t173, .bool t174] 78 (0, 0)) (by (with_reducible repeat first | apply kN | apply kD | apply kA); exact BK175.out) hb); have n4_ := amk (below_step (by repeat (first | (with_reducible first | exact HB.out | apply bAl | apply bDN | apply bD1 | refine bSe ?_ GE175.out) | exact HB.out)) hb); clear HO0; clear HO184; clear BK175; clear HB; have HO0 := n0_; have HO184 := n1_; have HO187 := n2_; have BK175 := n3_; have HB := n4_; clear n0_ n1_ n2_ n3_ n4_; (try clear hb); (try clear hb2); (try clear hk); (try clear hi); (try clear ho0)))
     go_ret
     exact ⟨_, by first | rfl | (simp [errW_none, errW_some] <;> rfl) | (simp only [← hji4]; first | rfl | (simp [errW_none, errW_some] <;> rfl)) | (simp [*, errW_none, errW_some] <;> rfl), by (with_reducible repeat (first | apply Kd.R_alloc | apply Kd.R_drewN | apply Kd.R_drew)); exact Kd.R_mono HO187.out (fun _ hk => hk.1.1), by repeat (first | (with_reducible first | exact HB.out | apply bAl | apply bDN | apply bD1 | refine bSe ?_ GE175.out) | exact HB.out)⟩
    ·rw [if_neg c7] at H
     exact absurd H (by simp)
   ·rw [if_neg c6] at H
    exact absurd H (by simp)
  ·rw [if_neg c5] at H
   exact absurd H (by simp)
 ·rw [if_neg c3] at H
  have c3b0 : decide (t169 < 0) = false := decide_eq_false c3
  clear c3
  by_cases c30 : 0 ≤ t169
  ·rw [if_pos c30] at H
   have c30b0 := eq_true c30
   have c30b1 : decide (0 ≤ t169) = true := decide_eq_true c30
   clear c30
   by_cases c31 : t169 ≤ (l0.length : Int)
   ·rw [if_pos c31] at H
    have c31b0 := eq_true c31
    have c31b1 : decide (t169 ≤ (l0.length : Int)) = true := decide_eq_true c31
    clear c31
    obtain ⟨y188, hy188⟩ : ∃ y_ : List (S78), y_ = (l0.drop (t169 : Int).toNat) := ⟨_, rfl⟩
    replace H : (if 0 ≤ (wrap64 (t169 + 1)) then (if (wrap64 (t169 + 1)) ≤ (l0.length : Int) then ((flat_place_51.f k (([y188, (l0.take ((wrap64 (t169 + 1)) : Int).toNat)] : List (List (S78))))).bind fun t201 => (some t201)) else (none)) else (none)) = some r := by first | (rw [hy188]; with_reducible exact H) | (have H2_ := (Option.bind_some _ _).symm.trans H; rw [hy188]; with_reducible exact H2_) | (have H2_ := (Option.bind_some _ _).symm.trans H; with_reducible exact H2_) | with_reducible exact H | (rw [hy188]; exact H) | exact H
    have Ny188 := amk hy188
    clear hy188
    obtain ⟨ji32, hji32⟩ : ∃ j_ : Int, (wrap64 (t169 + 1)) = j_ := ⟨_, rfl⟩
    replace H : (if 0 ≤ (ji32) then (if (ji32) ≤ (l0.length : Int) then ((flat_place_51.f k (([y188, (l0.take ((ji32) : Int).toNat)] : List (List (S78))))).bind fun t201 => (some t201)) else (none)) else (none)) = some r := by first | (rw [hji32] at H; exact H) | (simp only [hji32] at H ⊢; exact H)
    (try rw [hji32] at A2)
    have hji32w : (IntKind.i64.wrap (t169 + 1)) = ji32 := (i64_w _).trans hji32
    by_cases c33 : 0 ≤ (ji32)
    ·rw [if_pos c33] at H
     have c33b0 := eq_true c33
     have c33b1 : decide (0 ≤ (ji32)) = true := decide_eq_true c33
     clear c33
     by_cases c34 : (ji32) ≤ (l0.length : Int)
     ·rw [if_pos c34] at H
      have c34b0 := eq_true c34
      have c34b1 : decide ((ji32) ≤ (l0.length : Int)) = true := decide_eq_true c34
      clear c34
      obtain ⟨y193, hy193⟩ : ∃ y_ : List (S78), y_ = (l0.take ((ji32) : Int).toNat) := ⟨_, rfl⟩
      replace H : ((flat_place_51.f k (([y188, y193] : List (List (S78))))).bind fun t201 => (some t201)) = some r := by first | (rw [hy193]; with_reducible exact H) | (have H2_ := (Option.bind_some _ _).symm.trans H; rw [hy193]; with_reducible exact H2_) | (have H2_ := (Option.bind_some _ _).symm.trans H; with_reducible exact H2_) | with_reducible exact H | (rw [hy193]; exact H) | exact H
      have Ny193 := amk hy193
      clear hy193
      obtain ⟨y198, hy198⟩ : ∃ y_ : List (List (S78)), y_ = (([y188, y193] : List (List (S78)))) := ⟨_, rfl⟩
      replace H : ((flat_place_51.f k y198).bind fun t201 => (some t201)) = some r := by first | (rw [hy198]; with_reducible exact H) | (have H2_ := (Option.bind_some _ _).symm.trans H; rw [hy198]; with_reducible exact H2_) | (have H2_ := (Option.bind_some _ _).symm.trans H; with_reducible exact H2_) | with_reducible exact H | (rw [hy198]; exact H) | exact H
      have Ny198 := amk hy198
      clear hy198
      replace H := Option.bind_eq_some_iff.mp H
      obtain ⟨t201, A350, H⟩ := H
      replace H : (some t201) = some r := H
      have A35 := amk A350
      clear A350
      obtain rfl := Option.some.inj H
      go_enter Try.func31, Try.ntmps31
      try go_wp2_with (first | ((with_reducible refine gate_callee (f := 49) rfl ?_); refine goesL_ (some 6) rfl rfl Try.func49 (by kernel_rfl) rfl #[.slice A0 l0.length c0, .func (.func 50) #[] #[]] rfl (by (try simp only [List.map_toArray, List.map_cons, List.map_nil]); first | done | rfl | (simp only [List.length_drop, List.length_take]; rfl)) ?_; (with_reducible refine (flat_place_49.calls _ _ l0  t169 _ ?side1 ?side2 A2.out).mono ?_); (case side1 => repeat (first | exact (Kd.V_reads' HO0.out).2.2 | (with_reducible refine Kd.C_alloc ?_ _) | (with_reducible refine Kd.C_drewN ?_ _) | (with_reducible refine Kd.C_drew ?_))); (case side2 => exact (Kd.V_reads' HO0.out).2.1); rintro e w36 ⟨rfl, hb⟩; refine ⟨_, rfl, ?_⟩; have n0_ := amk (Kd.V_below (by (with_reducible repeat (first | apply Kd.V_alloc | apply Kd.V_drewN | apply Kd.V_drew)); exact HO0.out) hb); have n1_ := amk (below_step (by repeat (first | (with_reducible first | exact HB.out | apply bAl | apply bDN | apply bD1) | exact HB.out)) hb); clear HO0; clear HB; have HO0 := n0_; have HB := n1_; clear n0_ n1_; (try clear hb); (try clear hb2); (try clear hk); (try clear hi)))
      have n0_ := amk (Kd.V_drew HO0.out)
      have n1_ := amk (bD1 HB.out)
      clear HO0
      clear HB
      have HO0 := n0_
      have HB := n1_
      clear n0_ n1_
      have q38 : (t169 : Int) ≤ ((l0.length : Int) : Int) := of_decide_eq_true (by first | (with_reducible assumption) | assumption)
      obtain ⟨i038, hi038, _, hsz38, _⟩ := info_parts info78
      have hroom38 : l0.length ≤ c0 := (Kd.V_reads' HO0.out).2.1
      have hC38 : Kd.F k78 _ _ A0 l0.length l0 := (Kd.V_at (base := w.heap.size) HO0.out).2.2
      have q038 : (0 : Int) ≤ (t169 : Int) := of_decide_eq_true (by first | (with_reducible assumption) | assumption)
      have hcut38 := cut_from (P := Try.prog) 72 78 .i64 Try.underlying72 hi038 3 hsz38 A0 l0.length c0 t169 q038 q38
      have hr38 := Kd.F_cut (m := (t169 : Int).toNat) (c := c0) hC38 (by omega) hroom38
      obtain ⟨A38, hA38⟩ : ∃ A1, A1 = (if c0 = (t169 : Int).toNat then A0 else (A0 : Option Addr).map (·.add ((t169 : Int).toNat * 3))) := ⟨_, rfl⟩
      obtain ⟨c38, hc38⟩ : ∃ c1, c1 = c0 - (t169 : Int).toNat := ⟨_, rfl⟩
      have hy38 : y188.length = l0.length - (t169 : Int).toNat := (by rw [Ny188.out, List.length_drop] <;> omega)
      rw [show (l0).drop (t169 : Int).toNat = y188 from Ny188.out.symm] at hr38
      replace hr38 : Kd.F k78 _ _ A38 y188.length y188 := (by rw [hA38]; exact hr38)
      rw [← hy38, ← hA38, ← hc38] at hcut38
      have HO192 := amk (show Kd.V k78 78 _ w.heap.size _ (.slice A38 y188.length c38) y188 from Kd.V_mk (by rw [hy38, hc38]; exact Nat.sub_le_sub_right hroom38 _) hr38)
      have HC192 := amk (show y188.length ≤ c38 from by rw [hy38, hc38]; exact Nat.sub_le_sub_right hroom38 _)
      clear hr38 hC38 hroom38 hi038 hsz38 hc38
      have KY38 := amk hy38
      have KA38 := amk hA38
      clear hy38 hA38
      replace q38 := eq_true q38
      have q39 : ((ji32) : Int) ≤ ((l0.length : Int) : Int) := of_decide_eq_true (by first | (with_reducible assumption) | assumption)
      obtain ⟨i039, hi039, _, hsz39, _⟩ := info_parts info78
      have hroom39 : l0.length ≤ c0 := (Kd.V_reads' HO0.out).2.1
      have hC39 : Kd.F k78 _ _ A0 l0.length l0 := (Kd.V_at (base := w.heap.size) HO0.out).2.2
      have hcut39 := cut_to (P := Try.prog) 72 78 .i64 Try.underlying72 hi039 A0 l0.length c0 (ji32) (of_decide_eq_true (by first | (with_reducible assumption) | assumption)) q39 hroom39
      have hr39 := Kd.F_take (m := ((ji32) : Int).toNat) hC39 (by omega)
      have hy39 : y193.length = ((ji32) : Int).toNat := (by rw [Ny193.out, List.length_take]; omega)
      rw [← Ny193.out] at hr39
      rw [← hy39] at hcut39
      have HO197 := amk (show Kd.V k78 78 _ w.heap.size _ (.slice A0 y193.length c0) y193 from Kd.V_mk (by omega) hr39)
      have HC197 := amk (show y193.length ≤ c0 from by omega)
      clear hr39 hC39 hroom39 hi039 hsz39
      have KY39 := amk hy39
      clear hy39
      replace q39 := eq_true q39
      refine start_ (n := 10) (S := fun w' => True) (ds := []) #[false, false, false, false, false, false, false, false, false, false] (by kernel_rfl) rfl rfl trivial (fun hHeld => ?_); refine with_tabW flat_begun.tab5 flat_begun.bits5 (fun HT_ HW_ => ?_)
      generalize w36.drew = w37 at HO0 HB HO192 HO197 hHeld ⊢
      refine pure_ (i := 0) (N := some 26) (v := ?_) (a' := ?_) #[true, false, false, false, false, false, false, false, false, false] rfl rfl (any_of HT_.out (by kernel_rfl)) (fun _ _ _ h => h) (Or.inl ⟨by rfl, ?_⟩) ?_ ?_
      rotate_left
      ·intro w'
       go_simp
       with_reducible rfl
      rotate_left
      ·simp only [Act.put, sTA, sCZ, sCS, i64_w, i32_w]
       rfl
      refine pure_ (i := 1) (N := some 27) (v := ?_) (a' := ?_) #[true, true, false, false, false, false, false, false, false, false] rfl rfl (any_of HT_.out (by kernel_rfl)) (fun _ _ _ h => h) (Or.inl ⟨by rfl, ?_⟩) ?_ ?_
      rotate_left
      ·intro w'
       go_simp
       with_reducible rfl
      rotate_left
      ·simp only [Act.put, sTA, sCZ, sCS, i64_w, i32_w]
       rfl
      refine pure_ (i := 2) (N := some 28) (v := ?_) (a' := ?_) #[true, true, true, false, false, false, false, false, false, false] rfl rfl (any_of HT_.out (by kernel_rfl)) (fun _ _ _ h => h) (Or.inl ⟨by rfl, ?_⟩) ?_ ?_
      rotate_left
      ·intro w'
       go_simp
       with_reducible rfl
      rotate_left
      ·simp only [Act.put, sTA, sCZ, sCS, i64_w, i32_w]
       rfl
      refine pure_ (i := 3) (N := some 29) (v := ?_) (a' := ?_) #[true, true, true, true, false, false, false, false, false, false] rfl rfl (any_of HT_.out (by kernel_rfl)) (fun _ _ _ h => h) (Or.inl ⟨by rfl, ?_⟩) ?_ ?_
      rotate_left
      ·intro w'
       go_simp
       with_reducible rfl
      rotate_left
      ·simp only [Act.put, sTA, sCZ, sCS, i64_w, i32_w]
       rfl
      refine pure_ (i := 4) (N := some 30) (v := ?_) (a' := ?_) #[true, true, true, true, true, false, false, false, false, false] rfl rfl (any_of HT_.out (by kernel_rfl)) (fun _ _ _ h => h) (Or.inl ⟨by rfl, ?_⟩) ?_ ?_
      rotate_left
      ·intro w'
       go_simp
       with_reducible rfl
      rotate_left
      ·simp only [Act.put, sTA, sCZ, sCS, i64_w, i32_w]
       rfl
      refine pure_ (i := 5) (N := some 31) (v := ?_) (a' := ?_) #[true, true, true, true, true, true, false, false, false, false] rfl rfl (any_of HT_.out (by kernel_rfl)) (fun _ _ _ h => h) (Or.inl ⟨by rfl, ?_⟩) ?_ ?_
      rotate_left
      ·intro w'
       go_simp
       with_reducible rfl
      rotate_left
      ·simp only [Act.put, sTA, sCZ, sCS, i64_w, i32_w]
       rfl
      refine pure_ (i := 6) (N := some 32) (v := ?_) (a' := ?_) #[true, true, true, true, true, true, true, false, false, false] rfl rfl (any_of HT_.out (by kernel_rfl)) (fun _ _ _ h => h) (Or.inl ⟨by rfl, ?_⟩) ?_ ?_
      rotate_left
      ·intro w'
       go_simp
       with_reducible rfl
      rotate_left
      ·simp only [Act.put, sTA, sCZ, sCS, i64_w, i32_w]
       rfl
      refine one_ (i := 7) (N := some 33) #[true, true, true, true, true, true, true, true, false, false] rfl rfl (one_of HT_.out (by kernel_rfl)) (by decide) (fun K hK => ?_)
      refine Kd.N_lit_step (Kd.slice 78 k78) _ 72 ?hg (N' := 33) ?hd (xs := ([y188, y193] : List (List (S78)))) (inner := [.slice A38 y188.length c38, .slice A0 y193.length c0]) (ok := (fun k_ => (P0_ k_ ∨ w.heap.size ≤ k_))) (okp := (fun k_ => (P0_ k_ ∨ w.heap.size ≤ k_))) ?hr ?hp (fun _ hk => hk) ((show ∀ k_, w37.heap.size ≤ k_ → (fun k_ => (P0_ k_ ∨ w.heap.size ≤ k_)) k_ from fun k_ hk => (.inr (Nat.le_trans (below_size (by repeat (first | (with_reducible first | exact HB.out | apply bAl | apply bDN | apply bD1) | exact HB.out))) hk))) _ (Nat.le_refl _)) (Below.refl _ _) (Nat.le_refl _) (by simp) ?_; (case hd => rfl); (case hg => rfl); (case hr => first | (go_simp; done) | (go_simp; rfl)); (case hp => exact (Reps.one (show Kd.FK (Kd.slice 78 k78) _ _ y188 [.slice A38 y188.length c38] from (Kd.FK_slice_mk (Kd.V_reads' (Kd.V_mono (ok' := (fun k_ => (P0_ k_ ∨ w.heap.size ≤ k_))) (HO192.out) (fun k_ hk => hk))).2.1 (Kd.V_F (Kd.V_mono (ok' := (fun k_ => (P0_ k_ ∨ w.heap.size ≤ k_))) (HO192.out) (fun k_ hk => hk))))) (Reps.one (show Kd.FK (Kd.slice 78 k78) _ _ y193 [.slice A0 y193.length c0] from (Kd.FK_slice_mk (Kd.V_reads' (Kd.V_mono (ok' := (fun k_ => (P0_ k_ ∨ w.heap.size ≤ k_))) (HO197.out) (fun k_ hk => hk))).2.1 (Kd.V_F (Kd.V_mono (ok' := (fun k_ => (P0_ k_ ∨ w.heap.size ≤ k_))) (HO197.out) (fun k_ hk => hk))))) (Reps.none _ _))))
      intro v199 w40 ho41 hb hg_ hnew_
      clear hg_ hnew_
      (first | rw [← Ny198.out] at ho41 | (simp only [Int.reduceToNat] at ho41; rw [← Ny198.out] at ho41))
      have n0_ := amk (Kd.V_elder' (by (with_reducible repeat (first | apply Kd.V_alloc | apply Kd.V_drewN | apply Kd.V_drew)); exact HO0.out) (Kd.N_base ho41) hb)
      have n1_ := amk (Kd.V_elder' (by (with_reducible repeat (first | apply Kd.V_alloc | apply Kd.V_drewN | apply Kd.V_drew)); exact HO192.out) (Kd.N_base ho41) hb)
      have n2_ := amk (Kd.V_elder' (by (with_reducible repeat (first | apply Kd.V_alloc | apply Kd.V_drewN | apply Kd.V_drew)); exact HO197.out) (Kd.N_base ho41) hb)
      have n3_ := amk (Kd.N_lower ho41 (below_size (by repeat (first | (with_reducible first | exact HB.out | apply bAl | apply bDN | apply bD1) | exact HB.out))))
      have n4_ := amk (below_step (by repeat (first | (with_reducible first | exact HB.out | apply bAl | apply bDN | apply bD1) | exact HB.out)) hb)
      clear HO0
      clear HO192
      clear HO197
      clear HB
      have HO0 := n0_
      have HO192 := n1_
      have HO197 := n2_
      have HO200 := n3_
      have HB := n4_
      clear n0_ n1_ n2_ n3_ n4_
      clear hb ho41
      obtain ⟨Ao42, co42, eo42⟩ := Kd.N_slice HO200.out
      (first | subst eo42 | (injection eo42 with f1_ f2_ f3_; have f4_ := f1_.symm; have f5_ := f3_.symm; clear f1_ f2_ f3_; subst f4_; subst f5_))
      refine hK.out _ _ trivial (fun hHeld => ?_)
      clear hK K
      refine norm_ (a' := ?_) ?_ ?_
      rotate_left
      ·show Act.put _ (some 33) _ = _
       simp only [Act.put, sTA, sCZ, sCS, i64_w, i32_w]
       rfl
      refine one_ (i := 8) (N := some 34) #[true, true, true, true, true, true, true, true, true, false] rfl rfl (one_of HT_.out (by kernel_rfl)) (by decide) (fun K hK => ?_)
      refine goes_ Try.func51 (by kernel_rfl) rfl #[.slice Ao42 y198.length co42] (by rfl) rfl rfl (by (try simp only [List.map_toArray, List.map_cons, List.map_nil]); first | done | rfl | (simp only [List.length_drop, List.length_take]; rfl)) ?_
      with_reducible refine (flat_place_51.calls k _ _ y198 t201 _ ?side1 ?side2 A35.out).mono ?_
      (case side1 => repeat (first | exact (Kd.N_reads' HO200.out).2.2 | (with_reducible refine Kd.C_alloc ?_ _) | (with_reducible refine Kd.C_drewN ?_ _) | (with_reducible refine Kd.C_drew ?_)))
      (case side2 => exact (Kd.N_reads' HO200.out).2.1)
      rintro e w43 ⟨v202, rfl, ho0, hb⟩
      refine ⟨_, rfl, ?_⟩
      have n0_ := amk (Kd.V_elder' (by (with_reducible repeat (first | apply Kd.V_alloc | apply Kd.V_drewN | apply Kd.V_drew)); exact HO0.out) (Kd.R_base ho0) hb)
      have n1_ := amk (Kd.V_elder' (by (with_reducible repeat (first | apply Kd.V_alloc | apply Kd.V_drewN | apply Kd.V_drew)); exact HO192.out) (Kd.R_base ho0) hb)
      have n2_ := amk (Kd.V_elder' (by (with_reducible repeat (first | apply Kd.V_alloc | apply Kd.V_drewN | apply Kd.V_drew)); exact HO197.out) (Kd.R_base ho0) hb)
      have n3_ := amk (Kd.N_elder' (by (with_reducible repeat (first | apply Kd.N_alloc | apply Kd.N_drewN | apply Kd.N_drew)); exact HO200.out) (Kd.R_base ho0) hb)
      have n4_ := amk (Kd.R_lower (Kd.R_newM (M := fun k_ => (w.heap.size ≤ k_)) ho0 (below_size (by repeat (first | (with_reducible first | exact HB.out | apply bAl | apply bDN | apply bD1) | exact HB.out))) (fun k_ h_ => h_)) (below_size (by repeat (first | (with_reducible first | exact HB.out | apply bAl | apply bDN | apply bD1) | exact HB.out))))
      have n5_ := amk (below_step (by repeat (first | (with_reducible first | exact HB.out | apply bAl | apply bDN | apply bD1) | exact HB.out)) hb)
      clear HO0
      clear HO192
      clear HO197
      clear HO200
      clear HB
      have HO0 := n0_
      have HO192 := n1_
      have HO197 := n2_
      have HO200 := n3_
      have HO203 := n4_
      have HB := n5_
      clear n0_ n1_ n2_ n3_ n4_ n5_
      (try clear hb)
      (try clear hb2)
      (try clear hk)
      (try clear hi)
      (try clear ho0)
      refine hK.out _ _ trivial (fun hHeld => ?_)
      clear hK K
      refine norm_ (a' := ?_) ?_ ?_
      rotate_left
      ·show Act.put _ (some 34) _ = _
       simp only [Act.put, sTA, sCZ, sCS, i64_w, i32_w]
       rfl
      refine pure_ (i := 9) (N := some 2) (v := ?_) (a' := ?_) #[true, true, true, true, true, true, true, true, true, true] rfl rfl (any_of HT_.out (by kernel_rfl)) (fun _ _ _ h => h) (Or.inl ⟨by rfl, ?_⟩) ?_ ?_
      rotate_left
      ·intro w'
       go_simp
       with_reducible rfl
      rotate_left
      ·simp only [Act.put, sTA, sCZ, sCS, i64_w, i32_w]
       rfl
      refine done_ (done_of HT_.out (by kernel_rfl)) ?_
      try go_wp2
      go_ret
      exact ⟨_, by first | rfl | (simp [errW_none, errW_some] <;> rfl) | (simp only [← hji32]; first | rfl | (simp [errW_none, errW_some] <;> rfl)) | (simp [*, errW_none, errW_some] <;> rfl), by (with_reducible repeat (first | apply Kd.R_alloc | apply Kd.R_drewN | apply Kd.R_drew)); exact Kd.R_mono HO203.out (fun _ hk => hk.1), by repeat (first | (with_reducible first | exact HB.out | apply bAl | apply bDN | apply bD1) | exact HB.out)⟩
     ·rw [if_neg c34] at H
      exact absurd H (by simp)
    ·rw [if_neg c33] at H
     exact absurd H (by simp)
   ·rw [if_neg c31] at H
    exact absurd H (by simp)
  ·rw [if_neg c30] at H
   exact absurd H (by simp)

/-! ### fixed_brought: function 64 -/
def fixed_brought.f (a0 : Int) (a1 : Int) (a2 : Int) : Option (Int) := some (mx a1 (mn a0 a2))
set_option maxHeartbeats 8000000 in
set_option maxRecDepth 100000 in
theorem fixed_brought.calls (a0 : Int) (a1 : Int) (a2 : Int) (r : Int) (w : World) (h : fixed_brought.f a0 a1 a2 = some r) :
  Calls Try.prog 64 #[.int .i64 a0, .int .i64 a1, .int .i64 a2] w fun e w' => e = .returned (.int .i64 r) ∧ Below w.heap.size w w' := by
 have HB := amk (Below.refl w.heap.size w)
 have H : (some (mx a1 (mn a0 a2))) = some r := h
 clear h
 obtain ⟨ji4, hji4⟩ : ∃ j_ : Int, (mn a0 a2) = j_ := ⟨_, rfl⟩
 replace H : (some (mx a1 (ji4))) = some r := by first | (rw [hji4] at H; exact H) | (simp only [hji4] at H ⊢; exact H)
 have hji4_ : (if a2 < a0 then a2 else a0) = ji4 := hji4
 obtain ⟨ji5, hji5⟩ : ∃ j_ : Int, (mx a1 (ji4)) = j_ := ⟨_, rfl⟩
 replace H : (some ji5) = some r := by first | (rw [hji5] at H; exact H) | (simp only [hji5] at H ⊢; exact H)
 have hji5_ : (if a1 < (ji4) then (ji4) else a1) = ji5 := hji5
 obtain rfl := Option.some.inj H
 go_enter Try.func64, Try.ntmps64
 go_wp2
 go_ret
 exact ⟨by first | rfl | (simp [errW_none, errW_some] <;> rfl) | (simp only [← hji4, ← hji5]; first | rfl | (simp [errW_none, errW_some] <;> rfl)) | (simp [*, errW_none, errW_some] <;> rfl), by repeat (first | (with_reducible first | exact HB.out | apply bAl | apply bDN | apply bD1) | exact HB.out)⟩

/-! ### fixed_Clip: function 58 -/
def fixed_Clip.f (a0 : Int) : Option (Int) := (fixed_brought.f a0 (-2147483647) 2147483647).bind fun t204 => (some t204)
set_option maxHeartbeats 8000000 in
set_option maxRecDepth 100000 in
theorem fixed_Clip.calls (a0 : Int) (r : Int) (w : World) (h : fixed_Clip.f a0 = some r) :
  Calls Try.prog 58 #[.int .i64 a0] w fun e w' => e = .returned (.int .i64 r) ∧ Below w.heap.size w w' := by
 have HB := amk (Below.refl w.heap.size w)
 have H : ((fixed_brought.f a0 (-2147483647) 2147483647).bind fun t204 => (some t204)) = some r := h
 clear h
 replace H := Option.bind_eq_some_iff.mp H
 obtain ⟨t204, A20, H⟩ := H
 replace H : (some t204) = some r := H
 have A2 := amk A20
 clear A20
 obtain rfl := Option.some.inj H
 go_enter Try.func58, Try.ntmps58
 go_wp2_with (first | ((with_reducible refine gate_callee (f := 64) rfl ?_); refine goesL_ (some 4) rfl rfl Try.func64 (by kernel_rfl) rfl #[.int .i64 a0, .int .i64 (-2147483647), .int .i64 2147483647] rfl (by (try simp only [List.map_toArray, List.map_cons, List.map_nil]); first | done | rfl | (simp only [List.length_drop, List.length_take]; rfl)) ?_; (with_reducible refine (fixed_brought.calls a0 (-2147483647) 2147483647 t204 _ A2.out).mono ?_); rintro e w3 ⟨rfl, hb⟩; refine ⟨_, rfl, ?_⟩; have n0_ := amk (below_step (by repeat (first | (with_reducible first | exact HB.out | apply bAl | apply bDN | apply bD1) | exact HB.out)) hb); clear HB; have HB := n0_; clear n0_; (try clear hb); (try clear hb2); (try clear hk); (try clear hi)))
 go_ret
 exact ⟨by first | rfl | (simp [errW_none, errW_some] <;> rfl) | (simp [*, errW_none, errW_some] <;> rfl), by repeat (first | (with_reducible first | exact HB.out | apply bAl | apply bDN | apply bD1) | exact HB.out)⟩

end Go.Proofs.Ytjmflccbddjlhaa.PFm
