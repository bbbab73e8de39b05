-- WRITTEN BY A PROGRAM OF THIS SESSION (wip/xprint) out of the translation. Not trusted: Lean checks it.
import Derived.Test.YtjmflccbddjlhaaPFmx0
import Derived.Test.YtjmflccbddjlhaaPFmx5
namespace Go.Proofs.Ytjmflccbddjlhaa.PFm
open Go.RowKit Go.Proofs.YtjmflccbddjlhaaW.PrintWords Go.Proofs.YtjmflccbddjlhaaW.PrintLast Go.Proofs.YtjmflccbddjlhaaW.PrintMore
attribute [local go_sem] max2_int min2_int max_two min_two max_three min_three max_four min_four   -- for this text's walks alone
set_option linter.unusedVariables false
set_option linter.unusedSimpArgs false

/-! ### affine_clipped: function 62 -/
def affine_clipped.f (a0_0 : Int) (a0_1 : Int) (a0_2 : Int) (a0_3 : Int) (a0_4 : Int) (a0_5 : Int) : Option (Int × Int × Int × Int × Int × Int) := (fixed_Clip.f a0_0).bind fun t207 => ((fixed_Clip.f a0_1).bind fun t208 => ((fixed_Clip.f a0_2).bind fun t209 => ((fixed_Clip.f a0_3).bind fun t210 => ((fixed_Clip.f a0_4).bind fun t211 => ((fixed_Clip.f a0_5).bind fun t212 => (some (t207, t208, t209, t210, t211, t212)))))))
def affine_clipped.T1 : Bool × List (List Nat × List Nat) := (true, [([], []), ([0], [0]), ([1], [1]), ([], []), ([3], [3]), ([4, 2], [4]), ([], []), ([6], [6]), ([7, 5], [7]), ([], []), ([9], [9]), ([10, 8], [10]), ([], []), ([12], [12]), ([13, 11], [13]), ([], []), ([15], [15]), ([16, 14], [16]), ([2, 5, 8, 11, 14, 17], [2, 5, 8, 11, 14, 17]), ([18, 17, 0, 1, 2, 3, 4, 5, 6, 7, 8, 9, 10, 11, 12, 13, 14, 15, 16, 17, 18], [18])])
def affine_clipped.B1 : List Nat := [0, 1, 3, 0, 8, 31, 0, 64, 255, 0, 512, 2047, 0, 4096, 16383, 0, 32768, 131071, 262143, 524287]
theorem affine_clipped.tab1 : rtab .any (opsOf Try.f62 1) = affine_clipped.T1 := by kernel_rfl
theorem affine_clipped.bits1 : waitsOk affine_clipped.T1.2 affine_clipped.B1 = true := by kernel_rfl
set_option maxHeartbeats 8000000 in
set_option maxRecDepth 100000 in
theorem affine_clipped.calls (a0_0 : Int) (a0_1 : Int) (a0_2 : Int) (a0_3 : Int) (a0_4 : Int) (a0_5 : Int) (r1 : Int) (r2 : Int) (r3 : Int) (r4 : Int) (r5 : Int) (r6 : Int) (w : World) (h : affine_clipped.f a0_0 a0_1 a0_2 a0_3 a0_4 a0_5 = some (r1, r2, r3, r4, r5, r6)) :
  Calls Try.prog 62 #[.agg #[.int .i64 a0_0, .int .i64 a0_1, .int .i64 a0_2, .int .i64 a0_3, .int .i64 a0_4, .int .i64 a0_5]] w fun e w' => e = .returned (.agg #[.int .i64 r1, .int .i64 r2, .int .i64 r3, .int .i64 r4, .int .i64 r5, .int .i64 r6]) ∧ Below w.heap.size w w' := by
 have hu26 := Try.underlying26
 have HB := amk (Below.refl w.heap.size w)
 have H : ((fixed_Clip.f a0_0).bind fun t207 => ((fixed_Clip.f a0_1).bind fun t208 => ((fixed_Clip.f a0_2).bind fun t209 => ((fixed_Clip.f a0_3).bind fun t210 => ((fixed_Clip.f a0_4).bind fun t211 => ((fixed_Clip.f a0_5).bind fun t212 => (some (t207, t208, t209, t210, t211, t212)))))))) = some (r1, r2, r3, r4, r5, r6) := h
 clear h
 replace H := Option.bind_eq_some_iff.mp H
 obtain ⟨t207, A20, H⟩ := H
 replace H : ((fixed_Clip.f a0_1).bind fun t208 => ((fixed_Clip.f a0_2).bind fun t209 => ((fixed_Clip.f a0_3).bind fun t210 => ((fixed_Clip.f a0_4).bind fun t211 => ((fixed_Clip.f a0_5).bind fun t212 => (some (t207, t208, t209, t210, t211, t212))))))) = some (r1, r2, r3, r4, r5, r6) := H
 have A2 := amk A20
 clear A20
 replace H := Option.bind_eq_some_iff.mp H
 obtain ⟨t208, A30, H⟩ := H
 replace H : ((fixed_Clip.f a0_2).bind fun t209 => ((fixed_Clip.f a0_3).bind fun t210 => ((fixed_Clip.f a0_4).bind fun t211 => ((fixed_Clip.f a0_5).bind fun t212 => (some (t207, t208, t209, t210, t211, t212)))))) = some (r1, r2, r3, r4, r5, r6) := H
 have A3 := amk A30
 clear A30
 replace H := Option.bind_eq_some_iff.mp H
 obtain ⟨t209, A40, H⟩ := H
 replace H : ((fixed_Clip.f a0_3).bind fun t210 => ((fixed_Clip.f a0_4).bind fun t211 => ((fixed_Clip.f a0_5).bind fun t212 => (some (t207, t208, t209, t210, t211, t212))))) = some (r1, r2, r3, r4, r5, r6) := H
 have A4 := amk A40
 clear A40
 replace H := Option.bind_eq_some_iff.mp H
 obtain ⟨t210, A50, H⟩ := H
 replace H : ((fixed_Clip.f a0_4).bind fun t211 => ((fixed_Clip.f a0_5).bind fun t212 => (some (t207, t208, t209, t210, t211, t212)))) = some (r1, r2, r3, r4, r5, r6) := H
 have A5 := amk A50
 clear A50
 replace H := Option.bind_eq_some_iff.mp H
 obtain ⟨t211, A60, H⟩ := H
 replace H : ((fixed_Clip.f a0_5).bind fun t212 => (some (t207, t208, t209, t210, t211, t212))) = some (r1, r2, r3, r4, r5, r6) := H
 have A6 := amk A60
 clear A60
 replace H := Option.bind_eq_some_iff.mp H
 obtain ⟨t212, A70, H⟩ := H
 replace H : (some (t207, t208, t209, t210, t211, t212)) = some (r1, r2, r3, r4, r5, r6) := H
 have A7 := amk A70
 clear A70
 simp only [Option.some.injEq, Prod.mk.injEq] at H
 obtain ⟨rfl, rfl, rfl, rfl, rfl, rfl⟩ := H
 go_enter Try.func62, Try.ntmps62
 try go_wp2_with (first | ((with_reducible refine gate_dst (N := 1) rfl ?_); refine box_event ?hg (N := 1) ?hd (cs := #[.int .i64 a0_0, .int .i64 a0_1, .int .i64 a0_2, .int .i64 a0_3, .int .i64 a0_4, .int .i64 a0_5]) (t := 26) ?hr ?_; (case hd => rfl); (case hg => rfl); (case hr => first | (go_simp; done) | (go_simp; rfl)); intro gb205 hg w8 hbox hb; have n0_ := amk (below_step (by repeat (first | (with_reducible first | exact HB.out | apply bAl | apply bDN | apply bD1) | exact HB.out)) hb); have n1_ := amk (hbox); have n2_ := amk ((by rw [hg]; exact (below_size (by repeat (first | (with_reducible first | exact HB.out | apply bAl | apply bDN | apply bD1) | exact HB.out))) : w.heap.size ≤ gb205)); have n3_ := amk ((by rw [hg]; exact (below_size (by repeat (first | (with_reducible first | exact HB.out | apply bAl | apply bDN | apply bD1) | exact HB.out))) : w.heap.size ≤ gb205)); clear HB; have HB := n0_; have BK205 := n1_; have GW205 := n2_; have GE205 := n3_; clear n0_ n1_ n2_ n3_; clear hb hbox hg) | ((with_reducible refine gate_dst (N := 2) rfl ?_); refine box_event ?hg (N := 2) ?hd (cs := #[.int .i64 0, .int .i64 0, .int .i64 0, .int .i64 0, .int .i64 0, .int .i64 0]) (t := 26) ?hr ?_; (case hd => rfl); (case hg => rfl); (case hr => first | (go_simp; done) | (go_simp; rfl)); intro gb206 hg w9 hbox hb; have n0_ := amk (blk_below (g := gb205) (o := .cells #[.int .i64 a0_0, .int .i64 a0_1, .int .i64 a0_2, .int .i64 a0_3, .int .i64 a0_4, .int .i64 a0_5] 26 (0, 0)) (by (with_reducible repeat first | apply kN | apply kD | apply kA); exact BK205.out) hb); have n1_ := amk (below_step (by repeat (first | (with_reducible first | exact HB.out | apply bAl | apply bDN | apply bD1 | refine bSe ?_ GE205.out) | exact HB.out)) hb); have n2_ := amk (hbox); have n3_ := amk ((by rw [hg]; exact (below_size (by repeat (first | (with_reducible first | exact HB.out | apply bAl | apply bDN | apply bD1 | refine bSe ?_ GE205.out) | exact HB.out))) : w.heap.size ≤ gb206)); have n4_ := amk ((by rw [hg]; exact (below_size (by repeat (first | (with_reducible first | exact HB.out | apply bAl | apply bDN | apply bD1 | refine bSe ?_ GE205.out) | exact HB.out))) : w.heap.size ≤ gb206)); have n5_ := amk ((by rw [hg]; exact Nat.ne_of_lt (blk_lt (g := gb205) (o := .cells #[.int .i64 a0_0, .int .i64 a0_1, .int .i64 a0_2, .int .i64 a0_3, .int .i64 a0_4, .int .i64 a0_5] 26 (0, 0)) (by (with_reducible repeat first | apply kN | apply kD | apply kA); exact BK205.out)) : gb205 ≠ gb206)); have n6_ := amk ((by rw [hg]; exact Nat.ne_of_gt (blk_lt (g := gb205) (o := .cells #[.int .i64 a0_0, .int .i64 a0_1, .int .i64 a0_2, .int .i64 a0_3, .int .i64 a0_4, .int .i64 a0_5] 26 (0, 0)) (by (with_reducible repeat first | apply kN | apply kD | apply kA); exact BK205.out)) : gb206 ≠ gb205)); clear BK205; clear HB; have BK205 := n0_; have HB := n1_; have BK206 := n2_; have GW206 := n3_; have GE206 := n4_; have NB205_206 := n5_; have NB206_205 := n6_; clear n0_ n1_ n2_ n3_ n4_ n5_ n6_; clear hb hbox hg))
 have n0_ := amk (blk_drew BK205.out)
 have n1_ := amk (blk_drew BK206.out)
 have n2_ := amk (bD1 HB.out)
 clear BK205
 clear BK206
 clear HB
 have BK205 := n0_
 have BK206 := n1_
 have HB := n2_
 clear n0_ n1_ n2_
 refine start_ (n := 20) (S := fun w' => w'.cell? ⟨gb205, 0, none⟩ = some (.int .i64 a0_0) ∧ w'.cell? ⟨gb205, 1, none⟩ = some (.int .i64 a0_1) ∧ w'.cell? ⟨gb205, 2, none⟩ = some (.int .i64 a0_2) ∧ w'.cell? ⟨gb205, 3, none⟩ = some (.int .i64 a0_3) ∧ w'.cell? ⟨gb205, 4, none⟩ = some (.int .i64 a0_4) ∧ w'.cell? ⟨gb205, 5, none⟩ = some (.int .i64 a0_5)) (ds := []) #[false, false, false, false, false, false, false, false, false, false, false, false, false, false, false, false, false, false, false, false] (by kernel_rfl) rfl rfl ⟨(blk_cell BK205.out 0).trans rfl, (blk_cell BK205.out 1).trans rfl, (blk_cell BK205.out 2).trans rfl, (blk_cell BK205.out 3).trans rfl, (blk_cell BK205.out 4).trans rfl, (blk_cell BK205.out 5).trans rfl⟩ (fun hHeld => ?_); refine with_tabW affine_clipped.tab1 affine_clipped.bits1 (fun HT_ HW_ => ?_)
 generalize w9.drew = w10 at BK205 BK206 HB hHeld ⊢
 refine pure_ (i := 0) (N := some 3) (v := ?_) (a' := ?_) #[true, false, false, false, false, false, false, false, false, false, false, false, false, false, false, false, false, false, false, false] rfl rfl (any_of HT_.out (by kernel_rfl)) (fun _ _ _ h => h) (Or.inl ⟨by rfl, ?_⟩) ?_ ?_
 rotate_left
 ·intro w'
  go_simp
  with_reducible rfl
 rotate_left
 ·simp only [Act.put, sTA, sCZ, sCS, i64_w, i32_w]
  rfl
 refine pure_ (i := 3) (N := some 6) (v := ?_) (a' := ?_) #[true, false, false, true, false, false, false, false, false, false, false, false, false, false, false, false, false, false, false, false] rfl rfl (any_of HT_.out (by kernel_rfl)) (fun _ _ _ h => h) (Or.inl ⟨by rfl, ?_⟩) ?_ ?_
 rotate_left
 ·intro w'
  go_simp
  with_reducible rfl
 rotate_left
 ·simp only [Act.put, sTA, sCZ, sCS, i64_w, i32_w]
  rfl
 refine pure_ (i := 6) (N := some 9) (v := ?_) (a' := ?_) #[true, false, false, true, false, false, true, false, false, false, false, false, false, false, false, false, false, false, false, false] rfl rfl (any_of HT_.out (by kernel_rfl)) (fun _ _ _ h => h) (Or.inl ⟨by rfl, ?_⟩) ?_ ?_
 rotate_left
 ·intro w'
  go_simp
  with_reducible rfl
 rotate_left
 ·simp only [Act.put, sTA, sCZ, sCS, i64_w, i32_w]
  rfl
 refine pure_ (i := 9) (N := some 12) (v := ?_) (a' := ?_) #[true, false, false, true, false, false, true, false, false, true, false, false, false, false, false, false, false, false, false, false] rfl rfl (any_of HT_.out (by kernel_rfl)) (fun _ _ _ h => h) (Or.inl ⟨by rfl, ?_⟩) ?_ ?_
 rotate_left
 ·intro w'
  go_simp
  with_reducible rfl
 rotate_left
 ·simp only [Act.put, sTA, sCZ, sCS, i64_w, i32_w]
  rfl
 refine pure_ (i := 12) (N := some 15) (v := ?_) (a' := ?_) #[true, false, false, true, false, false, true, false, false, true, false, false, true, false, false, false, false, false, false, false] rfl rfl (any_of HT_.out (by kernel_rfl)) (fun _ _ _ h => h) (Or.inl ⟨by rfl, ?_⟩) ?_ ?_
 rotate_left
 ·intro w'
  go_simp
  with_reducible rfl
 rotate_left
 ·simp only [Act.put, sTA, sCZ, sCS, i64_w, i32_w]
  rfl
 refine pure_ (i := 15) (N := some 18) (v := ?_) (a' := ?_) #[true, false, false, true, false, false, true, false, false, true, false, false, true, false, false, true, false, false, false, false] rfl rfl (any_of HT_.out (by kernel_rfl)) (fun _ _ _ h => h) (Or.inl ⟨by rfl, ?_⟩) ?_ ?_
 rotate_left
 ·intro w'
  go_simp
  with_reducible rfl
 rotate_left
 ·simp only [Act.put, sTA, sCZ, sCS, i64_w, i32_w]
  rfl
 refine take_ (i := 1) (N := some 4) (v := ?_) (a' := ?_) #[true, true, false, true, false, false, true, false, false, true, false, false, true, false, false, true, false, false, false, false] rfl rfl (take_ofW HT_.out HW_.out (by kernel_rfl)) (fun _ _ _ h => h) (Or.inl ⟨by rfl, ?_⟩) hHeld ?_ ?_
 rotate_left
 ·rintro w' ⟨s0, s1, s2, s3, s4, s5⟩
  go_simp
  with_reducible rfl
 rotate_left
 ·simp only [Act.put, sTA, sCZ, sCS, i64_w, i32_w]
  rfl
 refine take_ (i := 4) (N := some 7) (v := ?_) (a' := ?_) #[true, true, false, true, true, false, true, false, false, true, false, false, true, false, false, true, false, false, false, false] rfl rfl (take_ofW HT_.out HW_.out (by kernel_rfl)) (fun _ _ _ h => h) (Or.inl ⟨by rfl, ?_⟩) hHeld ?_ ?_
 rotate_left
 ·rintro w' ⟨s0, s1, s2, s3, s4, s5⟩
  go_simp
  with_reducible rfl
 rotate_left
 ·simp only [Act.put, sTA, sCZ, sCS, i64_w, i32_w]
  rfl
 refine take_ (i := 7) (N := some 10) (v := ?_) (a' := ?_) #[true, true, false, true, true, false, true, true, false, true, false, false, true, false, false, true, false, false, false, false] rfl rfl (take_ofW HT_.out HW_.out (by kernel_rfl)) (fun _ _ _ h => h) (Or.inl ⟨by rfl, ?_⟩) hHeld ?_ ?_
 rotate_left
 ·rintro w' ⟨s0, s1, s2, s3, s4, s5⟩
  go_simp
  with_reducible rfl
 rotate_left
 ·simp only [Act.put, sTA, sCZ, sCS, i64_w, i32_w]
  rfl
 refine take_ (i := 10) (N := some 13) (v := ?_) (a' := ?_) #[true, true, false, true, true, false, true, true, false, true, true, false, true, false, false, true, false, false, false, false] rfl rfl (take_ofW HT_.out HW_.out (by kernel_rfl)) (fun _ _ _ h => h) (Or.inl ⟨by rfl, ?_⟩) hHeld ?_ ?_
 rotate_left
 ·rintro w' ⟨s0, s1, s2, s3, s4, s5⟩
  go_simp
  with_reducible rfl
 rotate_left
 ·simp only [Act.put, sTA, sCZ, sCS, i64_w, i32_w]
  rfl
 refine take_ (i := 13) (N := some 16) (v := ?_) (a' := ?_) #[true, true, false, true, true, false, true, true, false, true, true, false, true, true, false, true, false, false, false, false] rfl rfl (take_ofW HT_.out HW_.out (by kernel_rfl)) (fun _ _ _ h => h) (Or.inl ⟨by rfl, ?_⟩) hHeld ?_ ?_
 rotate_left
 ·rintro w' ⟨s0, s1, s2, s3, s4, s5⟩
  go_simp
  with_reducible rfl
 rotate_left
 ·simp only [Act.put, sTA, sCZ, sCS, i64_w, i32_w]
  rfl
 refine take_ (i := 16) (N := some 19) (v := ?_) (a' := ?_) #[true, true, false, true, true, false, true, true, false, true, true, false, true, true, false, true, true, false, false, false] rfl rfl (take_ofW HT_.out HW_.out (by kernel_rfl)) (fun _ _ _ h => h) (Or.inl ⟨by rfl, ?_⟩) hHeld ?_ ?_
 rotate_left
 ·rintro w' ⟨s0, s1, s2, s3, s4, s5⟩
  go_simp
  with_reducible rfl
 rotate_left
 ·simp only [Act.put, sTA, sCZ, sCS, i64_w, i32_w]
  rfl
 refine one_ (i := 2) (N := some 5) #[true, true, true, true, true, false, true, true, false, true, true, false, true, true, false, true, true, false, false, false] rfl rfl (one_of HT_.out (by kernel_rfl)) (by decide) (fun K hK => ?_)
 refine goes_ Try.func58 (by kernel_rfl) rfl #[.int .i64 a0_0] (by rfl) rfl rfl (by (try simp only [List.map_toArray, List.map_cons, List.map_nil]); first | done | rfl | (simp only [List.length_drop, List.length_take]; rfl)) ?_
 with_reducible refine (fixed_Clip.calls a0_0 t207 _ A2.out).mono ?_
 rintro e w11 ⟨rfl, hb⟩
 refine ⟨_, rfl, ?_⟩
 have n0_ := amk (blk_below (g := gb205) (o := .cells #[.int .i64 a0_0, .int .i64 a0_1, .int .i64 a0_2, .int .i64 a0_3, .int .i64 a0_4, .int .i64 a0_5] 26 (0, 0)) (by (with_reducible repeat first | apply kN | apply kD | apply kA); exact BK205.out) hb)
 have n1_ := amk (blk_below (g := gb206) (o := .cells #[.int .i64 0, .int .i64 0, .int .i64 0, .int .i64 0, .int .i64 0, .int .i64 0] 26 (0, 0)) (by (with_reducible repeat first | apply kN | apply kD | apply kA); exact BK206.out) hb)
 have n2_ := amk (below_step (by repeat (first | (with_reducible first | exact HB.out | apply bAl | apply bDN | apply bD1 | refine bSe ?_ GE205.out | refine bSe ?_ GE206.out) | exact HB.out)) hb)
 clear BK205
 clear BK206
 clear HB
 have BK205 := n0_
 have BK206 := n1_
 have HB := n2_
 clear n0_ n1_ n2_
 (try clear hb)
 (try clear hb2)
 (try clear hk)
 (try clear hi)
 refine hK.out _ _ ⟨(blk_cell BK205.out 0).trans rfl, (blk_cell BK205.out 1).trans rfl, (blk_cell BK205.out 2).trans rfl, (blk_cell BK205.out 3).trans rfl, (blk_cell BK205.out 4).trans rfl, (blk_cell BK205.out 5).trans rfl⟩ (fun hHeld => ?_)
 clear hK K
 refine norm_ (a' := ?_) ?_ ?_
 rotate_left
 ·show Act.put _ (some 5) _ = _
  simp only [Act.put, sTA, sCZ, sCS, i64_w, i32_w]
  rfl
 refine one_ (i := 5) (N := some 8) #[true, true, true, true, true, true, true, true, false, true, true, false, true, true, false, true, true, false, false, false] rfl rfl (one_of HT_.out (by kernel_rfl)) (by decide) (fun K hK => ?_)
 refine goes_ Try.func58 (by kernel_rfl) rfl #[.int .i64 a0_1] (by rfl) rfl rfl (by (try simp only [List.map_toArray, List.map_cons, List.map_nil]); first | done | rfl | (simp only [List.length_drop, List.length_take]; rfl)) ?_
 with_reducible refine (fixed_Clip.calls a0_1 t208 _ A3.out).mono ?_
 rintro e w12 ⟨rfl, hb⟩
 refine ⟨_, rfl, ?_⟩
 have n0_ := amk (blk_below (g := gb205) (o := .cells #[.int .i64 a0_0, .int .i64 a0_1, .int .i64 a0_2, .int .i64 a0_3, .int .i64 a0_4, .int .i64 a0_5] 26 (0, 0)) (by (with_reducible repeat first | apply kN | apply kD | apply kA); exact BK205.out) hb)
 have n1_ := amk (blk_below (g := gb206) (o := .cells #[.int .i64 0, .int .i64 0, .int .i64 0, .int .i64 0, .int .i64 0, .int .i64 0] 26 (0, 0)) (by (with_reducible repeat first | apply kN | apply kD | apply kA); exact BK206.out) hb)
 have n2_ := amk (below_step (by repeat (first | (with_reducible first | exact HB.out | apply bAl | apply bDN | apply bD1 | refine bSe ?_ GE205.out | refine bSe ?_ GE206.out) | exact HB.out)) hb)
 clear BK205
 clear BK206
 clear HB
 have BK205 := n0_
 have BK206 := n1_
 have HB := n2_
 clear n0_ n1_ n2_
 (try clear hb)
 (try clear hb2)
 (try clear hk)
 (try clear hi)
 refine hK.out _ _ ⟨(blk_cell BK205.out 0).trans rfl, (blk_cell BK205.out 1).trans rfl, (blk_cell BK205.out 2).trans rfl, (blk_cell BK205.out 3).trans rfl, (blk_cell BK205.out 4).trans rfl, (blk_cell BK205.out 5).trans rfl⟩ (fun hHeld => ?_)
 clear hK K
 refine norm_ (a' := ?_) ?_ ?_
 rotate_left
 ·show Act.put _ (some 8) _ = _
  simp only [Act.put, sTA, sCZ, sCS, i64_w, i32_w]
  rfl
 refine one_ (i := 8) (N := some 11) #[true, true, true, true, true, true, true, true, true, true, true, false, true, true, false, true, true, false, false, false] rfl rfl (one_of HT_.out (by kernel_rfl)) (by decide) (fun K hK => ?_)
 refine goes_ Try.func58 (by kernel_rfl) rfl #[.int .i64 a0_2] (by rfl) rfl rfl (by (try simp only [List.map_toArray, List.map_cons, List.map_nil]); first | done | rfl | (simp only [List.length_drop, List.length_take]; rfl)) ?_
 with_reducible refine (fixed_Clip.calls a0_2 t209 _ A4.out).mono ?_
 rintro e w13 ⟨rfl, hb⟩
 refine ⟨_, rfl, ?_⟩
 have n0_ := amk (blk_below (g := gb205) (o := .cells #[.int .i64 a0_0, .int .i64 a0_1, .int .i64 a0_2, .int .i64 a0_3, .int .i64 a0_4, .int .i64 a0_5] 26 (0, 0)) (by (with_reducible repeat first | apply kN | apply kD | apply kA); exact BK205.out) hb)
 have n1_ := amk (blk_below (g := gb206) (o := .cells #[.int .i64 0, .int .i64 0, .int .i64 0, .int .i64 0, .int .i64 0, .int .i64 0] 26 (0, 0)) (by (with_reducible repeat first | apply kN | apply kD | apply kA); exact BK206.out) hb)
 have n2_ := amk (below_step (by repeat (first | (with_reducible first | exact HB.out | apply bAl | apply bDN | apply bD1 | refine bSe ?_ GE205.out | refine bSe ?_ GE206.out) | exact HB.out)) hb)
 clear BK205
 clear BK206
 clear HB
 have BK205 := n0_
 have BK206 := n1_
 have HB := n2_
 clear n0_ n1_ n2_
 (try clear hb)
 (try clear hb2)
 (try clear hk)
 (try clear hi)
 refine hK.out _ _ ⟨(blk_cell BK205.out 0).trans rfl, (blk_cell BK205.out 1).trans rfl, (blk_cell BK205.out 2).trans rfl, (blk_cell BK205.out 3).trans rfl, (blk_cell BK205.out 4).trans rfl, (blk_cell BK205.out 5).trans rfl⟩ (fun hHeld => ?_)
 clear hK K
 refine norm_ (a' := ?_) ?_ ?_
 rotate_left
 ·show Act.put _ (some 11) _ = _
  simp only [Act.put, sTA, sCZ, sCS, i64_w, i32_w]
  rfl
 refine one_ (i := 11) (N := some 14) #[true, true, true, true, true, true, true, true, true, true, true, true, true, true, false, true, true, false, false, false] rfl rfl (one_of HT_.out (by kernel_rfl)) (by decide) (fun K hK => ?_)
 refine goes_ Try.func58 (by kernel_rfl) rfl #[.int .i64 a0_3] (by rfl) rfl rfl (by (try simp only [List.map_toArray, List.map_cons, List.map_nil]); first | done | rfl | (simp only [List.length_drop, List.length_take]; rfl)) ?_
 with_reducible refine (fixed_Clip.calls a0_3 t210 _ A5.out).mono ?_
 rintro e w14 ⟨rfl, hb⟩
 refine ⟨_, rfl, ?_⟩
 have n0_ := amk (blk_below (g := gb205) (o := .cells #[.int .i64 a0_0, .int .i64 a0_1, .int .i64 a0_2, .int .i64 a0_3, .int .i64 a0_4, .int .i64 a0_5] 26 (0, 0)) (by (with_reducible repeat first | apply kN | apply kD | apply kA); exact BK205.out) hb)
 have n1_ := amk (blk_below (g := gb206) (o := .cells #[.int .i64 0, .int .i64 0, .int .i64 0, .int .i64 0, .int .i64 0, .int .i64 0] 26 (0, 0)) (by (with_reducible repeat first | apply kN | apply kD | apply kA); exact BK206.out) hb)
 have n2_ := amk (below_step (by repeat (first | (with_reducible first | exact HB.out | apply bAl | apply bDN | apply bD1 | refine bSe ?_ GE205.out | refine bSe ?_ GE206.out) | exact HB.out)) hb)
 clear BK205
 clear BK206
 clear HB
 have BK205 := n0_
 have BK206 := n1_
 have HB := n2_
 clear n0_ n1_ n2_
 (try clear hb)
 (try clear hb2)
 (try clear hk)
 (try clear hi)
 refine hK.out _ _ ⟨(blk_cell BK205.out 0).trans rfl, (blk_cell BK205.out 1).trans rfl, (blk_cell BK205.out 2).trans rfl, (blk_cell BK205.out 3).trans rfl, (blk_cell BK205.out 4).trans rfl, (blk_cell BK205.out 5).trans rfl⟩ (fun hHeld => ?_)
 clear hK K
 refine norm_ (a' := ?_) ?_ ?_
 rotate_left
 ·show Act.put _ (some 14) _ = _
  simp only [Act.put, sTA, sCZ, sCS, i64_w, i32_w]
  rfl
 refine one_ (i := 14) (N := some 17) #[true, true, true, true, true, true, true, true, true, true, true, true, true, true, true, true, true, false, false, false] rfl rfl (one_of HT_.out (by kernel_rfl)) (by decide) (fun K hK => ?_)
 refine goes_ Try.func58 (by kernel_rfl) rfl #[.int .i64 a0_4] (by rfl) rfl rfl (by (try simp only [List.map_toArray, List.map_cons, List.map_nil]); first | done | rfl | (simp only [List.length_drop, List.length_take]; rfl)) ?_
 with_reducible refine (fixed_Clip.calls a0_4 t211 _ A6.out).mono ?_
 rintro e w15 ⟨rfl, hb⟩
 refine ⟨_, rfl, ?_⟩
 have n0_ := amk (blk_below (g := gb205) (o := .cells #[.int .i64 a0_0, .int .i64 a0_1, .int .i64 a0_2, .int .i64 a0_3, .int .i64 a0_4, .int .i64 a0_5] 26 (0, 0)) (by (with_reducible repeat first | apply kN | apply kD | apply kA); exact BK205.out) hb)
 have n1_ := amk (blk_below (g := gb206) (o := .cells #[.int .i64 0, .int .i64 0, .int .i64 0, .int .i64 0, .int .i64 0, .int .i64 0] 26 (0, 0)) (by (with_reducible repeat first | apply kN | apply kD | apply kA); exact BK206.out) hb)
 have n2_ := amk (below_step (by repeat (first | (with_reducible first | exact HB.out | apply bAl | apply bDN | apply bD1 | refine bSe ?_ GE205.out | refine bSe ?_ GE206.out) | exact HB.out)) hb)
 clear BK205
 clear BK206
 clear HB
 have BK205 := n0_
 have BK206 := n1_
 have HB := n2_
 clear n0_ n1_ n2_
 (try clear hb)
 (try clear hb2)
 (try clear hk)
 (try clear hi)
 refine hK.out _ _ ⟨(blk_cell BK205.out 0).trans rfl, (blk_cell BK205.out 1).trans rfl, (blk_cell BK205.out 2).trans rfl, (blk_cell BK205.out 3).trans rfl, (blk_cell BK205.out 4).trans rfl, (blk_cell BK205.out 5).trans rfl⟩ (fun hHeld => ?_)
 clear hK K
 refine norm_ (a' := ?_) ?_ ?_
 rotate_left
 ·show Act.put _ (some 17) _ = _
  simp only [Act.put, sTA, sCZ, sCS, i64_w, i32_w]
  rfl
 refine one_ (i := 17) (N := some 20) #[true, true, true, true, true, true, true, true, true, true, true, true, true, true, true, true, true, true, false, false] rfl rfl (one_of HT_.out (by kernel_rfl)) (by decide) (fun K hK => ?_)
 refine goes_ Try.func58 (by kernel_rfl) rfl #[.int .i64 a0_5] (by rfl) rfl rfl (by (try simp only [List.map_toArray, List.map_cons, List.map_nil]); first | done | rfl | (simp only [List.length_drop, List.length_take]; rfl)) ?_
 with_reducible refine (fixed_Clip.calls a0_5 t212 _ A7.out).mono ?_
 rintro e w16 ⟨rfl, hb⟩
 refine ⟨_, rfl, ?_⟩
 have n0_ := amk (blk_below (g := gb205) (o := .cells #[.int .i64 a0_0, .int .i64 a0_1, .int .i64 a0_2, .int .i64 a0_3, .int .i64 a0_4, .int .i64 a0_5] 26 (0, 0)) (by (with_reducible repeat first | apply kN | apply kD | apply kA); exact BK205.out) hb)
 have n1_ := amk (blk_below (g := gb206) (o := .cells #[.int .i64 0, .int .i64 0, .int .i64 0, .int .i64 0, .int .i64 0, .int .i64 0] 26 (0, 0)) (by (with_reducible repeat first | apply kN | apply kD | apply kA); exact BK206.out) hb)
 have n2_ := amk (below_step (by repeat (first | (with_reducible first | exact HB.out | apply bAl | apply bDN | apply bD1 | refine bSe ?_ GE205.out | refine bSe ?_ GE206.out) | exact HB.out)) hb)
 clear BK205
 clear BK206
 clear HB
 have BK205 := n0_
 have BK206 := n1_
 have HB := n2_
 clear n0_ n1_ n2_
 (try clear hb)
 (try clear hb2)
 (try clear hk)
 (try clear hi)
 refine hK.out _ _ ⟨(blk_cell BK205.out 0).trans rfl, (blk_cell BK205.out 1).trans rfl, (blk_cell BK205.out 2).trans rfl, (blk_cell BK205.out 3).trans rfl, (blk_cell BK205.out 4).trans rfl, (blk_cell BK205.out 5).trans rfl⟩ (fun hHeld => ?_)
 clear hK K
 refine norm_ (a' := ?_) ?_ ?_
 rotate_left
 ·show Act.put _ (some 20) _ = _
  simp only [Act.put, sTA, sCZ, sCS, i64_w, i32_w]
  rfl
 refine pure_ (i := 18) (N := some 21) (v := ?_) (a' := ?_) #[true, true, true, true, true, true, true, true, true, true, true, true, true, true, true, true, true, true, true, false] rfl rfl (any_of HT_.out (by kernel_rfl)) (fun _ _ _ h => h) (Or.inl ⟨by rfl, ?_⟩) ?_ ?_
 rotate_left
 ·intro w'
  go_simp
  with_reducible rfl
 rotate_left
 ·simp only [Act.put, sTA, sCZ, sCS, i64_w, i32_w]
  rfl
 refine one_ (i := 19) (N := none) #[true, true, true, true, true, true, true, true, true, true, true, true, true, true, true, true, true, true, true, true] rfl rfl (one_of HT_.out (by kernel_rfl)) (by decide) (fun K hK => ?_)
 have hs17 : w16.cell? ⟨gb206, 0, none⟩ = some (.int .i64 0) := (blk_cell BK206.out 0).trans rfl
 have hfs17 := blk_frozen BK206.out 0
 have hns17_0 := NB205_206.out
 have hms17_0 := NB206_205.out
 have hs18 : w16.cell? ⟨gb206, 1, none⟩ = some (.int .i64 0) := (blk_cell BK206.out 1).trans rfl
 have hfs18 := blk_frozen BK206.out 1
 have hns18_0 := NB205_206.out
 have hms18_0 := NB206_205.out
 have hs19 : w16.cell? ⟨gb206, 2, none⟩ = some (.int .i64 0) := (blk_cell BK206.out 2).trans rfl
 have hfs19 := blk_frozen BK206.out 2
 have hns19_0 := NB205_206.out
 have hms19_0 := NB206_205.out
 have hs20 : w16.cell? ⟨gb206, 3, none⟩ = some (.int .i64 0) := (blk_cell BK206.out 3).trans rfl
 have hfs20 := blk_frozen BK206.out 3
 have hns20_0 := NB205_206.out
 have hms20_0 := NB206_205.out
 have hs21 : w16.cell? ⟨gb206, 4, none⟩ = some (.int .i64 0) := (blk_cell BK206.out 4).trans rfl
 have hfs21 := blk_frozen BK206.out 4
 have hns21_0 := NB205_206.out
 have hms21_0 := NB206_205.out
 have hs22 : w16.cell? ⟨gb206, 5, none⟩ = some (.int .i64 0) := (blk_cell BK206.out 5).trans rfl
 have hfs22 := blk_frozen BK206.out 5
 have hns22_0 := NB205_206.out
 have hms22_0 := NB206_205.out
 refine skip_ (w1 := ?_) (by rfl) rfl ?_ ?_
 rotate_left
 ·go_simp
  rfl
 refine hK.out _ _ ⟨((cell_far (p := ⟨gb206, _, none⟩) NB205_206.out _).trans (((cell_far (p := ⟨gb206, _, none⟩) NB205_206.out _).trans (((cell_far (p := ⟨gb206, _, none⟩) NB205_206.out _).trans (((cell_far (p := ⟨gb206, _, none⟩) NB205_206.out _).trans (((cell_far (p := ⟨gb206, _, none⟩) NB205_206.out _).trans (((cell_far (p := ⟨gb206, _, none⟩) NB205_206.out _).trans (hHeld.1)))))))))))), ((cell_far (p := ⟨gb206, _, none⟩) NB205_206.out _).trans (((cell_far (p := ⟨gb206, _, none⟩) NB205_206.out _).trans (((cell_far (p := ⟨gb206, _, none⟩) NB205_206.out _).trans (((cell_far (p := ⟨gb206, _, none⟩) NB205_206.out _).trans (((cell_far (p := ⟨gb206, _, none⟩) NB205_206.out _).trans (((cell_far (p := ⟨gb206, _, none⟩) NB205_206.out _).trans (hHeld.2.1)))))))))))), ((cell_far (p := ⟨gb206, _, none⟩) NB205_206.out _).trans (((cell_far (p := ⟨gb206, _, none⟩) NB205_206.out _).trans (((cell_far (p := ⟨gb206, _, none⟩) NB205_206.out _).trans (((cell_far (p := ⟨gb206, _, none⟩) NB205_206.out _).trans (((cell_far (p := ⟨gb206, _, none⟩) NB205_206.out _).trans (((cell_far (p := ⟨gb206, _, none⟩) NB205_206.out _).trans (hHeld.2.2.1)))))))))))), ((cell_far (p := ⟨gb206, _, none⟩) NB205_206.out _).trans (((cell_far (p := ⟨gb206, _, none⟩) NB205_206.out _).trans (((cell_far (p := ⟨gb206, _, none⟩) NB205_206.out _).trans (((cell_far (p := ⟨gb206, _, none⟩) NB205_206.out _).trans (((cell_far (p := ⟨gb206, _, none⟩) NB205_206.out _).trans (((cell_far (p := ⟨gb206, _, none⟩) NB205_206.out _).trans (hHeld.2.2.2.1)))))))))))), ((cell_far (p := ⟨gb206, _, none⟩) NB205_206.out _).trans (((cell_far (p := ⟨gb206, _, none⟩) NB205_206.out _).trans (((cell_far (p := ⟨gb206, _, none⟩) NB205_206.out _).trans (((cell_far (p := ⟨gb206, _, none⟩) NB205_206.out _).trans (((cell_far (p := ⟨gb206, _, none⟩) NB205_206.out _).trans (((cell_far (p := ⟨gb206, _, none⟩) NB205_206.out _).trans (hHeld.2.2.2.2.1)))))))))))), ((cell_far (p := ⟨gb206, _, none⟩) NB205_206.out _).trans (((cell_far (p := ⟨gb206, _, none⟩) NB205_206.out _).trans (((cell_far (p := ⟨gb206, _, none⟩) NB205_206.out _).trans (((cell_far (p := ⟨gb206, _, none⟩) NB205_206.out _).trans (((cell_far (p := ⟨gb206, _, none⟩) NB205_206.out _).trans (((cell_far (p := ⟨gb206, _, none⟩) NB205_206.out _).trans (hHeld.2.2.2.2.2))))))))))))⟩ (fun hHeld => ?_)
 clear hK K
 refine done_ (done_of HT_.out (by kernel_rfl)) ?_
 try go_wp2
 refine bodyPost_ret (results_cell_row rfl _ _ gb206 26 #[.int .i64 t207, .int .i64 t208, .int .i64 t209, .int .i64 t210, .int .i64 t211, .int .i64 t212] (0, 0) _ rfl (by (with_reducible repeat first | apply kN | apply kD | apply kA); refine blk_put (cs := #[.int .i64 t207, .int .i64 t208, .int .i64 t209, .int .i64 t210, .int .i64 t211, .int .i64 0]) ?_ 5 _ rfl; (with_reducible repeat first | apply kN | apply kD | apply kA); refine blk_put (cs := #[.int .i64 t207, .int .i64 t208, .int .i64 t209, .int .i64 t210, .int .i64 0, .int .i64 0]) ?_ 4 _ rfl; (with_reducible repeat first | apply kN | apply kD | apply kA); refine blk_put (cs := #[.int .i64 t207, .int .i64 t208, .int .i64 t209, .int .i64 0, .int .i64 0, .int .i64 0]) ?_ 3 _ rfl; (with_reducible repeat first | apply kN | apply kD | apply kA); refine blk_put (cs := #[.int .i64 t207, .int .i64 t208, .int .i64 0, .int .i64 0, .int .i64 0, .int .i64 0]) ?_ 2 _ rfl; (with_reducible repeat first | apply kN | apply kD | apply kA); refine blk_put (cs := #[.int .i64 t207, .int .i64 0, .int .i64 0, .int .i64 0, .int .i64 0, .int .i64 0]) ?_ 1 _ rfl; (with_reducible repeat first | apply kN | apply kD | apply kA); refine blk_put (cs := #[.int .i64 0, .int .i64 0, .int .i64 0, .int .i64 0, .int .i64 0, .int .i64 0]) ?_ 0 _ rfl; (with_reducible repeat first | apply kN | apply kD | apply kA); exact BK206.out) Try.underlying26 rfl (by kernel_rfl)) rfl ?_
 exact ⟨by first | rfl | (simp [errW_none, errW_some] <;> rfl) | (simp [*, errW_none, errW_some] <;> rfl), by repeat (first | (with_reducible first | exact HB.out | apply bAl | apply bDN | apply bD1 | refine bSe ?_ GE205.out | refine bSe ?_ GE206.out) | exact HB.out)⟩

/-! ### fixed_Mul: function 63 -/
def fixed_Mul.f (a0 : Int) (a1 : Int) : Option (Int) := (fixed_Clip.f a0).bind fun t213 => ((fixed_Clip.f a1).bind fun t214 => ((fixed_Clip.f ((wrap64 ((wrap64 (t213 * t214)) + 32768)) / 65536)).bind fun t215 => (some t215)))
set_option maxHeartbeats 8000000 in
set_option maxRecDepth 100000 in
theorem fixed_Mul.calls (a0 : Int) (a1 : Int) (r : Int) (w : World) (h : fixed_Mul.f a0 a1 = some r) :
  Calls Try.prog 63 #[.int .i64 a0, .int .i64 a1] w fun e w' => e = .returned (.int .i64 r) ∧ Below w.heap.size w w' := by
 have HB := amk (Below.refl w.heap.size w)
 have H : ((fixed_Clip.f a0).bind fun t213 => ((fixed_Clip.f a1).bind fun t214 => ((fixed_Clip.f ((wrap64 ((wrap64 (t213 * t214)) + 32768)) / 65536)).bind fun t215 => (some t215)))) = some r := h
 clear h
 replace H := Option.bind_eq_some_iff.mp H
 obtain ⟨t213, A30, H⟩ := H
 replace H : ((fixed_Clip.f a1).bind fun t214 => ((fixed_Clip.f ((wrap64 ((wrap64 (t213 * t214)) + 32768)) / 65536)).bind fun t215 => (some t215))) = some r := H
 have A3 := amk A30
 clear A30
 replace H := Option.bind_eq_some_iff.mp H
 obtain ⟨t214, A40, H⟩ := H
 replace H : ((fixed_Clip.f ((wrap64 ((wrap64 (t213 * t214)) + 32768)) / 65536)).bind fun t215 => (some t215)) = some r := H
 have A4 := amk A40
 clear A40
 replace H := Option.bind_eq_some_iff.mp H
 obtain ⟨t215, A50, H⟩ := H
 replace H : (some t215) = some r := H
 have A5 := amk A50
 clear A50
 obtain rfl := Option.some.inj H
 go_enter Try.func63, Try.ntmps63
 go_wp2_with (first | ((with_reducible refine gate_callee (f := 58) rfl ?_); refine goesL_ (some 6) rfl rfl Try.func58 (by kernel_rfl) rfl #[.int .i64 a0] rfl (by (try simp only [List.map_toArray, List.map_cons, List.map_nil]); first | done | rfl | (simp only [List.length_drop, List.length_take]; rfl)) ?_; (with_reducible refine (fixed_Clip.calls a0 t213 _ A3.out).mono ?_); rintro e w6 ⟨rfl, hb⟩; refine ⟨_, rfl, ?_⟩; have n0_ := amk (below_step (by repeat (first | (with_reducible first | exact HB.out | apply bAl | apply bDN | apply bD1) | exact HB.out)) hb); clear HB; have HB := n0_; clear n0_; (try clear hb); (try clear hb2); (try clear hk); (try clear hi)) | ((with_reducible refine gate_callee (f := 58) rfl ?_); refine goesL_ (some 8) rfl rfl Try.func58 (by kernel_rfl) rfl #[.int .i64 a1] rfl (by (try simp only [List.map_toArray, List.map_cons, List.map_nil]); first | done | rfl | (simp only [List.length_drop, List.length_take]; rfl)) ?_; (with_reducible refine (fixed_Clip.calls a1 t214 _ A4.out).mono ?_); rintro e w7 ⟨rfl, hb⟩; refine ⟨_, rfl, ?_⟩; have n0_ := amk (below_step (by repeat (first | (with_reducible first | exact HB.out | apply bAl | apply bDN | apply bD1) | exact HB.out)) hb); clear HB; have HB := n0_; clear n0_; (try clear hb); (try clear hb2); (try clear hk); (try clear hi)) | ((with_reducible refine gate_callee (f := 58) rfl ?_); refine goesL_ (some 12) rfl rfl Try.func58 (by kernel_rfl) rfl #[.int .i64 ((wrap64 ((wrap64 (t213 * t214)) + 32768)) / 65536)] rfl (by (try simp only [List.map_toArray, List.map_cons, List.map_nil]); first | done | rfl | (simp only [List.length_drop, List.length_take]; rfl)) ?_; (with_reducible refine (fixed_Clip.calls ((wrap64 ((wrap64 (t213 * t214)) + 32768)) / 65536) t215 _ A5.out).mono ?_); rintro e w8 ⟨rfl, hb⟩; refine ⟨_, rfl, ?_⟩; have n0_ := amk (below_step (by repeat (first | (with_reducible first | exact HB.out | apply bAl | apply bDN | apply bD1) | exact HB.out)) hb); clear HB; have HB := n0_; clear n0_; (try clear hb); (try clear hb2); (try clear hk); (try clear hi)))
 go_ret
 exact ⟨by first | rfl | (simp [errW_none, errW_some] <;> rfl) | (simp [*, errW_none, errW_some] <;> rfl), by repeat (first | (with_reducible first | exact HB.out | apply bAl | apply bDN | apply bD1) | exact HB.out)⟩

/-! ### affine_Apply: function 52 -/
def affine_Apply.f (a0_0 : Int) (a0_1 : Int) (a0_2 : Int) (a0_3 : Int) (a0_4 : Int) (a0_5 : Int) (a1 : Int) (a2 : Int) : Option (Int × Int) := (affine_clipped.f a0_0 a0_1 a0_2 a0_3 a0_4 a0_5).bind fun bt217 => ((fixed_Mul.f bt217.1 a1).bind fun t223 => ((fixed_Mul.f bt217.2.2.1 a2).bind fun t224 => ((fixed_Clip.f (wrap64 ((wrap64 (t223 + t224)) + bt217.2.2.2.2.1))).bind fun t225 => ((fixed_Mul.f bt217.2.1 a1).bind fun t226 => ((fixed_Mul.f bt217.2.2.2.1 a2).bind fun t227 => ((fixed_Clip.f (wrap64 ((wrap64 (t226 + t227)) + bt217.2.2.2.2.2))).bind fun t228 => (some (t225, t228))))))))
def affine_Apply.T2 : Bool × List (List Nat × List Nat) := (true, [([], []), ([0], [0]), ([], []), ([1, 2], [1, 2]), ([], []), ([4], [4]), ([], []), ([5, 6, 3], [5, 6]), ([3, 7], [3, 7]), ([], []), ([9], [9]), ([8, 10], [8, 10]), ([11, 7], [11]), ([], []), ([13], [13]), ([], []), ([14, 15, 12], [14, 15]), ([], []), ([17], [17]), ([], []), ([18, 19, 16], [18, 19]), ([16, 20], [16, 20]), ([], []), ([22], [22]), ([21, 23], [21, 23]), ([24, 20], [24]), ([12, 25, 0, 1, 2, 3, 4, 5, 6, 7, 8, 9, 10, 11, 12], [12]), ([25, 26, 0, 1, 2, 3, 4, 5, 6, 7, 8, 9, 10, 11, 12, 13, 14, 15, 16, 17, 18, 19, 20, 21, 22, 23, 24, 25, 26], [25])])
def affine_Apply.B2 : List Nat := [0, 1, 0, 7, 0, 16, 0, 127, 255, 0, 512, 2047, 4095, 0, 8192, 0, 65535, 0, 131072, 0, 1048575, 2097151, 0, 4194304, 16777215, 33554431, 67108863, 134217727]
theorem affine_Apply.tab2 : rtab .any (opsOf Try.f52 2) = affine_Apply.T2 := by kernel_rfl
theorem affine_Apply.bits2 : waitsOk affine_Apply.T2.2 affine_Apply.B2 = true := by kernel_rfl
set_option maxHeartbeats 8000000 in
set_option maxRecDepth 100000 in
theorem affine_Apply.calls (a0_0 : Int) (a0_1 : Int) (a0_2 : Int) (a0_3 : Int) (a0_4 : Int) (a0_5 : Int) (a1 : Int) (a2 : Int) (r1 : Int) (r2 : Int) (w : World) (h : affine_Apply.f a0_0 a0_1 a0_2 a0_3 a0_4 a0_5 a1 a2 = some (r1, r2)) :
  Calls Try.prog 52 #[.agg #[.int .i64 a0_0, .int .i64 a0_1, .int .i64 a0_2, .int .i64 a0_3, .int .i64 a0_4, .int .i64 a0_5], .int .i64 a1, .int .i64 a2] w fun e w' => e = .returned (.tuple #[.int .i64 r1, .int .i64 r2]) ∧ Below w.heap.size w w' := by
 have hu26 := Try.underlying26
 have HB := amk (Below.refl w.heap.size w)
 have H : ((affine_clipped.f a0_0 a0_1 a0_2 a0_3 a0_4 a0_5).bind fun bt217 => ((fixed_Mul.f bt217.1 a1).bind fun t223 => ((fixed_Mul.f bt217.2.2.1 a2).bind fun t224 => ((fixed_Clip.f (wrap64 ((wrap64 (t223 + t224)) + bt217.2.2.2.2.1))).bind fun t225 => ((fixed_Mul.f bt217.2.1 a1).bind fun t226 => ((fixed_Mul.f bt217.2.2.2.1 a2).bind fun t227 => ((fixed_Clip.f (wrap64 ((wrap64 (t226 + t227)) + bt217.2.2.2.2.2))).bind fun t228 => (some (t225, t228))))))))) = some (r1, r2) := h
 clear h
 replace H := Option.bind_eq_some_iff.mp H
 obtain ⟨⟨t217, t218, t219, t220, t221, t222⟩, A40, H⟩ := H
 replace H : ((fixed_Mul.f t217 a1).bind fun t223 => ((fixed_Mul.f t219 a2).bind fun t224 => ((fixed_Clip.f (wrap64 ((wrap64 (t223 + t224)) + t221))).bind fun t225 => ((fixed_Mul.f t218 a1).bind fun t226 => ((fixed_Mul.f t220 a2).bind fun t227 => ((fixed_Clip.f (wrap64 ((wrap64 (t226 + t227)) + t222))).bind fun t228 => (some (t225, t228)))))))) = some (r1, r2) := H
 have A4 := amk A40
 clear A40
 replace H := Option.bind_eq_some_iff.mp H
 obtain ⟨t223, A50, H⟩ := H
 replace H : ((fixed_Mul.f t219 a2).bind fun t224 => ((fixed_Clip.f (wrap64 ((wrap64 (t223 + t224)) + t221))).bind fun t225 => ((fixed_Mul.f t218 a1).bind fun t226 => ((fixed_Mul.f t220 a2).bind fun t227 => ((fixed_Clip.f (wrap64 ((wrap64 (t226 + t227)) + t222))).bind fun t228 => (some (t225, t228))))))) = some (r1, r2) := H
 have A5 := amk A50
 clear A50
 replace H := Option.bind_eq_some_iff.mp H
 obtain ⟨t224, A60, H⟩ := H
 replace H : ((fixed_Clip.f (wrap64 ((wrap64 (t223 + t224)) + t221))).bind fun t225 => ((fixed_Mul.f t218 a1).bind fun t226 => ((fixed_Mul.f t220 a2).bind fun t227 => ((fixed_Clip.f (wrap64 ((wrap64 (t226 + t227)) + t222))).bind fun t228 => (some (t225, t228)))))) = some (r1, r2) := H
 have A6 := amk A60
 clear A60
 replace H := Option.bind_eq_some_iff.mp H
 obtain ⟨t225, A70, H⟩ := H
 replace H : ((fixed_Mul.f t218 a1).bind fun t226 => ((fixed_Mul.f t220 a2).bind fun t227 => ((fixed_Clip.f (wrap64 ((wrap64 (t226 + t227)) + t222))).bind fun t228 => (some (t225, t228))))) = some (r1, r2) := H
 have A7 := amk A70
 clear A70
 replace H := Option.bind_eq_some_iff.mp H
 obtain ⟨t226, A80, H⟩ := H
 replace H : ((fixed_Mul.f t220 a2).bind fun t227 => ((fixed_Clip.f (wrap64 ((wrap64 (t226 + t227)) + t222))).bind fun t228 => (some (t225, t228)))) = some (r1, r2) := H
 have A8 := amk A80
 clear A80
 replace H := Option.bind_eq_some_iff.mp H
 obtain ⟨t227, A90, H⟩ := H
 replace H : ((fixed_Clip.f (wrap64 ((wrap64 (t226 + t227)) + t222))).bind fun t228 => (some (t225, t228))) = some (r1, r2) := H
 have A9 := amk A90
 clear A90
 replace H := Option.bind_eq_some_iff.mp H
 obtain ⟨t228, A100, H⟩ := H
 replace H : (some (t225, t228)) = some (r1, r2) := H
 have A10 := amk A100
 clear A100
 simp only [Option.some.injEq, Prod.mk.injEq] at H
 obtain ⟨rfl, rfl⟩ := H
 go_enter Try.func52, Try.ntmps52
 try go_wp2_with (first | ((with_reducible refine gate_dst (N := 3) rfl ?_); refine box_event ?hg (N := 3) ?hd (cs := #[.int .i64 a0_0, .int .i64 a0_1, .int .i64 a0_2, .int .i64 a0_3, .int .i64 a0_4, .int .i64 a0_5]) (t := 26) ?hr ?_; (case hd => rfl); (case hg => rfl); (case hr => first | (go_simp; done) | (go_simp; rfl)); intro gb216 hg w11 hbox hb; have n0_ := amk (below_step (by repeat (first | (with_reducible first | exact HB.out | apply bAl | apply bDN | apply bD1) | exact HB.out)) hb); have n1_ := amk (hbox); have n2_ := amk ((by rw [hg]; exact (below_size (by repeat (first | (with_reducible first | exact HB.out | apply bAl | apply bDN | apply bD1) | exact HB.out))) : w.heap.size ≤ gb216)); have n3_ := amk ((by rw [hg]; exact (below_size (by repeat (first | (with_reducible first | exact HB.out | apply bAl | apply bDN | apply bD1) | exact HB.out))) : w.heap.size ≤ gb216)); clear HB; have HB := n0_; have BK216 := n1_; have GW216 := n2_; have GE216 := n3_; clear n0_ n1_ n2_ n3_; clear hb hbox hg; have hcz12_0 : w11.cell? ⟨gb216, 0, none⟩ = some (.int .i64 a0_0) := (blk_cell BK216.out 0).trans rfl; have hcz12_1 : w11.cell? ⟨gb216, 1, none⟩ = some (.int .i64 a0_1) := (blk_cell BK216.out 1).trans rfl; have hcz12_2 : w11.cell? ⟨gb216, 2, none⟩ = some (.int .i64 a0_2) := (blk_cell BK216.out 2).trans rfl; have hcz12_3 : w11.cell? ⟨gb216, 3, none⟩ = some (.int .i64 a0_3) := (blk_cell BK216.out 3).trans rfl; have hcz12_4 : w11.cell? ⟨gb216, 4, none⟩ = some (.int .i64 a0_4) := (blk_cell BK216.out 4).trans rfl; have hcz12_5 : w11.cell? ⟨gb216, 5, none⟩ = some (.int .i64 a0_5) := (blk_cell BK216.out 5).trans rfl; have hfz12_0 := blk_frozen BK216.out 0; have hfz12_1 := blk_frozen BK216.out 1; have hfz12_2 := blk_frozen BK216.out 2; have hfz12_3 := blk_frozen BK216.out 3; have hfz12_4 := blk_frozen BK216.out 4; have hfz12_5 := blk_frozen BK216.out 5) | ((with_reducible refine gate_callee (f := 62) rfl ?_); refine goesL_ (some 9) rfl rfl Try.func62 (by kernel_rfl) rfl #[.agg #[.int .i64 a0_0, .int .i64 a0_1, .int .i64 a0_2, .int .i64 a0_3, .int .i64 a0_4, .int .i64 a0_5]] rfl (by (try simp only [List.map_toArray, List.map_cons, List.map_nil]); first | done | rfl | (simp only [List.length_drop, List.length_take]; rfl)) ?_; (with_reducible refine (affine_clipped.calls a0_0 a0_1 a0_2 a0_3 a0_4 a0_5 t217 t218 t219 t220 t221 t222 _ A4.out).mono ?_); rintro e w13 ⟨rfl, hb⟩; refine ⟨_, rfl, ?_⟩; have n0_ := amk (blk_below (g := gb216) (o := .cells #[.int .i64 a0_0, .int .i64 a0_1, .int .i64 a0_2, .int .i64 a0_3, .int .i64 a0_4, .int .i64 a0_5] 26 (0, 0)) (by (with_reducible repeat first | apply kN | apply kD | apply kA); exact BK216.out) hb); have n1_ := amk (below_step (by repeat (first | (with_reducible first | exact HB.out | apply bAl | apply bDN | apply bD1 | refine bSe ?_ GE216.out) | exact HB.out)) hb); clear BK216; clear HB; have BK216 := n0_; have HB := n1_; clear n0_ n1_; (try clear hb); (try clear hb2); (try clear hk); (try clear hi); have hcz14_0 : w13.cell? ⟨gb216, 0, none⟩ = some (.int .i64 a0_0) := (blk_cell BK216.out 0).trans rfl; have hcz14_1 : w13.cell? ⟨gb216, 1, none⟩ = some (.int .i64 a0_1) := (blk_cell BK216.out 1).trans rfl; have hcz14_2 : w13.cell? ⟨gb216, 2, none⟩ = some (.int .i64 a0_2) := (blk_cell BK216.out 2).trans rfl; have hcz14_3 : w13.cell? ⟨gb216, 3, none⟩ = some (.int .i64 a0_3) := (blk_cell BK216.out 3).trans rfl; have hcz14_4 : w13.cell? ⟨gb216, 4, none⟩ = some (.int .i64 a0_4) := (blk_cell BK216.out 4).trans rfl; have hcz14_5 : w13.cell? ⟨gb216, 5, none⟩ = some (.int .i64 a0_5) := (blk_cell BK216.out 5).trans rfl; have hfz14_0 := blk_frozen BK216.out 0; have hfz14_1 := blk_frozen BK216.out 1; have hfz14_2 := blk_frozen BK216.out 2; have hfz14_3 := blk_frozen BK216.out 3; have hfz14_4 := blk_frozen BK216.out 4; have hfz14_5 := blk_frozen BK216.out 5))
 have n0_ : Aside0 (((((((w13.setCell ⟨gb216, 0, none⟩ (.int .i64 t217)).setCell ⟨gb216, 1, none⟩ (.int .i64 t218)).setCell ⟨gb216, 2, none⟩ (.int .i64 t219)).setCell ⟨gb216, 3, none⟩ (.int .i64 t220)).setCell ⟨gb216, 4, none⟩ (.int .i64 t221)).setCell ⟨gb216, 5, none⟩ (.int .i64 t222)).heap[gb216]? = some (.cells #[.int .i64 t217, .int .i64 t218, .int .i64 t219, .int .i64 t220, .int .i64 t221, .int .i64 t222] 26 (0, 0))) := ⟨by (with_reducible repeat first | apply kN | apply kD | apply kA); refine blk_put (cs := #[.int .i64 t217, .int .i64 t218, .int .i64 t219, .int .i64 t220, .int .i64 t221, .int .i64 a0_5]) ?_ 5 _ rfl; (with_reducible repeat first | apply kN | apply kD | apply kA); refine blk_put (cs := #[.int .i64 t217, .int .i64 t218, .int .i64 t219, .int .i64 t220, .int .i64 a0_4, .int .i64 a0_5]) ?_ 4 _ rfl; (with_reducible repeat first | apply kN | apply kD | apply kA); refine blk_put (cs := #[.int .i64 t217, .int .i64 t218, .int .i64 t219, .int .i64 a0_3, .int .i64 a0_4, .int .i64 a0_5]) ?_ 3 _ rfl; (with_reducible repeat first | apply kN | apply kD | apply kA); refine blk_put (cs := #[.int .i64 t217, .int .i64 t218, .int .i64 a0_2, .int .i64 a0_3, .int .i64 a0_4, .int .i64 a0_5]) ?_ 2 _ rfl; (with_reducible repeat first | apply kN | apply kD | apply kA); refine blk_put (cs := #[.int .i64 t217, .int .i64 a0_1, .int .i64 a0_2, .int .i64 a0_3, .int .i64 a0_4, .int .i64 a0_5]) ?_ 1 _ rfl; (with_reducible repeat first | apply kN | apply kD | apply kA); refine blk_put (cs := #[.int .i64 a0_0, .int .i64 a0_1, .int .i64 a0_2, .int .i64 a0_3, .int .i64 a0_4, .int .i64 a0_5]) ?_ 0 _ rfl; (with_reducible repeat first | apply kN | apply kD | apply kA); exact BK216.out⟩
 have n1_ : Aside0 (Below w.heap.size w ((((((w13.setCell ⟨gb216, 0, none⟩ (.int .i64 t217)).setCell ⟨gb216, 1, none⟩ (.int .i64 t218)).setCell ⟨gb216, 2, none⟩ (.int .i64 t219)).setCell ⟨gb216, 3, none⟩ (.int .i64 t220)).setCell ⟨gb216, 4, none⟩ (.int .i64 t221)).setCell ⟨gb216, 5, none⟩ (.int .i64 t222))) := ⟨by repeat (first | (with_reducible first | exact HB.out | apply bAl | apply bDN | apply bD1 | refine bSe ?_ GE216.out) | exact HB.out)⟩
 (try clear BK216)
 (try clear HB)
 generalize ((((((w13.setCell ⟨gb216, 0, none⟩ (.int .i64 t217)).setCell ⟨gb216, 1, none⟩ (.int .i64 t218)).setCell ⟨gb216, 2, none⟩ (.int .i64 t219)).setCell ⟨gb216, 3, none⟩ (.int .i64 t220)).setCell ⟨gb216, 4, none⟩ (.int .i64 t221)).setCell ⟨gb216, 5, none⟩ (.int .i64 t222)) = w15 at n0_ n1_ ⊢
 have BK216 := n0_
 have HB := n1_
 clear n0_ n1_
 have n0_ := amk (blk_drew BK216.out)
 have n1_ := amk (bD1 HB.out)
 clear BK216
 clear HB
 have BK216 := n0_
 have HB := n1_
 clear n0_ n1_
 refine start_ (n := 28) (S := fun w' => w'.cell? ⟨gb216, 0, none⟩ = some (.int .i64 t217) ∧ w'.cell? ⟨gb216, 1, none⟩ = some (.int .i64 t218) ∧ w'.cell? ⟨gb216, 2, none⟩ = some (.int .i64 t219) ∧ w'.cell? ⟨gb216, 3, none⟩ = some (.int .i64 t220) ∧ w'.cell? ⟨gb216, 4, none⟩ = some (.int .i64 t221) ∧ w'.cell? ⟨gb216, 5, none⟩ = some (.int .i64 t222)) (ds := []) #[false, false, false, false, false, false, false, false, false, false, false, false, false, false, false, false, false, false, false, false, false, false, false, false, false, false, false, false] (by kernel_rfl) rfl rfl ⟨(blk_cell BK216.out 0).trans rfl, (blk_cell BK216.out 1).trans rfl, (blk_cell BK216.out 2).trans rfl, (blk_cell BK216.out 3).trans rfl, (blk_cell BK216.out 4).trans rfl, (blk_cell BK216.out 5).trans rfl⟩ (fun hHeld => ?_); refine with_tabW affine_Apply.tab2 affine_Apply.bits2 (fun HT_ HW_ => ?_)
 generalize w15.drew = w16 at BK216 HB hHeld ⊢
 refine pure_ (i := 0) (N := some 10) (v := ?_) (a' := ?_) #[true, false, false, false, false, false, false, false, false, false, false, false, false, false, false, false, false, false, false, false, false, false, false, false, false, false, false, false] rfl rfl (any_of HT_.out (by kernel_rfl)) (fun _ _ _ h => h) (Or.inl ⟨by rfl, ?_⟩) ?_ ?_
 rotate_left
 ·intro w'
  go_simp
  with_reducible rfl
 rotate_left
 ·simp only [Act.put, sTA, sCZ, sCS, i64_w, i32_w]
  rfl
 refine pure_ (i := 2) (N := some 12) (v := ?_) (a' := ?_) #[true, false, true, false, false, false, false, false, false, false, false, false, false, false, false, false, false, false, false, false, false, false, false, false, false, false, false, false] rfl rfl (any_of HT_.out (by kernel_rfl)) (fun _ _ _ h => h) (Or.inl ⟨by rfl, ?_⟩) ?_ ?_
 rotate_left
 ·intro w'
  go_simp
  with_reducible rfl
 rotate_left
 ·simp only [Act.put, sTA, sCZ, sCS, i64_w, i32_w]
  rfl
 refine pure_ (i := 4) (N := some 14) (v := ?_) (a' := ?_) #[true, false, true, false, true, false, false, false, false, false, false, false, false, false, false, false, false, false, false, false, false, false, false, false, false, false, false, false] rfl rfl (any_of HT_.out (by kernel_rfl)) (fun _ _ _ h => h) (Or.inl ⟨by rfl, ?_⟩) ?_ ?_
 rotate_left
 ·intro w'
  go_simp
  with_reducible rfl
 rotate_left
 ·simp only [Act.put, sTA, sCZ, sCS, i64_w, i32_w]
  rfl
 refine pure_ (i := 6) (N := some 16) (v := ?_) (a' := ?_) #[true, false, true, false, true, false, true, false, false, false, false, false, false, false, false, false, false, false, false, false, false, false, false, false, false, false, false, false] rfl rfl (any_of HT_.out (by kernel_rfl)) (fun _ _ _ h => h) (Or.inl ⟨by rfl, ?_⟩) ?_ ?_
 rotate_left
 ·intro w'
  go_simp
  with_reducible rfl
 rotate_left
 ·simp only [Act.put, sTA, sCZ, sCS, i64_w, i32_w]
  rfl
 refine pure_ (i := 9) (N := some 19) (v := ?_) (a' := ?_) #[true, false, true, false, true, false, true, false, false, true, false, false, false, false, false, false, false, false, false, false, false, false, false, false, false, false, false, false] rfl rfl (any_of HT_.out (by kernel_rfl)) (fun _ _ _ h => h) (Or.inl ⟨by rfl, ?_⟩) ?_ ?_
 rotate_left
 ·intro w'
  go_simp
  with_reducible rfl
 rotate_left
 ·simp only [Act.put, sTA, sCZ, sCS, i64_w, i32_w]
  rfl
 refine pure_ (i := 13) (N := some 23) (v := ?_) (a' := ?_) #[true, false, true, false, true, false, true, false, false, true, false, false, false, true, false, false, false, false, false, false, false, false, false, false, false, false, false, false] rfl rfl (any_of HT_.out (by kernel_rfl)) (fun _ _ _ h => h) (Or.inl ⟨by rfl, ?_⟩) ?_ ?_
 rotate_left
 ·intro w'
  go_simp
  with_reducible rfl
 rotate_left
 ·simp only [Act.put, sTA, sCZ, sCS, i64_w, i32_w]
  rfl
 refine pure_ (i := 15) (N := some 25) (v := ?_) (a' := ?_) #[true, false, true, false, true, false, true, false, false, true, false, false, false, true, false, true, false, false, false, false, false, false, false, false, false, false, false, false] rfl rfl (any_of HT_.out (by kernel_rfl)) (fun _ _ _ h => h) (Or.inl ⟨by rfl, ?_⟩) ?_ ?_
 rotate_left
 ·intro w'
  go_simp
  with_reducible rfl
 rotate_left
 ·simp only [Act.put, sTA, sCZ, sCS, i64_w, i32_w]
  rfl
 refine pure_ (i := 17) (N := some 27) (v := ?_) (a' := ?_) #[true, false, true, false, true, false, true, false, false, true, false, false, false, true, false, true, false, true, false, false, false, false, false, false, false, false, false, false] rfl rfl (any_of HT_.out (by kernel_rfl)) (fun _ _ _ h => h) (Or.inl ⟨by rfl, ?_⟩) ?_ ?_
 rotate_left
 ·intro w'
  go_simp
  with_reducible rfl
 rotate_left
 ·simp only [Act.put, sTA, sCZ, sCS, i64_w, i32_w]
  rfl
 refine pure_ (i := 19) (N := some 29) (v := ?_) (a' := ?_) #[true, false, true, false, true, false, true, false, false, true, false, false, false, true, false, true, false, true, false, true, false, false, false, false, false, false, false, false] rfl rfl (any_of HT_.out (by kernel_rfl)) (fun _ _ _ h => h) (Or.inl ⟨by rfl, ?_⟩) ?_ ?_
 rotate_left
 ·intro w'
  go_simp
  with_reducible rfl
 rotate_left
 ·simp only [Act.put, sTA, sCZ, sCS, i64_w, i32_w]
  rfl
 refine pure_ (i := 22) (N := some 32) (v := ?_) (a' := ?_) #[true, false, true, false, true, false, true, false, false, true, false, false, false, true, false, true, false, true, false, true, false, false, true, false, false, false, false, false] rfl rfl (any_of HT_.out (by kernel_rfl)) (fun _ _ _ h => h) (Or.inl ⟨by rfl, ?_⟩) ?_ ?_
 rotate_left
 ·intro w'
  go_simp
  with_reducible rfl
 rotate_left
 ·simp only [Act.put, sTA, sCZ, sCS, i64_w, i32_w]
  rfl
 refine take_ (i := 1) (N := some 11) (v := ?_) (a' := ?_) #[true, true, true, false, true, false, true, false, false, true, false, false, false, true, false, true, false, true, false, true, false, false, true, false, false, false, false, false] rfl rfl (take_ofW HT_.out HW_.out (by kernel_rfl)) (fun _ _ _ h => h) (Or.inl ⟨by rfl, ?_⟩) hHeld ?_ ?_
 rotate_left
 ·rintro w' ⟨s0, s1, s2, s3, s4, s5⟩
  go_simp
  with_reducible rfl
 rotate_left
 ·simp only [Act.put, sTA, sCZ, sCS, i64_w, i32_w]
  rfl
 refine take_ (i := 5) (N := some 15) (v := ?_) (a' := ?_) #[true, true, true, false, true, true, true, false, false, true, false, false, false, true, false, true, false, true, false, true, false, false, true, false, false, false, false, false] rfl rfl (take_ofW HT_.out HW_.out (by kernel_rfl)) (fun _ _ _ h => h) (Or.inl ⟨by rfl, ?_⟩) hHeld ?_ ?_
 rotate_left
 ·rintro w' ⟨s0, s1, s2, s3, s4, s5⟩
  go_simp
  with_reducible rfl
 rotate_left
 ·simp only [Act.put, sTA, sCZ, sCS, i64_w, i32_w]
  rfl
 refine take_ (i := 10) (N := some 20) (v := ?_) (a' := ?_) #[true, true, true, false, true, true, true, false, false, true, true, false, false, true, false, true, false, true, false, true, false, false, true, false, false, false, false, false] rfl rfl (take_ofW HT_.out HW_.out (by kernel_rfl)) (fun _ _ _ h => h) (Or.inl ⟨by rfl, ?_⟩) hHeld ?_ ?_
 rotate_left
 ·rintro w' ⟨s0, s1, s2, s3, s4, s5⟩
  go_simp
  with_reducible rfl
 rotate_left
 ·simp only [Act.put, sTA, sCZ, sCS, i64_w, i32_w]
  rfl
 refine take_ (i := 14) (N := some 24) (v := ?_) (a' := ?_) #[true, true, true, false, true, true, true, false, false, true, true, false, false, true, true, true, false, true, false, true, false, false, true, false, false, false, false, false] rfl rfl (take_ofW HT_.out HW_.out (by kernel_rfl)) (fun _ _ _ h => h) (Or.inl ⟨by rfl, ?_⟩) hHeld ?_ ?_
 rotate_left
 ·rintro w' ⟨s0, s1, s2, s3, s4, s5⟩
  go_simp
  with_reducible rfl
 rotate_left
 ·simp only [Act.put, sTA, sCZ, sCS, i64_w, i32_w]
  rfl
 refine take_ (i := 18) (N := some 28) (v := ?_) (a' := ?_) #[true, true, true, false, true, true, true, false, false, true, true, false, false, true, true, true, false, true, true, true, false, false, true, false, false, false, false, false] rfl rfl (take_ofW HT_.out HW_.out (by kernel_rfl)) (fun _ _ _ h => h) (Or.inl ⟨by rfl, ?_⟩) hHeld ?_ ?_
 rotate_left
 ·rintro w' ⟨s0, s1, s2, s3, s4, s5⟩
  go_simp
  with_reducible rfl
 rotate_left
 ·simp only [Act.put, sTA, sCZ, sCS, i64_w, i32_w]
  rfl
 refine take_ (i := 23) (N := some 33) (v := ?_) (a' := ?_) #[true, true, true, false, true, true, true, false, false, true, true, false, false, true, true, true, false, true, true, true, false, false, true, true, false, false, false, false] rfl rfl (take_ofW HT_.out HW_.out (by kernel_rfl)) (fun _ _ _ h => h) (Or.inl ⟨by rfl, ?_⟩) hHeld ?_ ?_
 rotate_left
 ·rintro w' ⟨s0, s1, s2, s3, s4, s5⟩
  go_simp
  with_reducible rfl
 rotate_left
 ·simp only [Act.put, sTA, sCZ, sCS, i64_w, i32_w]
  rfl
 refine one_ (i := 3) (N := some 13) #[true, true, true, true, true, true, true, false, false, true, true, false, false, true, true, true, false, true, true, true, false, false, true, true, false, false, false, false] rfl rfl (one_of HT_.out (by kernel_rfl)) (by decide) (fun K hK => ?_)
 refine goes_ Try.func63 (by kernel_rfl) rfl #[.int .i64 t217, .int .i64 a1] (by rfl) rfl rfl (by (try simp only [List.map_toArray, List.map_cons, List.map_nil]); first | done | rfl | (simp only [List.length_drop, List.length_take]; rfl)) ?_
 with_reducible refine (fixed_Mul.calls t217 a1 t223 _ A5.out).mono ?_
 rintro e w17 ⟨rfl, hb⟩
 refine ⟨_, rfl, ?_⟩
 have n0_ := amk (blk_below (g := gb216) (o := .cells #[.int .i64 t217, .int .i64 t218, .int .i64 t219, .int .i64 t220, .int .i64 t221, .int .i64 t222] 26 (0, 0)) (by (with_reducible repeat first | apply kN | apply kD | apply kA); exact BK216.out) hb)
 have n1_ := amk (below_step (by repeat (first | (with_reducible first | exact HB.out | apply bAl | apply bDN | apply bD1 | refine bSe ?_ GE216.out) | exact HB.out)) hb)
 clear BK216
 clear HB
 have BK216 := n0_
 have HB := n1_
 clear n0_ n1_
 (try clear hb)
 (try clear hb2)
 (try clear hk)
 (try clear hi)
 refine hK.out _ _ ⟨(blk_cell BK216.out 0).trans rfl, (blk_cell BK216.out 1).trans rfl, (blk_cell BK216.out 2).trans rfl, (blk_cell BK216.out 3).trans rfl, (blk_cell BK216.out 4).trans rfl, (blk_cell BK216.out 5).trans rfl⟩ (fun hHeld => ?_)
 clear hK K
 refine norm_ (a' := ?_) ?_ ?_
 rotate_left
 ·show Act.put _ (some 13) _ = _
  simp only [Act.put, sTA, sCZ, sCS, i64_w, i32_w]
  rfl
 refine one_ (i := 7) (N := some 17) #[true, true, true, true, true, true, true, true, false, true, true, false, false, true, true, true, false, true, true, true, false, false, true, true, false, false, false, false] rfl rfl (one_of HT_.out (by kernel_rfl)) (by decide) (fun K hK => ?_)
 refine goes_ Try.func63 (by kernel_rfl) rfl #[.int .i64 t219, .int .i64 a2] (by rfl) rfl rfl (by (try simp only [List.map_toArray, List.map_cons, List.map_nil]); first | done | rfl | (simp only [List.length_drop, List.length_take]; rfl)) ?_
 with_reducible refine (fixed_Mul.calls t219 a2 t224 _ A6.out).mono ?_
 rintro e w18 ⟨rfl, hb⟩
 refine ⟨_, rfl, ?_⟩
 have n0_ := amk (blk_below (g := gb216) (o := .cells #[.int .i64 t217, .int .i64 t218, .int .i64 t219, .int .i64 t220, .int .i64 t221, .int .i64 t222] 26 (0, 0)) (by (with_reducible repeat first | apply kN | apply kD | apply kA); exact BK216.out) hb)
 have n1_ := amk (below_step (by repeat (first | (with_reducible first | exact HB.out | apply bAl | apply bDN | apply bD1 | refine bSe ?_ GE216.out) | exact HB.out)) hb)
 clear BK216
 clear HB
 have BK216 := n0_
 have HB := n1_
 clear n0_ n1_
 (try clear hb)
 (try clear hb2)
 (try clear hk)
 (try clear hi)
 refine hK.out _ _ ⟨(blk_cell BK216.out 0).trans rfl, (blk_cell BK216.out 1).trans rfl, (blk_cell BK216.out 2).trans rfl, (blk_cell BK216.out 3).trans rfl, (blk_cell BK216.out 4).trans rfl, (blk_cell BK216.out 5).trans rfl⟩ (fun hHeld => ?_)
 clear hK K
 refine norm_ (a' := ?_) ?_ ?_
 rotate_left
 ·show Act.put _ (some 17) _ = _
  simp only [Act.put, sTA, sCZ, sCS, i64_w, i32_w]
  rfl
 refine pure_ (i := 8) (N := some 18) (v := ?_) (a' := ?_) #[true, true, true, true, true, true, true, true, true, true, true, false, false, true, true, true, false, true, true, true, false, false, true, true, false, false, false, false] rfl rfl (any_of HT_.out (by kernel_rfl)) (fun _ _ _ h => h) (Or.inl ⟨by rfl, ?_⟩) ?_ ?_
 rotate_left
 ·intro w'
  go_simp
  with_reducible rfl
 rotate_left
 ·simp only [Act.put, sTA, sCZ, sCS, i64_w, i32_w]
  rfl
 refine pure_ (i := 11) (N := some 21) (v := ?_) (a' := ?_) #[true, true, true, true, true, true, true, true, true, true, true, true, false, true, true, true, false, true, true, true, false, false, true, true, false, false, false, false] rfl rfl (any_of HT_.out (by kernel_rfl)) (fun _ _ _ h => h) (Or.inl ⟨by rfl, ?_⟩) ?_ ?_
 rotate_left
 ·intro w'
  go_simp
  with_reducible rfl
 rotate_left
 ·simp only [Act.put, sTA, sCZ, sCS, i64_w, i32_w]
  rfl
 refine one_ (i := 12) (N := some 22) #[true, true, true, true, true, true, true, true, true, true, true, true, true, true, true, true, false, true, true, true, false, false, true, true, false, false, false, false] rfl rfl (one_of HT_.out (by kernel_rfl)) (by decide) (fun K hK => ?_)
 refine goes_ Try.func58 (by kernel_rfl) rfl #[.int .i64 (wrap64 ((wrap64 (t223 + t224)) + t221))] (by rfl) rfl rfl (by (try simp only [List.map_toArray, List.map_cons, List.map_nil]); first | done | rfl | (simp only [List.length_drop, List.length_take]; rfl)) ?_
 with_reducible refine (fixed_Clip.calls (wrap64 ((wrap64 (t223 + t224)) + t221)) t225 _ A7.out).mono ?_
 rintro e w19 ⟨rfl, hb⟩
 refine ⟨_, rfl, ?_⟩
 have n0_ := amk (blk_below (g := gb216) (o := .cells #[.int .i64 t217, .int .i64 t218, .int .i64 t219, .int .i64 t220, .int .i64 t221, .int .i64 t222] 26 (0, 0)) (by (with_reducible repeat first | apply kN | apply kD | apply kA); exact BK216.out) hb)
 have n1_ := amk (below_step (by repeat (first | (with_reducible first | exact HB.out | apply bAl | apply bDN | apply bD1 | refine bSe ?_ GE216.out) | exact HB.out)) hb)
 clear BK216
 clear HB
 have BK216 := n0_
 have HB := n1_
 clear n0_ n1_
 (try clear hb)
 (try clear hb2)
 (try clear hk)
 (try clear hi)
 refine hK.out _ _ ⟨(blk_cell BK216.out 0).trans rfl, (blk_cell BK216.out 1).trans rfl, (blk_cell BK216.out 2).trans rfl, (blk_cell BK216.out 3).trans rfl, (blk_cell BK216.out 4).trans rfl, (blk_cell BK216.out 5).trans rfl⟩ (fun hHeld => ?_)
 clear hK K
 refine norm_ (a' := ?_) ?_ ?_
 rotate_left
 ·show Act.put _ (some 22) _ = _
  simp only [Act.put, sTA, sCZ, sCS, i64_w, i32_w]
  rfl
 refine one_ (i := 16) (N := some 26) #[true, true, true, true, true, true, true, true, true, true, true, true, true, true, true, true, true, true, true, true, false, false, true, true, false, false, false, false] rfl rfl (one_of HT_.out (by kernel_rfl)) (by decide) (fun K hK => ?_)
 refine goes_ Try.func63 (by kernel_rfl) rfl #[.int .i64 t218, .int .i64 a1] (by rfl) rfl rfl (by (try simp only [List.map_toArray, List.map_cons, List.map_nil]); first | done | rfl | (simp only [List.length_drop, List.length_take]; rfl)) ?_
 with_reducible refine (fixed_Mul.calls t218 a1 t226 _ A8.out).mono ?_
 rintro e w20 ⟨rfl, hb⟩
 refine ⟨_, rfl, ?_⟩
 have n0_ := amk (blk_below (g := gb216) (o := .cells #[.int .i64 t217, .int .i64 t218, .int .i64 t219, .int .i64 t220, .int .i64 t221, .int .i64 t222] 26 (0, 0)) (by (with_reducible repeat first | apply kN | apply kD | apply kA); exact BK216.out) hb)
 have n1_ := amk (below_step (by repeat (first | (with_reducible first | exact HB.out | apply bAl | apply bDN | apply bD1 | refine bSe ?_ GE216.out) | exact HB.out)) hb)
 clear BK216
 clear HB
 have BK216 := n0_
 have HB := n1_
 clear n0_ n1_
 (try clear hb)
 (try clear hb2)
 (try clear hk)
 (try clear hi)
 refine hK.out _ _ ⟨(blk_cell BK216.out 0).trans rfl, (blk_cell BK216.out 1).trans rfl, (blk_cell BK216.out 2).trans rfl, (blk_cell BK216.out 3).trans rfl, (blk_cell BK216.out 4).trans rfl, (blk_cell BK216.out 5).trans rfl⟩ (fun hHeld => ?_)
 clear hK K
 refine norm_ (a' := ?_) ?_ ?_
 rotate_left
 ·show Act.put _ (some 26) _ = _
  simp only [Act.put, sTA, sCZ, sCS, i64_w, i32_w]
  rfl
 refine one_ (i := 20) (N := some 30) #[true, true, true, true, true, true, true, true, true, true, true, true, true, true, true, true, true, true, true, true, true, false, true, true, false, false, false, false] rfl rfl (one_of HT_.out (by kernel_rfl)) (by decide) (fun K hK => ?_)
 refine goes_ Try.func63 (by kernel_rfl) rfl #[.int .i64 t220, .int .i64 a2] (by rfl) rfl rfl (by (try simp only [List.map_toArray, List.map_cons, List.map_nil]); first | done | rfl | (simp only [List.length_drop, List.length_take]; rfl)) ?_
 with_reducible refine (fixed_Mul.calls t220 a2 t227 _ A9.out).mono ?_
 rintro e w21 ⟨rfl, hb⟩
 refine ⟨_, rfl, ?_⟩
 have n0_ := amk (blk_below (g := gb216) (o := .cells #[.int .i64 t217, .int .i64 t218, .int .i64 t219, .int .i64 t220, .int .i64 t221, .int .i64 t222] 26 (0, 0)) (by (with_reducible repeat first | apply kN | apply kD | apply kA); exact BK216.out) hb)
 have n1_ := amk (below_step (by repeat (first | (with_reducible first | exact HB.out | apply bAl | apply bDN | apply bD1 | refine bSe ?_ GE216.out) | exact HB.out)) hb)
 clear BK216
 clear HB
 have BK216 := n0_
 have HB := n1_
 clear n0_ n1_
 (try clear hb)
 (try clear hb2)
 (try clear hk)
 (try clear hi)
 refine hK.out _ _ ⟨(blk_cell BK216.out 0).trans rfl, (blk_cell BK216.out 1).trans rfl, (blk_cell BK216.out 2).trans rfl, (blk_cell BK216.out 3).trans rfl, (blk_cell BK216.out 4).trans rfl, (blk_cell BK216.out 5).trans rfl⟩ (fun hHeld => ?_)
 clear hK K
 refine norm_ (a' := ?_) ?_ ?_
 rotate_left
 ·show Act.put _ (some 30) _ = _
  simp only [Act.put, sTA, sCZ, sCS, i64_w, i32_w]
  rfl
 refine pure_ (i := 21) (N := some 31) (v := ?_) (a' := ?_) #[true, true, true, true, true, true, true, true, true, true, true, true, true, true, true, true, true, true, true, true, true, true, true, true, false, false, false, false] rfl rfl (any_of HT_.out (by kernel_rfl)) (fun _ _ _ h => h) (Or.inl ⟨by rfl, ?_⟩) ?_ ?_
 rotate_left
 ·intro w'
  go_simp
  with_reducible rfl
 rotate_left
 ·simp only [Act.put, sTA, sCZ, sCS, i64_w, i32_w]
  rfl
 refine pure_ (i := 24) (N := some 34) (v := ?_) (a' := ?_) #[true, true, true, true, true, true, true, true, true, true, true, true, true, true, true, true, true, true, true, true, true, true, true, true, true, false, false, false] rfl rfl (any_of HT_.out (by kernel_rfl)) (fun _ _ _ h => h) (Or.inl ⟨by rfl, ?_⟩) ?_ ?_
 rotate_left
 ·intro w'
  go_simp
  with_reducible rfl
 rotate_left
 ·simp only [Act.put, sTA, sCZ, sCS, i64_w, i32_w]
  rfl
 refine one_ (i := 25) (N := some 35) #[true, true, true, true, true, true, true, true, true, true, true, true, true, true, true, true, true, true, true, true, true, true, true, true, true, true, false, false] rfl rfl (one_of HT_.out (by kernel_rfl)) (by decide) (fun K hK => ?_)
 refine goes_ Try.func58 (by kernel_rfl) rfl #[.int .i64 (wrap64 ((wrap64 (t226 + t227)) + t222))] (by rfl) rfl rfl (by (try simp only [List.map_toArray, List.map_cons, List.map_nil]); first | done | rfl | (simp only [List.length_drop, List.length_take]; rfl)) ?_
 with_reducible refine (fixed_Clip.calls (wrap64 ((wrap64 (t226 + t227)) + t222)) t228 _ A10.out).mono ?_
 rintro e w22 ⟨rfl, hb⟩
 refine ⟨_, rfl, ?_⟩
 have n0_ := amk (blk_below (g := gb216) (o := .cells #[.int .i64 t217, .int .i64 t218, .int .i64 t219, .int .i64 t220, .int .i64 t221, .int .i64 t222] 26 (0, 0)) (by (with_reducible repeat first | apply kN | apply kD | apply kA); exact BK216.out) hb)
 have n1_ := amk (below_step (by repeat (first | (with_reducible first | exact HB.out | apply bAl | apply bDN | apply bD1 | refine bSe ?_ GE216.out) | exact HB.out)) hb)
 clear BK216
 clear HB
 have BK216 := n0_
 have HB := n1_
 clear n0_ n1_
 (try clear hb)
 (try clear hb2)
 (try clear hk)
 (try clear hi)
 refine hK.out _ _ ⟨(blk_cell BK216.out 0).trans rfl, (blk_cell BK216.out 1).trans rfl, (blk_cell BK216.out 2).trans rfl, (blk_cell BK216.out 3).trans rfl, (blk_cell BK216.out 4).trans rfl, (blk_cell BK216.out 5).trans rfl⟩ (fun hHeld => ?_)
 clear hK K
 refine norm_ (a' := ?_) ?_ ?_
 rotate_left
 ·show Act.put _ (some 35) _ = _
  simp only [Act.put, sTA, sCZ, sCS, i64_w, i32_w]
  rfl
 refine pure_ (i := 26) (N := some 6) (v := ?_) (a' := ?_) #[true, true, true, true, true, true, true, true, true, true, true, true, true, true, true, true, true, true, true, true, true, true, true, true, true, true, true, false] rfl rfl (any_of HT_.out (by kernel_rfl)) (fun _ _ _ h => h) (Or.inl ⟨by rfl, ?_⟩) ?_ ?_
 rotate_left
 ·intro w'
  go_simp
  with_reducible rfl
 rotate_left
 ·simp only [Act.put, sTA, sCZ, sCS, i64_w, i32_w]
  rfl
 refine pure_ (i := 27) (N := some 7) (v := ?_) (a' := ?_) #[true, true, true, true, true, true, true, true, true, true, true, true, true, true, true, true, true, true, true, true, true, true, true, true, true, true, true, true] rfl rfl (any_of HT_.out (by kernel_rfl)) (fun _ _ _ h => h) (Or.inl ⟨by rfl, ?_⟩) ?_ ?_
 rotate_left
 ·intro w'
  go_simp
  with_reducible rfl
 rotate_left
 ·simp only [Act.put, sTA, sCZ, sCS, i64_w, i32_w]
  rfl
 refine done_ (done_of HT_.out (by kernel_rfl)) ?_
 try go_wp2
 go_ret2
 exact ⟨by first | rfl | (simp [errW_none, errW_some] <;> rfl) | (simp [*, errW_none, errW_some] <;> rfl), by repeat (first | (with_reducible first | exact HB.out | apply bAl | apply bDN | apply bD1 | refine bSe ?_ GE216.out) | exact HB.out)⟩

/-! ### fixed_Whole: function 53 -/
def fixed_Whole.f (a0 : Int) : Option (Int) := (fixed_Clip.f a0).bind fun t229 => ((fixed_Clip.f (wrap64 (t229 * 65536))).bind fun t230 => (some t230))
set_option maxHeartbeats 8000000 in
set_option maxRecDepth 100000 in
theorem fixed_Whole.calls (a0 : Int) (r : Int) (w : World) (h : fixed_Whole.f a0 = some r) :
  Calls Try.prog 53 #[.int .i64 a0] w fun e w' => e = .returned (.int .i64 r) ∧ Below w.heap.size w w' := by
 have HB := amk (Below.refl w.heap.size w)
 have H : ((fixed_Clip.f a0).bind fun t229 => ((fixed_Clip.f (wrap64 (t229 * 65536))).bind fun t230 => (some t230))) = some r := h
 clear h
 replace H := Option.bind_eq_some_iff.mp H
 obtain ⟨t229, A20, H⟩ := H
 replace H : ((fixed_Clip.f (wrap64 (t229 * 65536))).bind fun t230 => (some t230)) = some r := H
 have A2 := amk A20
 clear A20
 replace H := Option.bind_eq_some_iff.mp H
 obtain ⟨t230, A30, H⟩ := H
 replace H : (some t230) = some r := H
 have A3 := amk A30
 clear A30
 obtain rfl := Option.some.inj H
 go_enter Try.func53, Try.ntmps53
 go_wp2_with (first | ((with_reducible refine gate_callee (f := 58) rfl ?_); refine goesL_ (some 4) rfl rfl Try.func58 (by kernel_rfl) rfl #[.int .i64 a0] rfl (by (try simp only [List.map_toArray, List.map_cons, List.map_nil]); first | done | rfl | (simp only [List.length_drop, List.length_take]; rfl)) ?_; (with_reducible refine (fixed_Clip.calls a0 t229 _ A2.out).mono ?_); rintro e w4 ⟨rfl, hb⟩; refine ⟨_, rfl, ?_⟩; have n0_ := amk (below_step (by repeat (first | (with_reducible first | exact HB.out | apply bAl | apply bDN | apply bD1) | exact HB.out)) hb); clear HB; have HB := n0_; clear n0_; (try clear hb); (try clear hb2); (try clear hk); (try clear hi)) | ((with_reducible refine gate_callee (f := 58) rfl ?_); refine goesL_ (some 6) rfl rfl Try.func58 (by kernel_rfl) rfl #[.int .i64 (wrap64 (t229 * 65536))] rfl (by (try simp only [List.map_toArray, List.map_cons, List.map_nil]); first | done | rfl | (simp only [List.length_drop, List.length_take]; rfl)) ?_; (with_reducible refine (fixed_Clip.calls (wrap64 (t229 * 65536)) t230 _ A3.out).mono ?_); rintro e w5 ⟨rfl, hb⟩; refine ⟨_, rfl, ?_⟩; have n0_ := amk (below_step (by repeat (first | (with_reducible first | exact HB.out | apply bAl | apply bDN | apply bD1) | exact HB.out)) hb); clear HB; have HB := n0_; clear n0_; (try clear hb); (try clear hb2); (try clear hk); (try clear hi)))
 go_ret
 exact ⟨by first | rfl | (simp [errW_none, errW_some] <;> rfl) | (simp [*, errW_none, errW_some] <;> rfl), by repeat (first | (with_reducible first | exact HB.out | apply bAl | apply bDN | apply bD1) | exact HB.out)⟩

end Go.Proofs.Ytjmflccbddjlhaa.PFm
