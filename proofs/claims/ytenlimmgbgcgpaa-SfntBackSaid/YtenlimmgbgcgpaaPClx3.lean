-- WRITTEN BY A PROGRAM OF THIS SESSION (wip/xprint) out of the translation. Not trusted: Lean checks it.
import Derived.Test.YtenlimmgbgcgpaaPClx0
import Derived.Test.YtenlimmgbgcgpaaPClx1
import Derived.Test.YtenlimmgbgcgpaaPClx2
namespace Go.Proofs.Ytenlimmgbgcgpaa.PCl
open Go.RowKit Go.Proofs.YtenlimmgbgcgpaaW.PrintWords Go.Proofs.YtenlimmgbgcgpaaW.PrintLast Go.Proofs.YtenlimmgbgcgpaaW.PrintMore
attribute [local go_sem] max2_int min2_int max_two min_two max_three min_three max_four min_four   -- for this text's walks alone
set_option linter.unusedVariables false
set_option linter.unusedSimpArgs false

/-! ### peek_number: function 111 -/
def peek_number.l0 : Nat → Int → List Int → Int → Int → Option (Int × Bool)
  | 0, _, _, _, _ => none
  | k + 1, x8, x21, x22, x23 => if x23 < x22 then (if 0 ≤ x23 then (if x23 < (x21.length : Int) then (peek_number.l0 k (Go.bits .or .i64 (wrap64 (x8 * 256)) (wrap64 (rd x21 x23))) x21 x22 (wrap64 (x23 + 1))) else (none)) else (none)) else (some (x8, true))
def peek_number.f (k : Nat) (l0 : List Int) (a1 : Int) (a2 : Int) : Option (Int × Bool) := (peek_there.f l0 a1 a2).bind fun t162 => (if t162 = true then (if 0 ≤ a1 then (if a1 ≤ (wrap64 (a1 + a2)) then (if (wrap64 (a1 + a2)) ≤ (l0.length : Int) then (peek_number.l0 k 0 ((l0.take ((wrap64 (a1 + a2)) : Int).toNat).drop (a1 : Int).toNat) (((l0.take ((wrap64 (a1 + a2)) : Int).toNat).drop (a1 : Int).toNat).length : Int) 0) else (none)) else (none)) else (none)) else (some (0, false)))
theorem peek_number.mono_l : ∀ k, (∀ y0 y1 y2 y3, LeO (peek_number.l0 k y0 y1 y2 y3) (peek_number.l0 (k + 1) y0 y1 y2 y3))
  | 0 => fun _ _ _ _ r h => by simp [peek_number.l0] at h
  | k + 1 => by
    have ih0 := peek_number.mono_l k
    · intro y0 y1 y2 y3
      unfold peek_number.l0
      repeat' first
      | (with_reducible exact ih0 _ _ _ _)
      | (with_reducible exact LeO.refl _)
      | (with_reducible exact LeO.none _)
      | (with_reducible refine LeO.ite ?_ ?_)
      | (with_reducible refine LeO.bind ?_ (fun _ => ?_))
      | exact ih0 _ _ _ _
      | exact LeO.none _
      | refine LeO.ite ?_ ?_
      | refine LeO.bind ?_ (fun _ => ?_)
theorem peek_number.mono : ∀ a0 a1 a2 k, LeO (peek_number.f k a0 a1 a2) (peek_number.f (k + 1) a0 a1 a2) := by
  intro a0 a1 a2 k
  have ih0 := peek_number.mono_l k
  unfold peek_number.f
  repeat' first
      | (with_reducible exact ih0 _ _ _ _)
      | (with_reducible exact LeO.refl _)
      | (with_reducible exact LeO.none _)
      | (with_reducible refine LeO.ite ?_ ?_)
      | (with_reducible refine LeO.bind ?_ (fun _ => ?_))
      | exact ih0 _ _ _ _
      | exact LeO.none _
      | refine LeO.ite ?_ ?_
      | refine LeO.bind ?_ (fun _ => ?_)
set_option maxHeartbeats 8000000 in
set_option maxRecDepth 100000 in
theorem peek_number.calls (k : Nat) (A0 : Option Addr) (c0 : Nat) (l0 : List Int) (a1 : Int) (a2 : Int) (r1 : Int) (r2 : Bool) (w : World) (hr0 : Kd.C (Kd.int .u8) w A0 l0.length l0) (hc0 : l0.length ≤ c0) (h : peek_number.f k l0 a1 a2 = some (r1, r2)) :
    Calls Try.prog 111 #[.slice A0 l0.length c0, .int .i64 a1, .int .i64 a2] w fun e w' => e = .returned (.tuple #[.int .i64 r1, .bool r2]) ∧ Drawn0 w w' := by
  have HR0 := Aside0.mk hr0
  have HC0 := Aside0.mk hc0
  clear hr0 hc0
  have H : ((peek_there.f l0 a1 a2).bind fun t162 => (if t162 = true then (if 0 ≤ a1 then (if a1 ≤ (wrap64 (a1 + a2)) then (if (wrap64 (a1 + a2)) ≤ (l0.length : Int) then (peek_number.l0 k 0 ((l0.take ((wrap64 (a1 + a2)) : Int).toNat).drop (a1 : Int).toNat) (((l0.take ((wrap64 (a1 + a2)) : Int).toNat).drop (a1 : Int).toNat).length : Int) 0) else (none)) else (none)) else (none)) else (some (0, false)))) = some (r1, r2) := h
  clear h
  replace H := Option.bind_eq_some_iff.mp H
  obtain ⟨t162, A40, H⟩ := H
  replace H : (if t162 = true then (if 0 ≤ a1 then (if a1 ≤ (wrap64 (a1 + a2)) then (if (wrap64 (a1 + a2)) ≤ (l0.length : Int) then (peek_number.l0 k 0 ((l0.take ((wrap64 (a1 + a2)) : Int).toNat).drop (a1 : Int).toNat) (((l0.take ((wrap64 (a1 + a2)) : Int).toNat).drop (a1 : Int).toNat).length : Int) 0) else (none)) else (none)) else (none)) else (some (0, false))) = some (r1, r2) := H
  have A4 := Aside0.mk A40
  clear A40
  by_cases c5 : t162 = true
  · subst c5
    have H1 : (if 0 ≤ a1 then (if a1 ≤ (wrap64 (a1 + a2)) then (if (wrap64 (a1 + a2)) ≤ (l0.length : Int) then (peek_number.l0 k 0 ((l0.take ((wrap64 (a1 + a2)) : Int).toNat).drop (a1 : Int).toNat) (((l0.take ((wrap64 (a1 + a2)) : Int).toNat).drop (a1 : Int).toNat).length : Int) 0) else (none)) else (none)) else (none)) = some (r1, r2) := by rw [if_pos rfl] at H; exact H
    clear H
    have H := H1
    clear H1
    by_cases c6 : 0 ≤ a1
    · rw [if_pos c6] at H
      have c6b0 := eq_true c6
      have c6b1 : decide (0 ≤ a1) = true := decide_eq_true c6
      clear c6
      by_cases c7 : a1 ≤ (wrap64 (a1 + a2))
      · rw [if_pos c7] at H
        have c7b0 := eq_true c7
        have c7b1 : decide (a1 ≤ (wrap64 (a1 + a2))) = true := decide_eq_true c7
        by_cases c8 : (wrap64 (a1 + a2)) ≤ (l0.length : Int)
        · rw [if_pos c8] at H
          have c8b0 := eq_true c8
          have c8b1 : decide ((wrap64 (a1 + a2)) ≤ (l0.length : Int)) = true := decide_eq_true c8
          have H' := Aside0.mk H
          clear H
          go_enter Try.func111, Try.ntmps111
          go_wp2_with (first | ((with_reducible refine gate_callee (f := 112) rfl ?_); refine goesL_ (some 14) rfl rfl Try.func112 (by kernel_rfl) rfl #[.slice A0 l0.length c0, .int .i64 a1, .int .i64 a2] rfl (by (try simp only [List.map_toArray, List.map_cons, List.map_nil]); first | done | rfl | (simp only [List.length_drop, List.length_take]; rfl)) ?_; (with_reducible refine (peek_there.calls _ _ l0 a1 a2 true _ ?side1 ?side2 A4.out).mono ?_); (case side1 => repeat (first | exact HR0.out | (with_reducible refine Kd.C_alloc ?_ _) | (with_reducible refine Kd.C_drewN ?_ _) | (with_reducible refine Kd.C_drew ?_))); (case side2 => exact HC0.out); rintro e w' ⟨rfl, ⟨nd, rfl⟩⟩; refine ⟨_, rfl, ?_⟩; obtain ⟨i09, hi09, _, hsz9, _⟩ := info_parts info5; obtain ⟨A9, hcut9, hA9, hC9⟩ := print_mid_of (P := Try.prog) (Value.int .u8) 0 24 5 .i64 .i64 Try.underlying24 hi09 hsz9 A0 c0 l0 a1 (wrap64 (a1 + a2)) (of_decide_eq_true (by first | (with_reducible assumption) | assumption)) (by first | omega | exact of_decide_eq_true (by first | (with_reducible assumption) | assumption)) (of_decide_eq_true (by first | (with_reducible assumption) | assumption)) HC0.out; have HR163 := Aside0.mk (Kd.C_of_reads (h1 := fun _ => rfl) (hA9 _ (Kd.reads_of_C HR0.out))); have HC163 := Aside0.mk hC9; clear hA9 hC9 hi09 hsz9; have HM163 := Aside0.mk (show ((l0.take ((wrap64 (a1 + a2)) : Int).toNat).drop (a1 : Int).toNat).length = ((wrap64 (a1 + a2)).toNat - a1.toNat) from (by rw [List.length_drop, List.length_take]; have h_ : ((wrap64 (a1 + a2)) : Int) ≤ (l0.length : Int) := of_decide_eq_true (by first | (with_reducible assumption) | assumption); omega))))
          go_loopg [8, 23] k (fun kq v8 v23 w' => ∃ (x8_1 : Int) (x23_1 : Int), v8 = .int .i64 x8_1 ∧ v23 = .int .i64 x23_1 ∧ Aside0 (peek_number.l0 kq x8_1 ((l0.take ((wrap64 (a1 + a2)) : Int).toNat).drop (a1 : Int).toNat) (((l0.take ((wrap64 (a1 + a2)) : Int).toNat).drop (a1 : Int).toNat).length : Int) x23_1 = some (r1, r2)) ∧ Aside0 (kq ≤ k) ∧ Drawn0 w w')
          case atStart => exact ⟨(0), (0), (by first | rfl | (simp; done) | (simp [*]; done)), (by first | rfl | (simp; done) | (simp [*]; done)), H', ⟨Nat.le_refl _⟩, by repeat (first | exact Drawn0.refl _ | apply Drawn0.step)⟩
          case round =>
            clear H'
            try clear c1
            try clear p2
            try clear c5
            try clear c6
            try clear c6b0
            try clear c6b1
            try clear p6
            try clear c7
            try clear c7b0
            try clear c7b1
            try clear c8
            try clear c8b0
            try clear c8b1
            obtain ⟨x8_1, x23_1, rfl, rfl, HA, HK1, ⟨m1, rfl⟩⟩ := hrel
            cases gk with
            | zero => exact absurd HA.out (by simp [peek_number.l0])
            | succ k1 =>
              have H := HA.out
              clear HA
              simp only [peek_number.l0] at H
              by_cases c10 : x23_1 < (((l0.take ((wrap64 (a1 + a2)) : Int).toNat).drop (a1 : Int).toNat).length : Int)
              · rw [if_pos c10] at H
                have c10b0 : decide (x23_1 < (((l0.take ((wrap64 (a1 + a2)) : Int).toNat).drop (a1 : Int).toNat).length : Int)) = true := decide_eq_true c10
                have c10b0m := c10b0
                (try simp only [HM163.out] at c10b0m)
                clear c10
                by_cases c11 : 0 ≤ x23_1
                · rw [if_pos c11] at H
                  have c11b0 : decide (0 ≤ x23_1) = true := decide_eq_true c11
                  clear c11
                  by_cases c12 : x23_1 < (((l0.take ((wrap64 (a1 + a2)) : Int).toNat).drop (a1 : Int).toNat).length : Int)
                  · rw [if_pos c12] at H
                    have c12b0 : decide (x23_1 < (((l0.take ((wrap64 (a1 + a2)) : Int).toNat).drop (a1 : Int).toNat).length : Int)) = true := decide_eq_true c12
                    have c12b0m := c12b0
                    (try simp only [HM163.out] at c12b0m)
                    clear c12
                    have H' := Aside0.mk H
                    clear H
                    have p164 : 0 ≤ (x23_1 : Int) := of_decide_eq_true (by first | (with_reducible assumption) | assumption)
                    have q164 : x23_1 < (((l0.take ((wrap64 (a1 + a2)) : Int).toNat).drop (a1 : Int).toNat).length : Int) := of_decide_eq_true (by first | (with_reducible assumption) | assumption)
                    obtain ⟨ad164, e164, hx164_0⟩ := Kd.at_int HR163.out x23_1 p164 q164
                    cases e164
                    replace p164 := eq_true p164
                    replace q164 := eq_true q164
                    have q164m := q164
                    (try simp only [HM163.out] at q164m)
                    go_wp2
                    go_roundg k1
                    case measure => have := HK1.out; omega
                    case rel => exact ⟨(Go.bits .or .i64 (wrap64 (x8_1 * 256)) (wrap64 (rd ((l0.take ((wrap64 (a1 + a2)) : Int).toNat).drop (a1 : Int).toNat) x23_1))), (wrap64 (x23_1 + 1)), (by first | rfl | (simp; done) | (simp [*]; done)), (by first | rfl | (simp; done) | (simp [*]; done)), H', ⟨by have := HK1.out; omega⟩, by repeat (first | exact Drawn0.refl _ | apply Drawn0.step)⟩
                  · rw [if_neg c12] at H
                    exact absurd H (by simp)
                · rw [if_neg c11] at H
                  exact absurd H (by simp)
              · rw [if_neg c10] at H
                have c10b0 : decide (x23_1 < (((l0.take ((wrap64 (a1 + a2)) : Int).toNat).drop (a1 : Int).toNat).length : Int)) = false := decide_eq_false c10
                have c10b0m := c10b0
                (try simp only [HM163.out] at c10b0m)
                clear c10
                simp only [Option.some.injEq, Prod.mk.injEq] at H
                obtain ⟨rfl, rfl⟩ := H
                go_wp2
                go_ret2
                exact ⟨by first | rfl | (simp; done) | (simp [*]; done), by repeat (first | exact Drawn0.refl _ | apply Drawn0.step)⟩
        · rw [if_neg c8] at H
          exact absurd H (by simp)
      · rw [if_neg c7] at H
        exact absurd H (by simp)
    · rw [if_neg c6] at H
      exact absurd H (by simp)
  · replace c5 := Bool.eq_false_iff.mpr c5
    subst c5
    have H1 : (some (0, false)) = some (r1, r2) := by rw [if_neg (show ¬ (false = true) by decide)] at H; exact H
    clear H
    have H := H1
    clear H1
    simp only [Option.some.injEq, Prod.mk.injEq] at H
    obtain ⟨rfl, rfl⟩ := H
    go_enter Try.func111, Try.ntmps111
    go_wp2_with (first | ((with_reducible refine gate_callee (f := 112) rfl ?_); refine goesL_ (some 14) rfl rfl Try.func112 (by kernel_rfl) rfl #[.slice A0 l0.length c0, .int .i64 a1, .int .i64 a2] rfl (by (try simp only [List.map_toArray, List.map_cons, List.map_nil]); first | done | rfl | (simp only [List.length_drop, List.length_take]; rfl)) ?_; (with_reducible refine (peek_there.calls _ _ l0 a1 a2 false _ ?side1 ?side2 A4.out).mono ?_); (case side1 => repeat (first | exact HR0.out | (with_reducible refine Kd.C_alloc ?_ _) | (with_reducible refine Kd.C_drewN ?_ _) | (with_reducible refine Kd.C_drew ?_))); (case side2 => exact HC0.out); rintro e w' ⟨rfl, ⟨nd, rfl⟩⟩; refine ⟨_, rfl, ?_⟩))
    go_ret2
    exact ⟨by first | rfl | (simp; done) | (simp [*]; done), by repeat (first | exact Drawn0.refl _ | apply Drawn0.step)⟩

/-! ### peek_U16: function 64 -/
def peek_U16.f (k : Nat) (l0 : List Int) (a1 : Int) : Option (Int × Bool) := (peek_number.f k l0 a1 2).bind fun bt165 => (some (bt165.1, bt165.2))
theorem peek_U16.mono : ∀ a0 a1 k, LeO (peek_U16.f k a0 a1) (peek_U16.f (k + 1) a0 a1) := by
  intro a0 a1 k
  unfold peek_U16.f
  repeat' first
      | (with_reducible exact peek_number.mono _ _ _ _)
      | (with_reducible exact LeO.refl _)
      | (with_reducible exact LeO.none _)
      | (with_reducible refine LeO.ite ?_ ?_)
      | (with_reducible refine LeO.bind ?_ (fun _ => ?_))
      | exact peek_number.mono _ _ _ _
      | exact LeO.none _
      | refine LeO.ite ?_ ?_
      | refine LeO.bind ?_ (fun _ => ?_)
set_option maxHeartbeats 8000000 in
set_option maxRecDepth 100000 in
theorem peek_U16.calls (k : Nat) (A0 : Option Addr) (c0 : Nat) (l0 : List Int) (a1 : Int) (r1 : Int) (r2 : Bool) (w : World) (hr0 : Kd.C (Kd.int .u8) w A0 l0.length l0) (hc0 : l0.length ≤ c0) (h : peek_U16.f k l0 a1 = some (r1, r2)) :
    Calls Try.prog 64 #[.slice A0 l0.length c0, .int .i64 a1] w fun e w' => e = .returned (.tuple #[.int .i64 r1, .bool r2]) ∧ Drawn0 w w' := by
  have HR0 := Aside0.mk hr0
  have HC0 := Aside0.mk hc0
  clear hr0 hc0
  have H : ((peek_number.f k l0 a1 2).bind fun bt165 => (some (bt165.1, bt165.2))) = some (r1, r2) := h
  clear h
  replace H := Option.bind_eq_some_iff.mp H
  obtain ⟨⟨t165, t166⟩, A30, H⟩ := H
  replace H : (some (t165, t166)) = some (r1, r2) := H
  have A3 := Aside0.mk A30
  clear A30
  simp only [Option.some.injEq, Prod.mk.injEq] at H
  obtain ⟨rfl, rfl⟩ := H
  go_enter Try.func64, Try.ntmps64
  go_wp2_with (first | ((with_reducible refine gate_callee (f := 111) rfl ?_); refine goesL_ (some 8) rfl rfl Try.func111 (by kernel_rfl) rfl #[.slice A0 l0.length c0, .int .i64 a1, .int .i64 2] rfl (by (try simp only [List.map_toArray, List.map_cons, List.map_nil]); first | done | rfl | (simp only [List.length_drop, List.length_take]; rfl)) ?_; (with_reducible refine (peek_number.calls k _ _ l0 a1 2 t165 t166 _ ?side1 ?side2 A3.out).mono ?_); (case side1 => repeat (first | exact HR0.out | (with_reducible refine Kd.C_alloc ?_ _) | (with_reducible refine Kd.C_drewN ?_ _) | (with_reducible refine Kd.C_drew ?_))); (case side2 => exact HC0.out); rintro e w' ⟨rfl, ⟨nd, rfl⟩⟩; refine ⟨_, rfl, ?_⟩))
  go_ret2
  exact ⟨by first | rfl | (simp; done) | (simp [*]; done), by repeat (first | exact Drawn0.refl _ | apply Drawn0.step)⟩

/-! ### sfnt_versioned: function 65 -/
def sfnt_versioned.f (k : Nat) (l0 : List Int) : Option (Bool) := if 4 ≤ (l0.length : Int) then ((slices_Contains_string_string.f k (([(⟨#[0, 1, 0, 0]⟩ : ByteArray), (⟨#[79, 84, 84, 79]⟩ : ByteArray), (⟨#[116, 114, 117, 101]⟩ : ByteArray)] : List ByteArray)) (strOfNums (l0.take 4))).bind fun t171 => (some t171)) else (none)
theorem sfnt_versioned.mono : ∀ a0 k, LeO (sfnt_versioned.f k a0) (sfnt_versioned.f (k + 1) a0) := by
  intro a0 k
  unfold sfnt_versioned.f
  repeat' first
      | (with_reducible exact slices_Contains_string_string.mono _ _ _)
      | (with_reducible exact LeO.refl _)
      | (with_reducible exact LeO.none _)
      | (with_reducible refine LeO.ite ?_ ?_)
      | (with_reducible refine LeO.bind ?_ (fun _ => ?_))
      | exact slices_Contains_string_string.mono _ _ _
      | exact LeO.none _
      | refine LeO.ite ?_ ?_
      | refine LeO.bind ?_ (fun _ => ?_)
set_option maxHeartbeats 8000000 in
set_option maxRecDepth 100000 in
theorem sfnt_versioned.calls (k : Nat) (A0 : Option Addr) (c0 : Nat) (l0 : List Int) (r : Bool) (w : World) (hr0 : Kd.C (Kd.int .u8) w A0 l0.length l0) (hc0 : l0.length ≤ c0) (h : sfnt_versioned.f k l0 = some r) :
    Calls Try.prog 65 #[.slice A0 l0.length c0] w fun e w' => e = .returned (.bool r) ∧ Below w.heap.size w w' := by
  have HR0 := Aside0.mk hr0
  have HC0 := Aside0.mk hc0
  clear hr0 hc0
  have HB := Aside0.mk (Below.refl w.heap.size w)
  have H : (if 4 ≤ (l0.length : Int) then ((slices_Contains_string_string.f k (([(⟨#[0, 1, 0, 0]⟩ : ByteArray), (⟨#[79, 84, 84, 79]⟩ : ByteArray), (⟨#[116, 114, 117, 101]⟩ : ByteArray)] : List ByteArray)) (strOfNums (l0.take 4))).bind fun t171 => (some t171)) else (none)) = some r := h
  clear h
  obtain ⟨y167, hy167⟩ : ∃ y_ : List ByteArray, y_ = (([(⟨#[0, 1, 0, 0]⟩ : ByteArray), (⟨#[79, 84, 84, 79]⟩ : ByteArray), (⟨#[116, 114, 117, 101]⟩ : ByteArray)] : List ByteArray)) := ⟨_, rfl⟩
  replace H : (if 4 ≤ (l0.length : Int) then ((slices_Contains_string_string.f k y167 (strOfNums (l0.take 4))).bind fun t171 => (some t171)) else (none)) = some r := by first | (rw [hy167]; with_reducible exact H) | (have H2_ := (Option.bind_some _ _).symm.trans H; rw [hy167]; with_reducible exact H2_) | (have H2_ := (Option.bind_some _ _).symm.trans H; with_reducible exact H2_) | with_reducible exact H | (rw [hy167]; exact H) | exact H
  have Ny167 := Aside0.mk hy167
  clear hy167
  by_cases c2 : 4 ≤ (l0.length : Int)
  · rw [if_pos c2] at H
    have c2b0 := eq_true c2
    have c2b1 : decide (4 ≤ (l0.length : Int)) = true := decide_eq_true c2
    clear c2
    replace H := Option.bind_eq_some_iff.mp H
    obtain ⟨t171, A30, H⟩ := H
    replace H : (some t171) = some r := H
    have A3 := Aside0.mk A30
    clear A30
    obtain rfl := Option.some.inj H
    go_enter Try.func65, Try.ntmps65
    go_wp2_with (first | ((with_reducible refine gate_dst (N := 3) rfl ?_); refine Kd.R_lit Kd.string _ 9 ?hg (N := 3) ?hd (xs := ([(⟨#[0, 1, 0, 0]⟩ : ByteArray), (⟨#[79, 84, 84, 79]⟩ : ByteArray), (⟨#[116, 114, 117, 101]⟩ : ByteArray)] : List ByteArray)) (inner := [.string (⟨#[0, 1, 0, 0]⟩ : ByteArray), .string (⟨#[79, 84, 84, 79]⟩ : ByteArray), .string (⟨#[116, 114, 117, 101]⟩ : ByteArray)]) (ok := fun _ => True) (okp := fun _ => True) ?hr ?hp (fun _ hk => hk) trivial (Below.refl _ _) (Nat.le_refl _) (by simp) ?_; (case hd => rfl); (case hg => rfl); (case hr => first | (go_simp; done) | (go_simp; rfl)); (case hp => exact (Reps.one (show Kd.M Kd.string _ _ _ (⟨#[0, 1, 0, 0]⟩ : ByteArray) [.string (⟨#[0, 1, 0, 0]⟩ : ByteArray)] from rfl) (Reps.one (show Kd.M Kd.string _ _ _ (⟨#[79, 84, 84, 79]⟩ : ByteArray) [.string (⟨#[79, 84, 84, 79]⟩ : ByteArray)] from rfl) (Reps.one (show Kd.M Kd.string _ _ _ (⟨#[116, 114, 117, 101]⟩ : ByteArray) [.string (⟨#[116, 114, 117, 101]⟩ : ByteArray)] from rfl) (Reps.none _ _))))); intro v168 w4 ho5 hb hg_ hnew_; clear hg_ hnew_; (first | rw [← Ny167.out] at ho5 | (simp only [Int.reduceToNat] at ho5; rw [← Ny167.out] at ho5)); have n0_ := Aside0.mk (Kd.R_lower ho5 (below_size (by repeat (first | (with_reducible first | exact HB.out | apply below_alloc | apply pw_below_drewN | apply below_drew1) | exact HB.out)))); have n1_ := Aside0.mk (below_step (by repeat (first | (with_reducible first | exact HB.out | apply below_alloc | apply pw_below_drewN | apply below_drew1) | exact HB.out)) hb); clear HB; have HO169 := n0_; have HB := n1_; clear n0_ n1_; clear hb ho5; obtain ⟨i06, hi06, _, hsz6, _⟩ := info_parts info5; obtain ⟨hcut6, hA6, hC6⟩ := print_take_of (P := Try.prog) (Value.int .u8) 0 24 5 .i64 Try.underlying24 hi06 hsz6 A0 c0 l0 4 (by omega) (of_decide_eq_true (by first | (with_reducible assumption) | assumption)) HC0.out; have HR170 := Aside0.mk (Kd.C_of_reads (h1 := fun _ => rfl) (hA6 _ (Kd.reads_of_C HR0.out))); have HC170 := Aside0.mk hC6; clear hA6 hC6 hi06 hsz6; have hcuts6 := hcut6; (try rw [show (l0.take 4).length = 4 from (by rw [List.length_take]; have h_ : (4 : Int) ≤ (l0.length : Int) := of_decide_eq_true (by first | (with_reducible assumption) | assumption); omega)] at hcuts6); have hcv7 := Kd.C_string (P := Try.prog) (A := A0) (c := c0) Try.underlying24 Try.underlying5 Try.underlying9 (Kd.C_below HR170.out HB.out); have hcvm7 := hcv7; (try simp only [List.length_take, List.length_drop, Int.reduceToNat] at hcvm7); have hcvd7 := fun n_ : Nat => Kd.C_string (P := Try.prog) (A := A0) (c := c0) Try.underlying24 Try.underlying5 Try.underlying9 (Kd.C_drewN (Kd.C_below HR170.out HB.out) n_); (try simp only [List.length_take, Int.reduceToNat] at hcvd7); have hcvs7 := hcv7; (try rw [show (l0.take 4).length = 4 from (by rw [List.length_take]; have h_ : (4 : Int) ≤ (l0.length : Int) := of_decide_eq_true (by first | (with_reducible assumption) | assumption); omega)] at hcvs7); obtain ⟨Ao8, co8, eo8⟩ := Kd.R_slice HO169.out; subst eo8) | ((with_reducible refine gate_callee (f := 61) rfl ?_); refine goesL_ (some 7) rfl rfl Try.func61 (by kernel_rfl) rfl #[.slice Ao8 y167.length co8, .string (strOfNums (l0.take 4))] rfl (by (try simp only [List.map_toArray, List.map_cons, List.map_nil]); first | done | rfl | (simp only [List.length_drop, List.length_take]; rfl)) ?_; (with_reducible refine (slices_Contains_string_string.calls k _ _ y167 (strOfNums (l0.take 4)) t171 _ ?side1 ?side2 A3.out).mono ?_); (case side1 => repeat (first | exact (Kd.R_reads' HO169.out).2.2 | (with_reducible refine Kd.C_alloc ?_ _) | (with_reducible refine Kd.C_drewN ?_ _) | (with_reducible refine Kd.C_drew ?_))); (case side2 => exact (Kd.R_reads' HO169.out).2.1); rintro e w' ⟨rfl, ⟨nd, rfl⟩⟩; refine ⟨_, rfl, ?_⟩))
    go_ret
    exact ⟨by first | rfl | (simp [errW_none, errW_some] <;> rfl) | (simp [*, errW_none, errW_some] <;> rfl), by repeat (first | (with_reducible first | exact HB.out | apply below_alloc | apply pw_below_drewN | apply below_drew1) | exact HB.out)⟩
  · rw [if_neg c2] at H
    exact absurd H (by simp)

/-! ### peek_U32: function 66 -/
def peek_U32.f (k : Nat) (l0 : List Int) (a1 : Int) : Option (Int × Bool) := (peek_number.f k l0 a1 4).bind fun bt172 => (some (bt172.1, bt172.2))
theorem peek_U32.mono : ∀ a0 a1 k, LeO (peek_U32.f k a0 a1) (peek_U32.f (k + 1) a0 a1) := by
  intro a0 a1 k
  unfold peek_U32.f
  repeat' first
      | (with_reducible exact peek_number.mono _ _ _ _)
      | (with_reducible exact LeO.refl _)
      | (with_reducible exact LeO.none _)
      | (with_reducible refine LeO.ite ?_ ?_)
      | (with_reducible refine LeO.bind ?_ (fun _ => ?_))
      | exact peek_number.mono _ _ _ _
      | exact LeO.none _
      | refine LeO.ite ?_ ?_
      | refine LeO.bind ?_ (fun _ => ?_)
set_option maxHeartbeats 8000000 in
set_option maxRecDepth 100000 in
theorem peek_U32.calls (k : Nat) (A0 : Option Addr) (c0 : Nat) (l0 : List Int) (a1 : Int) (r1 : Int) (r2 : Bool) (w : World) (hr0 : Kd.C (Kd.int .u8) w A0 l0.length l0) (hc0 : l0.length ≤ c0) (h : peek_U32.f k l0 a1 = some (r1, r2)) :
    Calls Try.prog 66 #[.slice A0 l0.length c0, .int .i64 a1] w fun e w' => e = .returned (.tuple #[.int .i64 r1, .bool r2]) ∧ Drawn0 w w' := by
  have HR0 := Aside0.mk hr0
  have HC0 := Aside0.mk hc0
  clear hr0 hc0
  have H : ((peek_number.f k l0 a1 4).bind fun bt172 => (some (bt172.1, bt172.2))) = some (r1, r2) := h
  clear h
  replace H := Option.bind_eq_some_iff.mp H
  obtain ⟨⟨t172, t173⟩, A30, H⟩ := H
  replace H : (some (t172, t173)) = some (r1, r2) := H
  have A3 := Aside0.mk A30
  clear A30
  simp only [Option.some.injEq, Prod.mk.injEq] at H
  obtain ⟨rfl, rfl⟩ := H
  go_enter Try.func66, Try.ntmps66
  go_wp2_with (first | ((with_reducible refine gate_callee (f := 111) rfl ?_); refine goesL_ (some 8) rfl rfl Try.func111 (by kernel_rfl) rfl #[.slice A0 l0.length c0, .int .i64 a1, .int .i64 4] rfl (by (try simp only [List.map_toArray, List.map_cons, List.map_nil]); first | done | rfl | (simp only [List.length_drop, List.length_take]; rfl)) ?_; (with_reducible refine (peek_number.calls k _ _ l0 a1 4 t172 t173 _ ?side1 ?side2 A3.out).mono ?_); (case side1 => repeat (first | exact HR0.out | (with_reducible refine Kd.C_alloc ?_ _) | (with_reducible refine Kd.C_drewN ?_ _) | (with_reducible refine Kd.C_drew ?_))); (case side2 => exact HC0.out); rintro e w' ⟨rfl, ⟨nd, rfl⟩⟩; refine ⟨_, rfl, ?_⟩))
  go_ret2
  exact ⟨by first | rfl | (simp; done) | (simp [*]; done), by repeat (first | exact Drawn0.refl _ | apply Drawn0.step)⟩

/-! ### slices_Clone_byte_byte: function 71 -/
def slices_Clone_byte_byte.f (l0 : List Int) : Option (List Int) := (some (([] : List Int) : List Int)).bind fun y174 => (if y174.length + l0.length < 140737488355328 then (some (y174 ++ l0)) else (none))
set_option maxHeartbeats 8000000 in
set_option maxRecDepth 100000 in
theorem slices_Clone_byte_byte.calls (A0 : Option Addr) (c0 : Nat) (l0 : List Int) (r : List Int) (w : World) (hr0 : Kd.C (Kd.int .u8) w A0 l0.length l0) (hc0 : l0.length ≤ c0) (h : slices_Clone_byte_byte.f l0 = some r) :
    Calls Try.prog 71 #[.slice A0 l0.length c0] w fun e w' => ∃ v0_ : Value, e = .returned (v0_) ∧ Kd.R (Kd.int .u8) 5 w' w.heap.size (fun _ => True) v0_ r ∧ Below w.heap.size w w' := by
  have HR0 := Aside0.mk hr0
  have HC0 := Aside0.mk hc0
  clear hr0 hc0
  have HB := Aside0.mk (Below.refl w.heap.size w)
  have H : ((some (([] : List Int) : List Int)).bind fun y174 => (if y174.length + l0.length < 140737488355328 then (some (y174 ++ l0)) else (none))) = some r := h
  clear h
  by_cases hA0 : A0 = none
  · subst hA0
    have hl_ : l0 = [] := List.eq_nil_of_length_eq_zero ((Nat.eq_zero_or_pos l0.length).elim id (fun h_ => by obtain ⟨_, e_, _⟩ := HR0.out.2.2 h_; cases e_))
    subst hl_
    have hr_ : r = [] := by simpa using H.symm
    subst hr_
    have hE_ := fun w_ => Go.Lib.run_eql_slice_nil (P := Try.prog) w_ 24 5 none 0 c0 0 0 Try.underlying24
    go_enter Try.func71, Try.ntmps71
    go_wp2
    go_ret
    exact ⟨_, rfl, Kd.R_nil _ _ _ _ _, by repeat (first | exact HB.out | apply below_alloc | apply pw_below_drewN | apply below_drew1)⟩
  · have hN_ : A0.isNone = false := by cases A0 <;> simp_all
    have hE_ := fun w_ => Go.Lib.run_eql_slice_nil (P := Try.prog) w_ 24 5 A0 l0.length c0 0 0 Try.underlying24
    simp only [hN_] at hE_
    clear hA0
    obtain ⟨y174, hy174⟩ : ∃ y_ : List Int, y_ = (([] : List Int)) := ⟨_, rfl⟩
    replace H : (if y174.length + l0.length < 140737488355328 then (some (y174 ++ l0)) else (none)) = some r := by first | (rw [hy174]; with_reducible exact H) | (have H2_ := (Option.bind_some _ _).symm.trans H; rw [hy174]; with_reducible exact H2_) | (have H2_ := (Option.bind_some _ _).symm.trans H; with_reducible exact H2_) | with_reducible exact H | (rw [hy174]; exact H) | exact H
    have Ny174 := Aside0.mk hy174
    clear hy174
    by_cases c2 : y174.length + l0.length < 140737488355328
    · rw [if_pos c2] at H
      have LMc2 := Aside0.mk c2
      clear c2
      obtain ⟨y177, hy177⟩ : ∃ y_ : List Int, y_ = (y174 ++ l0) := ⟨_, rfl⟩
      replace H : (some y177) = some r := by first | (rw [hy177]; with_reducible exact H) | (have H2_ := (Option.bind_some _ _).symm.trans H; rw [hy177]; with_reducible exact H2_) | (have H2_ := (Option.bind_some _ _).symm.trans H; with_reducible exact H2_) | with_reducible exact H | (rw [hy177]; exact H) | exact H
      have Ny177 := Aside0.mk hy177
      clear hy177
      obtain rfl := Option.some.inj H
      go_enter Try.func71, Try.ntmps71
      go_wp2_with (first | ((with_reducible refine gate_dst (N := 5) rfl ?_); refine Kd.R_lit (Kd.int .u8) _ 5 ?hg (N := 5) ?hd (xs := ([] : List Int)) (inner := []) (ok := fun _ => True) (okp := fun _ => True) ?hr ?hp (fun _ hk => hk) trivial (Below.refl _ _) (Nat.le_refl _) (by simp) ?_; (case hd => rfl); (case hg => rfl); (case hr => first | (go_simp; done) | (go_simp; rfl)); (case hp => exact (Reps.none _ _)); intro v175 w3 ho4 hb hg_ hnew_; clear hg_ hnew_; (first | rw [← Ny174.out] at ho4 | (simp only [Int.reduceToNat] at ho4; rw [← Ny174.out] at ho4)); have n0_ := Aside0.mk (Kd.R_lower ho4 (below_size (by repeat (first | (with_reducible first | exact HB.out | apply below_alloc | apply pw_below_drewN | apply below_drew1) | exact HB.out)))); have n1_ := Aside0.mk (below_step (by repeat (first | (with_reducible first | exact HB.out | apply below_alloc | apply pw_below_drewN | apply below_drew1) | exact HB.out)) hb); clear HB; have HO176 := n0_; have HB := n1_; clear n0_ n1_; clear hb ho4) | ((with_reducible refine gate_builtin (b := .append) (xs := #[.tmp 5, .tmp 6]) rfl ?_); at_builtin; refine Kd.R_append_rows (Kd.int .u8) (w0 := w) w.heap.size rfl (.tmp 5) (.tmp 6) 24 5 (.int .u8 0) 1 rfl Try.underlying24 info5 rfl (by decide) (by omega) v175 y174 l0 _ _ _ (fun _ => True) (fun _ => False) rfl rfl ?aO ?aR (fun _ _ h => h) (fun _ h => h.elim) ?aF ?aB ?aS ?aL ?_; (case aR => repeat (first | exact (Kd.C_below HR0.out HB.out) | (with_reducible refine Kd.C_alloc ?_ _) | (with_reducible refine Kd.C_drewN ?_ _) | (with_reducible refine Kd.C_drew ?_))); (case aB => exact (by repeat (first | (with_reducible first | exact HB.out | apply below_alloc | apply pw_below_drewN | apply below_drew1) | exact HB.out))); (case aF => exact (fun _ _ => trivial)); (case aO => exact (by (with_reducible repeat (first | apply Kd.R_alloc | apply Kd.R_drewN | apply Kd.R_drew)); exact HO176.out)); (case aS => exact (below_size (by repeat (first | (with_reducible first | exact HB.out | apply below_alloc | apply pw_below_drewN | apply below_drew1) | exact HB.out)))); (case aL => have := LMc2.out; omega); intro v178 w5 ho hb hg hat; rw [← Ny177.out] at ho; have n0_ := Aside0.mk (hb); have n1_ := Aside0.mk (ho); clear HB; clear HO176; have HB := n0_; have HO179 := n1_; clear n0_ n1_; clear ho hb hg hat))
      go_ret
      exact ⟨_, by first | rfl | (simp [errW_none, errW_some] <;> rfl) | (simp [*, errW_none, errW_some] <;> rfl), by (with_reducible repeat (first | apply Kd.R_alloc | apply Kd.R_drewN | apply Kd.R_drew)); exact HO179.out, by repeat (first | (with_reducible first | exact HB.out | apply below_alloc | apply pw_below_drewN | apply below_drew1) | exact HB.out)⟩
    · rw [if_neg c2] at H
      exact absurd H (by simp)

/-! ### peek_Part: function 67 -/
def peek_Part.f (l0 : List Int) (a1 : Int) (a2 : Int) : Option (List Int × Bool) := (peek_there.f l0 a1 a2).bind fun t180 => (if t180 = true then (if 0 ≤ a1 then (if a1 ≤ (wrap64 (a1 + a2)) then (if (wrap64 (a1 + a2)) ≤ (l0.length : Int) then ((slices_Clone_byte_byte.f ((l0.take ((wrap64 (a1 + a2)) : Int).toNat).drop (a1 : Int).toNat)).bind fun t182 => (some (t182, true))) else (none)) else (none)) else (none)) else (some (([] : List Int), false)))
set_option maxHeartbeats 8000000 in
set_option maxRecDepth 100000 in
theorem peek_Part.calls (A0 : Option Addr) (c0 : Nat) (l0 : List Int) (a1 : Int) (a2 : Int) (r1 : List Int) (r2 : Bool) (w : World) (hr0 : Kd.C (Kd.int .u8) w A0 l0.length l0) (hc0 : l0.length ≤ c0) (h : peek_Part.f l0 a1 a2 = some (r1, r2)) :
    Calls Try.prog 67 #[.slice A0 l0.length c0, .int .i64 a1, .int .i64 a2] w fun e w' => ∃ v0_ : Value, e = .returned (.tuple #[v0_, .bool r2]) ∧ Kd.R (Kd.int .u8) 5 w' w.heap.size (fun _ => True) v0_ r1 ∧ Below w.heap.size w w' := by
  have HR0 := Aside0.mk hr0
  have HC0 := Aside0.mk hc0
  clear hr0 hc0
  have HB := Aside0.mk (Below.refl w.heap.size w)
  have H : ((peek_there.f l0 a1 a2).bind fun t180 => (if t180 = true then (if 0 ≤ a1 then (if a1 ≤ (wrap64 (a1 + a2)) then (if (wrap64 (a1 + a2)) ≤ (l0.length : Int) then ((slices_Clone_byte_byte.f ((l0.take ((wrap64 (a1 + a2)) : Int).toNat).drop (a1 : Int).toNat)).bind fun t182 => (some (t182, true))) else (none)) else (none)) else (none)) else (some (([] : List Int), false)))) = some (r1, r2) := h
  clear h
  replace H := Option.bind_eq_some_iff.mp H
  obtain ⟨t180, A40, H⟩ := H
  replace H : (if t180 = true then (if 0 ≤ a1 then (if a1 ≤ (wrap64 (a1 + a2)) then (if (wrap64 (a1 + a2)) ≤ (l0.length : Int) then ((slices_Clone_byte_byte.f ((l0.take ((wrap64 (a1 + a2)) : Int).toNat).drop (a1 : Int).toNat)).bind fun t182 => (some (t182, true))) else (none)) else (none)) else (none)) else (some (([] : List Int), false))) = some (r1, r2) := H
  have A4 := Aside0.mk A40
  clear A40
  by_cases c5 : t180 = true
  · subst c5
    have H1 : (if 0 ≤ a1 then (if a1 ≤ (wrap64 (a1 + a2)) then (if (wrap64 (a1 + a2)) ≤ (l0.length : Int) then ((slices_Clone_byte_byte.f ((l0.take ((wrap64 (a1 + a2)) : Int).toNat).drop (a1 : Int).toNat)).bind fun t182 => (some (t182, true))) else (none)) else (none)) else (none)) = some (r1, r2) := by rw [if_pos rfl] at H; exact H
    clear H
    have H := H1
    clear H1
    by_cases c6 : 0 ≤ a1
    · rw [if_pos c6] at H
      have c6b0 := eq_true c6
      have c6b1 : decide (0 ≤ a1) = true := decide_eq_true c6
      clear c6
      by_cases c7 : a1 ≤ (wrap64 (a1 + a2))
      · rw [if_pos c7] at H
        have c7b0 := eq_true c7
        have c7b1 : decide (a1 ≤ (wrap64 (a1 + a2))) = true := decide_eq_true c7
        by_cases c8 : (wrap64 (a1 + a2)) ≤ (l0.length : Int)
        · rw [if_pos c8] at H
          have c8b0 := eq_true c8
          have c8b1 : decide ((wrap64 (a1 + a2)) ≤ (l0.length : Int)) = true := decide_eq_true c8
          replace H := Option.bind_eq_some_iff.mp H
          obtain ⟨t182, A90, H⟩ := H
          replace H : (some (t182, true)) = some (r1, r2) := H
          have A9 := Aside0.mk A90
          clear A90
          simp only [Option.some.injEq, Prod.mk.injEq] at H
          obtain ⟨rfl, rfl⟩ := H
          go_enter Try.func67, Try.ntmps67
          go_wp2_with (first | ((with_reducible refine gate_callee (f := 112) rfl ?_); refine goesL_ (some 11) rfl rfl Try.func112 (by kernel_rfl) rfl #[.slice A0 l0.length c0, .int .i64 a1, .int .i64 a2] rfl (by (try simp only [List.map_toArray, List.map_cons, List.map_nil]); first | done | rfl | (simp only [List.length_drop, List.length_take]; rfl)) ?_; (with_reducible refine (peek_there.calls _ _ l0 a1 a2 true _ ?side1 ?side2 A4.out).mono ?_); (case side1 => repeat (first | exact HR0.out | (with_reducible refine Kd.C_alloc ?_ _) | (with_reducible refine Kd.C_drewN ?_ _) | (with_reducible refine Kd.C_drew ?_))); (case side2 => exact HC0.out); rintro e w' ⟨rfl, ⟨nd, rfl⟩⟩; refine ⟨_, rfl, ?_⟩; obtain ⟨i010, hi010, _, hsz10, _⟩ := info_parts info5; obtain ⟨A10, hcut10, hA10, hC10⟩ := print_mid_of (P := Try.prog) (Value.int .u8) 0 24 5 .i64 .i64 Try.underlying24 hi010 hsz10 A0 c0 l0 a1 (wrap64 (a1 + a2)) (of_decide_eq_true (by first | (with_reducible assumption) | assumption)) (by first | omega | exact of_decide_eq_true (by first | (with_reducible assumption) | assumption)) (of_decide_eq_true (by first | (with_reducible assumption) | assumption)) HC0.out; have HR181 := Aside0.mk (Kd.C_of_reads (h1 := fun _ => rfl) (hA10 _ (Kd.reads_of_C HR0.out))); have HC181 := Aside0.mk hC10; clear hA10 hC10 hi010 hsz10; have HM181 := Aside0.mk (show ((l0.take ((wrap64 (a1 + a2)) : Int).toNat).drop (a1 : Int).toNat).length = ((wrap64 (a1 + a2)).toNat - a1.toNat) from (by rw [List.length_drop, List.length_take]; have h_ : ((wrap64 (a1 + a2)) : Int) ≤ (l0.length : Int) := of_decide_eq_true (by first | (with_reducible assumption) | assumption); omega))) | ((with_reducible refine gate_callee (f := 71) rfl ?_); refine goesL_ (some 19) rfl rfl Try.func71 (by kernel_rfl) rfl #[.slice A10 ((l0.take ((wrap64 (a1 + a2)) : Int).toNat).drop (a1 : Int).toNat).length (c0 - a1.toNat)] rfl (by (try simp only [List.map_toArray, List.map_cons, List.map_nil]); first | done | (rw [show ((l0.take ((wrap64 (a1 + a2)) : Int).toNat).drop (a1 : Int).toNat).length = ((wrap64 (a1 + a2)).toNat - a1.toNat) from (by rw [List.length_drop, List.length_take]; have h_ : ((wrap64 (a1 + a2)) : Int) ≤ (l0.length : Int) := of_decide_eq_true (by first | (with_reducible assumption) | assumption); omega)] <;> rfl) | rfl | (simp only [List.length_drop, List.length_take]; rfl)) ?_; (with_reducible refine (slices_Clone_byte_byte.calls _ _ ((l0.take ((wrap64 (a1 + a2)) : Int).toNat).drop (a1 : Int).toNat) t182 _ ?side1 ?side2 A9.out).mono ?_); (case side1 => repeat (first | exact HR181.out | (with_reducible refine Kd.C_alloc ?_ _) | (with_reducible refine Kd.C_drewN ?_ _) | (with_reducible refine Kd.C_drew ?_))); (case side2 => exact HC181.out); rintro e w11 ⟨v183, rfl, ho0, hb⟩; refine ⟨_, rfl, ?_⟩; have n0_ := Aside0.mk (Kd.R_lower ho0 (below_size (by repeat (first | (with_reducible first | exact HB.out | apply below_alloc | apply pw_below_drewN | apply below_drew1) | exact HB.out)))); have n1_ := Aside0.mk (below_step (by repeat (first | (with_reducible first | exact HB.out | apply below_alloc | apply pw_below_drewN | apply below_drew1) | exact HB.out)) hb); clear HB; have HO184 := n0_; have HB := n1_; clear n0_ n1_; (try clear hb); (try clear hb2); (try clear hk); (try clear hi); (try clear ho0)))
          go_ret2
          exact ⟨_, by first | rfl | (simp [errW_none, errW_some] <;> rfl) | (simp [*, errW_none, errW_some] <;> rfl), by (with_reducible repeat (first | apply Kd.R_alloc | apply Kd.R_drewN | apply Kd.R_drew)); exact HO184.out, by repeat (first | (with_reducible first | exact HB.out | apply below_alloc | apply pw_below_drewN | apply below_drew1) | exact HB.out)⟩
        · rw [if_neg c8] at H
          exact absurd H (by simp)
      · rw [if_neg c7] at H
        exact absurd H (by simp)
    · rw [if_neg c6] at H
      exact absurd H (by simp)
  · replace c5 := Bool.eq_false_iff.mpr c5
    subst c5
    have H1 : (some (([] : List Int), false)) = some (r1, r2) := by rw [if_neg (show ¬ (false = true) by decide)] at H; exact H
    clear H
    have H := H1
    clear H1
    simp only [Option.some.injEq, Prod.mk.injEq] at H
    obtain ⟨rfl, rfl⟩ := H
    go_enter Try.func67, Try.ntmps67
    go_wp2_with (first | ((with_reducible refine gate_callee (f := 112) rfl ?_); refine goesL_ (some 11) rfl rfl Try.func112 (by kernel_rfl) rfl #[.slice A0 l0.length c0, .int .i64 a1, .int .i64 a2] rfl (by (try simp only [List.map_toArray, List.map_cons, List.map_nil]); first | done | rfl | (simp only [List.length_drop, List.length_take]; rfl)) ?_; (with_reducible refine (peek_there.calls _ _ l0 a1 a2 false _ ?side1 ?side2 A4.out).mono ?_); (case side1 => repeat (first | exact HR0.out | (with_reducible refine Kd.C_alloc ?_ _) | (with_reducible refine Kd.C_drewN ?_ _) | (with_reducible refine Kd.C_drew ?_))); (case side2 => exact HC0.out); rintro e w' ⟨rfl, ⟨nd, rfl⟩⟩; refine ⟨_, rfl, ?_⟩))
    go_ret2
    exact ⟨_, by first | rfl | (simp [errW_none, errW_some] <;> rfl) | (simp [*, errW_none, errW_some] <;> rfl), by first | exact Kd.R_nil _ _ _ _ _ | exact Kd.N_nil _ _ _ _ _ | exact Kd.V_nil _ _ _ _ _ | exact Kd.Q_nil _ _ _ _ _ | exact Kd.S_nil _ _ _ _ _, by repeat (first | (with_reducible first | exact HB.out | apply below_alloc | apply pw_below_drewN | apply below_drew1) | exact HB.out)⟩

/-! ### sfnt_Open: function 20 -/
def sfnt_Open.l0 : Nat → List Int → Int → Int → List (ByteArray × List Int) → Option (List S135 × Int)
  | 0, _, _, _, _ => none
  | k + 1, l0, n, i, x => if i < n then
      (if 0 ≤ wrap64 (12 + wrap64 (i * 16)) then (if wrap64 (12 + wrap64 (i * 16)) ≤ wrap64 (wrap64 (12 + wrap64 (i * 16)) + 4) then (if wrap64 (wrap64 (12 + wrap64 (i * 16)) + 4) ≤ (l0.length : Int) then
        ((peek_U32.f k l0 (wrap64 (wrap64 (12 + wrap64 (i * 16)) + 8))).bind fun o => (peek_U32.f k l0 (wrap64 (wrap64 (12 + wrap64 (i * 16)) + 12))).bind fun s => (peek_Part.f l0 o.1 s.1).bind fun p =>
          (slices_Contains_string_string.f k (x.map (·.1)) (strOfNums ((l0.take (wrap64 (wrap64 (12 + wrap64 (i * 16)) + 4)).toNat).drop (wrap64 (12 + wrap64 (i * 16))).toNat))).bind fun c =>
            (if c = true then some ([], 2) else if p.2 = true then
              (if x.length < 1000000 ∧ (strOfNums ((l0.take (wrap64 (wrap64 (12 + wrap64 (i * 16)) + 4)).toNat).drop (wrap64 (12 + wrap64 (i * 16))).toNat)).size ≤ 9223372036854775807 ∧ ∀ p ∈ x, p.1.toList ≠ (strOfNums ((l0.take (wrap64 (wrap64 (12 + wrap64 (i * 16)) + 4)).toNat).drop (wrap64 (12 + wrap64 (i * 16))).toNat)).toList then
                sfnt_Open.l0 k l0 n (wrap64 (i + 1)) (x ++ [(strOfNums ((l0.take (wrap64 (wrap64 (12 + wrap64 (i * 16)) + 4)).toNat).drop (wrap64 (12 + wrap64 (i * 16))).toNat), p.1)]) else none)
              else some ([], 3)))
        else none) else none) else none)
      else some ([⟨x⟩], 0)
def sfnt_Open.f (k : Nat) (l0 : List Int) : Option (List S135 × Int) :=
  (peek_U16.f k l0 4).bind fun n => if (l0.length : Int) < 12 then some ([], 3) else (sfnt_versioned.f k l0).bind fun b =>
    if b = true then (if n.1 > 64 then some ([], 4) else if (l0.length : Int) < wrap64 (12 + wrap64 (n.1 * 16)) then some ([], 3) else sfnt_Open.l0 k l0 n.1 0 []) else some ([], 2)
theorem sfnt_Open.mono_l : ∀ k y0 y1 y2 y3, LeO (sfnt_Open.l0 k y0 y1 y2 y3) (sfnt_Open.l0 (k + 1) y0 y1 y2 y3)
  | 0, _, _, _, _ => fun r h => by simp [sfnt_Open.l0] at h
  | k + 1, y0, y1, y2, y3 => by
    have ih0 := sfnt_Open.mono_l k
    rw [sfnt_Open.l0, sfnt_Open.l0]
    repeat' first
      | (with_reducible exact ih0 _ _ _ _)
      | (with_reducible exact peek_U32.mono _ _ _)
      | (with_reducible exact slices_Contains_string_string.mono _ _ _)
      | (with_reducible exact LeO.refl _)
      | (with_reducible exact LeO.none _)
      | (with_reducible refine LeO.ite ?_ ?_)
      | (with_reducible refine LeO.bind ?_ (fun _ => ?_))
theorem sfnt_Open.mono : ∀ a0 k, LeO (sfnt_Open.f k a0) (sfnt_Open.f (k + 1) a0) := by
  intro a0 k
  unfold sfnt_Open.f
  repeat' first
      | (with_reducible exact sfnt_Open.mono_l _ _ _ _ _)
      | (with_reducible exact peek_U16.mono _ _ _)
      | (with_reducible exact sfnt_versioned.mono _ _)
      | (with_reducible exact LeO.refl _)
      | (with_reducible exact LeO.none _)
      | (with_reducible refine LeO.ite ?_ ?_)
      | (with_reducible refine LeO.bind ?_ (fun _ => ?_))
set_option maxHeartbeats 8000000 in
set_option maxRecDepth 100000 in
theorem sfnt_Open.calls (k : Nat) (A0 : Option Addr) (c0 : Nat) (l0 : List Int) (r1 : List S135) (r2 : Int) (w : World) (hr0 : Kd.C (Kd.int .u8) w A0 l0.length l0) (hc0 : l0.length ≤ c0) (h : sfnt_Open.f k l0 = some (r1, r2)) :
    Calls Try.prog 20 #[.slice A0 l0.length c0] w fun e w' => ∃ v0_ : Value, e = .returned (.tuple #[.pointer (hq r1 v0_), .int .i64 r2]) ∧ Kd.V k135 135 w' w.heap.size (fun k_ => w.heap.size ≤ k_) v0_ r1 ∧ Below w.heap.size w w' := by
  have hu135 := Try.underlying135
  have hmm := @run_makeMap Try.prog
  have HR0 := Aside0.mk hr0
  have HC0 := Aside0.mk hc0
  clear hr0 hc0
  have HB := Aside0.mk (Below.refl w.heap.size w)
  replace h := Option.bind_eq_some_iff.mp h
  obtain ⟨⟨n, nb⟩, A1, H⟩ := h
  replace A1 := Aside0.mk A1
  by_cases c1 : (l0.length : Int) < 12
  · rw [if_pos c1] at H
    have c1b0 : decide ((l0.length : Int) < 12) = true := decide_eq_true c1
    simp only [Option.some.injEq, Prod.mk.injEq] at H
    obtain ⟨rfl, rfl⟩ := H
    go_enter Try.func20, Try.ntmps20
    go_wp2_with (first | (go_at_call 64; refine (peek_U16.calls k _ _ l0 4 n nb _ ?s1 ?s2 A1.out).mono ?_; (case s1 => exact HR0.out); (case s2 => exact HC0.out); rintro e w' ⟨rfl, ⟨nd, rfl⟩⟩))
    go_ret2
    exact ⟨(.slice none 0 0), rfl, Kd.V_nil _ _ _ _ _, pw_below_drewN HB.out _⟩
  · rw [if_neg c1] at H
    have c1b0 : decide ((l0.length : Int) < 12) = false := decide_eq_false c1
    replace H := Option.bind_eq_some_iff.mp H
    obtain ⟨b, A2, H⟩ := H
    replace A2 := Aside0.mk A2
    cases b with
    | false =>
      simp only [Bool.false_eq_true, if_false, Option.some.injEq, Prod.mk.injEq] at H
      obtain ⟨rfl, rfl⟩ := H
      go_enter Try.func20, Try.ntmps20
      go_wp2_with (first | (go_at_call 64; refine (peek_U16.calls k _ _ l0 4 n nb _ ?s1 ?s2 A1.out).mono ?_; (case s1 => exact HR0.out); (case s2 => exact HC0.out); rintro e w' ⟨rfl, ⟨nd, rfl⟩⟩) | (go_at_call 65; refine (sfnt_versioned.calls k _ _ l0 false _ ?s1 ?s2 A2.out).mono ?_; (case s1 => exact Kd.C_drewN HR0.out _); (case s2 => exact HC0.out); rintro e w' ⟨rfl, hb⟩))
      go_ret2
      exact ⟨(.slice none 0 0), rfl, Kd.V_nil _ _ _ _ _, below_step (pw_below_drewN HB.out _) hb⟩
    | true =>
      simp only [if_true] at H
      by_cases c2 : n > 64
      · rw [if_pos c2] at H
        have c2b0 : decide (64 < n) = true := decide_eq_true c2
        simp only [Option.some.injEq, Prod.mk.injEq] at H
        obtain ⟨rfl, rfl⟩ := H
        go_enter Try.func20, Try.ntmps20
        go_wp2_with (first | (go_at_call 64; refine (peek_U16.calls k _ _ l0 4 n nb _ ?s1 ?s2 A1.out).mono ?_; (case s1 => exact HR0.out); (case s2 => exact HC0.out); rintro e w' ⟨rfl, ⟨nd, rfl⟩⟩) | (go_at_call 65; refine (sfnt_versioned.calls k _ _ l0 true _ ?s1 ?s2 A2.out).mono ?_; (case s1 => exact Kd.C_drewN HR0.out _); (case s2 => exact HC0.out); rintro e w' ⟨rfl, hb⟩))
        go_ret2
        exact ⟨(.slice none 0 0), rfl, Kd.V_nil _ _ _ _ _, below_step (pw_below_drewN HB.out _) hb⟩
      · rw [if_neg c2] at H
        have c2b0 : decide (64 < n) = false := decide_eq_false c2
        by_cases c3 : (l0.length : Int) < wrap64 (12 + wrap64 (n * 16))
        · rw [if_pos c3] at H
          have c3b0 : decide ((l0.length : Int) < wrap64 (12 + wrap64 (n * 16))) = true := decide_eq_true c3
          simp only [Option.some.injEq, Prod.mk.injEq] at H
          obtain ⟨rfl, rfl⟩ := H
          go_enter Try.func20, Try.ntmps20
          go_wp2_with (first | (go_at_call 64; refine (peek_U16.calls k _ _ l0 4 n nb _ ?s1 ?s2 A1.out).mono ?_; (case s1 => exact HR0.out); (case s2 => exact HC0.out); rintro e w' ⟨rfl, ⟨nd, rfl⟩⟩) | (go_at_call 65; refine (sfnt_versioned.calls k _ _ l0 true _ ?s1 ?s2 A2.out).mono ?_; (case s1 => exact Kd.C_drewN HR0.out _); (case s2 => exact HC0.out); rintro e w' ⟨rfl, hb⟩))
          go_ret2
          exact ⟨(.slice none 0 0), rfl, Kd.V_nil _ _ _ _ _, below_step (pw_below_drewN HB.out _) hb⟩
        · rw [if_neg c3] at H
          have c3b0 : decide ((l0.length : Int) < wrap64 (12 + wrap64 (n * 16))) = false := decide_eq_false c3
          replace H := Aside0.mk H
          go_enter Try.func20, Try.ntmps20
          go_wp2_with (first | (go_at_call 64; refine (peek_U16.calls k _ _ l0 4 n nb _ ?s1 ?s2 A1.out).mono ?_; (case s1 => exact HR0.out); (case s2 => exact HC0.out); rintro e w' ⟨rfl, ⟨nd, rfl⟩⟩) | (go_at_call 65; refine (sfnt_versioned.calls k _ _ l0 true _ ?s1 ?s2 A2.out).mono ?_; (case s1 => exact Kd.C_drewN HR0.out _); (case s2 => exact HC0.out); rintro e w1 ⟨rfl, hb⟩) | ((with_reducible refine gate_dst (N := 41) rfl ?_); refine box_event ?hg (N := 41) ?hd (cs := #[.slice none 0 0, .map (some w1.heap.size)]) (t := 135) ?hr ?_; (case hd => rfl); (case hg => rfl); (case hr => first | (go_simp; done) | (go_simp; rfl)); intro gb hgb wb hbox hb3; have HB1 := Aside0.mk (below_step (pw_below_drewN HB.out nd) hb); have GE := Aside0.mk (show w.heap.size ≤ gb by rw [hgb]; exact (below_alloc HB1.out _).size); have HST := Aside0.mk (show FontSt 135 5 9 w wb gb w1.heap.size (.slice none 0 0) [] [] from ⟨hbox, MapAt_below (MapAt_new w1) hb3, TabsAt_nil _ _ _, Kd.R_nil _ _ _ _ _, below_step (below_alloc HB1.out _) hb3⟩); have GM := Aside0.mk HB1.out.size; clear hgb hbox hb3 hb HB1))
          generalize w1.heap.size = gm at HST GM ⊢
          clear c1 c1b0 c2 c2b0 c3 c3b0
          go_loopg [43] k (fun kq v43 wr => ∃ (i : Int) (u : Value) (m : List (ByteArray × Value)) (x : List (ByteArray × List Int)), v43 = .int .i64 i ∧ Aside0 (sfnt_Open.l0 kq l0 n i x = some (r1, r2)) ∧ Aside0 (kq ≤ k) ∧ Aside0 (FontSt 135 5 9 w wr gb gm u m x))
          case atStart => exact ⟨0, _, [], [], rfl, H, ⟨Nat.le_refl _⟩, HST⟩
          case round =>
            obtain ⟨i, u, m, x, rfl, HA, HK, HS⟩ := hrel
            obtain ⟨Au, cu, hu⟩ := Kd.R_slice HS.out.2.2.2.1
            obtain ⟨tg, htg⟩ : ∃ tg, tg = x.map (·.1) := ⟨_, rfl⟩
            rw [← htg] at hu
            subst hu
            have HBr := Aside0.mk HS.out.2.2.2.2
            clear H HST
            cases gk with
            | zero => exact absurd HA.out (by simp [sfnt_Open.l0])
            | succ k2 =>
              have H := HA.out
              clear HA
              simp only [sfnt_Open.l0] at H
              rw [← htg] at H
              replace htg := Aside0.mk htg
              by_cases c4 : i < n
              · rw [if_pos c4] at H
                have c4b0 : decide (i < n) = true := decide_eq_true c4
                obtain ⟨at_, hat⟩ : ∃ a, wrap64 (12 + wrap64 (i * 16)) = a := ⟨_, rfl⟩
                rw [hat] at H
                have hatw : (IntKind.i64.wrap (12 + wrap64 (i * 16))) = at_ := (i64_w _).trans hat
                by_cases d0 : 0 ≤ at_
                case neg => rw [if_neg d0] at H; exact absurd H (by simp)
                rw [if_pos d0] at H
                have d0b0 := eq_true d0
                have d0b1 : decide (0 ≤ at_) = true := decide_eq_true d0
                by_cases d1 : at_ ≤ wrap64 (at_ + 4)
                case neg => rw [if_neg d1] at H; exact absurd H (by simp)
                rw [if_pos d1] at H
                have d1b0 := eq_true d1
                have d1b1 : decide (at_ ≤ wrap64 (at_ + 4)) = true := decide_eq_true d1
                by_cases d2 : wrap64 (at_ + 4) ≤ (l0.length : Int)
                case neg => rw [if_neg d2] at H; exact absurd H (by simp)
                rw [if_pos d2] at H
                have d2b0 := eq_true d2
                have d2b1 : decide (wrap64 (at_ + 4) ≤ (l0.length : Int)) = true := decide_eq_true d2
                obtain ⟨i0, hi0, _, hsz, _⟩ := info_parts info5
                obtain ⟨A2, hcut, hA, hC⟩ := print_mid_of (P := Try.prog) (Value.int .u8) 0 24 5 .i64 .i64 Try.underlying24 hi0 hsz A0 c0 l0 at_ (wrap64 (at_ + 4)) d0 d1 d2 HC0.out
                have HR1 := Kd.C_of_reads (h1 := fun _ => rfl) (hA _ (Kd.reads_of_C HR0.out))
                generalize ((l0.take (wrap64 (at_ + 4)).toNat).drop at_.toNat) = ys at H hcut HR1
                clear hA hC
                have hcv := Kd.C_string (P := Try.prog) (A := A2) (c := c0 - at_.toNat) Try.underlying24 Try.underlying5 Try.underlying9 (Kd.C_below HR1 HBr.out)
                generalize strOfNums ys = tag at H hcv
                replace H := Option.bind_eq_some_iff.mp H
                obtain ⟨⟨o, ob⟩, B1, H⟩ := H
                replace H := Option.bind_eq_some_iff.mp H
                obtain ⟨⟨s, sb⟩, B2, H⟩ := H
                replace H := Option.bind_eq_some_iff.mp H
                obtain ⟨⟨pl, pb⟩, B3, H⟩ := H
                replace H := Option.bind_eq_some_iff.mp H
                obtain ⟨cb, B4, H⟩ := H
                replace B1 := Aside0.mk B1
                replace B2 := Aside0.mk B2
                replace B3 := Aside0.mk B3
                replace B4 := Aside0.mk B4
                cases cb with
                | true =>
                  simp only [if_true, Option.some.injEq, Prod.mk.injEq] at H
                  obtain ⟨rfl, rfl⟩ := H
                  go_wp2_with (first | (go_at_call 66; (with_reducible refine (peek_U32.calls k2 _ _ l0 (wrap64 (at_ + 8)) o ob _ ?s1 ?s2 B1.out).mono ?_); (case s1 => exact Kd.C_below HR0.out HBr.out); (case s2 => exact HC0.out); rintro e w' ⟨rfl, ⟨nd1, rfl⟩⟩) | (go_at_call 66; (with_reducible refine (peek_U32.calls k2 _ _ l0 (wrap64 (at_ + 12)) s sb _ ?s1 ?s2 B2.out).mono ?_); (case s1 => exact Kd.C_drewN (Kd.C_below HR0.out HBr.out) _); (case s2 => exact HC0.out); rintro e w' ⟨rfl, ⟨nd2, rfl⟩⟩) | (go_at_call 67; (with_reducible refine (peek_Part.calls _ _ l0 o s pl pb _ ?s1 ?s2 B3.out).mono ?_); (case s1 => exact Kd.C_drewN (Kd.C_below HR0.out HBr.out) _); (case s2 => exact HC0.out); rintro e wp ⟨vp, rfl, hrp, hbp⟩; have HB4 := Aside0.mk (below_step (pw_below_drewN (Below.refl wr.heap.size wr) _) hbp); have HS2 := Aside0.mk (FontSt_below HS.out HB4.out); have hz0 : wp.cell? ⟨gb, 0, none⟩ = some (.slice Au tg.length cu) := (blk_cell HS2.out.1 0).trans rfl; have HC9 := Aside0.mk (show tg.length = tg.length ∧ tg.length ≤ cu ∧ Kd.C Kd.string wp Au tg.length tg from by have h_ := HS2.out.2.2.2.1; rw [← htg.out] at h_; exact Kd.R_reads' h_)) | (go_at_call 61; (with_reducible refine (slices_Contains_string_string.calls k2 _ _ tg tag true _ ?s1 ?s2 B4.out).mono ?_); (case s1 => exact HC9.out.2.2); (case s2 => exact HC9.out.2.1); rintro e w' ⟨rfl, ⟨nd3, rfl⟩⟩))
                  go_ret2
                  exact ⟨(.slice none 0 0), rfl, Kd.V_nil _ _ _ _ _, pw_below_drewN HS2.out.2.2.2.2 _⟩
                | false =>
                  simp only [Bool.false_eq_true, if_false] at H
                  cases pb with
                  | false =>
                    simp only [Bool.false_eq_true, if_false, Option.some.injEq, Prod.mk.injEq] at H
                    obtain ⟨rfl, rfl⟩ := H
                    go_wp2_with (first | (go_at_call 66; (with_reducible refine (peek_U32.calls k2 _ _ l0 (wrap64 (at_ + 8)) o ob _ ?s1 ?s2 B1.out).mono ?_); (case s1 => exact Kd.C_below HR0.out HBr.out); (case s2 => exact HC0.out); rintro e w' ⟨rfl, ⟨nd1, rfl⟩⟩) | (go_at_call 66; (with_reducible refine (peek_U32.calls k2 _ _ l0 (wrap64 (at_ + 12)) s sb _ ?s1 ?s2 B2.out).mono ?_); (case s1 => exact Kd.C_drewN (Kd.C_below HR0.out HBr.out) _); (case s2 => exact HC0.out); rintro e w' ⟨rfl, ⟨nd2, rfl⟩⟩) | (go_at_call 67; (with_reducible refine (peek_Part.calls _ _ l0 o s pl false _ ?s1 ?s2 B3.out).mono ?_); (case s1 => exact Kd.C_drewN (Kd.C_below HR0.out HBr.out) _); (case s2 => exact HC0.out); rintro e wp ⟨vp, rfl, hrp, hbp⟩; have HB4 := Aside0.mk (below_step (pw_below_drewN (Below.refl wr.heap.size wr) _) hbp); have HS2 := Aside0.mk (FontSt_below HS.out HB4.out); have hz0 : wp.cell? ⟨gb, 0, none⟩ = some (.slice Au tg.length cu) := (blk_cell HS2.out.1 0).trans rfl; have HC9 := Aside0.mk (show tg.length = tg.length ∧ tg.length ≤ cu ∧ Kd.C Kd.string wp Au tg.length tg from by have h_ := HS2.out.2.2.2.1; rw [← htg.out] at h_; exact Kd.R_reads' h_)) | (go_at_call 61; (with_reducible refine (slices_Contains_string_string.calls k2 _ _ tg tag false _ ?s1 ?s2 B4.out).mono ?_); (case s1 => exact HC9.out.2.2); (case s2 => exact HC9.out.2.1); rintro e w' ⟨rfl, ⟨nd3, rfl⟩⟩))
                    go_ret2
                    exact ⟨(.slice none 0 0), rfl, Kd.V_nil _ _ _ _ _, pw_below_drewN HS2.out.2.2.2.2 _⟩
                  | true =>
                    simp only [if_true] at H
                    by_cases d4 : (x.length < 1000000 ∧ tag.size ≤ 9223372036854775807 ∧ ∀ p ∈ x, p.1.toList ≠ tag.toList)
                    case neg => rw [if_neg d4] at H; exact absurd H (by simp)
                    rw [if_pos d4] at H
                    replace H := Aside0.mk H
                    have HL := Aside0.mk d4.1
                    have HSZ : Aside0 (tag.size ≤ maxLen) := ⟨d4.2.1⟩
                    have HML : Aside0 (m.length < maxLen) := ⟨by have := HS.out.2.2.1.1; have := HL.out; unfold maxLen; omega⟩
                    have HNEW : Aside0 (∀ p ∈ m, p.1 ≠ tag) := ⟨fun p hp he => by obtain ⟨q, hq, hqe⟩ := List.mem_map.1 (TabsAt_keys HS.out.2.2.1 p hp); exact d4.2.2 q hq (by rw [hqe, he])⟩
                    clear d4
                    go_wp2_with (first | (go_at_call 66; (with_reducible refine (peek_U32.calls k2 _ _ l0 (wrap64 (at_ + 8)) o ob _ ?s1 ?s2 B1.out).mono ?_); (case s1 => exact Kd.C_below HR0.out HBr.out); (case s2 => exact HC0.out); rintro e w' ⟨rfl, ⟨nd1, rfl⟩⟩) | (go_at_call 66; (with_reducible refine (peek_U32.calls k2 _ _ l0 (wrap64 (at_ + 12)) s sb _ ?s1 ?s2 B2.out).mono ?_); (case s1 => exact Kd.C_drewN (Kd.C_below HR0.out HBr.out) _); (case s2 => exact HC0.out); rintro e w' ⟨rfl, ⟨nd2, rfl⟩⟩) | (go_at_call 67; (with_reducible refine (peek_Part.calls _ _ l0 o s pl true _ ?s1 ?s2 B3.out).mono ?_); (case s1 => exact Kd.C_drewN (Kd.C_below HR0.out HBr.out) _); (case s2 => exact HC0.out); rintro e wp ⟨vp, rfl, hrp, hbp⟩; have HB4 := Aside0.mk (below_step (pw_below_drewN (Below.refl wr.heap.size wr) _) hbp); have HS2 := Aside0.mk (FontSt_below HS.out HB4.out); have hz0 : wp.cell? ⟨gb, 0, none⟩ = some (.slice Au tg.length cu) := (blk_cell HS2.out.1 0).trans rfl; have HC9 := Aside0.mk (show tg.length = tg.length ∧ tg.length ≤ cu ∧ Kd.C Kd.string wp Au tg.length tg from by have h_ := HS2.out.2.2.2.1; rw [← htg.out] at h_; exact Kd.R_reads' h_)) | (go_at_call 61; (with_reducible refine (slices_Contains_string_string.calls k2 _ _ tg tag false _ ?s1 ?s2 B4.out).mono ?_); (case s1 => exact HC9.out.2.2); (case s2 => exact HC9.out.2.1); rintro e w' ⟨rfl, ⟨nd3, rfl⟩⟩))
                    have HS3 := Aside0.mk (FontSt_below HS2.out (below_drew1 (pw_below_drewN (Below.refl wp.heap.size wp) nd3)))
                    have HP : Aside0 (Kd.R (Kd.int .u8) 5 (World.drewN wp nd3).drew w.heap.size (fun _ => True) vp pl) := ⟨Kd.R_drew (Kd.R_drewN (Kd.R_lower hrp (by have := HBr.out.size; simpa using this)) _)⟩
                    have BK := Aside0.mk HS3.out.1
                    have HM := Aside0.mk HS3.out.2.1
                    have HT := Aside0.mk HS3.out.2.2.1
                    have HO := Aside0.mk (show Kd.R Kd.string 9 (World.drewN wp nd3).drew w.heap.size (fun k => w.heap.size ≤ k) (.slice Au tg.length cu) tg from by have h_ := HS3.out.2.2.2.1; rw [← htg.out] at h_; exact h_)
                    replace HB := Aside0.mk HS3.out.2.2.2.2
                    replace HL : Aside0 (tg.length < 1000000) := ⟨by rw [htg.out, List.length_map]; exact HL.out⟩
                    clear hz0 HC9 HS3 HS2 HB4
                    refine start_ (n := 20) (S := fun w' => w'.cell? ⟨gb, 0, none⟩ = some (.slice Au tg.length cu) ∧ w'.cell? ⟨gb, 1, none⟩ = some (.map (some gm))) (ds := [16, 17, 19]) #[false, false, false, false, false, false, false, false, false, false, false, false, false, false, false, false, false, false, false, false] (by kernel_rfl) rfl rfl ⟨(blk_cell BK.out 0).trans rfl, (blk_cell BK.out 1).trans rfl⟩ (fun hHeld => ?_)
                    generalize (World.drewN wp nd3).drew = wd at BK HM HT HO HB HP hHeld ⊢
                    refine pure_ (i := 0) (N := some 86) (v := ?_) (a' := ?_) #[true, false, false, false, false, false, false, false, false, false, false, false, false, false, false, false, false, false, false, false] rfl rfl (by kernel_rfl) (fun _ _ _ h => h) (Or.inl ⟨by rfl, ?_⟩) ?_ ?_
                    rotate_left
                    · intro w'
                      go_simp
                      with_reducible rfl
                    rotate_left
                    · simp only [Act.put, List.setIfInBounds_toArray, List.set_cons_zero, List.set_cons_succ, i64_w, i32_w]
                      rfl
                    refine pure_ (i := 1) (N := some 87) (v := ?_) (a' := ?_) #[true, true, false, false, false, false, false, false, false, false, false, false, false, false, false, false, false, false, false, false] rfl rfl (by kernel_rfl) (fun _ _ _ h => h) (Or.inl ⟨by rfl, ?_⟩) ?_ ?_
                    rotate_left
                    · intro w'
                      go_simp
                      with_reducible rfl
                    rotate_left
                    · simp only [Act.put, List.setIfInBounds_toArray, List.set_cons_zero, List.set_cons_succ, i64_w, i32_w]
                      rfl
                    refine pure_ (i := 2) (N := some 88) (v := ?_) (a' := ?_) #[true, true, true, false, false, false, false, false, false, false, false, false, false, false, false, false, false, false, false, false] rfl rfl (by kernel_rfl) (fun _ _ _ h => h) (Or.inl ⟨by rfl, ?_⟩) ?_ ?_
                    rotate_left
                    · intro w'
                      go_simp
                      with_reducible rfl
                    rotate_left
                    · simp only [Act.put, List.setIfInBounds_toArray, List.set_cons_zero, List.set_cons_succ, i64_w, i32_w]
                      rfl
                    refine pure_ (i := 3) (N := some 89) (v := ?_) (a' := ?_) #[true, true, true, true, false, false, false, false, false, false, false, false, false, false, false, false, false, false, false, false] rfl rfl (by kernel_rfl) (fun _ _ _ h => h) (Or.inl ⟨by rfl, ?_⟩) ?_ ?_
                    rotate_left
                    · intro w'
                      go_simp
                      with_reducible rfl
                    rotate_left
                    · simp only [Act.put, List.setIfInBounds_toArray, List.set_cons_zero, List.set_cons_succ, i64_w, i32_w]
                      rfl
                    refine pure_ (i := 5) (N := some 91) (v := ?_) (a' := ?_) #[true, true, true, true, false, true, false, false, false, false, false, false, false, false, false, false, false, false, false, false] rfl rfl (by kernel_rfl) (fun _ _ _ h => h) (Or.inl ⟨by rfl, ?_⟩) ?_ ?_
                    rotate_left
                    · intro w'
                      go_simp
                      with_reducible rfl
                    rotate_left
                    · simp only [Act.put, List.setIfInBounds_toArray, List.set_cons_zero, List.set_cons_succ, i64_w, i32_w]
                      rfl
                    refine pure_ (i := 6) (N := some 92) (v := ?_) (a' := ?_) #[true, true, true, true, false, true, true, false, false, false, false, false, false, false, false, false, false, false, false, false] rfl rfl (by kernel_rfl) (fun _ _ _ h => h) (Or.inl ⟨by rfl, ?_⟩) ?_ ?_
                    rotate_left
                    · intro w'
                      go_simp
                      with_reducible rfl
                    rotate_left
                    · simp only [Act.put, List.setIfInBounds_toArray, List.set_cons_zero, List.set_cons_succ, i64_w, i32_w]
                      rfl
                    refine pure_ (i := 7) (N := some 93) (v := ?_) (a' := ?_) #[true, true, true, true, false, true, true, true, false, false, false, false, false, false, false, false, false, false, false, false] rfl rfl (by kernel_rfl) (fun _ _ _ h => h) (Or.inl ⟨by rfl, ?_⟩) ?_ ?_
                    rotate_left
                    · intro w'
                      go_simp
                      with_reducible rfl
                    rotate_left
                    · simp only [Act.put, List.setIfInBounds_toArray, List.set_cons_zero, List.set_cons_succ, i64_w, i32_w]
                      rfl
                    refine pure_ (i := 8) (N := some 94) (v := ?_) (a' := ?_) #[true, true, true, true, false, true, true, true, true, false, false, false, false, false, false, false, false, false, false, false] rfl rfl (by kernel_rfl) (fun _ _ _ h => h) (Or.inl ⟨by rfl, ?_⟩) ?_ ?_
                    rotate_left
                    · intro w'
                      go_simp
                      with_reducible rfl
                    rotate_left
                    · simp only [Act.put, List.setIfInBounds_toArray, List.set_cons_zero, List.set_cons_succ, i64_w, i32_w]
                      rfl
                    refine pure_ (i := 10) (N := some 96) (v := ?_) (a' := ?_) #[true, true, true, true, false, true, true, true, true, false, true, false, false, false, false, false, false, false, false, false] rfl rfl (by kernel_rfl) (fun _ _ _ h => h) (Or.inl ⟨by rfl, ?_⟩) ?_ ?_
                    rotate_left
                    · intro w'
                      go_simp
                      with_reducible rfl
                    rotate_left
                    · simp only [Act.put, List.setIfInBounds_toArray, List.set_cons_zero, List.set_cons_succ, i64_w, i32_w]
                      rfl
                    refine pure_ (i := 13) (N := some 99) (v := ?_) (a' := ?_) #[true, true, true, true, false, true, true, true, true, false, true, false, false, true, false, false, false, false, false, false] rfl rfl (by kernel_rfl) (fun _ _ _ h => h) (Or.inl ⟨by rfl, ?_⟩) ?_ ?_
                    rotate_left
                    · intro w'
                      go_simp
                      with_reducible rfl
                    rotate_left
                    · simp only [Act.put, List.setIfInBounds_toArray, List.set_cons_zero, List.set_cons_succ, i64_w, i32_w]
                      rfl
                    refine take_ (i := 4) (N := some 90) (v := ?_) (a' := ?_) #[true, true, true, true, true, true, true, true, true, false, true, false, false, true, false, false, false, false, false, false] rfl rfl (by kernel_rfl) (fun _ _ _ h => h) (Or.inl ⟨by rfl, ?_⟩) hHeld ?_ ?_
                    rotate_left
                    · rintro w' ⟨s0, s1⟩
                      go_simp
                      with_reducible rfl
                    rotate_left
                    · simp only [Act.put, List.setIfInBounds_toArray, List.set_cons_zero, List.set_cons_succ, i64_w, i32_w]
                      rfl
                    refine take_ (i := 9) (N := some 95) (v := ?_) (a' := ?_) #[true, true, true, true, true, true, true, true, true, true, true, false, false, true, false, false, false, false, false, false] rfl rfl (by kernel_rfl) (fun _ _ _ h => h) (Or.inl ⟨by rfl, ?_⟩) hHeld ?_ ?_
                    rotate_left
                    · rintro w' ⟨s0, s1⟩
                      go_simp
                      with_reducible rfl
                    rotate_left
                    · simp only [Act.put, List.setIfInBounds_toArray, List.set_cons_zero, List.set_cons_succ, i64_w, i32_w]
                      rfl
                    refine one_ (i := 11) (N := some 97) #[true, true, true, true, true, true, true, true, true, true, true, true, false, true, false, false, false, false, false, false] rfl rfl (by kernel_rfl) (by decide) (fun K hK => ?_)
                    refine value_ (w1 := ?_) (v := ?_) (by rfl) rfl ?_ ?_
                    rotate_left 2
                    · go_simp
                      constructor
                      · rfl
                      · rfl
                    refine hK.out _ _ ⟨(blk_cell (blk_alloc BK.out _) 0).trans rfl, (blk_cell (blk_alloc BK.out _) 1).trans rfl⟩ (fun hHeld => ?_)
                    clear hK K
                    refine norm_ (a' := ?_) ?_ ?_
                    rotate_left
                    · show Act.put _ (some 97) _ = _
                      simp only [Act.put, List.setIfInBounds_toArray, List.set_cons_zero, List.set_cons_succ, i64_w, i32_w]
                      rfl
                    refine one_ (i := 12) (N := some 98) #[true, true, true, true, true, true, true, true, true, true, true, true, true, true, false, false, false, false, false, false] rfl rfl (by kernel_rfl) (by decide) (fun K hK => ?_)
                    refine Kd.R_append_step Kd.string (w0 := w) w.heap.size (by rfl) (.tmp 95) (.tmp 97) 25 9 (.string ⟨#[]⟩) 16 rfl Try.underlying25 info9 rfl (by decide) (by omega) (.slice Au tg.length cu) tg tag [.string tag] (fun k_ => (w.heap.size ≤ k_)) (fun _ => False) rfl rfl rfl (fun _ hk => hk.elim) (fun k_ hk => Nat.le_trans (below_size (by repeat (first | exact HB.out | apply below_alloc))) hk) (by (with_reducible repeat (first | apply Kd.R_alloc)); exact HO.out) (by repeat (first | exact HB.out | apply below_alloc)) (below_size (by repeat (first | exact HB.out | apply below_alloc))) (by have := HL.out; omega) ?_
                    intro v1 w2 ho hb hg hat
                    have BK2 := Aside0.mk (blk_grown (g := gb) (o := .cells #[.slice Au tg.length cu, .map (some gm)] 135 (0, 0)) BK.out hg (Kd.R_ne HO.out BK.out (by decide)))
                    have HM2 := Aside0.mk (MapAt_grown HM.out hg (R_ne_map HO.out HM.out))
                    have HT2 := Aside0.mk (TabsAt_grown HT.out hg (Kd.R_typed HO.out) (by decide))
                    have HP2 := Aside0.mk (Kd.R_over' HP.out (Kd.R_typed HO.out) (by decide) hg)
                    have HB2 := Aside0.mk hb
                    obtain ⟨tg2, htg2⟩ : ∃ t, t = tg ++ [tag] := ⟨_, rfl⟩
                    rw [← htg2] at ho
                    obtain ⟨A9, c9, e9⟩ := Kd.R_slice ho
                    subst e9
                    have HO2 := Aside0.mk ho
                    replace htg2 := Aside0.mk htg2
                    clear ho hb hg hat
                    refine hK.out _ _ ⟨(blk_cell BK2.out 0).trans rfl, (blk_cell BK2.out 1).trans rfl⟩ (fun hHeld => ?_)
                    clear hK K
                    refine norm_ (a' := ?_) ?_ ?_
                    rotate_left
                    · show Act.put _ (some 98) _ = _
                      simp only [Act.put, List.setIfInBounds_toArray, List.set_cons_zero, List.set_cons_succ, i64_w, i32_w]
                      rfl
                    refine pure_ (i := 14) (N := some 100) (v := ?_) (a' := ?_) #[true, true, true, true, true, true, true, true, true, true, true, true, true, true, true, false, false, false, false, false] rfl rfl (by kernel_rfl) (fun _ _ _ h => h) (Or.inl ⟨by rfl, ?_⟩) ?_ ?_
                    rotate_left
                    · intro w'
                      go_simp
                      with_reducible rfl
                    rotate_left
                    · simp only [Act.put, List.setIfInBounds_toArray, List.set_cons_zero, List.set_cons_succ, i64_w, i32_w]
                      rfl
                    refine pure_ (i := 15) (N := some 101) (v := ?_) (a' := ?_) #[true, true, true, true, true, true, true, true, true, true, true, true, true, true, true, true, false, false, false, false] rfl rfl (by kernel_rfl) (fun _ _ _ h => h) (Or.inl ⟨by rfl, ?_⟩) ?_ ?_
                    rotate_left
                    · intro w'
                      go_simp
                      with_reducible rfl
                    rotate_left
                    · simp only [Act.put, List.setIfInBounds_toArray, List.set_cons_zero, List.set_cons_succ, i64_w, i32_w]
                      rfl
                    refine last_ (i := 16) (N := none) #[true, true, true, true, true, true, true, true, true, true, true, true, true, true, true, true, true, false, false, false] rfl rfl (by kernel_rfl) (by decide) (fun K hK => ?_)
                    have hs_ : w2.cell? ⟨gb, 0, none⟩ = some (.slice Au tg.length cu) := (blk_cell BK2.out 0).trans rfl
                    have hfs_ := blk_frozen BK2.out 0
                    refine skip_ (w1 := ?_) (by rfl) rfl ?_ ?_
                    rotate_left
                    · go_simp
                      rfl
                    refine hK.out _ _ ?_
                    clear hK K
                    refine last_ (i := 17) (N := some 102) #[true, true, true, true, true, true, true, true, true, true, true, true, true, true, true, true, true, true, false, false] rfl rfl (by kernel_rfl) (by decide) (fun K hK => ?_)
                    have HW3 := Aside0.mk (font_store BK2.out HM2.out HT2.out HP2.out HO2.out HB2.out (by decide) (by decide) GE.out)
                    generalize World.setCell w2 ⟨gb, 0, none⟩ (.slice A9 tg2.length c9) = w3 at HW3 ⊢
                    obtain ⟨o1, clk, he1, he2⟩ := MapAt_entry (P := Try.prog) Try.underlying9 Try.underlying133 (z := .slice none 0 0) (fun w_ => by kernel_rfl) HW3.out.2.1 HSZ.out HNEW.out HML.out
                    refine value_ (w1 := ?_) (v := ?_) (by rfl) rfl ?_ ?_
                    rotate_left 2
                    · go_simp
                      constructor
                      · rfl
                      · rfl
                    refine hK.out _ _ ?_
                    clear hK K
                    refine norm_ (a' := ?_) ?_ ?_
                    rotate_left
                    · show Act.put _ (some 102) _ = _
                      simp only [Act.put, List.setIfInBounds_toArray, List.set_cons_zero, List.set_cons_succ, i64_w, i32_w]
                      rfl
                    refine pure_ (i := 18) (N := some 103) (v := ?_) (a' := ?_) #[true, true, true, true, true, true, true, true, true, true, true, true, true, true, true, true, true, true, true, false] rfl rfl (by kernel_rfl) (fun _ _ _ h => h) (Or.inl ⟨by rfl, ?_⟩) ?_ ?_
                    rotate_left
                    · intro w'
                      go_simp
                      with_reducible rfl
                    rotate_left
                    · simp only [Act.put, List.setIfInBounds_toArray, List.set_cons_zero, List.set_cons_succ, i64_w, i32_w]
                      rfl
                    refine last_ (i := 19) (N := none) #[true, true, true, true, true, true, true, true, true, true, true, true, true, true, true, true, true, true, true, true] rfl rfl (by kernel_rfl) (by decide) (fun K hK => ?_)
                    obtain ⟨o2, he3, HM4⟩ := he2 vp (ChangeMaps.setBlock w3 gm o1) (setBlock_at HW3.out.2.1 o1)
                    simp only [goInt] at he3
                    refine skip_ (w1 := ?_) (by rfl) rfl ?_ ?_
                    rotate_left
                    · go_simp
                      rfl
                    refine hK.out _ _ ?_
                    clear hK K
                    refine done_ (by kernel_rfl) ?_
                    have HFE := Aside0.mk (show FontSt 135 5 9 w (ChangeMaps.setBlock (ChangeMaps.setBlock w3 gm o1) gm o2) gb gm (.slice A9 tg2.length c9) (m ++ [(tag, vp)]) (x ++ [(tag, pl)]) from font_end (by have h_ := HW3.out; rw [htg2.out, htg.out] at h_ ⊢; exact h_) GM.out HM4)
                    generalize ChangeMaps.setBlock (ChangeMaps.setBlock w3 gm o1) gm o2 = w5 at HFE ⊢
                    clear HW3 HM4 he1 he2 he3 BK HM HT HO HP BK2 HM2 HT2 HP2 HO2 HB2 hHeld hs_ hfs_
                    go_wp2
                    go_roundg k2
                    case measure => omega
                    case rel => exact ⟨wrap64 (i + 1), _, _, _, rfl, H, ⟨by have := HK.out; omega⟩, HFE⟩
              · rw [if_neg c4] at H
                have c4b0 : decide (i < n) = false := decide_eq_false c4
                simp only [Option.some.injEq, Prod.mk.injEq] at H
                obtain ⟨rfl, rfl⟩ := H
                go_wp2
                go_ret2
                exact ⟨(.slice (some ⟨gb, 0, none⟩) 1 1), rfl, V_box HS.out.1 GE.out (font_FK (e := 5) (es := 9) (by rw [htg.out, List.length_map]) HS.out.2.2.2.1 HS.out.2.1 HS.out.2.2.1 GM.out), HS.out.2.2.2.2⟩

/-! ### slices_Clone_string_string: function 70 -/
def slices_Clone_string_string.f (l0 : List ByteArray) : Option (List ByteArray) := (some (([] : List ByteArray) : List ByteArray)).bind fun y185 => (if y185.length + l0.length < 8796093022208 then (some (y185 ++ l0)) else (none))
set_option maxHeartbeats 8000000 in
set_option maxRecDepth 100000 in
theorem slices_Clone_string_string.calls (A0 : Option Addr) (c0 : Nat) (l0 : List ByteArray) (r : List ByteArray) (w : World) (hr0 : Kd.C Kd.string w A0 l0.length l0) (hc0 : l0.length ≤ c0) (h : slices_Clone_string_string.f l0 = some r) :
    Calls Try.prog 70 #[.slice A0 l0.length c0] w fun e w' => ∃ v0_ : Value, e = .returned (v0_) ∧ Kd.R Kd.string 9 w' w.heap.size (fun _ => True) v0_ r ∧ Below w.heap.size w w' := by
  have HR0 := Aside0.mk hr0
  have HC0 := Aside0.mk hc0
  clear hr0 hc0
  have HB := Aside0.mk (Below.refl w.heap.size w)
  have H : ((some (([] : List ByteArray) : List ByteArray)).bind fun y185 => (if y185.length + l0.length < 8796093022208 then (some (y185 ++ l0)) else (none))) = some r := h
  clear h
  by_cases hA0 : A0 = none
  · subst hA0
    have hl_ : l0 = [] := List.eq_nil_of_length_eq_zero ((Nat.eq_zero_or_pos l0.length).elim id (fun h_ => by obtain ⟨_, e_, _⟩ := HR0.out.2.2 h_; cases e_))
    subst hl_
    have hr_ : r = [] := by simpa using H.symm
    subst hr_
    have hE_ := fun w_ => Go.Lib.run_eql_slice_nil (P := Try.prog) w_ 25 9 none 0 c0 0 0 Try.underlying25
    go_enter Try.func70, Try.ntmps70
    go_wp2
    go_ret
    exact ⟨_, rfl, Kd.R_nil _ _ _ _ _, by repeat (first | exact HB.out | apply below_alloc | apply pw_below_drewN | apply below_drew1)⟩
  · have hN_ : A0.isNone = false := by cases A0 <;> simp_all
    have hE_ := fun w_ => Go.Lib.run_eql_slice_nil (P := Try.prog) w_ 25 9 A0 l0.length c0 0 0 Try.underlying25
    simp only [hN_] at hE_
    clear hA0
    obtain ⟨y185, hy185⟩ : ∃ y_ : List ByteArray, y_ = (([] : List ByteArray)) := ⟨_, rfl⟩
    replace H : (if y185.length + l0.length < 8796093022208 then (some (y185 ++ l0)) else (none)) = some r := by first | (rw [hy185]; with_reducible exact H) | (have H2_ := (Option.bind_some _ _).symm.trans H; rw [hy185]; with_reducible exact H2_) | (have H2_ := (Option.bind_some _ _).symm.trans H; with_reducible exact H2_) | with_reducible exact H | (rw [hy185]; exact H) | exact H
    have Ny185 := Aside0.mk hy185
    clear hy185
    by_cases c2 : y185.length + l0.length < 8796093022208
    · rw [if_pos c2] at H
      have LMc2 := Aside0.mk c2
      clear c2
      obtain ⟨y188, hy188⟩ : ∃ y_ : List ByteArray, y_ = (y185 ++ l0) := ⟨_, rfl⟩
      replace H : (some y188) = some r := by first | (rw [hy188]; with_reducible exact H) | (have H2_ := (Option.bind_some _ _).symm.trans H; rw [hy188]; with_reducible exact H2_) | (have H2_ := (Option.bind_some _ _).symm.trans H; with_reducible exact H2_) | with_reducible exact H | (rw [hy188]; exact H) | exact H
      have Ny188 := Aside0.mk hy188
      clear hy188
      obtain rfl := Option.some.inj H
      go_enter Try.func70, Try.ntmps70
      go_wp2_with (first | ((with_reducible refine gate_dst (N := 5) rfl ?_); refine Kd.R_lit Kd.string _ 9 ?hg (N := 5) ?hd (xs := ([] : List ByteArray)) (inner := []) (ok := fun _ => True) (okp := fun _ => True) ?hr ?hp (fun _ hk => hk) trivial (Below.refl _ _) (Nat.le_refl _) (by simp) ?_; (case hd => rfl); (case hg => rfl); (case hr => first | (go_simp; done) | (go_simp; rfl)); (case hp => exact (Reps.none _ _)); intro v186 w3 ho4 hb hg_ hnew_; clear hg_ hnew_; (first | rw [← Ny185.out] at ho4 | (simp only [Int.reduceToNat] at ho4; rw [← Ny185.out] at ho4)); have n0_ := Aside0.mk (Kd.R_lower ho4 (below_size (by repeat (first | (with_reducible first | exact HB.out | apply below_alloc | apply pw_below_drewN | apply below_drew1) | exact HB.out)))); have n1_ := Aside0.mk (below_step (by repeat (first | (with_reducible first | exact HB.out | apply below_alloc | apply pw_below_drewN | apply below_drew1) | exact HB.out)) hb); clear HB; have HO187 := n0_; have HB := n1_; clear n0_ n1_; clear hb ho4) | ((with_reducible refine gate_builtin (b := .append) (xs := #[.tmp 5, .tmp 6]) rfl ?_); at_builtin; refine Kd.R_append_rows Kd.string (w0 := w) w.heap.size rfl (.tmp 5) (.tmp 6) 25 9 (.string ⟨#[]⟩) 16 rfl Try.underlying25 info9 rfl (by decide) (by omega) v186 y185 l0 _ _ _ (fun _ => True) (fun _ => False) rfl rfl ?aO ?aR (fun _ _ h => h) (fun _ h => h.elim) ?aF ?aB ?aS ?aL ?_; (case aR => repeat (first | exact (Kd.C_below HR0.out HB.out) | (with_reducible refine Kd.C_alloc ?_ _) | (with_reducible refine Kd.C_drewN ?_ _) | (with_reducible refine Kd.C_drew ?_))); (case aB => exact (by repeat (first | (with_reducible first | exact HB.out | apply below_alloc | apply pw_below_drewN | apply below_drew1) | exact HB.out))); (case aF => exact (fun _ _ => trivial)); (case aO => exact (by (with_reducible repeat (first | apply Kd.R_alloc | apply Kd.R_drewN | apply Kd.R_drew)); exact HO187.out)); (case aS => exact (below_size (by repeat (first | (with_reducible first | exact HB.out | apply below_alloc | apply pw_below_drewN | apply below_drew1) | exact HB.out)))); (case aL => have := LMc2.out; omega); intro v189 w5 ho hb hg hat; rw [← Ny188.out] at ho; have n0_ := Aside0.mk (hb); have n1_ := Aside0.mk (ho); clear HB; clear HO187; have HB := n0_; have HO190 := n1_; clear n0_ n1_; clear ho hb hg hat))
      go_ret
      exact ⟨_, by first | rfl | (simp [errW_none, errW_some] <;> rfl) | (simp [*, errW_none, errW_some] <;> rfl), by (with_reducible repeat (first | apply Kd.R_alloc | apply Kd.R_drewN | apply Kd.R_drew)); exact HO190.out, by repeat (first | (with_reducible first | exact HB.out | apply below_alloc | apply pw_below_drewN | apply below_drew1) | exact HB.out)⟩
    · rw [if_neg c2] at H
      exact absurd H (by simp)

/-! ### sfnt_Font_Tags: function 23 -/
def sfnt_Font_Tags.f (l0 : List S135) : Option (List ByteArray) := if 0 < (l0.length : Int) then slices_Clone_string_string.f ((rd_T135 l0 0).f0.map (·.1)) else none
set_option maxHeartbeats 8000000 in
set_option maxRecDepth 100000 in
theorem sfnt_Font_Tags.calls (A0 : Option Addr) (c0 : Nat) (l0 : List S135) (r : List ByteArray) (w : World) (hr0 : Kd.C k135 w A0 l0.length l0) (hc0 : l0.length ≤ c0) (h : sfnt_Font_Tags.f l0 = some r) :
    Calls Try.prog 23 #[.pointer (hq l0 (.slice A0 l0.length c0))] w fun e w' => ∃ v0_ : Value, e = .returned v0_ ∧ Kd.R Kd.string 9 w' w.heap.size (fun _ => True) v0_ r ∧ Below w.heap.size w w' := by
  have hu135 := Try.underlying135
  unfold sfnt_Font_Tags.f at h
  by_cases c1 : 0 < (l0.length : Int)
  case neg => rw [if_neg c1] at h; exact absurd h (by simp)
  rw [if_pos c1] at h
  obtain ⟨ad, cs, e, _, hK, hcc⟩ := Kd.C_get hr0 z135 0 (by omega) (by omega)
  subst e
  rw [hq_pos c1]
  obtain ⟨A, c, b, m, rfl, hl, hC, hm, hn, hv⟩ := (show fontK.K w (rd_T135 l0 0).f0 cs from hK)
  rw [← List.length_map (f := fun p : ByteArray × List Int => p.1)] at hl hC
  have hx0 := hcc 0 _ rfl
  rw [show (0 : Int).toNat = 0 from rfl, Nat.zero_mul, Nat.zero_add, Addr.add_zero', ← List.length_map (f := fun p : ByteArray × List Int => p.1)] at hx0
  generalize (rd_T135 l0 0).f0.map (·.1) = tg at h hl hC hx0
  replace h := Aside0.mk h
  replace hC := Aside0.mk hC
  clear hr0 hc0 hK hcc hm hn hv
  go_enter Try.func23, Try.ntmps23
  go_wp2_with (first | (go_at_call 70; refine (slices_Clone_string_string.calls A c tg r _ ?s1 ?s2 h.out).mono ?_; (case s1 => exact hC.out); (case s2 => exact hl); rintro e w' ⟨v0, rfl, hr, hb⟩))
  go_ret
  exact ⟨_, rfl, hr, hb⟩

end Go.Proofs.Ytenlimmgbgcgpaa.PCl
