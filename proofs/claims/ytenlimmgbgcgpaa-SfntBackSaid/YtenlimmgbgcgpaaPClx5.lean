-- WRITTEN BY A PROGRAM OF THIS SESSION (wip/xprint) out of the translation. Not trusted: Lean checks it.
import Derived.Test.YtenlimmgbgcgpaaPClx0
import Derived.Test.YtenlimmgbgcgpaaPClx2
import Derived.Test.YtenlimmgbgcgpaaPClx3
import Derived.Test.YtenlimmgbgcgpaaPClx4
namespace Go.Proofs.Ytenlimmgbgcgpaa.PCl
open Go.RowKit Go.Proofs.YtenlimmgbgcgpaaW.PrintWords Go.Proofs.YtenlimmgbgcgpaaW.PrintLast Go.Proofs.YtenlimmgbgcgpaaW.PrintMore
attribute [local go_sem] max2_int min2_int max_two min_two max_three min_three max_four min_four   -- for this text's walks alone
set_option linter.unusedVariables false
set_option linter.unusedSimpArgs false

/-! ### versallaw14_SfntBack: function 4 -/
mutual
def versallaw14_SfntBack.l0 : Nat → List (List Int) → List Int → List ByteArray → List (List Int) → Int → Option (Bool)
  | 0, _, _, _, _, _ => none
  | k + 1, x0, x1, x5, x6, x7 => if x7 < (x0.length : Int) then (versallaw14_SfntBack.j1 k x0 x1 x5 x6 x7 (decide (x7 < 20))) else (versallaw14_SfntBack.j1 k x0 x1 x5 x6 x7 false)
def versallaw14_SfntBack.j1 : Nat → List (List Int) → List Int → List ByteArray → List (List Int) → Int → Bool → Option (Bool)
  | 0, _, _, _, _, _, _ => none
  | k + 1, x0, x1, x5, x6, x7, x26 => if x26 = true then ((versalhand_Pick.f (x1.length : Int) 250).bind fun t220 => ((some (([(wrap64 (x7 + 32)) % 256, (t220) % 256, 7] : List Int) : List Int)).bind fun y221 => (if 1 + (strOfNums y221).size ≤ 9223372036854775807 then (if x5.length < 8796093022208 then (if 0 ≤ x7 then (if x7 < (x0.length : Int) then ((versalhand_Few.f (rd_L2 x0 x7) 80).bind fun t228 => (if x6.length < 5864062014805 then (versallaw14_SfntBack.l0 k x0 x1 (x5 ++ [(⟨#[84]⟩ : ByteArray) ++ (strOfNums y221)]) (x6 ++ [t228]) (wrap64 (x7 + 1))) else (none))) else (none)) else (none)) else (none)) else (none)))) else ((sfnt_Lay.f k x5 x6).bind fun bt234 => ((sfnt_Open.f k bt234.1).bind fun bt238 => ((versallaw14_known.f k).bind fun t242 => (if t242 = true then (if bt234.2 = 0 then (if bt238.2 = 0 then (if (bt238.1.length : Int) = 0 then (versallaw14_SfntBack.j2 k x5 x6 bt238.1 true) else ((sfnt_Font_Tags.f bt238.1).bind fun t243 => (versallaw14_SfntBack.j2 k x5 x6 bt238.1 ((t243.length : Int) != (x5.length : Int))))) else (versallaw14_SfntBack.j2 k x5 x6 bt238.1 true)) else (versallaw14_SfntBack.j2 k x5 x6 bt238.1 true)) else (versallaw14_SfntBack.j2 k x5 x6 bt238.1 true)))))
def versallaw14_SfntBack.j2 : Nat → List ByteArray → List (List Int) → List (S135) → Bool → Option (Bool)
  | 0, _, _, _, _ => none
  | k + 1, x5, x6, x10, x82 => if x82 = true then (some false) else (versallaw14_SfntBack.l1 k x5 x6 x10 (x5.length : Int) 0)
def versallaw14_SfntBack.l1 : Nat → List ByteArray → List (List Int) → List (S135) → Int → Int → Option (Bool)
  | 0, _, _, _, _, _ => none
  | k + 1, x5, x6, x10, x84, x85 => if x85 < x84 then (if 0 ≤ x85 then (if x85 < (x5.length : Int) then ((sfnt_Font_Table.f x10 (rdOf ByteArray.empty x5 x85)).bind fun bt255 => ((sfnt_Font_Tags.f x10).bind fun t259 => (if x85 < (t259.length : Int) then (if (rdOf ByteArray.empty t259 x85).toList = (rdOf ByteArray.empty x5 x85).toList then (if bt255.2 = true then (if x85 < (x6.length : Int) then (if (strOfNums bt255.1).toList = (strOfNums (rd_L2 x6 x85)).toList then (versallaw14_SfntBack.l1 k x5 x6 x10 x84 (wrap64 (x85 + 1))) else (some false)) else (none)) else (some false)) else (some false)) else (none)))) else (none)) else (none)) else ((sfnt_Font_Table.f x10 (⟨#[67, 79, 76, 82]⟩ : ByteArray)).bind fun bt246 => ((sfnt_Font_Table.f x10 (⟨#[84]⟩ : ByteArray)).bind fun bt250 => (if bt246.2 = true then (some false) else (some (!bt250.2)))))
end
def versallaw14_SfntBack.f (k : Nat) (l0 : List (List Int)) (l1 : List Int) : Option (Bool) := versallaw14_SfntBack.l0 k l0 l1 ([] : List ByteArray) ([] : List (List Int)) 0
theorem versallaw14_SfntBack.mono_l : ∀ k, (∀ y0 y1 y2 y3 y4, LeO (versallaw14_SfntBack.l0 k y0 y1 y2 y3 y4) (versallaw14_SfntBack.l0 (k + 1) y0 y1 y2 y3 y4)) ∧ (∀ y0 y1 y2 y3 y4 y5, LeO (versallaw14_SfntBack.j1 k y0 y1 y2 y3 y4 y5) (versallaw14_SfntBack.j1 (k + 1) y0 y1 y2 y3 y4 y5)) ∧ (∀ y0 y1 y2 y3, LeO (versallaw14_SfntBack.j2 k y0 y1 y2 y3) (versallaw14_SfntBack.j2 (k + 1) y0 y1 y2 y3)) ∧ (∀ y0 y1 y2 y3 y4, LeO (versallaw14_SfntBack.l1 k y0 y1 y2 y3 y4) (versallaw14_SfntBack.l1 (k + 1) y0 y1 y2 y3 y4))
  | 0 => ⟨fun _ _ _ _ _ r h => by simp [versallaw14_SfntBack.l0] at h, fun _ _ _ _ _ _ r h => by simp [versallaw14_SfntBack.j1] at h, fun _ _ _ _ r h => by simp [versallaw14_SfntBack.j2] at h, fun _ _ _ _ _ r h => by simp [versallaw14_SfntBack.l1] at h⟩
  | k + 1 => by
    obtain ⟨ih0, ih1, ih2, ih3⟩ := versallaw14_SfntBack.mono_l k
    refine ⟨?_, ?_, ?_, ?_⟩
    · intro y0 y1 y2 y3 y4
      unfold versallaw14_SfntBack.l0
      repeat' first
      | (with_reducible exact ih0 _ _ _ _ _)
      | (with_reducible exact ih1 _ _ _ _ _ _)
      | (with_reducible exact ih2 _ _ _ _)
      | (with_reducible exact ih3 _ _ _ _ _)
      | (with_reducible exact sfnt_Lay.mono _ _ _)
      | (with_reducible exact sfnt_Open.mono _ _)
      | (with_reducible exact versallaw14_known.mono _)
      | (with_reducible exact LeO.refl _)
      | (with_reducible exact LeO.none _)
      | (with_reducible refine LeO.ite ?_ ?_)
      | (with_reducible refine LeO.bind ?_ (fun _ => ?_))
      | exact ih0 _ _ _ _ _
      | exact ih1 _ _ _ _ _ _
      | exact ih2 _ _ _ _
      | exact ih3 _ _ _ _ _
      | exact sfnt_Lay.mono _ _ _
      | exact sfnt_Open.mono _ _
      | exact versallaw14_known.mono _
      | exact LeO.none _
      | refine LeO.ite ?_ ?_
      | refine LeO.bind ?_ (fun _ => ?_)
    · intro y0 y1 y2 y3 y4 y5
      unfold versallaw14_SfntBack.j1
      repeat' first
      | (with_reducible exact ih0 _ _ _ _ _)
      | (with_reducible exact ih1 _ _ _ _ _ _)
      | (with_reducible exact ih2 _ _ _ _)
      | (with_reducible exact ih3 _ _ _ _ _)
      | (with_reducible exact sfnt_Lay.mono _ _ _)
      | (with_reducible exact sfnt_Open.mono _ _)
      | (with_reducible exact versallaw14_known.mono _)
      | (with_reducible exact LeO.refl _)
      | (with_reducible exact LeO.none _)
      | (with_reducible refine LeO.ite ?_ ?_)
      | (with_reducible refine LeO.bind ?_ (fun _ => ?_))
      | exact ih0 _ _ _ _ _
      | exact ih1 _ _ _ _ _ _
      | exact ih2 _ _ _ _
      | exact ih3 _ _ _ _ _
      | exact sfnt_Lay.mono _ _ _
      | exact sfnt_Open.mono _ _
      | exact versallaw14_known.mono _
      | exact LeO.none _
      | refine LeO.ite ?_ ?_
      | refine LeO.bind ?_ (fun _ => ?_)
    · intro y0 y1 y2 y3
      unfold versallaw14_SfntBack.j2
      repeat' first
      | (with_reducible exact ih0 _ _ _ _ _)
      | (with_reducible exact ih1 _ _ _ _ _ _)
      | (with_reducible exact ih2 _ _ _ _)
      | (with_reducible exact ih3 _ _ _ _ _)
      | (with_reducible exact sfnt_Lay.mono _ _ _)
      | (with_reducible exact sfnt_Open.mono _ _)
      | (with_reducible exact versallaw14_known.mono _)
      | (with_reducible exact LeO.refl _)
      | (with_reducible exact LeO.none _)
      | (with_reducible refine LeO.ite ?_ ?_)
      | (with_reducible refine LeO.bind ?_ (fun _ => ?_))
      | exact ih0 _ _ _ _ _
      | exact ih1 _ _ _ _ _ _
      | exact ih2 _ _ _ _
      | exact ih3 _ _ _ _ _
      | exact sfnt_Lay.mono _ _ _
      | exact sfnt_Open.mono _ _
      | exact versallaw14_known.mono _
      | exact LeO.none _
      | refine LeO.ite ?_ ?_
      | refine LeO.bind ?_ (fun _ => ?_)
    · intro y0 y1 y2 y3 y4
      unfold versallaw14_SfntBack.l1
      repeat' first
      | (with_reducible exact ih0 _ _ _ _ _)
      | (with_reducible exact ih1 _ _ _ _ _ _)
      | (with_reducible exact ih2 _ _ _ _)
      | (with_reducible exact ih3 _ _ _ _ _)
      | (with_reducible exact sfnt_Lay.mono _ _ _)
      | (with_reducible exact sfnt_Open.mono _ _)
      | (with_reducible exact versallaw14_known.mono _)
      | (with_reducible exact LeO.refl _)
      | (with_reducible exact LeO.none _)
      | (with_reducible refine LeO.ite ?_ ?_)
      | (with_reducible refine LeO.bind ?_ (fun _ => ?_))
      | exact ih0 _ _ _ _ _
      | exact ih1 _ _ _ _ _ _
      | exact ih2 _ _ _ _
      | exact ih3 _ _ _ _ _
      | exact sfnt_Lay.mono _ _ _
      | exact sfnt_Open.mono _ _
      | exact versallaw14_known.mono _
      | exact LeO.none _
      | refine LeO.ite ?_ ?_
      | refine LeO.bind ?_ (fun _ => ?_)
theorem versallaw14_SfntBack.mono : ∀ a0 a1 k, LeO (versallaw14_SfntBack.f k a0 a1) (versallaw14_SfntBack.f (k + 1) a0 a1) := by
  intro a0 a1 k
  obtain ⟨ih0, ih1, ih2, ih3⟩ := versallaw14_SfntBack.mono_l k
  unfold versallaw14_SfntBack.f
  repeat' first
      | (with_reducible exact ih0 _ _ _ _ _)
      | (with_reducible exact ih1 _ _ _ _ _ _)
      | (with_reducible exact ih2 _ _ _ _)
      | (with_reducible exact ih3 _ _ _ _ _)
      | (with_reducible exact sfnt_Lay.mono _ _ _)
      | (with_reducible exact sfnt_Open.mono _ _)
      | (with_reducible exact versallaw14_known.mono _)
      | (with_reducible exact LeO.refl _)
      | (with_reducible exact LeO.none _)
      | (with_reducible refine LeO.ite ?_ ?_)
      | (with_reducible refine LeO.bind ?_ (fun _ => ?_))
      | exact ih0 _ _ _ _ _
      | exact ih1 _ _ _ _ _ _
      | exact ih2 _ _ _ _
      | exact ih3 _ _ _ _ _
      | exact sfnt_Lay.mono _ _ _
      | exact sfnt_Open.mono _ _
      | exact versallaw14_known.mono _
      | exact LeO.none _
      | refine LeO.ite ?_ ?_
      | refine LeO.bind ?_ (fun _ => ?_)
def versallaw14_SfntBack.T16 : Bool × List (List Nat × List Nat) := (true, [([], []), ([0], [0]), ([], []), ([1, 2], [1, 2]), ([3], [3]), ([], []), ([], []), ([5, 6], [5, 6]), ([7], [7]), ([4, 8], [4, 8]), ([9, 1], [9]), ([10], [10]), ([11, 10], [10, 11]), ([10, 12], [10, 12]), ([13, 10], [13]), ([14], [14]), ([15, 14], [14, 15]), ([14], [14]), ([14], [14]), ([17, 18, 14], [14, 17, 18]), ([19, 14], [14, 19]), ([20, 14], [14, 20]), ([16, 21, 14], [14, 16, 21]), ([14, 22], [14, 22])])
def versallaw14_SfntBack.B16 : List Nat := [0, 1, 0, 7, 15, 0, 0, 96, 224, 511, 1023, 2047, 4095, 8191, 16383, 32767, 65535, 32767, 32767, 425983, 950271, 1998847, 4194303, 8388607]
theorem versallaw14_SfntBack.tab16 : rtab .any (opsOf Try.f4 16) = versallaw14_SfntBack.T16 := by kernel_rfl
theorem versallaw14_SfntBack.bits16 : waitsOk versallaw14_SfntBack.T16.2 versallaw14_SfntBack.B16 = true := by kernel_rfl
set_option maxHeartbeats 8000000 in
set_option maxRecDepth 100000 in
theorem versallaw14_SfntBack.calls (k : Nat) (A0 : Option Addr) (c0 : Nat) (l0 : List (List Int)) (A1 : Option Addr) (c1 : Nat) (l1 : List Int) (r : Bool) (w : World) (hr0 : Kd.C (Kd.slice 5 (Kd.int .u8)) w A0 l0.length l0) (hc0 : l0.length ≤ c0) (hr1 : Kd.C (Kd.int .i64) w A1 l1.length l1) (hc1 : l1.length ≤ c1) (h : versallaw14_SfntBack.f k l0 l1 = some r) :
    Calls Try.prog 4 #[.slice A0 l0.length c0, .slice A1 l1.length c1] w fun e w' => e = .returned (.bool r) ∧ Below w.heap.size w w' := by
  have HR0 := Aside0.mk hr0
  have HC0 := Aside0.mk hc0
  clear hr0 hc0
  have HR1 := Aside0.mk hr1
  have HC1 := Aside0.mk hc1
  clear hr1 hc1
  have HB := Aside0.mk (Below.refl w.heap.size w)
  have H : (versallaw14_SfntBack.l0 k l0 l1 ([] : List ByteArray) ([] : List (List Int)) 0) = some r := h
  clear h
  have H' := Aside0.mk H
  clear H
  go_enter Try.func4, Try.ntmps4
  go_wp2
  go_loopg [5, 6, 7] k (fun kq v5 v6 v7 w' => ∃ (x5_1 : List ByteArray) (x6_1 : List (List Int)) (x7_1 : Int), v7 = .int .i64 x7_1 ∧ Aside0 (versallaw14_SfntBack.l0 kq l0 l1 x5_1 x6_1 x7_1 = some r) ∧ Aside0 (kq ≤ k) ∧ Aside0 (Kd.R Kd.string 9 w' w.heap.size (fun _ => True) v5 x5_1) ∧ Aside0 (Kd.S (Kd.slice 5 (Kd.int .u8)) 24 w' w.heap.size (fun _ => True) v6 x6_1) ∧ Aside0 (Below w.heap.size w w'))
  case atStart => exact ⟨(([] : List ByteArray)), (([] : List (List Int))), (0), (by first | rfl | (simp; done) | (simp [*]; done)), H', ⟨Nat.le_refl _⟩, ⟨by first | exact Kd.R_nil _ _ _ _ _ | exact Kd.N_nil _ _ _ _ _ | exact Kd.V_nil _ _ _ _ _ | exact Kd.Q_nil _ _ _ _ _ | exact Kd.S_nil _ _ _ _ _⟩, ⟨by first | exact Kd.S_nil _ _ _ _ _ | exact Kd.N_nil _ _ _ _ _ | exact Kd.V_nil _ _ _ _ _ | exact Kd.Q_nil _ _ _ _ _ | exact Kd.R_nil _ _ _ _ _⟩, ⟨by repeat (first | (with_reducible first | exact HB.out | apply below_alloc | apply pw_below_drewN | apply below_drew1) | exact HB.out)⟩⟩
  case round =>
    clear H'
    try clear c1
    try clear p2
    obtain ⟨x5_1, x6_1, x7_1, rfl, HA, HK1, HO_5, HO_6, HB⟩ := hrel
    cases gk with
    | zero => exact absurd HA.out (by simp [versallaw14_SfntBack.l0])
    | succ k1 =>
      have H := HA.out
      clear HA
      simp only [versallaw14_SfntBack.l0] at H
      have HC3 := Aside0.mk H
      clear H
      go_upto_region 4 with (fail)
      go_cut [26] (fun v26 wc => ∃ (kq : Nat) (x26_2 : Bool), v26 = .bool x26_2 ∧ Aside0 (versallaw14_SfntBack.j1 kq l0 l1 x5_1 x6_1 x7_1 x26_2 = some r) ∧ Aside0 (kq ≤ k1) ∧ Aside0 (Kd.R Kd.string 9 wc w.heap.size (fun _ => True) u5 x5_1) ∧ Aside0 (Kd.S (Kd.slice 5 (Kd.int .u8)) 24 wc w.heap.size (fun _ => True) u6 x6_1) ∧ Aside0 (Below w.heap.size w wc))
      case first =>
        have H := HC3.out
        clear HC3
        by_cases c4 : x7_1 < (l0.length : Int)
        · rw [if_pos c4] at H
          have c4b0 : decide (x7_1 < (l0.length : Int)) = true := decide_eq_true c4
          clear c4
          (first | rw [c4b0] | (simp only [i64_w, i32_w]; rw [c4b0]) | skip)
          have H' := Aside0.mk H
          clear H
          go_wp2
          go_meet
          case rel => exact ⟨_, (decide (x7_1 < 20)), (by first | rfl | (simp; done) | (simp [*]; done)), H', ⟨by have := HK1.out; first | omega | exact Nat.le_refl _⟩, ⟨by (with_reducible repeat (first | apply Kd.R_alloc | apply Kd.R_drewN | apply Kd.R_drew)); exact HO_5.out⟩, ⟨by (with_reducible repeat (first | apply Kd.S_alloc | apply Kd.S_drewN | apply Kd.S_drew)); exact HO_6.out⟩, ⟨by repeat (first | (with_reducible first | exact HB.out | apply below_alloc | apply pw_below_drewN | apply below_drew1) | exact HB.out)⟩⟩
        · rw [if_neg c4] at H
          have c4b0 : decide (x7_1 < (l0.length : Int)) = false := decide_eq_false c4
          clear c4
          (first | rw [c4b0] | (simp only [i64_w, i32_w]; rw [c4b0]) | skip)
          have H' := Aside0.mk H
          clear H
          go_wp2
          go_meet
          case rel => exact ⟨_, (false), (by first | rfl | (simp; done) | (simp [*]; done)), H', ⟨by have := HK1.out; first | omega | exact Nat.le_refl _⟩, ⟨by (with_reducible repeat (first | apply Kd.R_alloc | apply Kd.R_drewN | apply Kd.R_drew)); exact HO_5.out⟩, ⟨by (with_reducible repeat (first | apply Kd.S_alloc | apply Kd.S_drewN | apply Kd.S_drew)); exact HO_6.out⟩, ⟨by repeat (first | (with_reducible first | exact HB.out | apply below_alloc | apply pw_below_drewN | apply below_drew1) | exact HB.out)⟩⟩
      case rest =>
        clear HC3
        try clear c1
        try clear p2
        try clear c4
        try clear c4b0
        try clear p2
        obtain ⟨kq, x26_2, rfl, HA, HJ2, HO_5, HO_6, HB⟩ := hcut
        cases kq with
        | zero => exact absurd HA.out (by simp [versallaw14_SfntBack.j1])
        | succ kj2 =>
          have H := HA.out
          clear HA
          simp only [versallaw14_SfntBack.j1] at H
          by_cases c5 : x26_2 = true
          · subst c5
            have H1 : ((versalhand_Pick.f (l1.length : Int) 250).bind fun t220 => ((some (([(wrap64 (x7_1 + 32)) % 256, (t220) % 256, 7] : List Int) : List Int)).bind fun y221 => (if 1 + (strOfNums y221).size ≤ 9223372036854775807 then (if x5_1.length < 8796093022208 then (if 0 ≤ x7_1 then (if x7_1 < (l0.length : Int) then ((versalhand_Few.f (rd_L2 l0 x7_1) 80).bind fun t228 => (if x6_1.length < 5864062014805 then (versallaw14_SfntBack.l0 kj2 l0 l1 (x5_1 ++ [(⟨#[84]⟩ : ByteArray) ++ (strOfNums y221)]) (x6_1 ++ [t228]) (wrap64 (x7_1 + 1))) else (none))) else (none)) else (none)) else (none)) else (none)))) = some r := by rw [if_pos rfl] at H; exact H
            clear H
            have H := H1
            clear H1
            replace H := Option.bind_eq_some_iff.mp H
            obtain ⟨t220, A60, H⟩ := H
            replace H : ((some (([(wrap64 (x7_1 + 32)) % 256, (t220) % 256, 7] : List Int) : List Int)).bind fun y221 => (if 1 + (strOfNums y221).size ≤ 9223372036854775807 then (if x5_1.length < 8796093022208 then (if 0 ≤ x7_1 then (if x7_1 < (l0.length : Int) then ((versalhand_Few.f (rd_L2 l0 x7_1) 80).bind fun t228 => (if x6_1.length < 5864062014805 then (versallaw14_SfntBack.l0 kj2 l0 l1 (x5_1 ++ [(⟨#[84]⟩ : ByteArray) ++ (strOfNums y221)]) (x6_1 ++ [t228]) (wrap64 (x7_1 + 1))) else (none))) else (none)) else (none)) else (none)) else (none))) = some r := H
            have A6 := Aside0.mk A60
            clear A60
            obtain ⟨y221, hy221⟩ : ∃ y_ : List Int, y_ = (([(wrap64 (x7_1 + 32)) % 256, (t220) % 256, 7] : List Int)) := ⟨_, rfl⟩
            replace H : (if 1 + (strOfNums y221).size ≤ 9223372036854775807 then (if x5_1.length < 8796093022208 then (if 0 ≤ x7_1 then (if x7_1 < (l0.length : Int) then ((versalhand_Few.f (rd_L2 l0 x7_1) 80).bind fun t228 => (if x6_1.length < 5864062014805 then (versallaw14_SfntBack.l0 kj2 l0 l1 (x5_1 ++ [(⟨#[84]⟩ : ByteArray) ++ (strOfNums y221)]) (x6_1 ++ [t228]) (wrap64 (x7_1 + 1))) else (none))) else (none)) else (none)) else (none)) else (none)) = some r := by first | (rw [hy221]; with_reducible exact H) | (have H2_ := (Option.bind_some _ _).symm.trans H; rw [hy221]; with_reducible exact H2_) | (have H2_ := (Option.bind_some _ _).symm.trans H; with_reducible exact H2_) | with_reducible exact H | (rw [hy221]; exact H) | exact H
            have Ny221 := Aside0.mk hy221
            clear hy221
            by_cases c7 : 1 + (strOfNums y221).size ≤ 9223372036854775807
            · rw [if_pos c7] at H
              have c7b0 := eq_true c7
              have c7b1 : decide (1 + (strOfNums y221).size ≤ 9223372036854775807) = true := decide_eq_true c7
              try have c7b2 : (9223372036854775807 < 1 + (strOfNums y221).size) = False := eq_false (Nat.not_lt.2 c7)
              by_cases c8 : x5_1.length < 8796093022208
              · rw [if_pos c8] at H
                have LMc8 := Aside0.mk c8
                clear c8
                obtain ⟨y224, hy224⟩ : ∃ y_ : List ByteArray, y_ = (x5_1 ++ [(⟨#[84]⟩ : ByteArray) ++ (strOfNums y221)]) := ⟨_, rfl⟩
                replace H : (if 0 ≤ x7_1 then (if x7_1 < (l0.length : Int) then ((versalhand_Few.f (rd_L2 l0 x7_1) 80).bind fun t228 => (if x6_1.length < 5864062014805 then (versallaw14_SfntBack.l0 kj2 l0 l1 y224 (x6_1 ++ [t228]) (wrap64 (x7_1 + 1))) else (none))) else (none)) else (none)) = some r := by first | (rw [hy224]; with_reducible exact H) | (have H2_ := (Option.bind_some _ _).symm.trans H; rw [hy224]; with_reducible exact H2_) | (have H2_ := (Option.bind_some _ _).symm.trans H; with_reducible exact H2_) | with_reducible exact H | (rw [hy224]; exact H) | exact H
                have Ny224 := Aside0.mk hy224
                clear hy224
                by_cases c9 : 0 ≤ x7_1
                · rw [if_pos c9] at H
                  have c9b0 : decide (0 ≤ x7_1) = true := decide_eq_true c9
                  clear c9
                  by_cases c10 : x7_1 < (l0.length : Int)
                  · rw [if_pos c10] at H
                    have c10b0 : decide (x7_1 < (l0.length : Int)) = true := decide_eq_true c10
                    clear c10
                    replace H := Option.bind_eq_some_iff.mp H
                    obtain ⟨t228, A110, H⟩ := H
                    replace H : (if x6_1.length < 5864062014805 then (versallaw14_SfntBack.l0 kj2 l0 l1 y224 (x6_1 ++ [t228]) (wrap64 (x7_1 + 1))) else (none)) = some r := H
                    have A11 := Aside0.mk A110
                    clear A110
                    by_cases c12 : x6_1.length < 5864062014805
                    · rw [if_pos c12] at H
                      have LMc12 := Aside0.mk c12
                      clear c12
                      obtain ⟨y231, hy231⟩ : ∃ y_ : List (List Int), y_ = (x6_1 ++ [t228]) := ⟨_, rfl⟩
                      replace H : (versallaw14_SfntBack.l0 kj2 l0 l1 y224 y231 (wrap64 (x7_1 + 1))) = some r := by first | (rw [hy231]; with_reducible exact H) | (have H2_ := (Option.bind_some _ _).symm.trans H; rw [hy231]; with_reducible exact H2_) | (have H2_ := (Option.bind_some _ _).symm.trans H; with_reducible exact H2_) | with_reducible exact H | (rw [hy231]; exact H) | exact H
                      have Ny231 := Aside0.mk hy231
                      clear hy231
                      have H' := Aside0.mk H
                      clear H
                      go_wp2_with (first | ((with_reducible refine gate_callee (f := 19) rfl ?_); refine goesL_ (some 35) rfl rfl Try.func19 (by kernel_rfl) rfl #[.int .i64 (l1.length : Int), .int .i64 250] rfl (by (try simp only [List.map_toArray, List.map_cons, List.map_nil]); first | done | rfl | (simp only [List.length_drop, List.length_take]; rfl)) ?_; (with_reducible refine (versalhand_Pick.calls (l1.length : Int) 250 t220 _ A6.out).mono ?_); rintro e w' ⟨rfl, ⟨nd, rfl⟩⟩; refine ⟨_, rfl, ?_⟩) | ((with_reducible refine gate_dst (N := 37) rfl ?_); (try (refine gate_guard (by rfl) ?_; dsimp only)); refine Kd.R_lit (Kd.int .u8) _ 5 ?hg (N := 37) ?hd (xs := ([(wrap64 (x7_1 + 32)) % 256, (t220) % 256, 7] : List Int)) (inner := [.int .u8 ((wrap64 (x7_1 + 32)) % 256), .int .u8 ((t220) % 256), .int .u8 7]) (ok := fun _ => True) (okp := fun _ => True) ?hr ?hp (fun _ hk => by first | exact hk | (revert hk; (try simp only [and_imp]); intros; repeat' (first | assumption | trivial | apply And.intro))) trivial (Below.refl _ _) (Nat.le_refl _) (by simp) ?_; (case hd => rfl); (case hg => rfl); (case hr => first | (go_simp; done) | (go_simp; rfl)); (case hp => exact (Reps.one (show Kd.M (Kd.int .u8) _ _ _ ((wrap64 (x7_1 + 32)) % 256) [.int .u8 ((wrap64 (x7_1 + 32)) % 256)] from rfl) (Reps.one (show Kd.M (Kd.int .u8) _ _ _ ((t220) % 256) [.int .u8 ((t220) % 256)] from rfl) (Reps.one (show Kd.M (Kd.int .u8) _ _ _ 7 [.int .u8 7] from rfl) (Reps.none _ _))))); intro v222 w13 ho14 hb hg_ hnew_; clear hg_ hnew_; (first | rw [← Ny221.out] at ho14 | (simp only [Int.reduceToNat] at ho14; rw [← Ny221.out] at ho14)); have n0_ := Aside0.mk (Kd.R_below (by (with_reducible repeat (first | apply Kd.R_alloc | apply Kd.R_drewN | apply Kd.R_drew)); exact HO_5.out) hb); have n1_ := Aside0.mk (Kd.S_elder' (by (with_reducible repeat (first | apply Kd.S_alloc | apply Kd.S_drewN | apply Kd.S_drew)); exact HO_6.out) (Kd.R_base ho14) hb); have n2_ := Aside0.mk (Kd.R_lower ho14 (below_size (by repeat (first | (with_reducible first | exact HB.out | apply below_alloc | apply pw_below_drewN | apply below_drew1) | exact HB.out)))); have n3_ := Aside0.mk (below_step (by repeat (first | (with_reducible first | exact HB.out | apply below_alloc | apply pw_below_drewN | apply below_drew1) | exact HB.out)) hb); clear HO_5; clear HO_6; clear HB; have HO_5 := n0_; have HO_6 := n1_; have HO223 := n2_; have HB := n3_; clear n0_ n1_ n2_ n3_; clear hb ho14; have hcv15 := own_string (P := Try.prog) Try.underlying24 Try.underlying5 Try.underlying9 (Kd.own_of_R HO223.out)) | ((with_reducible refine gate_builtin (b := .append) (xs := #[.tmp 29, .tmp 40]) rfl ?_); (try (refine gate_guard (by rfl) ?_; dsimp only)); at_builtin; refine Kd.R_append Kd.string (w0 := w) w.heap.size rfl (.tmp 29) (.tmp 40) 25 9 (.string ⟨#[]⟩) 16 rfl Try.underlying25 info9 rfl (by decide) (by omega) u5 x5_1 ((⟨#[84]⟩ : ByteArray) ++ (strOfNums y221)) [.string ((⟨#[84]⟩ : ByteArray) ++ (strOfNums y221))] (fun _ => True) (fun _ => False) rfl rfl ?aP (fun _ hk => by first | exact hk.elim | (revert hk; (try simp only [and_imp]); intros; repeat' (first | assumption | trivial | apply And.intro))) ?aF ?aO ?aB ?aS ?aL ?_; (case aP => exact rfl); (case aB => exact (by repeat (first | (with_reducible first | exact HB.out | apply below_alloc | apply pw_below_drewN | apply below_drew1) | exact HB.out))); (case aF => exact (fun _ _ => trivial)); (case aO => exact (by (with_reducible repeat (first | apply Kd.R_alloc | apply Kd.R_drewN | apply Kd.R_drew)); exact HO_5.out)); (case aS => exact (below_size (by repeat (first | (with_reducible first | exact HB.out | apply below_alloc | apply pw_below_drewN | apply below_drew1) | exact HB.out)))); (case aL => have := LMc8.out; omega); intro v225 w16 ho hb hg hat; rw [← Ny224.out] at ho; have n0_ := Aside0.mk (Kd.S_over' (by (with_reducible repeat (first | apply Kd.S_alloc | apply Kd.S_drewN | apply Kd.S_drew)); exact HO_6.out) (Kd.R_typed (by (with_reducible repeat (first | apply Kd.R_alloc | apply Kd.R_drewN | apply Kd.R_drew)); exact HO_5.out)) (by decide) hg); have n1_ := Aside0.mk (Kd.R_over' (by (with_reducible repeat (first | apply Kd.R_alloc | apply Kd.R_drewN | apply Kd.R_drew)); exact HO223.out) (Kd.R_typed (by (with_reducible repeat (first | apply Kd.R_alloc | apply Kd.R_drewN | apply Kd.R_drew)); exact HO_5.out)) (by decide) hg); have n2_ := Aside0.mk (hb); have n3_ := Aside0.mk (ho); clear HO_6; clear HO223; clear HB; clear HO_5; have HO_6 := n0_; have HO223 := n1_; have HB := n2_; have HO226 := n3_; clear n0_ n1_ n2_ n3_; clear ho hb hg hat; have p227 : 0 ≤ (x7_1 : Int) := of_decide_eq_true (by first | (with_reducible assumption) | assumption); have q227 : x7_1 < (l0.length : Int) := of_decide_eq_true (by first | (with_reducible assumption) | assumption); obtain ⟨ad227, A227_0, c227_0, e227, hx227_0, hl227_0, hi227_0⟩ := at_L2 HR0.out x7_1 p227 q227; cases e227; replace hx227_0 := (HB.out.cell (cLt w _ hx227_0)).trans hx227_0; have HR227_0 := Aside0.mk hi227_0; have HC227_0 := Aside0.mk hl227_0; clear hi227_0 hl227_0; replace p227 := eq_true p227; replace q227 := eq_true q227) | ((with_reducible refine gate_callee (f := 18) rfl ?_); refine goesL_ (some 47) rfl rfl Try.func18 (by kernel_rfl) rfl #[.slice A227_0 (rd_L2 l0 x7_1).length c227_0, .int .i64 80] rfl (by (try simp only [List.map_toArray, List.map_cons, List.map_nil]); first | done | rfl | (simp only [List.length_drop, List.length_take]; rfl)) ?_; (with_reducible refine (versalhand_Few.calls _ _ (rd_L2 l0 x7_1) 80 t228 _ ?side1 ?side2 A11.out).mono ?_); (case side1 => repeat (first | exact (Kd.C_below HR227_0.out HB.out) | (with_reducible refine Kd.C_alloc ?_ _) | (with_reducible refine Kd.C_drewN ?_ _) | (with_reducible refine Kd.C_drew ?_))); (case side2 => exact HC227_0.out); rintro e w17 ⟨v229, rfl, ho0, hb⟩; refine ⟨_, rfl, ?_⟩; have n0_ := Aside0.mk (Kd.S_elder' (by (with_reducible repeat (first | apply Kd.S_alloc | apply Kd.S_drewN | apply Kd.S_drew)); exact HO_6.out) (Kd.R_base ho0) hb); have n1_ := Aside0.mk (Kd.R_elder' (by (with_reducible repeat (first | apply Kd.R_alloc | apply Kd.R_drewN | apply Kd.R_drew)); exact HO223.out) (Kd.R_base ho0) hb); have n2_ := Aside0.mk (Kd.R_below (by (with_reducible repeat (first | apply Kd.R_alloc | apply Kd.R_drewN | apply Kd.R_drew)); exact HO226.out) hb); have n3_ := Aside0.mk (Kd.R_lower (Kd.R_new' ho0 (Kd.R_lt (by (with_reducible repeat (first | apply Kd.R_alloc | apply Kd.R_drewN | apply Kd.R_drew)); exact HO223.out))) (below_size (by repeat (first | (with_reducible first | exact HB.out | apply below_alloc | apply pw_below_drewN | apply below_drew1) | exact HB.out)))); have n4_ := Aside0.mk (below_step (by repeat (first | (with_reducible first | exact HB.out | apply below_alloc | apply pw_below_drewN | apply below_drew1) | exact HB.out)) hb); clear HO_6; clear HO223; clear HO226; clear HB; have HO_6 := n0_; have HO223 := n1_; have HO226 := n2_; have HO230 := n3_; have HB := n4_; clear n0_ n1_ n2_ n3_ n4_; (try clear hb); (try clear hb2); (try clear hk); (try clear hi); (try clear ho0); obtain ⟨Ao19, co19, eo19⟩ := Kd.R_slice HO230.out; subst eo19) | ((with_reducible refine gate_builtin (b := .append) (xs := #[.tmp 42, .tmp 48]) rfl ?_); (try (refine gate_guard (by rfl) ?_; dsimp only)); at_builtin; refine Kd.S_append (Kd.slice 5 (Kd.int .u8)) (w0 := w) w.heap.size rfl (.tmp 42) (.tmp 48) 22 24 (.slice none 0 0) 24 rfl Try.underlying22 info24 rfl (by decide) (by omega) u6 x6_1 t228 [.slice Ao19 t228.length co19] (fun k_ => some k_ ≠ (v222 : Value).ownBlock) (fun k_ => some k_ = (.slice Ao19 t228.length co19 : Value).ownBlock) rfl rfl ?aP (fun k_ hk_ => ((Kd.R_mono (ok' := fun k_ => ((fun k_ => some k_ ≠ (v222 : Value).ownBlock)) k_ ∧ some k_ ≠ (u6 : Value).ownBlock) (Kd.R_apart' (HO230.out) (Kd.S_typed HO_6.out) (by decide)) (fun k_ hk => by first | exact ⟨hk.1.2, hk.2⟩ | (revert hk; (try simp only [and_imp]); intros; repeat' (first | assumption | trivial | apply And.intro))))).1 k_ hk_.symm) ?aF ?aO ?aB ?aS ?aL ?_; (case aP => exact Kd.M_row (Kd.R_mono (Kd.R_tight rfl (Kd.R_mono (ok' := fun k_ => ((fun k_ => some k_ ≠ (v222 : Value).ownBlock)) k_ ∧ some k_ ≠ (u6 : Value).ownBlock) (Kd.R_apart' (HO230.out) (Kd.S_typed HO_6.out) (by decide)) (fun k_ hk => by first | exact ⟨hk.1.2, hk.2⟩ | (revert hk; (try simp only [and_imp]); intros; repeat' (first | assumption | trivial | apply And.intro))))) (fun _ h_ => h_))); (case aB => exact (by repeat (first | (with_reducible first | exact HB.out | apply below_alloc | apply pw_below_drewN | apply below_drew1) | exact HB.out))); (case aF => exact (fun k_ hk => Kd.fresh' (Kd.R_lt (by (with_reducible repeat (first | apply Kd.R_alloc | apply Kd.R_drewN | apply Kd.R_drew)); exact HO223.out)) k_ hk)); (case aO => exact (by (with_reducible repeat (first | apply Kd.S_alloc | apply Kd.S_drewN | apply Kd.S_drew)); exact Kd.S_mono HO_6.out (fun k_ hk => by first | exact ⟨hk.1.2, fun e_ => hk.2 e_⟩ | (revert hk; (try simp only [and_imp]); intros; repeat' (first | assumption | trivial | apply And.intro))))); (case aS => exact (below_size (by repeat (first | (with_reducible first | exact HB.out | apply below_alloc | apply pw_below_drewN | apply below_drew1) | exact HB.out)))); (case aL => have := LMc12.out; omega); intro v232 w18 ho hb hg hat; rw [← Ny231.out] at ho; have n0_ := Aside0.mk (Kd.R_over' (by (with_reducible repeat (first | apply Kd.R_alloc | apply Kd.R_drewN | apply Kd.R_drew)); exact HO223.out) (Kd.S_typed (by (with_reducible repeat (first | apply Kd.S_alloc | apply Kd.S_drewN | apply Kd.S_drew)); exact HO_6.out)) (by decide) hg); have n1_ := Aside0.mk (Kd.R_over' (by (with_reducible repeat (first | apply Kd.R_alloc | apply Kd.R_drewN | apply Kd.R_drew)); exact HO226.out) (Kd.S_typed (by (with_reducible repeat (first | apply Kd.S_alloc | apply Kd.S_drewN | apply Kd.S_drew)); exact HO_6.out)) (by decide) hg); have n2_ := Aside0.mk (hb); have n3_ := Aside0.mk (ho); clear HO223; clear HO226; clear HB; clear HO_6; clear HO230; have HO223 := n0_; have HO226 := n1_; have HB := n2_; have HO233 := n3_; clear n0_ n1_ n2_ n3_; clear ho hb hg hat))
                      go_roundg kj2
                      case measure => have := HK1.out; have := HJ2.out; omega
                      case rel => exact ⟨(y224), (y231), (wrap64 (x7_1 + 1)), (by first | rfl | (simp; done) | (simp [*]; done)), H', ⟨by have := HK1.out; have := HJ2.out; omega⟩, ⟨by (with_reducible repeat (first | apply Kd.R_alloc | apply Kd.R_drewN | apply Kd.R_drew)); exact HO226.out⟩, ⟨by (with_reducible repeat (first | apply Kd.S_alloc | apply Kd.S_drewN | apply Kd.S_drew)); exact Kd.S_mono HO233.out (fun _ hk => trivial)⟩, ⟨by repeat (first | (with_reducible first | exact HB.out | apply below_alloc | apply pw_below_drewN | apply below_drew1) | exact HB.out)⟩⟩
                    · rw [if_neg c12] at H
                      exact absurd H (by simp)
                  · rw [if_neg c10] at H
                    exact absurd H (by simp)
                · rw [if_neg c9] at H
                  exact absurd H (by simp)
              · rw [if_neg c8] at H
                exact absurd H (by simp)
            · rw [if_neg c7] at H
              exact absurd H (by simp)
          · replace c5 := Bool.eq_false_iff.mpr c5
            subst c5
            have H1 : ((sfnt_Lay.f kj2 x5_1 x6_1).bind fun bt234 => ((sfnt_Open.f kj2 bt234.1).bind fun bt238 => ((versallaw14_known.f kj2).bind fun t242 => (if t242 = true then (if bt234.2 = 0 then (if bt238.2 = 0 then (if (bt238.1.length : Int) = 0 then (versallaw14_SfntBack.j2 kj2 x5_1 x6_1 bt238.1 true) else ((sfnt_Font_Tags.f bt238.1).bind fun t243 => (versallaw14_SfntBack.j2 kj2 x5_1 x6_1 bt238.1 ((t243.length : Int) != (x5_1.length : Int))))) else (versallaw14_SfntBack.j2 kj2 x5_1 x6_1 bt238.1 true)) else (versallaw14_SfntBack.j2 kj2 x5_1 x6_1 bt238.1 true)) else (versallaw14_SfntBack.j2 kj2 x5_1 x6_1 bt238.1 true))))) = some r := by rw [if_neg (show ¬ (false = true) by decide)] at H; exact H
            clear H
            have H := H1
            clear H1
            replace H := Option.bind_eq_some_iff.mp H
            obtain ⟨⟨t234, t237⟩, A200, H⟩ := H
            replace H : ((sfnt_Open.f kj2 t234).bind fun bt238 => ((versallaw14_known.f kj2).bind fun t242 => (if t242 = true then (if t237 = 0 then (if bt238.2 = 0 then (if (bt238.1.length : Int) = 0 then (versallaw14_SfntBack.j2 kj2 x5_1 x6_1 bt238.1 true) else ((sfnt_Font_Tags.f bt238.1).bind fun t243 => (versallaw14_SfntBack.j2 kj2 x5_1 x6_1 bt238.1 ((t243.length : Int) != (x5_1.length : Int))))) else (versallaw14_SfntBack.j2 kj2 x5_1 x6_1 bt238.1 true)) else (versallaw14_SfntBack.j2 kj2 x5_1 x6_1 bt238.1 true)) else (versallaw14_SfntBack.j2 kj2 x5_1 x6_1 bt238.1 true)))) = some r := H
            have A20 := Aside0.mk A200
            clear A200
            replace H := Option.bind_eq_some_iff.mp H
            obtain ⟨⟨t238, t241⟩, A210, H⟩ := H
            replace H : ((versallaw14_known.f kj2).bind fun t242 => (if t242 = true then (if t237 = 0 then (if t241 = 0 then (if (t238.length : Int) = 0 then (versallaw14_SfntBack.j2 kj2 x5_1 x6_1 t238 true) else ((sfnt_Font_Tags.f t238).bind fun t243 => (versallaw14_SfntBack.j2 kj2 x5_1 x6_1 t238 ((t243.length : Int) != (x5_1.length : Int))))) else (versallaw14_SfntBack.j2 kj2 x5_1 x6_1 t238 true)) else (versallaw14_SfntBack.j2 kj2 x5_1 x6_1 t238 true)) else (versallaw14_SfntBack.j2 kj2 x5_1 x6_1 t238 true))) = some r := H
            have A21 := Aside0.mk A210
            clear A210
            have HC22 := Aside0.mk H
            clear H
            obtain ⟨Ao23, co23, eo23⟩ := Kd.R_slice HO_5.out
            subst eo23
            obtain ⟨Ao24, co24, eo24⟩ := Kd.S_slice HO_6.out
            subst eo24
            go_upto_region 10 with (first | ((with_reducible refine gate_callee (f := 16) rfl ?_); refine goesL_ (some 53) rfl rfl Try.func16 (by kernel_rfl) rfl #[.slice Ao23 x5_1.length co23, .slice Ao24 x6_1.length co24] rfl (by (try simp only [List.map_toArray, List.map_cons, List.map_nil]); first | done | rfl | (simp only [List.length_drop, List.length_take]; rfl)) ?_; (with_reducible refine (sfnt_Lay.calls kj2 _ _ x5_1 _ _ x6_1 t234 t237 _ ?side1 ?side2 ?side3 ?side4 A20.out).mono ?_); (case side1 => repeat (first | exact (Kd.R_reads' HO_5.out).2.2 | (with_reducible refine Kd.C_alloc ?_ _) | (with_reducible refine Kd.C_drewN ?_ _) | (with_reducible refine Kd.C_drew ?_))); (case side2 => exact (Kd.R_reads' HO_5.out).2.1); (case side3 => repeat (first | exact (Kd.S_reads' HO_6.out).2.2 | (with_reducible refine Kd.C_alloc ?_ _) | (with_reducible refine Kd.C_drewN ?_ _) | (with_reducible refine Kd.C_drew ?_))); (case side4 => exact (Kd.S_reads' HO_6.out).2.1); rintro e w25 ⟨v235, rfl, ho0, hb⟩; refine ⟨_, rfl, ?_⟩; have n0_ := Aside0.mk (Kd.R_below (by (with_reducible repeat (first | apply Kd.R_alloc | apply Kd.R_drewN | apply Kd.R_drew)); exact HO_5.out) hb); have n1_ := Aside0.mk (Kd.S_below (by (with_reducible repeat (first | apply Kd.S_alloc | apply Kd.S_drewN | apply Kd.S_drew)); exact HO_6.out) hb); have n2_ := Aside0.mk (Kd.V_lower (Kd.V_mono (ok' := fun k_ => some k_ ≠ (.slice Ao23 x5_1.length co23 : Value).ownBlock ∧ some k_ ≠ (.slice Ao24 x6_1.length co24 : Value).ownBlock) ho0 (fun k_ hk_ => ⟨(Kd.fresh' (Kd.R_lt (by (with_reducible repeat (first | apply Kd.R_alloc | apply Kd.R_drewN | apply Kd.R_drew)); exact HO_5.out)) k_ hk_), (Kd.fresh' (Kd.S_lt (by (with_reducible repeat (first | apply Kd.S_alloc | apply Kd.S_drewN | apply Kd.S_drew)); exact HO_6.out)) k_ hk_)⟩)) (below_size (by repeat (first | (with_reducible first | exact HB.out | apply below_alloc | apply pw_below_drewN | apply below_drew1) | exact HB.out)))); have n3_ := Aside0.mk (below_step (by repeat (first | (with_reducible first | exact HB.out | apply below_alloc | apply pw_below_drewN | apply below_drew1) | exact HB.out)) hb); clear HO_5; clear HO_6; clear HB; have HO_5 := n0_; have HO_6 := n1_; have HO236 := n2_; have HB := n3_; clear n0_ n1_ n2_ n3_; (try clear hb); (try clear hb2); (try clear hk); (try clear hi); (try clear ho0); obtain ⟨Ao26, co26, eo26⟩ := Kd.V_slice HO236.out; subst eo26) | ((with_reducible refine gate_callee (f := 20) rfl ?_); refine goesL_ (some 58) rfl rfl Try.func20 (by kernel_rfl) rfl #[.slice Ao26 t234.length co26] rfl (by (try simp only [List.map_toArray, List.map_cons, List.map_nil]); first | done | rfl | (simp only [List.length_drop, List.length_take]; rfl)) ?_; (with_reducible refine (sfnt_Open.calls kj2 _ _ t234 t238 t241 _ ?side1 ?side2 A21.out).mono ?_); (case side1 => repeat (first | exact (Kd.V_reads' HO236.out).2.2 | (with_reducible refine Kd.C_alloc ?_ _) | (with_reducible refine Kd.C_drewN ?_ _) | (with_reducible refine Kd.C_drew ?_))); (case side2 => exact (Kd.V_reads' HO236.out).2.1); rintro e w27 ⟨v239, rfl, ho0, hb⟩; refine ⟨_, rfl, ?_⟩; have n0_ := Aside0.mk (Kd.R_below (by (with_reducible repeat (first | apply Kd.R_alloc | apply Kd.R_drewN | apply Kd.R_drew)); exact HO_5.out) hb); have n1_ := Aside0.mk (Kd.S_below (by (with_reducible repeat (first | apply Kd.S_alloc | apply Kd.S_drewN | apply Kd.S_drew)); exact HO_6.out) hb); have n2_ := Aside0.mk (Kd.V_below (by (with_reducible repeat (first | apply Kd.V_alloc | apply Kd.V_drewN | apply Kd.V_drew)); exact HO236.out) hb); have n3_ := Aside0.mk (Kd.V_lower (Kd.V_mono (ok' := fun k_ => some k_ ≠ (.slice Ao23 x5_1.length co23 : Value).ownBlock ∧ some k_ ≠ (.slice Ao24 x6_1.length co24 : Value).ownBlock) ho0 (fun k_ hk_ => ⟨(Kd.fresh' (Kd.R_lt (by (with_reducible repeat (first | apply Kd.R_alloc | apply Kd.R_drewN | apply Kd.R_drew)); exact HO_5.out)) k_ hk_), (Kd.fresh' (Kd.S_lt (by (with_reducible repeat (first | apply Kd.S_alloc | apply Kd.S_drewN | apply Kd.S_drew)); exact HO_6.out)) k_ hk_)⟩)) (below_size (by repeat (first | (with_reducible first | exact HB.out | apply below_alloc | apply pw_below_drewN | apply below_drew1) | exact HB.out)))); have n4_ := Aside0.mk (below_step (by repeat (first | (with_reducible first | exact HB.out | apply below_alloc | apply pw_below_drewN | apply below_drew1) | exact HB.out)) hb); clear HO_5; clear HO_6; clear HO236; clear HB; have HO_5 := n0_; have HO_6 := n1_; have HO236 := n2_; have HO240 := n3_; have HB := n4_; clear n0_ n1_ n2_ n3_ n4_; (try clear hb); (try clear hb2); (try clear hk); (try clear hi); (try clear ho0)))
            (try simp only [Act.put, List.setIfInBounds_toArray, List.set_cons_zero, List.set_cons_succ])
            go_cut [82] (fun v82 wc => ∃ (kq : Nat) (x82_21 : Bool), v82 = .bool x82_21 ∧ Aside0 (versallaw14_SfntBack.j2 kq x5_1 x6_1 t238 x82_21 = some r) ∧ Aside0 (kq ≤ kj2) ∧ Aside0 (Kd.R Kd.string 9 wc w.heap.size (fun _ => True) (.slice Ao23 x5_1.length co23) x5_1) ∧ Aside0 (Kd.S (Kd.slice 5 (Kd.int .u8)) 24 wc w.heap.size (fun _ => True) (.slice Ao24 x6_1.length co24) x6_1) ∧ Aside0 (Kd.V k135 135 wc w.heap.size (fun k_ => some k_ ≠ ((.slice Ao23 x5_1.length co23) : Value).ownBlock ∧ some k_ ≠ ((.slice Ao24 x6_1.length co24) : Value).ownBlock) v239 t238) ∧ Aside0 (Below w.heap.size w wc))
            case first =>
              have H := HC22.out
              clear HC22
              replace H := Option.bind_eq_some_iff.mp H
              obtain ⟨t242, A280, H⟩ := H
              replace H : (if t242 = true then (if t237 = 0 then (if t241 = 0 then (if (t238.length : Int) = 0 then (versallaw14_SfntBack.j2 kj2 x5_1 x6_1 t238 true) else ((sfnt_Font_Tags.f t238).bind fun t243 => (versallaw14_SfntBack.j2 kj2 x5_1 x6_1 t238 ((t243.length : Int) != (x5_1.length : Int))))) else (versallaw14_SfntBack.j2 kj2 x5_1 x6_1 t238 true)) else (versallaw14_SfntBack.j2 kj2 x5_1 x6_1 t238 true)) else (versallaw14_SfntBack.j2 kj2 x5_1 x6_1 t238 true)) = some r := H
              have A28 := Aside0.mk A280
              clear A280
              by_cases c29 : t242 = true
              · subst c29
                have H1 : (if t237 = 0 then (if t241 = 0 then (if (t238.length : Int) = 0 then (versallaw14_SfntBack.j2 kj2 x5_1 x6_1 t238 true) else ((sfnt_Font_Tags.f t238).bind fun t243 => (versallaw14_SfntBack.j2 kj2 x5_1 x6_1 t238 ((t243.length : Int) != (x5_1.length : Int))))) else (versallaw14_SfntBack.j2 kj2 x5_1 x6_1 t238 true)) else (versallaw14_SfntBack.j2 kj2 x5_1 x6_1 t238 true)) = some r := by rw [if_pos rfl] at H; exact H
                clear H
                have H := H1
                clear H1
                by_cases c30 : t237 = 0
                · rw [if_pos c30] at H
                  have c30b0 : (t237 == 0) = true := beq_iff_eq.mpr c30
                  have c30b1 : (t237 != 0) = false := bne_eq_false_iff_eq.mpr c30
                  clear c30
                  (first | rw [c30b0] | (simp only [i64_w, i32_w]; rw [c30b0]) | skip)
                  by_cases c31 : t241 = 0
                  · rw [if_pos c31] at H
                    have c31b0 : (t241 == 0) = true := beq_iff_eq.mpr c31
                    have c31b1 : (t241 != 0) = false := bne_eq_false_iff_eq.mpr c31
                    clear c31
                    by_cases c32 : (t238.length : Int) = 0
                    · rw [if_pos c32] at H
                      have c32b0 : ((t238.length : Int) == 0) = true := beq_iff_eq.mpr c32
                      have c32b1 : ((t238.length : Int) != 0) = false := bne_eq_false_iff_eq.mpr c32
                      clear c32
                      have H' := Aside0.mk H
                      clear H
                      go_wp2_with (first | ((with_reducible refine gate_callee (f := 22) rfl ?_); refine goesL_ (some 61) rfl rfl Try.func22 (by kernel_rfl) rfl #[] rfl (by (try simp only [List.map_toArray, List.map_cons, List.map_nil]); first | done | rfl | (simp only [List.length_drop, List.length_take]; rfl)) ?_; (with_reducible refine (versallaw14_known.calls kj2  true _ A28.out).mono ?_); rintro e w33 ⟨rfl, hb⟩; refine ⟨_, rfl, ?_⟩; have n0_ := Aside0.mk (Kd.R_below (by (with_reducible repeat (first | apply Kd.R_alloc | apply Kd.R_drewN | apply Kd.R_drew)); exact HO_5.out) hb); have n1_ := Aside0.mk (Kd.S_below (by (with_reducible repeat (first | apply Kd.S_alloc | apply Kd.S_drewN | apply Kd.S_drew)); exact HO_6.out) hb); have n2_ := Aside0.mk (Kd.V_below (by (with_reducible repeat (first | apply Kd.V_alloc | apply Kd.V_drewN | apply Kd.V_drew)); exact HO236.out) hb); have n3_ := Aside0.mk (Kd.V_below (by (with_reducible repeat (first | apply Kd.V_alloc | apply Kd.V_drewN | apply Kd.V_drew)); exact HO240.out) hb); have n4_ := Aside0.mk (below_step (by repeat (first | (with_reducible first | exact HB.out | apply below_alloc | apply pw_below_drewN | apply below_drew1) | exact HB.out)) hb); clear HO_5; clear HO_6; clear HO236; clear HO240; clear HB; have HO_5 := n0_; have HO_6 := n1_; have HO236 := n2_; have HO240 := n3_; have HB := n4_; clear n0_ n1_ n2_ n3_ n4_; (try clear hb); (try clear hb2); (try clear hk); (try clear hi); have hz34 := hq_isNone t238 v239))
                      go_meet
                      case rel => exact ⟨_, (true), (by first | rfl | (simp; done) | (simp [*]; done)), H', ⟨by have := HK1.out; have := HJ2.out; first | omega | exact Nat.le_refl _⟩, ⟨by (with_reducible repeat (first | apply Kd.R_alloc | apply Kd.R_drewN | apply Kd.R_drew)); exact HO_5.out⟩, ⟨by (with_reducible repeat (first | apply Kd.S_alloc | apply Kd.S_drewN | apply Kd.S_drew)); exact HO_6.out⟩, ⟨by (with_reducible repeat (first | apply Kd.V_alloc | apply Kd.V_drewN | apply Kd.V_drew)); exact HO240.out⟩, ⟨by repeat (first | (with_reducible first | exact HB.out | apply below_alloc | apply pw_below_drewN | apply below_drew1) | exact HB.out)⟩⟩
                    · rw [if_neg c32] at H
                      have c32b0 : ((t238.length : Int) == 0) = false := beq_eq_false_iff_ne.mpr c32
                      have c32b1 : ((t238.length : Int) != 0) = true := bne_iff_ne.mpr c32
                      have c32b2 : ¬ (t238 = []) := fun h_ => c32 (by rw [h_]; rfl)
                      replace H := Option.bind_eq_some_iff.mp H
                      obtain ⟨t243, A350, H⟩ := H
                      replace H : (versallaw14_SfntBack.j2 kj2 x5_1 x6_1 t238 ((t243.length : Int) != (x5_1.length : Int))) = some r := H
                      have A35 := Aside0.mk A350
                      clear A350
                      have H' := Aside0.mk H
                      clear H
                      go_wp2_with (first | ((with_reducible refine gate_callee (f := 22) rfl ?_); refine goesL_ (some 61) rfl rfl Try.func22 (by kernel_rfl) rfl #[] rfl (by (try simp only [List.map_toArray, List.map_cons, List.map_nil]); first | done | rfl | (simp only [List.length_drop, List.length_take]; rfl)) ?_; (with_reducible refine (versallaw14_known.calls kj2  true _ A28.out).mono ?_); rintro e w36 ⟨rfl, hb⟩; refine ⟨_, rfl, ?_⟩; have n0_ := Aside0.mk (Kd.R_below (by (with_reducible repeat (first | apply Kd.R_alloc | apply Kd.R_drewN | apply Kd.R_drew)); exact HO_5.out) hb); have n1_ := Aside0.mk (Kd.S_below (by (with_reducible repeat (first | apply Kd.S_alloc | apply Kd.S_drewN | apply Kd.S_drew)); exact HO_6.out) hb); have n2_ := Aside0.mk (Kd.V_below (by (with_reducible repeat (first | apply Kd.V_alloc | apply Kd.V_drewN | apply Kd.V_drew)); exact HO236.out) hb); have n3_ := Aside0.mk (Kd.V_below (by (with_reducible repeat (first | apply Kd.V_alloc | apply Kd.V_drewN | apply Kd.V_drew)); exact HO240.out) hb); have n4_ := Aside0.mk (below_step (by repeat (first | (with_reducible first | exact HB.out | apply below_alloc | apply pw_below_drewN | apply below_drew1) | exact HB.out)) hb); clear HO_5; clear HO_6; clear HO236; clear HO240; clear HB; have HO_5 := n0_; have HO_6 := n1_; have HO236 := n2_; have HO240 := n3_; have HB := n4_; clear n0_ n1_ n2_ n3_ n4_; (try clear hb); (try clear hb2); (try clear hk); (try clear hi); have hz37 := hq_isNone t238 v239; obtain ⟨Ao38, co38, eo38⟩ := Kd.V_slice HO240.out; subst eo38) | (go_at_call 23; (with_reducible refine (sfnt_Font_Tags.calls _ _ t238 t243 _ ?side1 ?side2 A35.out).mono ?_); (case side1 => repeat (first | exact (Kd.V_reads' HO240.out).2.2 | (with_reducible refine Kd.C_alloc ?_ _) | (with_reducible refine Kd.C_drewN ?_ _) | (with_reducible refine Kd.C_drew ?_))); (case side2 => exact (Kd.V_reads' HO240.out).2.1); rintro e w39 ⟨v244, rfl, ho0, hb⟩; have n0_ := Aside0.mk (Kd.R_elder' (by (with_reducible repeat (first | apply Kd.R_alloc | apply Kd.R_drewN | apply Kd.R_drew)); exact HO_5.out) (Kd.R_base ho0) hb); have n1_ := Aside0.mk (Kd.S_below (by (with_reducible repeat (first | apply Kd.S_alloc | apply Kd.S_drewN | apply Kd.S_drew)); exact HO_6.out) hb); have n2_ := Aside0.mk (Kd.V_elder' (by (with_reducible repeat (first | apply Kd.V_alloc | apply Kd.V_drewN | apply Kd.V_drew)); exact HO236.out) (Kd.R_base ho0) hb); have n3_ := Aside0.mk (Kd.V_elder' (by (with_reducible repeat (first | apply Kd.V_alloc | apply Kd.V_drewN | apply Kd.V_drew)); exact HO240.out) (Kd.R_base ho0) hb); have n4_ := Aside0.mk (Kd.R_lower (Kd.R_new' ho0 (Kd.R_lt (by (with_reducible repeat (first | apply Kd.R_alloc | apply Kd.R_drewN | apply Kd.R_drew)); exact HO_5.out))) (below_size (by repeat (first | (with_reducible first | exact HB.out | apply below_alloc | apply pw_below_drewN | apply below_drew1) | exact HB.out)))); have n5_ := Aside0.mk (below_step (by repeat (first | (with_reducible first | exact HB.out | apply below_alloc | apply pw_below_drewN | apply below_drew1) | exact HB.out)) hb); clear HO_5; clear HO_6; clear HO236; clear HO240; clear HB; have HO_5 := n0_; have HO_6 := n1_; have HO236 := n2_; have HO240 := n3_; have HO245 := n4_; have HB := n5_; clear n0_ n1_ n2_ n3_ n4_ n5_; (try clear hb); (try clear hb2); (try clear hk); (try clear hi); (try clear ho0); obtain ⟨Ao40, co40, eo40⟩ := Kd.R_slice HO245.out; subst eo40))
                      go_meet
                      case rel => exact ⟨_, (((t243.length : Int) != (x5_1.length : Int))), (by first | rfl | (simp; done) | (simp [*]; done)), H', ⟨by have := HK1.out; have := HJ2.out; first | omega | exact Nat.le_refl _⟩, ⟨by (with_reducible repeat (first | apply Kd.R_alloc | apply Kd.R_drewN | apply Kd.R_drew)); exact Kd.R_mono HO_5.out (fun _ hk => trivial)⟩, ⟨by (with_reducible repeat (first | apply Kd.S_alloc | apply Kd.S_drewN | apply Kd.S_drew)); exact HO_6.out⟩, ⟨by (with_reducible repeat (first | apply Kd.V_alloc | apply Kd.V_drewN | apply Kd.V_drew)); exact Kd.V_mono HO240.out (fun _ hk => by first | exact ⟨hk.1.1, hk.1.2⟩ | (revert hk; (try simp only [and_imp]); intros; repeat' (first | assumption | trivial | apply And.intro)))⟩, ⟨by repeat (first | (with_reducible first | exact HB.out | apply below_alloc | apply pw_below_drewN | apply below_drew1) | exact HB.out)⟩⟩
                  · rw [if_neg c31] at H
                    have c31b0 : (t241 == 0) = false := beq_eq_false_iff_ne.mpr c31
                    have c31b1 : (t241 != 0) = true := bne_iff_ne.mpr c31
                    have H' := Aside0.mk H
                    clear H
                    go_wp2_with (first | ((with_reducible refine gate_callee (f := 22) rfl ?_); refine goesL_ (some 61) rfl rfl Try.func22 (by kernel_rfl) rfl #[] rfl (by (try simp only [List.map_toArray, List.map_cons, List.map_nil]); first | done | rfl | (simp only [List.length_drop, List.length_take]; rfl)) ?_; (with_reducible refine (versallaw14_known.calls kj2  true _ A28.out).mono ?_); rintro e w41 ⟨rfl, hb⟩; refine ⟨_, rfl, ?_⟩; have n0_ := Aside0.mk (Kd.R_below (by (with_reducible repeat (first | apply Kd.R_alloc | apply Kd.R_drewN | apply Kd.R_drew)); exact HO_5.out) hb); have n1_ := Aside0.mk (Kd.S_below (by (with_reducible repeat (first | apply Kd.S_alloc | apply Kd.S_drewN | apply Kd.S_drew)); exact HO_6.out) hb); have n2_ := Aside0.mk (Kd.V_below (by (with_reducible repeat (first | apply Kd.V_alloc | apply Kd.V_drewN | apply Kd.V_drew)); exact HO236.out) hb); have n3_ := Aside0.mk (Kd.V_below (by (with_reducible repeat (first | apply Kd.V_alloc | apply Kd.V_drewN | apply Kd.V_drew)); exact HO240.out) hb); have n4_ := Aside0.mk (below_step (by repeat (first | (with_reducible first | exact HB.out | apply below_alloc | apply pw_below_drewN | apply below_drew1) | exact HB.out)) hb); clear HO_5; clear HO_6; clear HO236; clear HO240; clear HB; have HO_5 := n0_; have HO_6 := n1_; have HO236 := n2_; have HO240 := n3_; have HB := n4_; clear n0_ n1_ n2_ n3_ n4_; (try clear hb); (try clear hb2); (try clear hk); (try clear hi)))
                    go_meet
                    case rel => exact ⟨_, (true), (by first | rfl | (simp; done) | (simp [*]; done)), H', ⟨by have := HK1.out; have := HJ2.out; first | omega | exact Nat.le_refl _⟩, ⟨by (with_reducible repeat (first | apply Kd.R_alloc | apply Kd.R_drewN | apply Kd.R_drew)); exact HO_5.out⟩, ⟨by (with_reducible repeat (first | apply Kd.S_alloc | apply Kd.S_drewN | apply Kd.S_drew)); exact HO_6.out⟩, ⟨by (with_reducible repeat (first | apply Kd.V_alloc | apply Kd.V_drewN | apply Kd.V_drew)); exact HO240.out⟩, ⟨by repeat (first | (with_reducible first | exact HB.out | apply below_alloc | apply pw_below_drewN | apply below_drew1) | exact HB.out)⟩⟩
                · rw [if_neg c30] at H
                  have c30b0 : (t237 == 0) = false := beq_eq_false_iff_ne.mpr c30
                  have c30b1 : (t237 != 0) = true := bne_iff_ne.mpr c30
                  (first | rw [c30b0] | (simp only [i64_w, i32_w]; rw [c30b0]) | skip)
                  have H' := Aside0.mk H
                  clear H
                  go_wp2_with (first | ((with_reducible refine gate_callee (f := 22) rfl ?_); refine goesL_ (some 61) rfl rfl Try.func22 (by kernel_rfl) rfl #[] rfl (by (try simp only [List.map_toArray, List.map_cons, List.map_nil]); first | done | rfl | (simp only [List.length_drop, List.length_take]; rfl)) ?_; (with_reducible refine (versallaw14_known.calls kj2  true _ A28.out).mono ?_); rintro e w42 ⟨rfl, hb⟩; refine ⟨_, rfl, ?_⟩; have n0_ := Aside0.mk (Kd.R_below (by (with_reducible repeat (first | apply Kd.R_alloc | apply Kd.R_drewN | apply Kd.R_drew)); exact HO_5.out) hb); have n1_ := Aside0.mk (Kd.S_below (by (with_reducible repeat (first | apply Kd.S_alloc | apply Kd.S_drewN | apply Kd.S_drew)); exact HO_6.out) hb); have n2_ := Aside0.mk (Kd.V_below (by (with_reducible repeat (first | apply Kd.V_alloc | apply Kd.V_drewN | apply Kd.V_drew)); exact HO236.out) hb); have n3_ := Aside0.mk (Kd.V_below (by (with_reducible repeat (first | apply Kd.V_alloc | apply Kd.V_drewN | apply Kd.V_drew)); exact HO240.out) hb); have n4_ := Aside0.mk (below_step (by repeat (first | (with_reducible first | exact HB.out | apply below_alloc | apply pw_below_drewN | apply below_drew1) | exact HB.out)) hb); clear HO_5; clear HO_6; clear HO236; clear HO240; clear HB; have HO_5 := n0_; have HO_6 := n1_; have HO236 := n2_; have HO240 := n3_; have HB := n4_; clear n0_ n1_ n2_ n3_ n4_; (try clear hb); (try clear hb2); (try clear hk); (try clear hi)))
                  go_meet
                  case rel => exact ⟨_, (true), (by first | rfl | (simp; done) | (simp [*]; done)), H', ⟨by have := HK1.out; have := HJ2.out; first | omega | exact Nat.le_refl _⟩, ⟨by (with_reducible repeat (first | apply Kd.R_alloc | apply Kd.R_drewN | apply Kd.R_drew)); exact HO_5.out⟩, ⟨by (with_reducible repeat (first | apply Kd.S_alloc | apply Kd.S_drewN | apply Kd.S_drew)); exact HO_6.out⟩, ⟨by (with_reducible repeat (first | apply Kd.V_alloc | apply Kd.V_drewN | apply Kd.V_drew)); exact HO240.out⟩, ⟨by repeat (first | (with_reducible first | exact HB.out | apply below_alloc | apply pw_below_drewN | apply below_drew1) | exact HB.out)⟩⟩
              · replace c29 := Bool.eq_false_iff.mpr c29
                subst c29
                have H1 : (versallaw14_SfntBack.j2 kj2 x5_1 x6_1 t238 true) = some r := by rw [if_neg (show ¬ (false = true) by decide)] at H; exact H
                clear H
                have H := H1
                clear H1
                have H' := Aside0.mk H
                clear H
                go_wp2_with (first | ((with_reducible refine gate_callee (f := 22) rfl ?_); refine goesL_ (some 61) rfl rfl Try.func22 (by kernel_rfl) rfl #[] rfl (by (try simp only [List.map_toArray, List.map_cons, List.map_nil]); first | done | rfl | (simp only [List.length_drop, List.length_take]; rfl)) ?_; (with_reducible refine (versallaw14_known.calls kj2  false _ A28.out).mono ?_); rintro e w43 ⟨rfl, hb⟩; refine ⟨_, rfl, ?_⟩; have n0_ := Aside0.mk (Kd.R_below (by (with_reducible repeat (first | apply Kd.R_alloc | apply Kd.R_drewN | apply Kd.R_drew)); exact HO_5.out) hb); have n1_ := Aside0.mk (Kd.S_below (by (with_reducible repeat (first | apply Kd.S_alloc | apply Kd.S_drewN | apply Kd.S_drew)); exact HO_6.out) hb); have n2_ := Aside0.mk (Kd.V_below (by (with_reducible repeat (first | apply Kd.V_alloc | apply Kd.V_drewN | apply Kd.V_drew)); exact HO236.out) hb); have n3_ := Aside0.mk (Kd.V_below (by (with_reducible repeat (first | apply Kd.V_alloc | apply Kd.V_drewN | apply Kd.V_drew)); exact HO240.out) hb); have n4_ := Aside0.mk (below_step (by repeat (first | (with_reducible first | exact HB.out | apply below_alloc | apply pw_below_drewN | apply below_drew1) | exact HB.out)) hb); clear HO_5; clear HO_6; clear HO236; clear HO240; clear HB; have HO_5 := n0_; have HO_6 := n1_; have HO236 := n2_; have HO240 := n3_; have HB := n4_; clear n0_ n1_ n2_ n3_ n4_; (try clear hb); (try clear hb2); (try clear hk); (try clear hi)))
                go_meet
                case rel => exact ⟨_, (true), (by first | rfl | (simp; done) | (simp [*]; done)), H', ⟨by have := HK1.out; have := HJ2.out; first | omega | exact Nat.le_refl _⟩, ⟨by (with_reducible repeat (first | apply Kd.R_alloc | apply Kd.R_drewN | apply Kd.R_drew)); exact HO_5.out⟩, ⟨by (with_reducible repeat (first | apply Kd.S_alloc | apply Kd.S_drewN | apply Kd.S_drew)); exact HO_6.out⟩, ⟨by (with_reducible repeat (first | apply Kd.V_alloc | apply Kd.V_drewN | apply Kd.V_drew)); exact HO240.out⟩, ⟨by repeat (first | (with_reducible first | exact HB.out | apply below_alloc | apply pw_below_drewN | apply below_drew1) | exact HB.out)⟩⟩
            case rest =>
              clear HC22
              try clear c1
              try clear hcv1
              try clear c2
              try clear p2
              try clear q2
              try clear hx2
              try clear c3
              try clear c4
              try clear c4b0
              try clear c5
              try clear p6
              try clear c7
              try clear c7b0
              try clear c7b1
              try clear c7b2
              try clear c8
              try clear c9
              try clear c9b0
              try clear c10
              try clear c10b0
              try clear c12
              try clear hcv15
              try clear c16
              try clear c18
              try clear c19
              try clear c20
              try clear c22
              try clear p22
              try clear q22
              try clear hx22
              try clear c29
              try clear c30
              try clear c30b0
              try clear c30b1
              try clear c31
              try clear c31b0
              try clear c31b1
              try clear c32
              try clear c32b0
              try clear c32b1
              try clear c32b2
              try clear hx227_0
              try clear p2
              try clear p227
              try clear q227
              obtain ⟨kq, x82_21, rfl, HA, HJ21, HO_5, HO_6, HO_10, HB⟩ := hcut
              cases kq with
              | zero => exact absurd HA.out (by simp [versallaw14_SfntBack.j2])
              | succ kj21 =>
                have H := HA.out
                clear HA
                simp only [versallaw14_SfntBack.j2] at H
                by_cases c44 : x82_21 = true
                · subst c44
                  have H1 : (some false) = some r := by rw [if_pos rfl] at H; exact H
                  clear H
                  have H := H1
                  clear H1
                  obtain rfl := Option.some.inj H
                  go_wp2
                  go_ret
                  exact ⟨by first | rfl | (simp [errW_none, errW_some] <;> rfl) | (simp [*, errW_none, errW_some] <;> rfl), by repeat (first | (with_reducible first | exact HB.out | apply below_alloc | apply pw_below_drewN | apply below_drew1) | exact HB.out)⟩
                · replace c44 := Bool.eq_false_iff.mpr c44
                  subst c44
                  have H1 : (versallaw14_SfntBack.l1 kj21 x5_1 x6_1 t238 (x5_1.length : Int) 0) = some r := by rw [if_neg (show ¬ (false = true) by decide)] at H; exact H
                  clear H
                  have H := H1
                  clear H1
                  have H' := Aside0.mk H
                  clear H
                  go_wp2
                  go_loopg [85] kj21 (fun kq v85 w' => ∃ (x85_4 : Int), v85 = .int .i64 x85_4 ∧ Aside0 (versallaw14_SfntBack.l1 kq x5_1 x6_1 t238 (x5_1.length : Int) x85_4 = some r) ∧ Aside0 (kq ≤ kj21) ∧ Aside0 (Kd.R Kd.string 9 w' w.heap.size (fun _ => True) (.slice Ao23 x5_1.length co23) x5_1) ∧ Aside0 (Kd.S (Kd.slice 5 (Kd.int .u8)) 24 w' w.heap.size (fun _ => True) (.slice Ao24 x6_1.length co24) x6_1) ∧ Aside0 (Kd.V k135 135 w' w.heap.size (fun k_ => some k_ ≠ ((.slice Ao23 x5_1.length co23) : Value).ownBlock ∧ some k_ ≠ ((.slice Ao24 x6_1.length co24) : Value).ownBlock) v239 t238) ∧ Aside0 (Below w.heap.size w w'))
                  case atStart => exact ⟨(0), (by first | rfl | (simp; done) | (simp [*]; done)), H', ⟨Nat.le_refl _⟩, ⟨by (with_reducible repeat (first | apply Kd.R_alloc | apply Kd.R_drewN | apply Kd.R_drew)); exact HO_5.out⟩, ⟨by (with_reducible repeat (first | apply Kd.S_alloc | apply Kd.S_drewN | apply Kd.S_drew)); exact HO_6.out⟩, ⟨by (with_reducible repeat (first | apply Kd.V_alloc | apply Kd.V_drewN | apply Kd.V_drew)); exact HO_10.out⟩, ⟨by repeat (first | (with_reducible first | exact HB.out | apply below_alloc | apply pw_below_drewN | apply below_drew1) | exact HB.out)⟩⟩
                  case round =>
                    clear H'
                    try clear c1
                    try clear hcv1
                    try clear c2
                    try clear p2
                    try clear q2
                    try clear hx2
                    try clear c3
                    try clear c4
                    try clear c4b0
                    try clear c5
                    try clear p6
                    try clear c7
                    try clear c7b0
                    try clear c7b1
                    try clear c7b2
                    try clear c8
                    try clear c9
                    try clear c9b0
                    try clear c10
                    try clear c10b0
                    try clear c12
                    try clear hcv15
                    try clear c16
                    try clear c18
                    try clear c19
                    try clear c20
                    try clear c22
                    try clear p22
                    try clear q22
                    try clear hx22
                    try clear c29
                    try clear c30
                    try clear c30b0
                    try clear c30b1
                    try clear c31
                    try clear c31b0
                    try clear c31b1
                    try clear c32
                    try clear c32b0
                    try clear c32b1
                    try clear c32b2
                    try clear c44
                    try clear hx227_0
                    try clear p2
                    try clear p22
                    try clear p227
                    try clear p6
                    try clear q2
                    try clear q22
                    try clear q227
                    obtain ⟨x85_4, rfl, HA, HK4, HO_5, HO_6, HO_10, HB⟩ := hrel
                    cases gk with
                    | zero => exact absurd HA.out (by simp [versallaw14_SfntBack.l1])
                    | succ k4 =>
                      have H := HA.out
                      clear HA
                      simp only [versallaw14_SfntBack.l1] at H
                      by_cases c45 : x85_4 < (x5_1.length : Int)
                      · rw [if_pos c45] at H
                        have c45b0 : decide (x85_4 < (x5_1.length : Int)) = true := decide_eq_true c45
                        clear c45
                        by_cases c46 : 0 ≤ x85_4
                        · rw [if_pos c46] at H
                          have c46b0 : decide (0 ≤ x85_4) = true := decide_eq_true c46
                          clear c46
                          by_cases c47 : x85_4 < (x5_1.length : Int)
                          · rw [if_pos c47] at H
                            have c47b0 : decide (x85_4 < (x5_1.length : Int)) = true := decide_eq_true c47
                            clear c47
                            replace H := Option.bind_eq_some_iff.mp H
                            obtain ⟨⟨t255, t256⟩, A480, H⟩ := H
                            replace H : ((sfnt_Font_Tags.f t238).bind fun t259 => (if x85_4 < (t259.length : Int) then (if (rdOf ByteArray.empty t259 x85_4).toList = (rdOf ByteArray.empty x5_1 x85_4).toList then (if t256 = true then (if x85_4 < (x6_1.length : Int) then (if (strOfNums t255).toList = (strOfNums (rd_L2 x6_1 x85_4)).toList then (versallaw14_SfntBack.l1 k4 x5_1 x6_1 t238 (x5_1.length : Int) (wrap64 (x85_4 + 1))) else (some false)) else (none)) else (some false)) else (some false)) else (none))) = some r := H
                            have A48 := Aside0.mk A480
                            clear A480
                            replace H := Option.bind_eq_some_iff.mp H
                            obtain ⟨t259, A490, H⟩ := H
                            replace H : (if x85_4 < (t259.length : Int) then (if (rdOf ByteArray.empty t259 x85_4).toList = (rdOf ByteArray.empty x5_1 x85_4).toList then (if t256 = true then (if x85_4 < (x6_1.length : Int) then (if (strOfNums t255).toList = (strOfNums (rd_L2 x6_1 x85_4)).toList then (versallaw14_SfntBack.l1 k4 x5_1 x6_1 t238 (x5_1.length : Int) (wrap64 (x85_4 + 1))) else (some false)) else (none)) else (some false)) else (some false)) else (none)) = some r := H
                            have A49 := Aside0.mk A490
                            clear A490
                            by_cases c50 : x85_4 < (t259.length : Int)
                            · rw [if_pos c50] at H
                              have c50b0 : decide (x85_4 < (t259.length : Int)) = true := decide_eq_true c50
                              clear c50
                              by_cases c51 : (rdOf ByteArray.empty t259 x85_4).toList = (rdOf ByteArray.empty x5_1 x85_4).toList
                              · rw [if_pos c51] at H
                                have c51b0 : ((rdOf ByteArray.empty t259 x85_4).toList == (rdOf ByteArray.empty x5_1 x85_4).toList) = true := beq_iff_eq.mpr c51
                                have c51b1 : ((rdOf ByteArray.empty t259 x85_4).toList != (rdOf ByteArray.empty x5_1 x85_4).toList) = false := bne_eq_false_iff_eq.mpr c51
                                clear c51
                                by_cases c52 : t256 = true
                                · subst c52
                                  have H1 : (if x85_4 < (x6_1.length : Int) then (if (strOfNums t255).toList = (strOfNums (rd_L2 x6_1 x85_4)).toList then (versallaw14_SfntBack.l1 k4 x5_1 x6_1 t238 (x5_1.length : Int) (wrap64 (x85_4 + 1))) else (some false)) else (none)) = some r := by rw [if_pos rfl] at H; exact H
                                  clear H
                                  have H := H1
                                  clear H1
                                  by_cases c53 : x85_4 < (x6_1.length : Int)
                                  · rw [if_pos c53] at H
                                    have c53b0 : decide (x85_4 < (x6_1.length : Int)) = true := decide_eq_true c53
                                    clear c53
                                    by_cases c54 : (strOfNums t255).toList = (strOfNums (rd_L2 x6_1 x85_4)).toList
                                    · rw [if_pos c54] at H
                                      have c54b0 : ((strOfNums t255).toList == (strOfNums (rd_L2 x6_1 x85_4)).toList) = true := beq_iff_eq.mpr c54
                                      have c54b1 : ((strOfNums t255).toList != (strOfNums (rd_L2 x6_1 x85_4)).toList) = false := bne_eq_false_iff_eq.mpr c54
                                      clear c54
                                      have H' := Aside0.mk H
                                      clear H
                                      have p254 : 0 ≤ (x85_4 : Int) := of_decide_eq_true (by first | (with_reducible assumption) | assumption)
                                      have q254 : x85_4 < (x5_1.length : Int) := of_decide_eq_true (by first | (with_reducible assumption) | assumption)
                                      obtain ⟨ad254, e254, hx254_0⟩ := Kd.at_string (Kd.R_reads' HO_5.out).2.2 x85_4 p254 q254
                                      cases e254
                                      replace p254 := eq_true p254
                                      replace q254 := eq_true q254
                                      obtain ⟨Ao55, co55, eo55⟩ := Kd.V_slice HO_10.out
                                      subst eo55
                                      try go_wp2_with (first | ((with_reducible refine gate_callee (f := 24) rfl ?_); refine goesL_ (some 94) rfl rfl Try.func24 (by kernel_rfl) rfl #[.pointer (hq t238 (.slice Ao55 t238.length co55)), .string (rdOf ByteArray.empty x5_1 x85_4)] rfl (by (try simp only [List.map_toArray, List.map_cons, List.map_nil]); first | done | rfl | (simp only [List.length_drop, List.length_take]; rfl)) ?_; (with_reducible refine (sfnt_Font_Table.calls _ _ t238 (rdOf ByteArray.empty x5_1 x85_4) t255 true _ ?side1 ?side2 A48.out).mono ?_); (case side1 => repeat (first | exact (Kd.V_reads' HO_10.out).2.2 | (with_reducible refine Kd.C_alloc ?_ _) | (with_reducible refine Kd.C_drewN ?_ _) | (with_reducible refine Kd.C_drew ?_))); (case side2 => exact (Kd.V_reads' HO_10.out).2.1); rintro e w56 ⟨v257, rfl, ho0, hb⟩; refine ⟨_, rfl, ?_⟩; have n0_ := Aside0.mk (Kd.R_below (by (with_reducible repeat (first | apply Kd.R_alloc | apply Kd.R_drewN | apply Kd.R_drew)); exact HO_5.out) hb); have n1_ := Aside0.mk (Kd.S_elder' (by (with_reducible repeat (first | apply Kd.S_alloc | apply Kd.S_drewN | apply Kd.S_drew)); exact HO_6.out) (Kd.R_base ho0) hb); have n2_ := Aside0.mk (Kd.V_elder' (by (with_reducible repeat (first | apply Kd.V_alloc | apply Kd.V_drewN | apply Kd.V_drew)); exact HO_10.out) (Kd.R_base ho0) hb); have n3_ := Aside0.mk (Kd.R_lower ho0 (below_size (by repeat (first | (with_reducible first | exact HB.out | apply below_alloc | apply pw_below_drewN | apply below_drew1) | exact HB.out)))); have n4_ := Aside0.mk (below_step (by repeat (first | (with_reducible first | exact HB.out | apply below_alloc | apply pw_below_drewN | apply below_drew1) | exact HB.out)) hb); clear HO_5; clear HO_6; clear HO_10; clear HB; have HO_5 := n0_; have HO_6 := n1_; have HO_10 := n2_; have HO258 := n3_; have HB := n4_; clear n0_ n1_ n2_ n3_ n4_; (try clear hb); (try clear hb2); (try clear hk); (try clear hi); (try clear ho0)))
                                      have n0_ := Aside0.mk (Kd.R_drew HO_5.out)
                                      have n1_ := Aside0.mk (Kd.S_drew HO_6.out)
                                      have n2_ := Aside0.mk (Kd.V_drew HO_10.out)
                                      have n3_ := Aside0.mk (Kd.R_drew HO258.out)
                                      have n4_ := Aside0.mk (below_drew1 HB.out)
                                      clear HO_5
                                      clear HO_6
                                      clear HO_10
                                      clear HO258
                                      clear HB
                                      have HO_5 := n0_
                                      have HO_6 := n1_
                                      have HO_10 := n2_
                                      have HO258 := n3_
                                      have HB := n4_
                                      clear n0_ n1_ n2_ n3_ n4_
                                      have p263 : 0 ≤ (x85_4 : Int) := of_decide_eq_true (by first | (with_reducible assumption) | assumption)
                                      have q263 : x85_4 < (x5_1.length : Int) := of_decide_eq_true (by first | (with_reducible assumption) | assumption)
                                      obtain ⟨ad263, e263, hx263_0⟩ := Kd.at_string (Kd.R_reads' HO_5.out).2.2 x85_4 p263 q263
                                      obtain rfl : ad254 = ad263 := (by injection e263)
                                      replace p263 := eq_true p263
                                      replace q263 := eq_true q263
                                      have p264 : 0 ≤ (x85_4 : Int) := of_decide_eq_true (by first | (with_reducible assumption) | assumption)
                                      have q264 : x85_4 < (x6_1.length : Int) := of_decide_eq_true (by first | (with_reducible assumption) | assumption)
                                      obtain ⟨ad264, A264_0, c264_0, e264, hx264_0, hl264_0, hi264_0⟩ := at_L2 (Kd.S_reads' HO_6.out).2.2 x85_4 p264 q264
                                      cases e264
                                      obtain ⟨ce264, hce264, hMe264, hcc264⟩ := Kd.S_get HO_6.out [] x85_4 p264 (by first | exact q264 | exact of_decide_eq_true (by first | (with_reducible assumption) | assumption) | (have e_ := (Kd.S_reads' HO_6.out).1; omega))
                                      obtain ⟨ve264_0, rfl, ge264_0⟩ := hMe264
                                      have hv264_0 := hcc264 0 _ rfl
                                      rw [Nat.add_zero, show ((Kd.slice 5 (Kd.int .u8))).sz = 1 from rfl, Nat.mul_one] at hv264_0
                                      replace hv264_0 := Option.some.inj (hv264_0.symm.trans hx264_0)
                                      rw [hv264_0] at ge264_0
                                      have HL264_0 := Aside0.mk (show Kd.R (Kd.int .u8) 5 _ _ _ _ (rd_L2 x6_1 x85_4) from ge264_0)
                                      clear hv264_0 ge264_0
                                      clear hcc264 hce264
                                      have HR264_0 := Aside0.mk hi264_0
                                      have HC264_0 := Aside0.mk hl264_0
                                      clear hi264_0 hl264_0
                                      replace p264 := eq_true p264
                                      replace q264 := eq_true q264
                                      refine start_ (n := 24) (S := fun w' => w'.cell? (ad254.add (x85_4).toNat) = some (.string (rdOf ByteArray.empty x5_1 x85_4)) ∧ w'.cell? (ad264.add (x85_4).toNat) = some (.slice A264_0 (rd_L2 x6_1 x85_4).length c264_0) ∧ World.ownsRow w' w.heap.size 5 1 v257 t255.length (nums .u8 t255) ∧ Kd.C (Kd.slice 5 (Kd.int .u8)) w' (some ad264) x6_1.length x6_1) (ds := []) #[false, false, false, false, false, false, false, false, false, false, false, false, false, false, false, false, false, false, false, false, false, false, false, false] (by kernel_rfl) rfl rfl ⟨hx263_0, hx264_0, (Kd.own_of_R HO258.out), (Kd.S_reads' HO_6.out).2.2⟩ (fun hHeld => ?_); refine with_tabW versallaw14_SfntBack.tab16 versallaw14_SfntBack.bits16 (fun HT_ HW_ => ?_)
                                      generalize w56.drew = w57 at HO_5 HO_6 HO_10 HO258 HB HL264_0 HR264_0 hx263_0 hx264_0 hHeld ⊢
                                      refine pure_ (i := 0) (N := some 97) (v := ?_) (a' := ?_) #[true, false, false, false, false, false, false, false, false, false, false, false, false, false, false, false, false, false, false, false, false, false, false, false] rfl rfl (any_of HT_.out (by kernel_rfl)) (fun _ _ _ h => h) (Or.inl ⟨by rfl, ?_⟩) ?_ ?_
                                      rotate_left
                                      · intro w'
                                        go_simp
                                        with_reducible rfl
                                      rotate_left
                                      · simp only [Act.put, List.setIfInBounds_toArray, List.set_cons_zero, List.set_cons_succ, i64_w, i32_w]
                                        rfl
                                      refine pure_ (i := 2) (N := some 99) (v := ?_) (a' := ?_) #[true, false, true, false, false, false, false, false, false, false, false, false, false, false, false, false, false, false, false, false, false, false, false, false] rfl rfl (any_of HT_.out (by kernel_rfl)) (fun _ _ _ h => h) (Or.inl ⟨by rfl, ?_⟩) ?_ ?_
                                      rotate_left
                                      · intro w'
                                        go_simp
                                        with_reducible rfl
                                      rotate_left
                                      · simp only [Act.put, List.setIfInBounds_toArray, List.set_cons_zero, List.set_cons_succ, i64_w, i32_w]
                                        rfl
                                      refine pure_ (i := 5) (N := some 102) (v := ?_) (a' := ?_) #[true, false, true, false, false, true, false, false, false, false, false, false, false, false, false, false, false, false, false, false, false, false, false, false] rfl rfl (any_of HT_.out (by kernel_rfl)) (fun _ _ _ h => h) (Or.inl ⟨by rfl, ?_⟩) ?_ ?_
                                      rotate_left
                                      · intro w'
                                        go_simp
                                        with_reducible rfl
                                      rotate_left
                                      · simp only [Act.put, List.setIfInBounds_toArray, List.set_cons_zero, List.set_cons_succ, i64_w, i32_w]
                                        rfl
                                      refine pure_ (i := 6) (N := some 103) (v := ?_) (a' := ?_) #[true, false, true, false, false, true, true, false, false, false, false, false, false, false, false, false, false, false, false, false, false, false, false, false] rfl rfl (any_of HT_.out (by kernel_rfl)) (fun _ _ _ h => h) (Or.inl ⟨by rfl, ?_⟩) ?_ ?_
                                      rotate_left
                                      · intro w'
                                        go_simp
                                        with_reducible rfl
                                      rotate_left
                                      · simp only [Act.put, List.setIfInBounds_toArray, List.set_cons_zero, List.set_cons_succ, i64_w, i32_w]
                                        rfl
                                      refine pure_ (i := 7) (N := some 104) (v := ?_) (a' := ?_) #[true, false, true, false, false, true, true, true, false, false, false, false, false, false, false, false, false, false, false, false, false, false, false, false] rfl rfl (any_of HT_.out (by kernel_rfl)) (fun _ _ _ h => h) (Or.inl ⟨by rfl, ?_⟩) ?_ ?_
                                      rotate_left
                                      · intro w'
                                        go_simp
                                        with_reducible rfl
                                      rotate_left
                                      · simp only [Act.put, List.setIfInBounds_toArray, List.set_cons_zero, List.set_cons_succ, i64_w, i32_w]
                                        rfl
                                      refine take_ (i := 8) (N := some 105) (v := ?_) (a' := ?_) #[true, false, true, false, false, true, true, true, true, false, false, false, false, false, false, false, false, false, false, false, false, false, false, false] rfl rfl (take_ofW HT_.out HW_.out (by kernel_rfl)) (fun _ _ _ h => h) (Or.inl ⟨by rfl, ?_⟩) hHeld ?_ ?_
                                      rotate_left
                                      · rintro w' ⟨s0, s1, s2, s3⟩
                                        go_simp
                                        with_reducible rfl
                                      rotate_left
                                      · simp only [Act.put, List.setIfInBounds_toArray, List.set_cons_zero, List.set_cons_succ, i64_w, i32_w]
                                        rfl
                                      refine one_ (i := 1) (N := some 98) #[true, true, true, false, false, true, true, true, true, false, false, false, false, false, false, false, false, false, false, false, false, false, false, false] rfl rfl (one_of HT_.out (by kernel_rfl)) (by decide) (fun K hK => ?_)
                                      refine goes_ Try.func23 (by kernel_rfl) rfl #[.pointer (hq t238 (.slice Ao55 t238.length co55))] (by rfl) rfl rfl (by (try simp only [List.map_toArray, List.map_cons, List.map_nil]); first | done | rfl | (simp only [List.length_drop, List.length_take]; rfl)) ?_
                                      with_reducible refine (sfnt_Font_Tags.calls _ _ t238 t259 _ ?side1 ?side2 A49.out).mono ?_
                                      (case side1 => repeat (first | exact (Kd.V_reads' HO_10.out).2.2 | (with_reducible refine Kd.C_alloc ?_ _) | (with_reducible refine Kd.C_drewN ?_ _) | (with_reducible refine Kd.C_drew ?_)))
                                      (case side2 => exact (Kd.V_reads' HO_10.out).2.1)
                                      rintro e w58 ⟨v260, rfl, ho0, hb⟩
                                      have HS0_ := (hb.cell (cLt _ _ (hHeld.1))).trans (hHeld.1)
                                      have HS1_ := (hb.cell (cLt _ _ (hHeld.2.1))).trans (hHeld.2.1)
                                      refine ⟨_, rfl, ?_⟩
                                      have n0_ := Aside0.mk (Kd.R_elder' (by (with_reducible repeat (first | apply Kd.R_alloc | apply Kd.R_drewN | apply Kd.R_drew)); exact HO_5.out) (Kd.R_base ho0) hb)
                                      have n1_ := Aside0.mk (Kd.S_below (by (with_reducible repeat (first | apply Kd.S_alloc | apply Kd.S_drewN | apply Kd.S_drew)); exact HO_6.out) hb)
                                      have n2_ := Aside0.mk (Kd.V_elder' (by (with_reducible repeat (first | apply Kd.V_alloc | apply Kd.V_drewN | apply Kd.V_drew)); exact HO_10.out) (Kd.R_base ho0) hb)
                                      have n3_ := Aside0.mk (Kd.R_below (by (with_reducible repeat (first | apply Kd.R_alloc | apply Kd.R_drewN | apply Kd.R_drew)); exact HO258.out) hb)
                                      have n4_ := Aside0.mk (Kd.R_lower (Kd.R_new' ho0 (Kd.R_lt (by (with_reducible repeat (first | apply Kd.R_alloc | apply Kd.R_drewN | apply Kd.R_drew)); exact HO_5.out))) (below_size (by repeat (first | (with_reducible first | exact HB.out | apply below_alloc | apply pw_below_drewN | apply below_drew1) | exact HB.out))))
                                      have n5_ := Aside0.mk (below_step (by repeat (first | (with_reducible first | exact HB.out | apply below_alloc | apply pw_below_drewN | apply below_drew1) | exact HB.out)) hb)
                                      clear HO_5
                                      clear HO_6
                                      clear HO_10
                                      clear HO258
                                      clear HB
                                      have HO_5 := n0_
                                      have HO_6 := n1_
                                      have HO_10 := n2_
                                      have HO258 := n3_
                                      have HO261 := n4_
                                      have HB := n5_
                                      clear n0_ n1_ n2_ n3_ n4_ n5_
                                      (try clear hb)
                                      (try clear hb2)
                                      (try clear hk)
                                      (try clear hi)
                                      (try clear ho0)
                                      obtain ⟨Ao59, co59, eo59⟩ := Kd.R_slice HO261.out
                                      (first | subst eo59 | (injection eo59 with f1_ f2_ f3_; have f4_ := f1_.symm; have f5_ := f3_.symm; clear f1_ f2_ f3_; subst f4_; subst f5_))
                                      have p262 : 0 ≤ (x85_4 : Int) := of_decide_eq_true (by first | (with_reducible assumption) | assumption)
                                      have q262 : x85_4 < (t259.length : Int) := of_decide_eq_true (by first | (with_reducible assumption) | assumption)
                                      obtain ⟨ad262, e262, hx262_0⟩ := Kd.at_string (Kd.R_reads' HO261.out).2.2 x85_4 p262 q262
                                      cases e262
                                      replace p262 := eq_true p262
                                      replace q262 := eq_true q262
                                      refine hK.out _ _ ⟨HS0_, HS1_, (Kd.own_of_R HO258.out), (Kd.S_reads' HO_6.out).2.2⟩ (fun hHeld => ?_)
                                      clear hK K
                                      refine norm_ (a' := ?_) ?_ ?_
                                      rotate_left
                                      · show Act.put _ (some 98) _ = _
                                        simp only [Act.put, List.setIfInBounds_toArray, List.set_cons_zero, List.set_cons_succ, i64_w, i32_w]
                                        rfl
                                      refine pure_ (i := 3) (N := some 100) (v := ?_) (a' := ?_) #[true, true, true, true, false, true, true, true, true, false, false, false, false, false, false, false, false, false, false, false, false, false, false, false] rfl rfl (any_of HT_.out (by kernel_rfl)) (fun _ _ _ h => h) (Or.inl ⟨by rfl, ?_⟩) ?_ ?_
                                      rotate_left
                                      · intro w'
                                        go_simp
                                        with_reducible rfl
                                      rotate_left
                                      · simp only [Act.put, List.setIfInBounds_toArray, List.set_cons_zero, List.set_cons_succ, i64_w, i32_w]
                                        rfl
                                      refine one_ (i := 4) (N := some 101) #[true, true, true, true, true, true, true, true, true, false, false, false, false, false, false, false, false, false, false, false, false, false, false, false] rfl rfl (one_of HT_.out (by kernel_rfl)) (by decide) (fun K hK => ?_)
                                      (have p262r : 0 ≤ (x85_4 : Int) := of_decide_eq_true (by first | (with_reducible assumption) | assumption); have q262r : x85_4 < (t259.length : Int) := of_decide_eq_true (by first | (with_reducible assumption) | assumption); obtain ⟨ad262r, e262r, hx262r_0⟩ := Kd.at_string (Kd.R_reads' HO261.out).2.2 x85_4 p262r q262r; obtain rfl : ad262 = ad262r := (by injection e262r))
                                      refine value_ (w1 := ?_) (v := ?_) (by rfl) rfl ?_ ?_
                                      rotate_left 2
                                      · go_simp
                                        constructor
                                        · rfl
                                        · rfl
                                      clear hx262r_0
                                      refine hK.out _ _ ⟨hHeld.1, hHeld.2.1, (Kd.own_of_R HO258.out), (Kd.S_reads' HO_6.out).2.2⟩ (fun hHeld => ?_)
                                      clear hK K
                                      refine norm_ (a' := ?_) ?_ ?_
                                      rotate_left
                                      · show Act.put _ (some 101) _ = _
                                        simp only [Act.put, List.setIfInBounds_toArray, List.set_cons_zero, List.set_cons_succ, i64_w, i32_w]
                                        rfl
                                      refine pure_ (i := 9) (N := some 106) (v := ?_) (a' := ?_) #[true, true, true, true, true, true, true, true, true, true, false, false, false, false, false, false, false, false, false, false, false, false, false, false] rfl rfl (any_of HT_.out (by kernel_rfl)) (fun _ _ _ h => h) (Or.inl ⟨by rfl, ?_⟩) ?_ ?_
                                      rotate_left
                                      · intro w'
                                        go_simp
                                        with_reducible rfl
                                      rotate_left
                                      · simp only [Act.put, List.setIfInBounds_toArray, List.set_cons_zero, List.set_cons_succ, i64_w, i32_w]
                                        rfl
                                      refine pure_ (i := 10) (N := some 107) (v := ?_) (a' := ?_) #[true, true, true, true, true, true, true, true, true, true, true, false, false, false, false, false, false, false, false, false, false, false, false, false] rfl rfl (any_of HT_.out (by kernel_rfl)) (fun _ _ _ h => h) (Or.inl ⟨by rfl, ?_⟩) ?_ ?_
                                      rotate_left
                                      · intro w'
                                        go_simp
                                        with_reducible rfl
                                      rotate_left
                                      · simp only [Act.put, List.setIfInBounds_toArray, List.set_cons_zero, List.set_cons_succ, i64_w, i32_w]
                                        rfl
                                      refine pure_ (i := 11) (N := some 108) (v := ?_) (a' := ?_) #[true, true, true, true, true, true, true, true, true, true, true, true, false, false, false, false, false, false, false, false, false, false, false, false] rfl rfl (any_of HT_.out (by kernel_rfl)) (fun _ _ _ h => h) (Or.inl ⟨by rfl, ?_⟩) ?_ ?_
                                      rotate_left
                                      · intro w'
                                        go_simp
                                        with_reducible rfl
                                      rotate_left
                                      · simp only [Act.put, List.setIfInBounds_toArray, List.set_cons_zero, List.set_cons_succ, i64_w, i32_w]
                                        rfl
                                      refine pure_ (i := 12) (N := some 109) (v := ?_) (a' := ?_) #[true, true, true, true, true, true, true, true, true, true, true, true, true, false, false, false, false, false, false, false, false, false, false, false] rfl rfl (any_of HT_.out (by kernel_rfl)) (fun _ _ _ h => h) (Or.inl ⟨by rfl, ?_⟩) ?_ ?_
                                      rotate_left
                                      · intro w'
                                        go_simp
                                        with_reducible rfl
                                      rotate_left
                                      · simp only [Act.put, List.setIfInBounds_toArray, List.set_cons_zero, List.set_cons_succ, i64_w, i32_w]
                                        rfl
                                      refine pure_ (i := 13) (N := some 110) (v := ?_) (a' := ?_) #[true, true, true, true, true, true, true, true, true, true, true, true, true, true, false, false, false, false, false, false, false, false, false, false] rfl rfl (any_of HT_.out (by kernel_rfl)) (fun _ _ _ h => h) (Or.inl ⟨by rfl, ?_⟩) ?_ ?_
                                      rotate_left
                                      · intro w'
                                        go_simp
                                        with_reducible rfl
                                      rotate_left
                                      · simp only [Act.put, List.setIfInBounds_toArray, List.set_cons_zero, List.set_cons_succ, i64_w, i32_w]
                                        rfl
                                      refine pure_ (i := 14) (N := some 111) (v := ?_) (a' := ?_) #[true, true, true, true, true, true, true, true, true, true, true, true, true, true, true, false, false, false, false, false, false, false, false, false] rfl rfl (any_of HT_.out (by kernel_rfl)) (fun _ _ _ h => h) (Or.inl ⟨by rfl, ?_⟩) ?_ ?_
                                      rotate_left
                                      · intro w'
                                        go_simp
                                        with_reducible rfl
                                      rotate_left
                                      · simp only [Act.put, List.setIfInBounds_toArray, List.set_cons_zero, List.set_cons_succ, i64_w, i32_w]
                                        rfl
                                      refine pure_ (i := 15) (N := some 112) (v := ?_) (a' := ?_) #[true, true, true, true, true, true, true, true, true, true, true, true, true, true, true, true, false, false, false, false, false, false, false, false] rfl rfl (any_of HT_.out (by kernel_rfl)) (fun _ _ _ h => h) (Or.inl ⟨by rfl, ?_⟩) ?_ ?_
                                      rotate_left
                                      · intro w'
                                        go_simp
                                        with_reducible rfl
                                      rotate_left
                                      · simp only [Act.put, List.setIfInBounds_toArray, List.set_cons_zero, List.set_cons_succ, i64_w, i32_w]
                                        rfl
                                      refine pure_ (i := 17) (N := some 114) (v := ?_) (a' := ?_) #[true, true, true, true, true, true, true, true, true, true, true, true, true, true, true, true, false, true, false, false, false, false, false, false] rfl rfl (any_of HT_.out (by kernel_rfl)) (fun _ _ _ h => h) (Or.inl ⟨by rfl, ?_⟩) ?_ ?_
                                      rotate_left
                                      · intro w'
                                        go_simp
                                        with_reducible rfl
                                      rotate_left
                                      · simp only [Act.put, List.setIfInBounds_toArray, List.set_cons_zero, List.set_cons_succ, i64_w, i32_w]
                                        rfl
                                      refine pure_ (i := 18) (N := some 115) (v := ?_) (a' := ?_) #[true, true, true, true, true, true, true, true, true, true, true, true, true, true, true, true, false, true, true, false, false, false, false, false] rfl rfl (any_of HT_.out (by kernel_rfl)) (fun _ _ _ h => h) (Or.inl ⟨by rfl, ?_⟩) ?_ ?_
                                      rotate_left
                                      · intro w'
                                        go_simp
                                        with_reducible rfl
                                      rotate_left
                                      · simp only [Act.put, List.setIfInBounds_toArray, List.set_cons_zero, List.set_cons_succ, i64_w, i32_w]
                                        rfl
                                      refine pure_ (i := 19) (N := some 116) (v := ?_) (a' := ?_) #[true, true, true, true, true, true, true, true, true, true, true, true, true, true, true, true, false, true, true, true, false, false, false, false] rfl rfl (any_of HT_.out (by kernel_rfl)) (fun _ _ _ h => h) (Or.inl ⟨by rfl, ?_⟩) ?_ ?_
                                      rotate_left
                                      · intro w'
                                        go_simp
                                        with_reducible rfl
                                      rotate_left
                                      · simp only [Act.put, List.setIfInBounds_toArray, List.set_cons_zero, List.set_cons_succ, i64_w, i32_w]
                                        rfl
                                      refine take_ (i := 16) (N := some 113) (v := ?_) (a' := ?_) #[true, true, true, true, true, true, true, true, true, true, true, true, true, true, true, true, true, true, true, true, false, false, false, false] rfl rfl (take_ofW HT_.out HW_.out (by kernel_rfl)) (fun _ _ _ h => h) (Or.inl ⟨by rfl, ?_⟩) hHeld ?_ ?_
                                      rotate_left
                                      · rintro w' ⟨s0, s1, s2, s3⟩
                                        have hcv60 := own_string (P := Try.prog) Try.underlying24 Try.underlying5 Try.underlying9 s2
                                        go_simp
                                        with_reducible rfl
                                      rotate_left
                                      · simp only [Act.put, List.setIfInBounds_toArray, List.set_cons_zero, List.set_cons_succ, i64_w, i32_w]
                                        rfl
                                      refine take_ (i := 20) (N := some 117) (v := ?_) (a' := ?_) #[true, true, true, true, true, true, true, true, true, true, true, true, true, true, true, true, true, true, true, true, true, false, false, false] rfl rfl (take_ofW HT_.out HW_.out (by kernel_rfl)) (fun _ _ _ h => h) (Or.inl ⟨by rfl, ?_⟩) hHeld ?_ ?_
                                      rotate_left
                                      · rintro w' ⟨s0, s1, s2, s3⟩
                                        go_simp
                                        with_reducible rfl
                                      rotate_left
                                      · simp only [Act.put, List.setIfInBounds_toArray, List.set_cons_zero, List.set_cons_succ, i64_w, i32_w]
                                        rfl
                                      refine take_ (i := 21) (N := some 118) (v := ?_) (a' := ?_) #[true, true, true, true, true, true, true, true, true, true, true, true, true, true, true, true, true, true, true, true, true, true, false, false] rfl rfl (take_ofW HT_.out HW_.out (by kernel_rfl)) (fun _ _ _ h => h) (Or.inl ⟨by rfl, ?_⟩) hHeld ?_ ?_
                                      rotate_left
                                      · rintro w' ⟨s0, s1, s2, s3⟩
                                        have hcv61 := Kd.C_string (P := Try.prog) (A := A264_0) (c := c264_0) Try.underlying24 Try.underlying5 Try.underlying9 (show Kd.C (Kd.int .u8) _ A264_0 (rd_L2 x6_1 x85_4).length (rd_L2 x6_1 x85_4) from elem_C s3 (x85_4) [] (of_eq_true p264) (of_eq_true q264) s1)
                                        go_simp
                                        with_reducible rfl
                                      rotate_left
                                      · simp only [Act.put, List.setIfInBounds_toArray, List.set_cons_zero, List.set_cons_succ, i64_w, i32_w]
                                        rfl
                                      refine pure_ (i := 22) (N := some 119) (v := ?_) (a' := ?_) #[true, true, true, true, true, true, true, true, true, true, true, true, true, true, true, true, true, true, true, true, true, true, true, false] rfl rfl (any_of HT_.out (by kernel_rfl)) (fun _ _ _ h => h) (Or.inl ⟨by rfl, ?_⟩) ?_ ?_
                                      rotate_left
                                      · intro w'
                                        go_simp
                                        with_reducible rfl
                                      rotate_left
                                      · simp only [Act.put, List.setIfInBounds_toArray, List.set_cons_zero, List.set_cons_succ, i64_w, i32_w]
                                        rfl
                                      refine pure_ (i := 23) (N := some 120) (v := ?_) (a' := ?_) #[true, true, true, true, true, true, true, true, true, true, true, true, true, true, true, true, true, true, true, true, true, true, true, true] rfl rfl (any_of HT_.out (by kernel_rfl)) (fun _ _ _ h => h) (Or.inl ⟨by rfl, ?_⟩) ?_ ?_
                                      rotate_left
                                      · intro w'
                                        go_simp
                                        with_reducible rfl
                                      rotate_left
                                      · simp only [Act.put, List.setIfInBounds_toArray, List.set_cons_zero, List.set_cons_succ, i64_w, i32_w]
                                        rfl
                                      refine done_ (done_of HT_.out (by kernel_rfl)) ?_
                                      try go_wp2
                                      go_roundg k4
                                      case measure => have := HK1.out; have := HJ2.out; have := HJ21.out; have := HK4.out; omega
                                      case rel => exact ⟨(wrap64 (x85_4 + 1)), (by first | rfl | (simp; done) | (simp [*]; done)), H', ⟨by have := HK1.out; have := HJ2.out; have := HJ21.out; have := HK4.out; omega⟩, ⟨by (with_reducible repeat (first | apply Kd.R_alloc | apply Kd.R_drewN | apply Kd.R_drew)); exact Kd.R_mono HO_5.out (fun _ hk => trivial)⟩, ⟨by (with_reducible repeat (first | apply Kd.S_alloc | apply Kd.S_drewN | apply Kd.S_drew)); exact Kd.S_mono HO_6.out (fun _ hk => trivial)⟩, ⟨by (with_reducible repeat (first | apply Kd.V_alloc | apply Kd.V_drewN | apply Kd.V_drew)); exact Kd.V_mono HO_10.out (fun _ hk => by first | exact ⟨hk.2.2.1, hk.2.2.2⟩ | (revert hk; (try simp only [and_imp]); intros; repeat' (first | assumption | trivial | apply And.intro)))⟩, ⟨by repeat (first | (with_reducible first | exact HB.out | apply below_alloc | apply pw_below_drewN | apply below_drew1) | exact HB.out)⟩⟩
                                    · rw [if_neg c54] at H
                                      have c54b0 : ((strOfNums t255).toList == (strOfNums (rd_L2 x6_1 x85_4)).toList) = false := beq_eq_false_iff_ne.mpr c54
                                      have c54b1 : ((strOfNums t255).toList != (strOfNums (rd_L2 x6_1 x85_4)).toList) = true := bne_iff_ne.mpr c54
                                      obtain rfl := Option.some.inj H
                                      have p254 : 0 ≤ (x85_4 : Int) := of_decide_eq_true (by first | (with_reducible assumption) | assumption)
                                      have q254 : x85_4 < (x5_1.length : Int) := of_decide_eq_true (by first | (with_reducible assumption) | assumption)
                                      obtain ⟨ad254, e254, hx254_0⟩ := Kd.at_string (Kd.R_reads' HO_5.out).2.2 x85_4 p254 q254
                                      cases e254
                                      replace p254 := eq_true p254
                                      replace q254 := eq_true q254
                                      obtain ⟨Ao63, co63, eo63⟩ := Kd.V_slice HO_10.out
                                      subst eo63
                                      try go_wp2_with (first | ((with_reducible refine gate_callee (f := 24) rfl ?_); refine goesL_ (some 94) rfl rfl Try.func24 (by kernel_rfl) rfl #[.pointer (hq t238 (.slice Ao63 t238.length co63)), .string (rdOf ByteArray.empty x5_1 x85_4)] rfl (by (try simp only [List.map_toArray, List.map_cons, List.map_nil]); first | done | rfl | (simp only [List.length_drop, List.length_take]; rfl)) ?_; (with_reducible refine (sfnt_Font_Table.calls _ _ t238 (rdOf ByteArray.empty x5_1 x85_4) t255 true _ ?side1 ?side2 A48.out).mono ?_); (case side1 => repeat (first | exact (Kd.V_reads' HO_10.out).2.2 | (with_reducible refine Kd.C_alloc ?_ _) | (with_reducible refine Kd.C_drewN ?_ _) | (with_reducible refine Kd.C_drew ?_))); (case side2 => exact (Kd.V_reads' HO_10.out).2.1); rintro e w64 ⟨v257, rfl, ho0, hb⟩; refine ⟨_, rfl, ?_⟩; have n0_ := Aside0.mk (Kd.R_below (by (with_reducible repeat (first | apply Kd.R_alloc | apply Kd.R_drewN | apply Kd.R_drew)); exact HO_5.out) hb); have n1_ := Aside0.mk (Kd.S_elder' (by (with_reducible repeat (first | apply Kd.S_alloc | apply Kd.S_drewN | apply Kd.S_drew)); exact HO_6.out) (Kd.R_base ho0) hb); have n2_ := Aside0.mk (Kd.V_elder' (by (with_reducible repeat (first | apply Kd.V_alloc | apply Kd.V_drewN | apply Kd.V_drew)); exact HO_10.out) (Kd.R_base ho0) hb); have n3_ := Aside0.mk (Kd.R_lower ho0 (below_size (by repeat (first | (with_reducible first | exact HB.out | apply below_alloc | apply pw_below_drewN | apply below_drew1) | exact HB.out)))); have n4_ := Aside0.mk (below_step (by repeat (first | (with_reducible first | exact HB.out | apply below_alloc | apply pw_below_drewN | apply below_drew1) | exact HB.out)) hb); clear HO_5; clear HO_6; clear HO_10; clear HB; have HO_5 := n0_; have HO_6 := n1_; have HO_10 := n2_; have HO258 := n3_; have HB := n4_; clear n0_ n1_ n2_ n3_ n4_; (try clear hb); (try clear hb2); (try clear hk); (try clear hi); (try clear ho0)))
                                      have n0_ := Aside0.mk (Kd.R_drew HO_5.out)
                                      have n1_ := Aside0.mk (Kd.S_drew HO_6.out)
                                      have n2_ := Aside0.mk (Kd.V_drew HO_10.out)
                                      have n3_ := Aside0.mk (Kd.R_drew HO258.out)
                                      have n4_ := Aside0.mk (below_drew1 HB.out)
                                      clear HO_5
                                      clear HO_6
                                      clear HO_10
                                      clear HO258
                                      clear HB
                                      have HO_5 := n0_
                                      have HO_6 := n1_
                                      have HO_10 := n2_
                                      have HO258 := n3_
                                      have HB := n4_
                                      clear n0_ n1_ n2_ n3_ n4_
                                      have p263 : 0 ≤ (x85_4 : Int) := of_decide_eq_true (by first | (with_reducible assumption) | assumption)
                                      have q263 : x85_4 < (x5_1.length : Int) := of_decide_eq_true (by first | (with_reducible assumption) | assumption)
                                      obtain ⟨ad263, e263, hx263_0⟩ := Kd.at_string (Kd.R_reads' HO_5.out).2.2 x85_4 p263 q263
                                      obtain rfl : ad254 = ad263 := (by injection e263)
                                      replace p263 := eq_true p263
                                      replace q263 := eq_true q263
                                      have p264 : 0 ≤ (x85_4 : Int) := of_decide_eq_true (by first | (with_reducible assumption) | assumption)
                                      have q264 : x85_4 < (x6_1.length : Int) := of_decide_eq_true (by first | (with_reducible assumption) | assumption)
                                      obtain ⟨ad264, A264_0, c264_0, e264, hx264_0, hl264_0, hi264_0⟩ := at_L2 (Kd.S_reads' HO_6.out).2.2 x85_4 p264 q264
                                      cases e264
                                      obtain ⟨ce264, hce264, hMe264, hcc264⟩ := Kd.S_get HO_6.out [] x85_4 p264 (by first | exact q264 | exact of_decide_eq_true (by first | (with_reducible assumption) | assumption) | (have e_ := (Kd.S_reads' HO_6.out).1; omega))
                                      obtain ⟨ve264_0, rfl, ge264_0⟩ := hMe264
                                      have hv264_0 := hcc264 0 _ rfl
                                      rw [Nat.add_zero, show ((Kd.slice 5 (Kd.int .u8))).sz = 1 from rfl, Nat.mul_one] at hv264_0
                                      replace hv264_0 := Option.some.inj (hv264_0.symm.trans hx264_0)
                                      rw [hv264_0] at ge264_0
                                      have HL264_0 := Aside0.mk (show Kd.R (Kd.int .u8) 5 _ _ _ _ (rd_L2 x6_1 x85_4) from ge264_0)
                                      clear hv264_0 ge264_0
                                      clear hcc264 hce264
                                      have HR264_0 := Aside0.mk hi264_0
                                      have HC264_0 := Aside0.mk hl264_0
                                      clear hi264_0 hl264_0
                                      replace p264 := eq_true p264
                                      replace q264 := eq_true q264
                                      refine start_ (n := 24) (S := fun w' => w'.cell? (ad254.add (x85_4).toNat) = some (.string (rdOf ByteArray.empty x5_1 x85_4)) ∧ w'.cell? (ad264.add (x85_4).toNat) = some (.slice A264_0 (rd_L2 x6_1 x85_4).length c264_0) ∧ World.ownsRow w' w.heap.size 5 1 v257 t255.length (nums .u8 t255) ∧ Kd.C (Kd.slice 5 (Kd.int .u8)) w' (some ad264) x6_1.length x6_1) (ds := []) #[false, false, false, false, false, false, false, false, false, false, false, false, false, false, false, false, false, false, false, false, false, false, false, false] (by kernel_rfl) rfl rfl ⟨hx263_0, hx264_0, (Kd.own_of_R HO258.out), (Kd.S_reads' HO_6.out).2.2⟩ (fun hHeld => ?_); refine with_tabW versallaw14_SfntBack.tab16 versallaw14_SfntBack.bits16 (fun HT_ HW_ => ?_)
                                      generalize w64.drew = w65 at HO_5 HO_6 HO_10 HO258 HB HL264_0 HR264_0 hx263_0 hx264_0 hHeld ⊢
                                      refine pure_ (i := 0) (N := some 97) (v := ?_) (a' := ?_) #[true, false, false, false, false, false, false, false, false, false, false, false, false, false, false, false, false, false, false, false, false, false, false, false] rfl rfl (any_of HT_.out (by kernel_rfl)) (fun _ _ _ h => h) (Or.inl ⟨by rfl, ?_⟩) ?_ ?_
                                      rotate_left
                                      · intro w'
                                        go_simp
                                        with_reducible rfl
                                      rotate_left
                                      · simp only [Act.put, List.setIfInBounds_toArray, List.set_cons_zero, List.set_cons_succ, i64_w, i32_w]
                                        rfl
                                      refine pure_ (i := 2) (N := some 99) (v := ?_) (a' := ?_) #[true, false, true, false, false, false, false, false, false, false, false, false, false, false, false, false, false, false, false, false, false, false, false, false] rfl rfl (any_of HT_.out (by kernel_rfl)) (fun _ _ _ h => h) (Or.inl ⟨by rfl, ?_⟩) ?_ ?_
                                      rotate_left
                                      · intro w'
                                        go_simp
                                        with_reducible rfl
                                      rotate_left
                                      · simp only [Act.put, List.setIfInBounds_toArray, List.set_cons_zero, List.set_cons_succ, i64_w, i32_w]
                                        rfl
                                      refine pure_ (i := 5) (N := some 102) (v := ?_) (a' := ?_) #[true, false, true, false, false, true, false, false, false, false, false, false, false, false, false, false, false, false, false, false, false, false, false, false] rfl rfl (any_of HT_.out (by kernel_rfl)) (fun _ _ _ h => h) (Or.inl ⟨by rfl, ?_⟩) ?_ ?_
                                      rotate_left
                                      · intro w'
                                        go_simp
                                        with_reducible rfl
                                      rotate_left
                                      · simp only [Act.put, List.setIfInBounds_toArray, List.set_cons_zero, List.set_cons_succ, i64_w, i32_w]
                                        rfl
                                      refine pure_ (i := 6) (N := some 103) (v := ?_) (a' := ?_) #[true, false, true, false, false, true, true, false, false, false, false, false, false, false, false, false, false, false, false, false, false, false, false, false] rfl rfl (any_of HT_.out (by kernel_rfl)) (fun _ _ _ h => h) (Or.inl ⟨by rfl, ?_⟩) ?_ ?_
                                      rotate_left
                                      · intro w'
                                        go_simp
                                        with_reducible rfl
                                      rotate_left
                                      · simp only [Act.put, List.setIfInBounds_toArray, List.set_cons_zero, List.set_cons_succ, i64_w, i32_w]
                                        rfl
                                      refine pure_ (i := 7) (N := some 104) (v := ?_) (a' := ?_) #[true, false, true, false, false, true, true, true, false, false, false, false, false, false, false, false, false, false, false, false, false, false, false, false] rfl rfl (any_of HT_.out (by kernel_rfl)) (fun _ _ _ h => h) (Or.inl ⟨by rfl, ?_⟩) ?_ ?_
                                      rotate_left
                                      · intro w'
                                        go_simp
                                        with_reducible rfl
                                      rotate_left
                                      · simp only [Act.put, List.setIfInBounds_toArray, List.set_cons_zero, List.set_cons_succ, i64_w, i32_w]
                                        rfl
                                      refine take_ (i := 8) (N := some 105) (v := ?_) (a' := ?_) #[true, false, true, false, false, true, true, true, true, false, false, false, false, false, false, false, false, false, false, false, false, false, false, false] rfl rfl (take_ofW HT_.out HW_.out (by kernel_rfl)) (fun _ _ _ h => h) (Or.inl ⟨by rfl, ?_⟩) hHeld ?_ ?_
                                      rotate_left
                                      · rintro w' ⟨s0, s1, s2, s3⟩
                                        go_simp
                                        with_reducible rfl
                                      rotate_left
                                      · simp only [Act.put, List.setIfInBounds_toArray, List.set_cons_zero, List.set_cons_succ, i64_w, i32_w]
                                        rfl
                                      refine one_ (i := 1) (N := some 98) #[true, true, true, false, false, true, true, true, true, false, false, false, false, false, false, false, false, false, false, false, false, false, false, false] rfl rfl (one_of HT_.out (by kernel_rfl)) (by decide) (fun K hK => ?_)
                                      refine goes_ Try.func23 (by kernel_rfl) rfl #[.pointer (hq t238 (.slice Ao63 t238.length co63))] (by rfl) rfl rfl (by (try simp only [List.map_toArray, List.map_cons, List.map_nil]); first | done | rfl | (simp only [List.length_drop, List.length_take]; rfl)) ?_
                                      with_reducible refine (sfnt_Font_Tags.calls _ _ t238 t259 _ ?side1 ?side2 A49.out).mono ?_
                                      (case side1 => repeat (first | exact (Kd.V_reads' HO_10.out).2.2 | (with_reducible refine Kd.C_alloc ?_ _) | (with_reducible refine Kd.C_drewN ?_ _) | (with_reducible refine Kd.C_drew ?_)))
                                      (case side2 => exact (Kd.V_reads' HO_10.out).2.1)
                                      rintro e w66 ⟨v260, rfl, ho0, hb⟩
                                      have HS0_ := (hb.cell (cLt _ _ (hHeld.1))).trans (hHeld.1)
                                      have HS1_ := (hb.cell (cLt _ _ (hHeld.2.1))).trans (hHeld.2.1)
                                      refine ⟨_, rfl, ?_⟩
                                      have n0_ := Aside0.mk (Kd.R_elder' (by (with_reducible repeat (first | apply Kd.R_alloc | apply Kd.R_drewN | apply Kd.R_drew)); exact HO_5.out) (Kd.R_base ho0) hb)
                                      have n1_ := Aside0.mk (Kd.S_below (by (with_reducible repeat (first | apply Kd.S_alloc | apply Kd.S_drewN | apply Kd.S_drew)); exact HO_6.out) hb)
                                      have n2_ := Aside0.mk (Kd.V_elder' (by (with_reducible repeat (first | apply Kd.V_alloc | apply Kd.V_drewN | apply Kd.V_drew)); exact HO_10.out) (Kd.R_base ho0) hb)
                                      have n3_ := Aside0.mk (Kd.R_below (by (with_reducible repeat (first | apply Kd.R_alloc | apply Kd.R_drewN | apply Kd.R_drew)); exact HO258.out) hb)
                                      have n4_ := Aside0.mk (Kd.R_lower (Kd.R_new' ho0 (Kd.R_lt (by (with_reducible repeat (first | apply Kd.R_alloc | apply Kd.R_drewN | apply Kd.R_drew)); exact HO_5.out))) (below_size (by repeat (first | (with_reducible first | exact HB.out | apply below_alloc | apply pw_below_drewN | apply below_drew1) | exact HB.out))))
                                      have n5_ := Aside0.mk (below_step (by repeat (first | (with_reducible first | exact HB.out | apply below_alloc | apply pw_below_drewN | apply below_drew1) | exact HB.out)) hb)
                                      clear HO_5
                                      clear HO_6
                                      clear HO_10
                                      clear HO258
                                      clear HB
                                      have HO_5 := n0_
                                      have HO_6 := n1_
                                      have HO_10 := n2_
                                      have HO258 := n3_
                                      have HO261 := n4_
                                      have HB := n5_
                                      clear n0_ n1_ n2_ n3_ n4_ n5_
                                      (try clear hb)
                                      (try clear hb2)
                                      (try clear hk)
                                      (try clear hi)
                                      (try clear ho0)
                                      obtain ⟨Ao67, co67, eo67⟩ := Kd.R_slice HO261.out
                                      (first | subst eo67 | (injection eo67 with f1_ f2_ f3_; have f4_ := f1_.symm; have f5_ := f3_.symm; clear f1_ f2_ f3_; subst f4_; subst f5_))
                                      have p262 : 0 ≤ (x85_4 : Int) := of_decide_eq_true (by first | (with_reducible assumption) | assumption)
                                      have q262 : x85_4 < (t259.length : Int) := of_decide_eq_true (by first | (with_reducible assumption) | assumption)
                                      obtain ⟨ad262, e262, hx262_0⟩ := Kd.at_string (Kd.R_reads' HO261.out).2.2 x85_4 p262 q262
                                      cases e262
                                      replace p262 := eq_true p262
                                      replace q262 := eq_true q262
                                      refine hK.out _ _ ⟨HS0_, HS1_, (Kd.own_of_R HO258.out), (Kd.S_reads' HO_6.out).2.2⟩ (fun hHeld => ?_)
                                      clear hK K
                                      refine norm_ (a' := ?_) ?_ ?_
                                      rotate_left
                                      · show Act.put _ (some 98) _ = _
                                        simp only [Act.put, List.setIfInBounds_toArray, List.set_cons_zero, List.set_cons_succ, i64_w, i32_w]
                                        rfl
                                      refine pure_ (i := 3) (N := some 100) (v := ?_) (a' := ?_) #[true, true, true, true, false, true, true, true, true, false, false, false, false, false, false, false, false, false, false, false, false, false, false, false] rfl rfl (any_of HT_.out (by kernel_rfl)) (fun _ _ _ h => h) (Or.inl ⟨by rfl, ?_⟩) ?_ ?_
                                      rotate_left
                                      · intro w'
                                        go_simp
                                        with_reducible rfl
                                      rotate_left
                                      · simp only [Act.put, List.setIfInBounds_toArray, List.set_cons_zero, List.set_cons_succ, i64_w, i32_w]
                                        rfl
                                      refine one_ (i := 4) (N := some 101) #[true, true, true, true, true, true, true, true, true, false, false, false, false, false, false, false, false, false, false, false, false, false, false, false] rfl rfl (one_of HT_.out (by kernel_rfl)) (by decide) (fun K hK => ?_)
                                      (have p262r : 0 ≤ (x85_4 : Int) := of_decide_eq_true (by first | (with_reducible assumption) | assumption); have q262r : x85_4 < (t259.length : Int) := of_decide_eq_true (by first | (with_reducible assumption) | assumption); obtain ⟨ad262r, e262r, hx262r_0⟩ := Kd.at_string (Kd.R_reads' HO261.out).2.2 x85_4 p262r q262r; obtain rfl : ad262 = ad262r := (by injection e262r))
                                      refine value_ (w1 := ?_) (v := ?_) (by rfl) rfl ?_ ?_
                                      rotate_left 2
                                      · go_simp
                                        constructor
                                        · rfl
                                        · rfl
                                      clear hx262r_0
                                      refine hK.out _ _ ⟨hHeld.1, hHeld.2.1, (Kd.own_of_R HO258.out), (Kd.S_reads' HO_6.out).2.2⟩ (fun hHeld => ?_)
                                      clear hK K
                                      refine norm_ (a' := ?_) ?_ ?_
                                      rotate_left
                                      · show Act.put _ (some 101) _ = _
                                        simp only [Act.put, List.setIfInBounds_toArray, List.set_cons_zero, List.set_cons_succ, i64_w, i32_w]
                                        rfl
                                      refine pure_ (i := 9) (N := some 106) (v := ?_) (a' := ?_) #[true, true, true, true, true, true, true, true, true, true, false, false, false, false, false, false, false, false, false, false, false, false, false, false] rfl rfl (any_of HT_.out (by kernel_rfl)) (fun _ _ _ h => h) (Or.inl ⟨by rfl, ?_⟩) ?_ ?_
                                      rotate_left
                                      · intro w'
                                        go_simp
                                        with_reducible rfl
                                      rotate_left
                                      · simp only [Act.put, List.setIfInBounds_toArray, List.set_cons_zero, List.set_cons_succ, i64_w, i32_w]
                                        rfl
                                      refine pure_ (i := 10) (N := some 107) (v := ?_) (a' := ?_) #[true, true, true, true, true, true, true, true, true, true, true, false, false, false, false, false, false, false, false, false, false, false, false, false] rfl rfl (any_of HT_.out (by kernel_rfl)) (fun _ _ _ h => h) (Or.inl ⟨by rfl, ?_⟩) ?_ ?_
                                      rotate_left
                                      · intro w'
                                        go_simp
                                        with_reducible rfl
                                      rotate_left
                                      · simp only [Act.put, List.setIfInBounds_toArray, List.set_cons_zero, List.set_cons_succ, i64_w, i32_w]
                                        rfl
                                      refine pure_ (i := 11) (N := some 108) (v := ?_) (a' := ?_) #[true, true, true, true, true, true, true, true, true, true, true, true, false, false, false, false, false, false, false, false, false, false, false, false] rfl rfl (any_of HT_.out (by kernel_rfl)) (fun _ _ _ h => h) (Or.inl ⟨by rfl, ?_⟩) ?_ ?_
                                      rotate_left
                                      · intro w'
                                        go_simp
                                        with_reducible rfl
                                      rotate_left
                                      · simp only [Act.put, List.setIfInBounds_toArray, List.set_cons_zero, List.set_cons_succ, i64_w, i32_w]
                                        rfl
                                      refine pure_ (i := 12) (N := some 109) (v := ?_) (a' := ?_) #[true, true, true, true, true, true, true, true, true, true, true, true, true, false, false, false, false, false, false, false, false, false, false, false] rfl rfl (any_of HT_.out (by kernel_rfl)) (fun _ _ _ h => h) (Or.inl ⟨by rfl, ?_⟩) ?_ ?_
                                      rotate_left
                                      · intro w'
                                        go_simp
                                        with_reducible rfl
                                      rotate_left
                                      · simp only [Act.put, List.setIfInBounds_toArray, List.set_cons_zero, List.set_cons_succ, i64_w, i32_w]
                                        rfl
                                      refine pure_ (i := 13) (N := some 110) (v := ?_) (a' := ?_) #[true, true, true, true, true, true, true, true, true, true, true, true, true, true, false, false, false, false, false, false, false, false, false, false] rfl rfl (any_of HT_.out (by kernel_rfl)) (fun _ _ _ h => h) (Or.inl ⟨by rfl, ?_⟩) ?_ ?_
                                      rotate_left
                                      · intro w'
                                        go_simp
                                        with_reducible rfl
                                      rotate_left
                                      · simp only [Act.put, List.setIfInBounds_toArray, List.set_cons_zero, List.set_cons_succ, i64_w, i32_w]
                                        rfl
                                      refine pure_ (i := 14) (N := some 111) (v := ?_) (a' := ?_) #[true, true, true, true, true, true, true, true, true, true, true, true, true, true, true, false, false, false, false, false, false, false, false, false] rfl rfl (any_of HT_.out (by kernel_rfl)) (fun _ _ _ h => h) (Or.inl ⟨by rfl, ?_⟩) ?_ ?_
                                      rotate_left
                                      · intro w'
                                        go_simp
                                        with_reducible rfl
                                      rotate_left
                                      · simp only [Act.put, List.setIfInBounds_toArray, List.set_cons_zero, List.set_cons_succ, i64_w, i32_w]
                                        rfl
                                      refine pure_ (i := 15) (N := some 112) (v := ?_) (a' := ?_) #[true, true, true, true, true, true, true, true, true, true, true, true, true, true, true, true, false, false, false, false, false, false, false, false] rfl rfl (any_of HT_.out (by kernel_rfl)) (fun _ _ _ h => h) (Or.inl ⟨by rfl, ?_⟩) ?_ ?_
                                      rotate_left
                                      · intro w'
                                        go_simp
                                        with_reducible rfl
                                      rotate_left
                                      · simp only [Act.put, List.setIfInBounds_toArray, List.set_cons_zero, List.set_cons_succ, i64_w, i32_w]
                                        rfl
                                      refine pure_ (i := 17) (N := some 114) (v := ?_) (a' := ?_) #[true, true, true, true, true, true, true, true, true, true, true, true, true, true, true, true, false, true, false, false, false, false, false, false] rfl rfl (any_of HT_.out (by kernel_rfl)) (fun _ _ _ h => h) (Or.inl ⟨by rfl, ?_⟩) ?_ ?_
                                      rotate_left
                                      · intro w'
                                        go_simp
                                        with_reducible rfl
                                      rotate_left
                                      · simp only [Act.put, List.setIfInBounds_toArray, List.set_cons_zero, List.set_cons_succ, i64_w, i32_w]
                                        rfl
                                      refine pure_ (i := 18) (N := some 115) (v := ?_) (a' := ?_) #[true, true, true, true, true, true, true, true, true, true, true, true, true, true, true, true, false, true, true, false, false, false, false, false] rfl rfl (any_of HT_.out (by kernel_rfl)) (fun _ _ _ h => h) (Or.inl ⟨by rfl, ?_⟩) ?_ ?_
                                      rotate_left
                                      · intro w'
                                        go_simp
                                        with_reducible rfl
                                      rotate_left
                                      · simp only [Act.put, List.setIfInBounds_toArray, List.set_cons_zero, List.set_cons_succ, i64_w, i32_w]
                                        rfl
                                      refine pure_ (i := 19) (N := some 116) (v := ?_) (a' := ?_) #[true, true, true, true, true, true, true, true, true, true, true, true, true, true, true, true, false, true, true, true, false, false, false, false] rfl rfl (any_of HT_.out (by kernel_rfl)) (fun _ _ _ h => h) (Or.inl ⟨by rfl, ?_⟩) ?_ ?_
                                      rotate_left
                                      · intro w'
                                        go_simp
                                        with_reducible rfl
                                      rotate_left
                                      · simp only [Act.put, List.setIfInBounds_toArray, List.set_cons_zero, List.set_cons_succ, i64_w, i32_w]
                                        rfl
                                      refine take_ (i := 16) (N := some 113) (v := ?_) (a' := ?_) #[true, true, true, true, true, true, true, true, true, true, true, true, true, true, true, true, true, true, true, true, false, false, false, false] rfl rfl (take_ofW HT_.out HW_.out (by kernel_rfl)) (fun _ _ _ h => h) (Or.inl ⟨by rfl, ?_⟩) hHeld ?_ ?_
                                      rotate_left
                                      · rintro w' ⟨s0, s1, s2, s3⟩
                                        have hcv68 := own_string (P := Try.prog) Try.underlying24 Try.underlying5 Try.underlying9 s2
                                        go_simp
                                        with_reducible rfl
                                      rotate_left
                                      · simp only [Act.put, List.setIfInBounds_toArray, List.set_cons_zero, List.set_cons_succ, i64_w, i32_w]
                                        rfl
                                      refine take_ (i := 20) (N := some 117) (v := ?_) (a' := ?_) #[true, true, true, true, true, true, true, true, true, true, true, true, true, true, true, true, true, true, true, true, true, false, false, false] rfl rfl (take_ofW HT_.out HW_.out (by kernel_rfl)) (fun _ _ _ h => h) (Or.inl ⟨by rfl, ?_⟩) hHeld ?_ ?_
                                      rotate_left
                                      · rintro w' ⟨s0, s1, s2, s3⟩
                                        go_simp
                                        with_reducible rfl
                                      rotate_left
                                      · simp only [Act.put, List.setIfInBounds_toArray, List.set_cons_zero, List.set_cons_succ, i64_w, i32_w]
                                        rfl
                                      refine take_ (i := 21) (N := some 118) (v := ?_) (a' := ?_) #[true, true, true, true, true, true, true, true, true, true, true, true, true, true, true, true, true, true, true, true, true, true, false, false] rfl rfl (take_ofW HT_.out HW_.out (by kernel_rfl)) (fun _ _ _ h => h) (Or.inl ⟨by rfl, ?_⟩) hHeld ?_ ?_
                                      rotate_left
                                      · rintro w' ⟨s0, s1, s2, s3⟩
                                        have hcv69 := Kd.C_string (P := Try.prog) (A := A264_0) (c := c264_0) Try.underlying24 Try.underlying5 Try.underlying9 (show Kd.C (Kd.int .u8) _ A264_0 (rd_L2 x6_1 x85_4).length (rd_L2 x6_1 x85_4) from elem_C s3 (x85_4) [] (of_eq_true p264) (of_eq_true q264) s1)
                                        go_simp
                                        with_reducible rfl
                                      rotate_left
                                      · simp only [Act.put, List.setIfInBounds_toArray, List.set_cons_zero, List.set_cons_succ, i64_w, i32_w]
                                        rfl
                                      refine pure_ (i := 22) (N := some 119) (v := ?_) (a' := ?_) #[true, true, true, true, true, true, true, true, true, true, true, true, true, true, true, true, true, true, true, true, true, true, true, false] rfl rfl (any_of HT_.out (by kernel_rfl)) (fun _ _ _ h => h) (Or.inl ⟨by rfl, ?_⟩) ?_ ?_
                                      rotate_left
                                      · intro w'
                                        go_simp
                                        with_reducible rfl
                                      rotate_left
                                      · simp only [Act.put, List.setIfInBounds_toArray, List.set_cons_zero, List.set_cons_succ, i64_w, i32_w]
                                        rfl
                                      refine pure_ (i := 23) (N := some 120) (v := ?_) (a' := ?_) #[true, true, true, true, true, true, true, true, true, true, true, true, true, true, true, true, true, true, true, true, true, true, true, true] rfl rfl (any_of HT_.out (by kernel_rfl)) (fun _ _ _ h => h) (Or.inl ⟨by rfl, ?_⟩) ?_ ?_
                                      rotate_left
                                      · intro w'
                                        go_simp
                                        with_reducible rfl
                                      rotate_left
                                      · simp only [Act.put, List.setIfInBounds_toArray, List.set_cons_zero, List.set_cons_succ, i64_w, i32_w]
                                        rfl
                                      refine done_ (done_of HT_.out (by kernel_rfl)) ?_
                                      try go_wp2
                                      go_ret
                                      exact ⟨by first | rfl | (simp [errW_none, errW_some] <;> rfl) | (simp [*, errW_none, errW_some] <;> rfl), by repeat (first | (with_reducible first | exact HB.out | apply below_alloc | apply pw_below_drewN | apply below_drew1) | exact HB.out)⟩
                                  · rw [if_neg c53] at H
                                    exact absurd H (by simp)
                                · replace c52 := Bool.eq_false_iff.mpr c52
                                  subst c52
                                  have H1 : (some false) = some r := by rw [if_neg (show ¬ (false = true) by decide)] at H; exact H
                                  clear H
                                  have H := H1
                                  clear H1
                                  obtain rfl := Option.some.inj H
                                  have p254 : 0 ≤ (x85_4 : Int) := of_decide_eq_true (by first | (with_reducible assumption) | assumption)
                                  have q254 : x85_4 < (x5_1.length : Int) := of_decide_eq_true (by first | (with_reducible assumption) | assumption)
                                  obtain ⟨ad254, e254, hx254_0⟩ := Kd.at_string (Kd.R_reads' HO_5.out).2.2 x85_4 p254 q254
                                  cases e254
                                  replace p254 := eq_true p254
                                  replace q254 := eq_true q254
                                  obtain ⟨Ao71, co71, eo71⟩ := Kd.V_slice HO_10.out
                                  subst eo71
                                  try go_wp2_with (first | ((with_reducible refine gate_callee (f := 24) rfl ?_); refine goesL_ (some 94) rfl rfl Try.func24 (by kernel_rfl) rfl #[.pointer (hq t238 (.slice Ao71 t238.length co71)), .string (rdOf ByteArray.empty x5_1 x85_4)] rfl (by (try simp only [List.map_toArray, List.map_cons, List.map_nil]); first | done | rfl | (simp only [List.length_drop, List.length_take]; rfl)) ?_; (with_reducible refine (sfnt_Font_Table.calls _ _ t238 (rdOf ByteArray.empty x5_1 x85_4) t255 false _ ?side1 ?side2 A48.out).mono ?_); (case side1 => repeat (first | exact (Kd.V_reads' HO_10.out).2.2 | (with_reducible refine Kd.C_alloc ?_ _) | (with_reducible refine Kd.C_drewN ?_ _) | (with_reducible refine Kd.C_drew ?_))); (case side2 => exact (Kd.V_reads' HO_10.out).2.1); rintro e w72 ⟨v257, rfl, ho0, hb⟩; refine ⟨_, rfl, ?_⟩; have n0_ := Aside0.mk (Kd.R_below (by (with_reducible repeat (first | apply Kd.R_alloc | apply Kd.R_drewN | apply Kd.R_drew)); exact HO_5.out) hb); have n1_ := Aside0.mk (Kd.S_elder' (by (with_reducible repeat (first | apply Kd.S_alloc | apply Kd.S_drewN | apply Kd.S_drew)); exact HO_6.out) (Kd.R_base ho0) hb); have n2_ := Aside0.mk (Kd.V_elder' (by (with_reducible repeat (first | apply Kd.V_alloc | apply Kd.V_drewN | apply Kd.V_drew)); exact HO_10.out) (Kd.R_base ho0) hb); have n3_ := Aside0.mk (Kd.R_lower ho0 (below_size (by repeat (first | (with_reducible first | exact HB.out | apply below_alloc | apply pw_below_drewN | apply below_drew1) | exact HB.out)))); have n4_ := Aside0.mk (below_step (by repeat (first | (with_reducible first | exact HB.out | apply below_alloc | apply pw_below_drewN | apply below_drew1) | exact HB.out)) hb); clear HO_5; clear HO_6; clear HO_10; clear HB; have HO_5 := n0_; have HO_6 := n1_; have HO_10 := n2_; have HO258 := n3_; have HB := n4_; clear n0_ n1_ n2_ n3_ n4_; (try clear hb); (try clear hb2); (try clear hk); (try clear hi); (try clear ho0)))
                                  have n0_ := Aside0.mk (Kd.R_drew HO_5.out)
                                  have n1_ := Aside0.mk (Kd.S_drew HO_6.out)
                                  have n2_ := Aside0.mk (Kd.V_drew HO_10.out)
                                  have n3_ := Aside0.mk (Kd.R_drew HO258.out)
                                  have n4_ := Aside0.mk (below_drew1 HB.out)
                                  clear HO_5
                                  clear HO_6
                                  clear HO_10
                                  clear HO258
                                  clear HB
                                  have HO_5 := n0_
                                  have HO_6 := n1_
                                  have HO_10 := n2_
                                  have HO258 := n3_
                                  have HB := n4_
                                  clear n0_ n1_ n2_ n3_ n4_
                                  have p263 : 0 ≤ (x85_4 : Int) := of_decide_eq_true (by first | (with_reducible assumption) | assumption)
                                  have q263 : x85_4 < (x5_1.length : Int) := of_decide_eq_true (by first | (with_reducible assumption) | assumption)
                                  obtain ⟨ad263, e263, hx263_0⟩ := Kd.at_string (Kd.R_reads' HO_5.out).2.2 x85_4 p263 q263
                                  obtain rfl : ad254 = ad263 := (by injection e263)
                                  replace p263 := eq_true p263
                                  replace q263 := eq_true q263
                                  refine start_ (n := 24) (S := fun w' => w'.cell? (ad254.add (x85_4).toNat) = some (.string (rdOf ByteArray.empty x5_1 x85_4))) (ds := []) #[false, false, false, false, false, false, false, false, false, false, false, false, false, false, false, false, false, false, false, false, false, false, false, false] (by kernel_rfl) rfl rfl (hx263_0) (fun hHeld => ?_); refine with_tabW versallaw14_SfntBack.tab16 versallaw14_SfntBack.bits16 (fun HT_ HW_ => ?_)
                                  generalize w72.drew = w73 at HO_5 HO_6 HO_10 HO258 HB hx263_0 hHeld ⊢
                                  refine pure_ (i := 0) (N := some 97) (v := ?_) (a' := ?_) #[true, false, false, false, false, false, false, false, false, false, false, false, false, false, false, false, false, false, false, false, false, false, false, false] rfl rfl (any_of HT_.out (by kernel_rfl)) (fun _ _ _ h => h) (Or.inl ⟨by rfl, ?_⟩) ?_ ?_
                                  rotate_left
                                  · intro w'
                                    go_simp
                                    with_reducible rfl
                                  rotate_left
                                  · simp only [Act.put, List.setIfInBounds_toArray, List.set_cons_zero, List.set_cons_succ, i64_w, i32_w]
                                    rfl
                                  refine pure_ (i := 2) (N := some 99) (v := ?_) (a' := ?_) #[true, false, true, false, false, false, false, false, false, false, false, false, false, false, false, false, false, false, false, false, false, false, false, false] rfl rfl (any_of HT_.out (by kernel_rfl)) (fun _ _ _ h => h) (Or.inl ⟨by rfl, ?_⟩) ?_ ?_
                                  rotate_left
                                  · intro w'
                                    go_simp
                                    with_reducible rfl
                                  rotate_left
                                  · simp only [Act.put, List.setIfInBounds_toArray, List.set_cons_zero, List.set_cons_succ, i64_w, i32_w]
                                    rfl
                                  refine pure_ (i := 5) (N := some 102) (v := ?_) (a' := ?_) #[true, false, true, false, false, true, false, false, false, false, false, false, false, false, false, false, false, false, false, false, false, false, false, false] rfl rfl (any_of HT_.out (by kernel_rfl)) (fun _ _ _ h => h) (Or.inl ⟨by rfl, ?_⟩) ?_ ?_
                                  rotate_left
                                  · intro w'
                                    go_simp
                                    with_reducible rfl
                                  rotate_left
                                  · simp only [Act.put, List.setIfInBounds_toArray, List.set_cons_zero, List.set_cons_succ, i64_w, i32_w]
                                    rfl
                                  refine pure_ (i := 6) (N := some 103) (v := ?_) (a' := ?_) #[true, false, true, false, false, true, true, false, false, false, false, false, false, false, false, false, false, false, false, false, false, false, false, false] rfl rfl (any_of HT_.out (by kernel_rfl)) (fun _ _ _ h => h) (Or.inl ⟨by rfl, ?_⟩) ?_ ?_
                                  rotate_left
                                  · intro w'
                                    go_simp
                                    with_reducible rfl
                                  rotate_left
                                  · simp only [Act.put, List.setIfInBounds_toArray, List.set_cons_zero, List.set_cons_succ, i64_w, i32_w]
                                    rfl
                                  refine pure_ (i := 7) (N := some 104) (v := ?_) (a' := ?_) #[true, false, true, false, false, true, true, true, false, false, false, false, false, false, false, false, false, false, false, false, false, false, false, false] rfl rfl (any_of HT_.out (by kernel_rfl)) (fun _ _ _ h => h) (Or.inl ⟨by rfl, ?_⟩) ?_ ?_
                                  rotate_left
                                  · intro w'
                                    go_simp
                                    with_reducible rfl
                                  rotate_left
                                  · simp only [Act.put, List.setIfInBounds_toArray, List.set_cons_zero, List.set_cons_succ, i64_w, i32_w]
                                    rfl
                                  refine take_ (i := 8) (N := some 105) (v := ?_) (a' := ?_) #[true, false, true, false, false, true, true, true, true, false, false, false, false, false, false, false, false, false, false, false, false, false, false, false] rfl rfl (take_ofW HT_.out HW_.out (by kernel_rfl)) (fun _ _ _ h => h) (Or.inl ⟨by rfl, ?_⟩) hHeld ?_ ?_
                                  rotate_left
                                  · intro w' s0
                                    go_simp
                                    with_reducible rfl
                                  rotate_left
                                  · simp only [Act.put, List.setIfInBounds_toArray, List.set_cons_zero, List.set_cons_succ, i64_w, i32_w]
                                    rfl
                                  refine one_ (i := 1) (N := some 98) #[true, true, true, false, false, true, true, true, true, false, false, false, false, false, false, false, false, false, false, false, false, false, false, false] rfl rfl (one_of HT_.out (by kernel_rfl)) (by decide) (fun K hK => ?_)
                                  refine goes_ Try.func23 (by kernel_rfl) rfl #[.pointer (hq t238 (.slice Ao71 t238.length co71))] (by rfl) rfl rfl (by (try simp only [List.map_toArray, List.map_cons, List.map_nil]); first | done | rfl | (simp only [List.length_drop, List.length_take]; rfl)) ?_
                                  with_reducible refine (sfnt_Font_Tags.calls _ _ t238 t259 _ ?side1 ?side2 A49.out).mono ?_
                                  (case side1 => repeat (first | exact (Kd.V_reads' HO_10.out).2.2 | (with_reducible refine Kd.C_alloc ?_ _) | (with_reducible refine Kd.C_drewN ?_ _) | (with_reducible refine Kd.C_drew ?_)))
                                  (case side2 => exact (Kd.V_reads' HO_10.out).2.1)
                                  rintro e w74 ⟨v260, rfl, ho0, hb⟩
                                  have HS0_ := (hb.cell (cLt _ _ (hHeld))).trans (hHeld)
                                  refine ⟨_, rfl, ?_⟩
                                  have n0_ := Aside0.mk (Kd.R_elder' (by (with_reducible repeat (first | apply Kd.R_alloc | apply Kd.R_drewN | apply Kd.R_drew)); exact HO_5.out) (Kd.R_base ho0) hb)
                                  have n1_ := Aside0.mk (Kd.S_below (by (with_reducible repeat (first | apply Kd.S_alloc | apply Kd.S_drewN | apply Kd.S_drew)); exact HO_6.out) hb)
                                  have n2_ := Aside0.mk (Kd.V_elder' (by (with_reducible repeat (first | apply Kd.V_alloc | apply Kd.V_drewN | apply Kd.V_drew)); exact HO_10.out) (Kd.R_base ho0) hb)
                                  have n3_ := Aside0.mk (Kd.R_below (by (with_reducible repeat (first | apply Kd.R_alloc | apply Kd.R_drewN | apply Kd.R_drew)); exact HO258.out) hb)
                                  have n4_ := Aside0.mk (Kd.R_lower (Kd.R_new' ho0 (Kd.R_lt (by (with_reducible repeat (first | apply Kd.R_alloc | apply Kd.R_drewN | apply Kd.R_drew)); exact HO_5.out))) (below_size (by repeat (first | (with_reducible first | exact HB.out | apply below_alloc | apply pw_below_drewN | apply below_drew1) | exact HB.out))))
                                  have n5_ := Aside0.mk (below_step (by repeat (first | (with_reducible first | exact HB.out | apply below_alloc | apply pw_below_drewN | apply below_drew1) | exact HB.out)) hb)
                                  clear HO_5
                                  clear HO_6
                                  clear HO_10
                                  clear HO258
                                  clear HB
                                  have HO_5 := n0_
                                  have HO_6 := n1_
                                  have HO_10 := n2_
                                  have HO258 := n3_
                                  have HO261 := n4_
                                  have HB := n5_
                                  clear n0_ n1_ n2_ n3_ n4_ n5_
                                  (try clear hb)
                                  (try clear hb2)
                                  (try clear hk)
                                  (try clear hi)
                                  (try clear ho0)
                                  obtain ⟨Ao75, co75, eo75⟩ := Kd.R_slice HO261.out
                                  (first | subst eo75 | (injection eo75 with f1_ f2_ f3_; have f4_ := f1_.symm; have f5_ := f3_.symm; clear f1_ f2_ f3_; subst f4_; subst f5_))
                                  have p262 : 0 ≤ (x85_4 : Int) := of_decide_eq_true (by first | (with_reducible assumption) | assumption)
                                  have q262 : x85_4 < (t259.length : Int) := of_decide_eq_true (by first | (with_reducible assumption) | assumption)
                                  obtain ⟨ad262, e262, hx262_0⟩ := Kd.at_string (Kd.R_reads' HO261.out).2.2 x85_4 p262 q262
                                  cases e262
                                  replace p262 := eq_true p262
                                  replace q262 := eq_true q262
                                  refine hK.out _ _ (HS0_) (fun hHeld => ?_)
                                  clear hK K
                                  refine norm_ (a' := ?_) ?_ ?_
                                  rotate_left
                                  · show Act.put _ (some 98) _ = _
                                    simp only [Act.put, List.setIfInBounds_toArray, List.set_cons_zero, List.set_cons_succ, i64_w, i32_w]
                                    rfl
                                  refine pure_ (i := 3) (N := some 100) (v := ?_) (a' := ?_) #[true, true, true, true, false, true, true, true, true, false, false, false, false, false, false, false, false, false, false, false, false, false, false, false] rfl rfl (any_of HT_.out (by kernel_rfl)) (fun _ _ _ h => h) (Or.inl ⟨by rfl, ?_⟩) ?_ ?_
                                  rotate_left
                                  · intro w'
                                    go_simp
                                    with_reducible rfl
                                  rotate_left
                                  · simp only [Act.put, List.setIfInBounds_toArray, List.set_cons_zero, List.set_cons_succ, i64_w, i32_w]
                                    rfl
                                  refine one_ (i := 4) (N := some 101) #[true, true, true, true, true, true, true, true, true, false, false, false, false, false, false, false, false, false, false, false, false, false, false, false] rfl rfl (one_of HT_.out (by kernel_rfl)) (by decide) (fun K hK => ?_)
                                  (have p262r : 0 ≤ (x85_4 : Int) := of_decide_eq_true (by first | (with_reducible assumption) | assumption); have q262r : x85_4 < (t259.length : Int) := of_decide_eq_true (by first | (with_reducible assumption) | assumption); obtain ⟨ad262r, e262r, hx262r_0⟩ := Kd.at_string (Kd.R_reads' HO261.out).2.2 x85_4 p262r q262r; obtain rfl : ad262 = ad262r := (by injection e262r))
                                  refine value_ (w1 := ?_) (v := ?_) (by rfl) rfl ?_ ?_
                                  rotate_left 2
                                  · go_simp
                                    constructor
                                    · rfl
                                    · rfl
                                  clear hx262r_0
                                  refine hK.out _ _ (hHeld) (fun hHeld => ?_)
                                  clear hK K
                                  refine norm_ (a' := ?_) ?_ ?_
                                  rotate_left
                                  · show Act.put _ (some 101) _ = _
                                    simp only [Act.put, List.setIfInBounds_toArray, List.set_cons_zero, List.set_cons_succ, i64_w, i32_w]
                                    rfl
                                  refine pure_ (i := 9) (N := some 106) (v := ?_) (a' := ?_) #[true, true, true, true, true, true, true, true, true, true, false, false, false, false, false, false, false, false, false, false, false, false, false, false] rfl rfl (any_of HT_.out (by kernel_rfl)) (fun _ _ _ h => h) (Or.inl ⟨by rfl, ?_⟩) ?_ ?_
                                  rotate_left
                                  · intro w'
                                    go_simp
                                    with_reducible rfl
                                  rotate_left
                                  · simp only [Act.put, List.setIfInBounds_toArray, List.set_cons_zero, List.set_cons_succ, i64_w, i32_w]
                                    rfl
                                  refine pure_ (i := 10) (N := some 107) (v := ?_) (a' := ?_) #[true, true, true, true, true, true, true, true, true, true, true, false, false, false, false, false, false, false, false, false, false, false, false, false] rfl rfl (any_of HT_.out (by kernel_rfl)) (fun _ _ _ h => h) (Or.inl ⟨by rfl, ?_⟩) ?_ ?_
                                  rotate_left
                                  · intro w'
                                    go_simp
                                    with_reducible rfl
                                  rotate_left
                                  · simp only [Act.put, List.setIfInBounds_toArray, List.set_cons_zero, List.set_cons_succ, i64_w, i32_w]
                                    rfl
                                  refine pure_ (i := 11) (N := some 108) (v := ?_) (a' := ?_) #[true, true, true, true, true, true, true, true, true, true, true, true, false, false, false, false, false, false, false, false, false, false, false, false] rfl rfl (any_of HT_.out (by kernel_rfl)) (fun _ _ _ h => h) (Or.inl ⟨by rfl, ?_⟩) ?_ ?_
                                  rotate_left
                                  · intro w'
                                    go_simp
                                    with_reducible rfl
                                  rotate_left
                                  · simp only [Act.put, List.setIfInBounds_toArray, List.set_cons_zero, List.set_cons_succ, i64_w, i32_w]
                                    rfl
                                  refine pure_ (i := 12) (N := some 109) (v := ?_) (a' := ?_) #[true, true, true, true, true, true, true, true, true, true, true, true, true, false, false, false, false, false, false, false, false, false, false, false] rfl rfl (any_of HT_.out (by kernel_rfl)) (fun _ _ _ h => h) (Or.inl ⟨by rfl, ?_⟩) ?_ ?_
                                  rotate_left
                                  · intro w'
                                    go_simp
                                    with_reducible rfl
                                  rotate_left
                                  · simp only [Act.put, List.setIfInBounds_toArray, List.set_cons_zero, List.set_cons_succ, i64_w, i32_w]
                                    rfl
                                  refine pure_ (i := 13) (N := some 110) (v := ?_) (a' := ?_) #[true, true, true, true, true, true, true, true, true, true, true, true, true, true, false, false, false, false, false, false, false, false, false, false] rfl rfl (any_of HT_.out (by kernel_rfl)) (fun _ _ _ h => h) (Or.inl ⟨by rfl, ?_⟩) ?_ ?_
                                  rotate_left
                                  · intro w'
                                    go_simp
                                    with_reducible rfl
                                  rotate_left
                                  · simp only [Act.put, List.setIfInBounds_toArray, List.set_cons_zero, List.set_cons_succ, i64_w, i32_w]
                                    rfl
                                  refine pure_ (i := 14) (N := some 111) (v := ?_) (a' := ?_) #[true, true, true, true, true, true, true, true, true, true, true, true, true, true, true, false, false, false, false, false, false, false, false, false] rfl rfl (any_of HT_.out (by kernel_rfl)) (fun _ _ _ h => h) (Or.inl ⟨by rfl, ?_⟩) ?_ ?_
                                  rotate_left
                                  · intro w'
                                    go_simp
                                    with_reducible rfl
                                  rotate_left
                                  · simp only [Act.put, List.setIfInBounds_toArray, List.set_cons_zero, List.set_cons_succ, i64_w, i32_w]
                                    rfl
                                  refine pure_ (i := 15) (N := some 112) (v := undef) (a' := ?_) #[true, true, true, true, true, true, true, true, true, true, true, true, true, true, true, true, false, false, false, false, false, false, false, false] rfl rfl (any_of HT_.out (by kernel_rfl)) (fun _ _ _ h => h) (Or.inr ⟨by rfl, rfl⟩) ?_ ?_
                                  rotate_left
                                  · simp only [Act.put, List.setIfInBounds_toArray, List.set_cons_zero, List.set_cons_succ, i64_w, i32_w]
                                    rfl
                                  refine pure_ (i := 16) (N := some 113) (v := undef) (a' := ?_) #[true, true, true, true, true, true, true, true, true, true, true, true, true, true, true, true, true, false, false, false, false, false, false, false] rfl rfl (any_of HT_.out (by kernel_rfl)) (fun _ _ _ h => h) (Or.inr ⟨by rfl, rfl⟩) ?_ ?_
                                  rotate_left
                                  · simp only [Act.put, List.setIfInBounds_toArray, List.set_cons_zero, List.set_cons_succ, i64_w, i32_w]
                                    rfl
                                  refine pure_ (i := 17) (N := some 114) (v := undef) (a' := ?_) #[true, true, true, true, true, true, true, true, true, true, true, true, true, true, true, true, true, true, false, false, false, false, false, false] rfl rfl (any_of HT_.out (by kernel_rfl)) (fun _ _ _ h => h) (Or.inr ⟨by rfl, rfl⟩) ?_ ?_
                                  rotate_left
                                  · simp only [Act.put, List.setIfInBounds_toArray, List.set_cons_zero, List.set_cons_succ, i64_w, i32_w]
                                    rfl
                                  refine pure_ (i := 18) (N := some 115) (v := undef) (a' := ?_) #[true, true, true, true, true, true, true, true, true, true, true, true, true, true, true, true, true, true, true, false, false, false, false, false] rfl rfl (any_of HT_.out (by kernel_rfl)) (fun _ _ _ h => h) (Or.inr ⟨by rfl, rfl⟩) ?_ ?_
                                  rotate_left
                                  · simp only [Act.put, List.setIfInBounds_toArray, List.set_cons_zero, List.set_cons_succ, i64_w, i32_w]
                                    rfl
                                  refine pure_ (i := 19) (N := some 116) (v := undef) (a' := ?_) #[true, true, true, true, true, true, true, true, true, true, true, true, true, true, true, true, true, true, true, true, false, false, false, false] rfl rfl (any_of HT_.out (by kernel_rfl)) (fun _ _ _ h => h) (Or.inr ⟨by rfl, rfl⟩) ?_ ?_
                                  rotate_left
                                  · simp only [Act.put, List.setIfInBounds_toArray, List.set_cons_zero, List.set_cons_succ, i64_w, i32_w]
                                    rfl
                                  refine pure_ (i := 20) (N := some 117) (v := undef) (a' := ?_) #[true, true, true, true, true, true, true, true, true, true, true, true, true, true, true, true, true, true, true, true, true, false, false, false] rfl rfl (any_of HT_.out (by kernel_rfl)) (fun _ _ _ h => h) (Or.inr ⟨by rfl, rfl⟩) ?_ ?_
                                  rotate_left
                                  · simp only [Act.put, List.setIfInBounds_toArray, List.set_cons_zero, List.set_cons_succ, i64_w, i32_w]
                                    rfl
                                  refine pure_ (i := 21) (N := some 118) (v := undef) (a' := ?_) #[true, true, true, true, true, true, true, true, true, true, true, true, true, true, true, true, true, true, true, true, true, true, false, false] rfl rfl (any_of HT_.out (by kernel_rfl)) (fun _ _ _ h => h) (Or.inr ⟨by rfl, rfl⟩) ?_ ?_
                                  rotate_left
                                  · simp only [Act.put, List.setIfInBounds_toArray, List.set_cons_zero, List.set_cons_succ, i64_w, i32_w]
                                    rfl
                                  refine pure_ (i := 22) (N := some 119) (v := undef) (a' := ?_) #[true, true, true, true, true, true, true, true, true, true, true, true, true, true, true, true, true, true, true, true, true, true, true, false] rfl rfl (any_of HT_.out (by kernel_rfl)) (fun _ _ _ h => h) (Or.inr ⟨by rfl, rfl⟩) ?_ ?_
                                  rotate_left
                                  · simp only [Act.put, List.setIfInBounds_toArray, List.set_cons_zero, List.set_cons_succ, i64_w, i32_w]
                                    rfl
                                  refine pure_ (i := 23) (N := some 120) (v := ?_) (a' := ?_) #[true, true, true, true, true, true, true, true, true, true, true, true, true, true, true, true, true, true, true, true, true, true, true, true] rfl rfl (any_of HT_.out (by kernel_rfl)) (fun _ _ _ h => h) (Or.inl ⟨by rfl, ?_⟩) ?_ ?_
                                  rotate_left
                                  · intro w'
                                    go_simp
                                    with_reducible rfl
                                  rotate_left
                                  · simp only [Act.put, List.setIfInBounds_toArray, List.set_cons_zero, List.set_cons_succ, i64_w, i32_w]
                                    rfl
                                  refine done_ (done_of HT_.out (by kernel_rfl)) ?_
                                  try go_wp2
                                  go_ret
                                  exact ⟨by first | rfl | (simp [errW_none, errW_some] <;> rfl) | (simp [*, errW_none, errW_some] <;> rfl), by repeat (first | (with_reducible first | exact HB.out | apply below_alloc | apply pw_below_drewN | apply below_drew1) | exact HB.out)⟩
                              · rw [if_neg c51] at H
                                have c51b0 : ((rdOf ByteArray.empty t259 x85_4).toList == (rdOf ByteArray.empty x5_1 x85_4).toList) = false := beq_eq_false_iff_ne.mpr c51
                                have c51b1 : ((rdOf ByteArray.empty t259 x85_4).toList != (rdOf ByteArray.empty x5_1 x85_4).toList) = true := bne_iff_ne.mpr c51
                                obtain rfl := Option.some.inj H
                                have p254 : 0 ≤ (x85_4 : Int) := of_decide_eq_true (by first | (with_reducible assumption) | assumption)
                                have q254 : x85_4 < (x5_1.length : Int) := of_decide_eq_true (by first | (with_reducible assumption) | assumption)
                                obtain ⟨ad254, e254, hx254_0⟩ := Kd.at_string (Kd.R_reads' HO_5.out).2.2 x85_4 p254 q254
                                cases e254
                                replace p254 := eq_true p254
                                replace q254 := eq_true q254
                                obtain ⟨Ao76, co76, eo76⟩ := Kd.V_slice HO_10.out
                                subst eo76
                                try go_wp2_with (first | ((with_reducible refine gate_callee (f := 24) rfl ?_); refine goesL_ (some 94) rfl rfl Try.func24 (by kernel_rfl) rfl #[.pointer (hq t238 (.slice Ao76 t238.length co76)), .string (rdOf ByteArray.empty x5_1 x85_4)] rfl (by (try simp only [List.map_toArray, List.map_cons, List.map_nil]); first | done | rfl | (simp only [List.length_drop, List.length_take]; rfl)) ?_; (with_reducible refine (sfnt_Font_Table.calls _ _ t238 (rdOf ByteArray.empty x5_1 x85_4) t255 t256 _ ?side1 ?side2 A48.out).mono ?_); (case side1 => repeat (first | exact (Kd.V_reads' HO_10.out).2.2 | (with_reducible refine Kd.C_alloc ?_ _) | (with_reducible refine Kd.C_drewN ?_ _) | (with_reducible refine Kd.C_drew ?_))); (case side2 => exact (Kd.V_reads' HO_10.out).2.1); rintro e w77 ⟨v257, rfl, ho0, hb⟩; refine ⟨_, rfl, ?_⟩; have n0_ := Aside0.mk (Kd.R_below (by (with_reducible repeat (first | apply Kd.R_alloc | apply Kd.R_drewN | apply Kd.R_drew)); exact HO_5.out) hb); have n1_ := Aside0.mk (Kd.S_elder' (by (with_reducible repeat (first | apply Kd.S_alloc | apply Kd.S_drewN | apply Kd.S_drew)); exact HO_6.out) (Kd.R_base ho0) hb); have n2_ := Aside0.mk (Kd.V_elder' (by (with_reducible repeat (first | apply Kd.V_alloc | apply Kd.V_drewN | apply Kd.V_drew)); exact HO_10.out) (Kd.R_base ho0) hb); have n3_ := Aside0.mk (Kd.R_lower ho0 (below_size (by repeat (first | (with_reducible first | exact HB.out | apply below_alloc | apply pw_below_drewN | apply below_drew1) | exact HB.out)))); have n4_ := Aside0.mk (below_step (by repeat (first | (with_reducible first | exact HB.out | apply below_alloc | apply pw_below_drewN | apply below_drew1) | exact HB.out)) hb); clear HO_5; clear HO_6; clear HO_10; clear HB; have HO_5 := n0_; have HO_6 := n1_; have HO_10 := n2_; have HO258 := n3_; have HB := n4_; clear n0_ n1_ n2_ n3_ n4_; (try clear hb); (try clear hb2); (try clear hk); (try clear hi); (try clear ho0)))
                                have n0_ := Aside0.mk (Kd.R_drew HO_5.out)
                                have n1_ := Aside0.mk (Kd.S_drew HO_6.out)
                                have n2_ := Aside0.mk (Kd.V_drew HO_10.out)
                                have n3_ := Aside0.mk (Kd.R_drew HO258.out)
                                have n4_ := Aside0.mk (below_drew1 HB.out)
                                clear HO_5
                                clear HO_6
                                clear HO_10
                                clear HO258
                                clear HB
                                have HO_5 := n0_
                                have HO_6 := n1_
                                have HO_10 := n2_
                                have HO258 := n3_
                                have HB := n4_
                                clear n0_ n1_ n2_ n3_ n4_
                                have p263 : 0 ≤ (x85_4 : Int) := of_decide_eq_true (by first | (with_reducible assumption) | assumption)
                                have q263 : x85_4 < (x5_1.length : Int) := of_decide_eq_true (by first | (with_reducible assumption) | assumption)
                                obtain ⟨ad263, e263, hx263_0⟩ := Kd.at_string (Kd.R_reads' HO_5.out).2.2 x85_4 p263 q263
                                obtain rfl : ad254 = ad263 := (by injection e263)
                                replace p263 := eq_true p263
                                replace q263 := eq_true q263
                                refine start_ (n := 24) (S := fun w' => w'.cell? (ad254.add (x85_4).toNat) = some (.string (rdOf ByteArray.empty x5_1 x85_4))) (ds := []) #[false, false, false, false, false, false, false, false, false, false, false, false, false, false, false, false, false, false, false, false, false, false, false, false] (by kernel_rfl) rfl rfl (hx263_0) (fun hHeld => ?_); refine with_tabW versallaw14_SfntBack.tab16 versallaw14_SfntBack.bits16 (fun HT_ HW_ => ?_)
                                generalize w77.drew = w78 at HO_5 HO_6 HO_10 HO258 HB hx263_0 hHeld ⊢
                                refine pure_ (i := 0) (N := some 97) (v := ?_) (a' := ?_) #[true, false, false, false, false, false, false, false, false, false, false, false, false, false, false, false, false, false, false, false, false, false, false, false] rfl rfl (any_of HT_.out (by kernel_rfl)) (fun _ _ _ h => h) (Or.inl ⟨by rfl, ?_⟩) ?_ ?_
                                rotate_left
                                · intro w'
                                  go_simp
                                  with_reducible rfl
                                rotate_left
                                · simp only [Act.put, List.setIfInBounds_toArray, List.set_cons_zero, List.set_cons_succ, i64_w, i32_w]
                                  rfl
                                refine pure_ (i := 2) (N := some 99) (v := ?_) (a' := ?_) #[true, false, true, false, false, false, false, false, false, false, false, false, false, false, false, false, false, false, false, false, false, false, false, false] rfl rfl (any_of HT_.out (by kernel_rfl)) (fun _ _ _ h => h) (Or.inl ⟨by rfl, ?_⟩) ?_ ?_
                                rotate_left
                                · intro w'
                                  go_simp
                                  with_reducible rfl
                                rotate_left
                                · simp only [Act.put, List.setIfInBounds_toArray, List.set_cons_zero, List.set_cons_succ, i64_w, i32_w]
                                  rfl
                                refine pure_ (i := 5) (N := some 102) (v := ?_) (a' := ?_) #[true, false, true, false, false, true, false, false, false, false, false, false, false, false, false, false, false, false, false, false, false, false, false, false] rfl rfl (any_of HT_.out (by kernel_rfl)) (fun _ _ _ h => h) (Or.inl ⟨by rfl, ?_⟩) ?_ ?_
                                rotate_left
                                · intro w'
                                  go_simp
                                  with_reducible rfl
                                rotate_left
                                · simp only [Act.put, List.setIfInBounds_toArray, List.set_cons_zero, List.set_cons_succ, i64_w, i32_w]
                                  rfl
                                refine pure_ (i := 6) (N := some 103) (v := ?_) (a' := ?_) #[true, false, true, false, false, true, true, false, false, false, false, false, false, false, false, false, false, false, false, false, false, false, false, false] rfl rfl (any_of HT_.out (by kernel_rfl)) (fun _ _ _ h => h) (Or.inl ⟨by rfl, ?_⟩) ?_ ?_
                                rotate_left
                                · intro w'
                                  go_simp
                                  with_reducible rfl
                                rotate_left
                                · simp only [Act.put, List.setIfInBounds_toArray, List.set_cons_zero, List.set_cons_succ, i64_w, i32_w]
                                  rfl
                                refine pure_ (i := 7) (N := some 104) (v := ?_) (a' := ?_) #[true, false, true, false, false, true, true, true, false, false, false, false, false, false, false, false, false, false, false, false, false, false, false, false] rfl rfl (any_of HT_.out (by kernel_rfl)) (fun _ _ _ h => h) (Or.inl ⟨by rfl, ?_⟩) ?_ ?_
                                rotate_left
                                · intro w'
                                  go_simp
                                  with_reducible rfl
                                rotate_left
                                · simp only [Act.put, List.setIfInBounds_toArray, List.set_cons_zero, List.set_cons_succ, i64_w, i32_w]
                                  rfl
                                refine take_ (i := 8) (N := some 105) (v := ?_) (a' := ?_) #[true, false, true, false, false, true, true, true, true, false, false, false, false, false, false, false, false, false, false, false, false, false, false, false] rfl rfl (take_ofW HT_.out HW_.out (by kernel_rfl)) (fun _ _ _ h => h) (Or.inl ⟨by rfl, ?_⟩) hHeld ?_ ?_
                                rotate_left
                                · intro w' s0
                                  go_simp
                                  with_reducible rfl
                                rotate_left
                                · simp only [Act.put, List.setIfInBounds_toArray, List.set_cons_zero, List.set_cons_succ, i64_w, i32_w]
                                  rfl
                                refine one_ (i := 1) (N := some 98) #[true, true, true, false, false, true, true, true, true, false, false, false, false, false, false, false, false, false, false, false, false, false, false, false] rfl rfl (one_of HT_.out (by kernel_rfl)) (by decide) (fun K hK => ?_)
                                refine goes_ Try.func23 (by kernel_rfl) rfl #[.pointer (hq t238 (.slice Ao76 t238.length co76))] (by rfl) rfl rfl (by (try simp only [List.map_toArray, List.map_cons, List.map_nil]); first | done | rfl | (simp only [List.length_drop, List.length_take]; rfl)) ?_
                                with_reducible refine (sfnt_Font_Tags.calls _ _ t238 t259 _ ?side1 ?side2 A49.out).mono ?_
                                (case side1 => repeat (first | exact (Kd.V_reads' HO_10.out).2.2 | (with_reducible refine Kd.C_alloc ?_ _) | (with_reducible refine Kd.C_drewN ?_ _) | (with_reducible refine Kd.C_drew ?_)))
                                (case side2 => exact (Kd.V_reads' HO_10.out).2.1)
                                rintro e w79 ⟨v260, rfl, ho0, hb⟩
                                have HS0_ := (hb.cell (cLt _ _ (hHeld))).trans (hHeld)
                                refine ⟨_, rfl, ?_⟩
                                have n0_ := Aside0.mk (Kd.R_elder' (by (with_reducible repeat (first | apply Kd.R_alloc | apply Kd.R_drewN | apply Kd.R_drew)); exact HO_5.out) (Kd.R_base ho0) hb)
                                have n1_ := Aside0.mk (Kd.S_below (by (with_reducible repeat (first | apply Kd.S_alloc | apply Kd.S_drewN | apply Kd.S_drew)); exact HO_6.out) hb)
                                have n2_ := Aside0.mk (Kd.V_elder' (by (with_reducible repeat (first | apply Kd.V_alloc | apply Kd.V_drewN | apply Kd.V_drew)); exact HO_10.out) (Kd.R_base ho0) hb)
                                have n3_ := Aside0.mk (Kd.R_below (by (with_reducible repeat (first | apply Kd.R_alloc | apply Kd.R_drewN | apply Kd.R_drew)); exact HO258.out) hb)
                                have n4_ := Aside0.mk (Kd.R_lower (Kd.R_new' ho0 (Kd.R_lt (by (with_reducible repeat (first | apply Kd.R_alloc | apply Kd.R_drewN | apply Kd.R_drew)); exact HO_5.out))) (below_size (by repeat (first | (with_reducible first | exact HB.out | apply below_alloc | apply pw_below_drewN | apply below_drew1) | exact HB.out))))
                                have n5_ := Aside0.mk (below_step (by repeat (first | (with_reducible first | exact HB.out | apply below_alloc | apply pw_below_drewN | apply below_drew1) | exact HB.out)) hb)
                                clear HO_5
                                clear HO_6
                                clear HO_10
                                clear HO258
                                clear HB
                                have HO_5 := n0_
                                have HO_6 := n1_
                                have HO_10 := n2_
                                have HO258 := n3_
                                have HO261 := n4_
                                have HB := n5_
                                clear n0_ n1_ n2_ n3_ n4_ n5_
                                (try clear hb)
                                (try clear hb2)
                                (try clear hk)
                                (try clear hi)
                                (try clear ho0)
                                obtain ⟨Ao80, co80, eo80⟩ := Kd.R_slice HO261.out
                                (first | subst eo80 | (injection eo80 with f1_ f2_ f3_; have f4_ := f1_.symm; have f5_ := f3_.symm; clear f1_ f2_ f3_; subst f4_; subst f5_))
                                have p262 : 0 ≤ (x85_4 : Int) := of_decide_eq_true (by first | (with_reducible assumption) | assumption)
                                have q262 : x85_4 < (t259.length : Int) := of_decide_eq_true (by first | (with_reducible assumption) | assumption)
                                obtain ⟨ad262, e262, hx262_0⟩ := Kd.at_string (Kd.R_reads' HO261.out).2.2 x85_4 p262 q262
                                cases e262
                                replace p262 := eq_true p262
                                replace q262 := eq_true q262
                                refine hK.out _ _ (HS0_) (fun hHeld => ?_)
                                clear hK K
                                refine norm_ (a' := ?_) ?_ ?_
                                rotate_left
                                · show Act.put _ (some 98) _ = _
                                  simp only [Act.put, List.setIfInBounds_toArray, List.set_cons_zero, List.set_cons_succ, i64_w, i32_w]
                                  rfl
                                refine pure_ (i := 3) (N := some 100) (v := ?_) (a' := ?_) #[true, true, true, true, false, true, true, true, true, false, false, false, false, false, false, false, false, false, false, false, false, false, false, false] rfl rfl (any_of HT_.out (by kernel_rfl)) (fun _ _ _ h => h) (Or.inl ⟨by rfl, ?_⟩) ?_ ?_
                                rotate_left
                                · intro w'
                                  go_simp
                                  with_reducible rfl
                                rotate_left
                                · simp only [Act.put, List.setIfInBounds_toArray, List.set_cons_zero, List.set_cons_succ, i64_w, i32_w]
                                  rfl
                                refine one_ (i := 4) (N := some 101) #[true, true, true, true, true, true, true, true, true, false, false, false, false, false, false, false, false, false, false, false, false, false, false, false] rfl rfl (one_of HT_.out (by kernel_rfl)) (by decide) (fun K hK => ?_)
                                (have p262r : 0 ≤ (x85_4 : Int) := of_decide_eq_true (by first | (with_reducible assumption) | assumption); have q262r : x85_4 < (t259.length : Int) := of_decide_eq_true (by first | (with_reducible assumption) | assumption); obtain ⟨ad262r, e262r, hx262r_0⟩ := Kd.at_string (Kd.R_reads' HO261.out).2.2 x85_4 p262r q262r; obtain rfl : ad262 = ad262r := (by injection e262r))
                                refine value_ (w1 := ?_) (v := ?_) (by rfl) rfl ?_ ?_
                                rotate_left 2
                                · go_simp
                                  constructor
                                  · rfl
                                  · rfl
                                clear hx262r_0
                                refine hK.out _ _ (hHeld) (fun hHeld => ?_)
                                clear hK K
                                refine norm_ (a' := ?_) ?_ ?_
                                rotate_left
                                · show Act.put _ (some 101) _ = _
                                  simp only [Act.put, List.setIfInBounds_toArray, List.set_cons_zero, List.set_cons_succ, i64_w, i32_w]
                                  rfl
                                refine pure_ (i := 9) (N := some 106) (v := ?_) (a' := ?_) #[true, true, true, true, true, true, true, true, true, true, false, false, false, false, false, false, false, false, false, false, false, false, false, false] rfl rfl (any_of HT_.out (by kernel_rfl)) (fun _ _ _ h => h) (Or.inl ⟨by rfl, ?_⟩) ?_ ?_
                                rotate_left
                                · intro w'
                                  go_simp
                                  with_reducible rfl
                                rotate_left
                                · simp only [Act.put, List.setIfInBounds_toArray, List.set_cons_zero, List.set_cons_succ, i64_w, i32_w]
                                  rfl
                                refine pure_ (i := 10) (N := some 107) (v := ?_) (a' := ?_) #[true, true, true, true, true, true, true, true, true, true, true, false, false, false, false, false, false, false, false, false, false, false, false, false] rfl rfl (any_of HT_.out (by kernel_rfl)) (fun _ _ _ h => h) (Or.inl ⟨by rfl, ?_⟩) ?_ ?_
                                rotate_left
                                · intro w'
                                  go_simp
                                  with_reducible rfl
                                rotate_left
                                · simp only [Act.put, List.setIfInBounds_toArray, List.set_cons_zero, List.set_cons_succ, i64_w, i32_w]
                                  rfl
                                refine pure_ (i := 11) (N := some 108) (v := undef) (a' := ?_) #[true, true, true, true, true, true, true, true, true, true, true, true, false, false, false, false, false, false, false, false, false, false, false, false] rfl rfl (any_of HT_.out (by kernel_rfl)) (fun _ _ _ h => h) (Or.inr ⟨by rfl, rfl⟩) ?_ ?_
                                rotate_left
                                · simp only [Act.put, List.setIfInBounds_toArray, List.set_cons_zero, List.set_cons_succ, i64_w, i32_w]
                                  rfl
                                refine pure_ (i := 12) (N := some 109) (v := undef) (a' := ?_) #[true, true, true, true, true, true, true, true, true, true, true, true, true, false, false, false, false, false, false, false, false, false, false, false] rfl rfl (any_of HT_.out (by kernel_rfl)) (fun _ _ _ h => h) (Or.inr ⟨by rfl, rfl⟩) ?_ ?_
                                rotate_left
                                · simp only [Act.put, List.setIfInBounds_toArray, List.set_cons_zero, List.set_cons_succ, i64_w, i32_w]
                                  rfl
                                refine pure_ (i := 13) (N := some 110) (v := ?_) (a' := ?_) #[true, true, true, true, true, true, true, true, true, true, true, true, true, true, false, false, false, false, false, false, false, false, false, false] rfl rfl (any_of HT_.out (by kernel_rfl)) (fun _ _ _ h => h) (Or.inl ⟨by rfl, ?_⟩) ?_ ?_
                                rotate_left
                                · intro w'
                                  go_simp
                                  with_reducible rfl
                                rotate_left
                                · simp only [Act.put, List.setIfInBounds_toArray, List.set_cons_zero, List.set_cons_succ, i64_w, i32_w]
                                  rfl
                                refine pure_ (i := 14) (N := some 111) (v := ?_) (a' := ?_) #[true, true, true, true, true, true, true, true, true, true, true, true, true, true, true, false, false, false, false, false, false, false, false, false] rfl rfl (any_of HT_.out (by kernel_rfl)) (fun _ _ _ h => h) (Or.inl ⟨by rfl, ?_⟩) ?_ ?_
                                rotate_left
                                · intro w'
                                  go_simp
                                  with_reducible rfl
                                rotate_left
                                · simp only [Act.put, List.setIfInBounds_toArray, List.set_cons_zero, List.set_cons_succ, i64_w, i32_w]
                                  rfl
                                refine pure_ (i := 15) (N := some 112) (v := undef) (a' := ?_) #[true, true, true, true, true, true, true, true, true, true, true, true, true, true, true, true, false, false, false, false, false, false, false, false] rfl rfl (any_of HT_.out (by kernel_rfl)) (fun _ _ _ h => h) (Or.inr ⟨by rfl, rfl⟩) ?_ ?_
                                rotate_left
                                · simp only [Act.put, List.setIfInBounds_toArray, List.set_cons_zero, List.set_cons_succ, i64_w, i32_w]
                                  rfl
                                refine pure_ (i := 16) (N := some 113) (v := undef) (a' := ?_) #[true, true, true, true, true, true, true, true, true, true, true, true, true, true, true, true, true, false, false, false, false, false, false, false] rfl rfl (any_of HT_.out (by kernel_rfl)) (fun _ _ _ h => h) (Or.inr ⟨by rfl, rfl⟩) ?_ ?_
                                rotate_left
                                · simp only [Act.put, List.setIfInBounds_toArray, List.set_cons_zero, List.set_cons_succ, i64_w, i32_w]
                                  rfl
                                refine pure_ (i := 17) (N := some 114) (v := undef) (a' := ?_) #[true, true, true, true, true, true, true, true, true, true, true, true, true, true, true, true, true, true, false, false, false, false, false, false] rfl rfl (any_of HT_.out (by kernel_rfl)) (fun _ _ _ h => h) (Or.inr ⟨by rfl, rfl⟩) ?_ ?_
                                rotate_left
                                · simp only [Act.put, List.setIfInBounds_toArray, List.set_cons_zero, List.set_cons_succ, i64_w, i32_w]
                                  rfl
                                refine pure_ (i := 18) (N := some 115) (v := undef) (a' := ?_) #[true, true, true, true, true, true, true, true, true, true, true, true, true, true, true, true, true, true, true, false, false, false, false, false] rfl rfl (any_of HT_.out (by kernel_rfl)) (fun _ _ _ h => h) (Or.inr ⟨by rfl, rfl⟩) ?_ ?_
                                rotate_left
                                · simp only [Act.put, List.setIfInBounds_toArray, List.set_cons_zero, List.set_cons_succ, i64_w, i32_w]
                                  rfl
                                refine pure_ (i := 19) (N := some 116) (v := undef) (a' := ?_) #[true, true, true, true, true, true, true, true, true, true, true, true, true, true, true, true, true, true, true, true, false, false, false, false] rfl rfl (any_of HT_.out (by kernel_rfl)) (fun _ _ _ h => h) (Or.inr ⟨by rfl, rfl⟩) ?_ ?_
                                rotate_left
                                · simp only [Act.put, List.setIfInBounds_toArray, List.set_cons_zero, List.set_cons_succ, i64_w, i32_w]
                                  rfl
                                refine pure_ (i := 20) (N := some 117) (v := undef) (a' := ?_) #[true, true, true, true, true, true, true, true, true, true, true, true, true, true, true, true, true, true, true, true, true, false, false, false] rfl rfl (any_of HT_.out (by kernel_rfl)) (fun _ _ _ h => h) (Or.inr ⟨by rfl, rfl⟩) ?_ ?_
                                rotate_left
                                · simp only [Act.put, List.setIfInBounds_toArray, List.set_cons_zero, List.set_cons_succ, i64_w, i32_w]
                                  rfl
                                refine pure_ (i := 21) (N := some 118) (v := undef) (a' := ?_) #[true, true, true, true, true, true, true, true, true, true, true, true, true, true, true, true, true, true, true, true, true, true, false, false] rfl rfl (any_of HT_.out (by kernel_rfl)) (fun _ _ _ h => h) (Or.inr ⟨by rfl, rfl⟩) ?_ ?_
                                rotate_left
                                · simp only [Act.put, List.setIfInBounds_toArray, List.set_cons_zero, List.set_cons_succ, i64_w, i32_w]
                                  rfl
                                refine pure_ (i := 22) (N := some 119) (v := undef) (a' := ?_) #[true, true, true, true, true, true, true, true, true, true, true, true, true, true, true, true, true, true, true, true, true, true, true, false] rfl rfl (any_of HT_.out (by kernel_rfl)) (fun _ _ _ h => h) (Or.inr ⟨by rfl, rfl⟩) ?_ ?_
                                rotate_left
                                · simp only [Act.put, List.setIfInBounds_toArray, List.set_cons_zero, List.set_cons_succ, i64_w, i32_w]
                                  rfl
                                refine pure_ (i := 23) (N := some 120) (v := ?_) (a' := ?_) #[true, true, true, true, true, true, true, true, true, true, true, true, true, true, true, true, true, true, true, true, true, true, true, true] rfl rfl (any_of HT_.out (by kernel_rfl)) (fun _ _ _ h => h) (Or.inl ⟨by rfl, ?_⟩) ?_ ?_
                                rotate_left
                                · intro w'
                                  go_simp
                                  with_reducible rfl
                                rotate_left
                                · simp only [Act.put, List.setIfInBounds_toArray, List.set_cons_zero, List.set_cons_succ, i64_w, i32_w]
                                  rfl
                                refine done_ (done_of HT_.out (by kernel_rfl)) ?_
                                try go_wp2
                                go_ret
                                exact ⟨by first | rfl | (simp [errW_none, errW_some] <;> rfl) | (simp [*, errW_none, errW_some] <;> rfl), by repeat (first | (with_reducible first | exact HB.out | apply below_alloc | apply pw_below_drewN | apply below_drew1) | exact HB.out)⟩
                            · rw [if_neg c50] at H
                              exact absurd H (by simp)
                          · rw [if_neg c47] at H
                            exact absurd H (by simp)
                        · rw [if_neg c46] at H
                          exact absurd H (by simp)
                      · rw [if_neg c45] at H
                        have c45b0 : decide (x85_4 < (x5_1.length : Int)) = false := decide_eq_false c45
                        clear c45
                        replace H := Option.bind_eq_some_iff.mp H
                        obtain ⟨⟨t246, t247⟩, A810, H⟩ := H
                        replace H : ((sfnt_Font_Table.f t238 (⟨#[84]⟩ : ByteArray)).bind fun bt250 => (if t247 = true then (some false) else (some (!bt250.2)))) = some r := H
                        have A81 := Aside0.mk A810
                        clear A810
                        replace H := Option.bind_eq_some_iff.mp H
                        obtain ⟨⟨t250, t251⟩, A820, H⟩ := H
                        replace H : (if t247 = true then (some false) else (some (!t251))) = some r := H
                        have A82 := Aside0.mk A820
                        clear A820
                        by_cases c83 : t247 = true
                        · subst c83
                          have H1 : (some false) = some r := by rw [if_pos rfl] at H; exact H
                          clear H
                          have H := H1
                          clear H1
                          obtain rfl := Option.some.inj H
                          obtain ⟨Ao84, co84, eo84⟩ := Kd.V_slice HO_10.out
                          subst eo84
                          go_wp2_with (first | ((with_reducible refine gate_callee (f := 24) rfl ?_); refine goesL_ (some 124) rfl rfl Try.func24 (by kernel_rfl) rfl #[.pointer (hq t238 (.slice Ao84 t238.length co84)), .string (⟨#[67, 79, 76, 82]⟩ : ByteArray)] rfl (by (try simp only [List.map_toArray, List.map_cons, List.map_nil]); first | done | rfl | (simp only [List.length_drop, List.length_take]; rfl)) ?_; (with_reducible refine (sfnt_Font_Table.calls _ _ t238 (⟨#[67, 79, 76, 82]⟩ : ByteArray) t246 true _ ?side1 ?side2 A81.out).mono ?_); (case side1 => repeat (first | exact (Kd.V_reads' HO_10.out).2.2 | (with_reducible refine Kd.C_alloc ?_ _) | (with_reducible refine Kd.C_drewN ?_ _) | (with_reducible refine Kd.C_drew ?_))); (case side2 => exact (Kd.V_reads' HO_10.out).2.1); rintro e w85 ⟨v248, rfl, ho0, hb⟩; refine ⟨_, rfl, ?_⟩; have n0_ := Aside0.mk (Kd.R_below (by (with_reducible repeat (first | apply Kd.R_alloc | apply Kd.R_drewN | apply Kd.R_drew)); exact HO_5.out) hb); have n1_ := Aside0.mk (Kd.S_elder' (by (with_reducible repeat (first | apply Kd.S_alloc | apply Kd.S_drewN | apply Kd.S_drew)); exact HO_6.out) (Kd.R_base ho0) hb); have n2_ := Aside0.mk (Kd.V_elder' (by (with_reducible repeat (first | apply Kd.V_alloc | apply Kd.V_drewN | apply Kd.V_drew)); exact HO_10.out) (Kd.R_base ho0) hb); have n3_ := Aside0.mk (Kd.R_lower ho0 (below_size (by repeat (first | (with_reducible first | exact HB.out | apply below_alloc | apply pw_below_drewN | apply below_drew1) | exact HB.out)))); have n4_ := Aside0.mk (below_step (by repeat (first | (with_reducible first | exact HB.out | apply below_alloc | apply pw_below_drewN | apply below_drew1) | exact HB.out)) hb); clear HO_5; clear HO_6; clear HO_10; clear HB; have HO_5 := n0_; have HO_6 := n1_; have HO_10 := n2_; have HO249 := n3_; have HB := n4_; clear n0_ n1_ n2_ n3_ n4_; (try clear hb); (try clear hb2); (try clear hk); (try clear hi); (try clear ho0)) | ((with_reducible refine gate_callee (f := 24) rfl ?_); refine goesL_ (some 129) rfl rfl Try.func24 (by kernel_rfl) rfl #[.pointer (hq t238 (.slice Ao84 t238.length co84)), .string (⟨#[84]⟩ : ByteArray)] rfl (by (try simp only [List.map_toArray, List.map_cons, List.map_nil]); first | done | rfl | (simp only [List.length_drop, List.length_take]; rfl)) ?_; (with_reducible refine (sfnt_Font_Table.calls _ _ t238 (⟨#[84]⟩ : ByteArray) t250 t251 _ ?side1 ?side2 A82.out).mono ?_); (case side1 => repeat (first | exact (Kd.V_reads' HO_10.out).2.2 | (with_reducible refine Kd.C_alloc ?_ _) | (with_reducible refine Kd.C_drewN ?_ _) | (with_reducible refine Kd.C_drew ?_))); (case side2 => exact (Kd.V_reads' HO_10.out).2.1); rintro e w86 ⟨v252, rfl, ho0, hb⟩; refine ⟨_, rfl, ?_⟩; have n0_ := Aside0.mk (Kd.R_below (by (with_reducible repeat (first | apply Kd.R_alloc | apply Kd.R_drewN | apply Kd.R_drew)); exact HO_5.out) hb); have n1_ := Aside0.mk (Kd.S_elder' (by (with_reducible repeat (first | apply Kd.S_alloc | apply Kd.S_drewN | apply Kd.S_drew)); exact HO_6.out) (Kd.R_base ho0) hb); have n2_ := Aside0.mk (Kd.V_elder' (by (with_reducible repeat (first | apply Kd.V_alloc | apply Kd.V_drewN | apply Kd.V_drew)); exact HO_10.out) (Kd.R_base ho0) hb); have n3_ := Aside0.mk (Kd.R_elder' (by (with_reducible repeat (first | apply Kd.R_alloc | apply Kd.R_drewN | apply Kd.R_drew)); exact HO249.out) (Kd.R_base ho0) hb); have n4_ := Aside0.mk (Kd.R_lower (Kd.R_new' ho0 (Kd.R_lt (by (with_reducible repeat (first | apply Kd.R_alloc | apply Kd.R_drewN | apply Kd.R_drew)); exact HO249.out))) (below_size (by repeat (first | (with_reducible first | exact HB.out | apply below_alloc | apply pw_below_drewN | apply below_drew1) | exact HB.out)))); have n5_ := Aside0.mk (below_step (by repeat (first | (with_reducible first | exact HB.out | apply below_alloc | apply pw_below_drewN | apply below_drew1) | exact HB.out)) hb); clear HO_5; clear HO_6; clear HO_10; clear HO249; clear HB; have HO_5 := n0_; have HO_6 := n1_; have HO_10 := n2_; have HO249 := n3_; have HO253 := n4_; have HB := n5_; clear n0_ n1_ n2_ n3_ n4_ n5_; (try clear hb); (try clear hb2); (try clear hk); (try clear hi); (try clear ho0)))
                          go_ret
                          exact ⟨by first | rfl | (simp [errW_none, errW_some] <;> rfl) | (simp [*, errW_none, errW_some] <;> rfl), by repeat (first | (with_reducible first | exact HB.out | apply below_alloc | apply pw_below_drewN | apply below_drew1) | exact HB.out)⟩
                        · replace c83 := Bool.eq_false_iff.mpr c83
                          subst c83
                          have H1 : (some (!t251)) = some r := by rw [if_neg (show ¬ (false = true) by decide)] at H; exact H
                          clear H
                          have H := H1
                          clear H1
                          obtain rfl := Option.some.inj H
                          obtain ⟨Ao87, co87, eo87⟩ := Kd.V_slice HO_10.out
                          subst eo87
                          go_wp2_with (first | ((with_reducible refine gate_callee (f := 24) rfl ?_); refine goesL_ (some 124) rfl rfl Try.func24 (by kernel_rfl) rfl #[.pointer (hq t238 (.slice Ao87 t238.length co87)), .string (⟨#[67, 79, 76, 82]⟩ : ByteArray)] rfl (by (try simp only [List.map_toArray, List.map_cons, List.map_nil]); first | done | rfl | (simp only [List.length_drop, List.length_take]; rfl)) ?_; (with_reducible refine (sfnt_Font_Table.calls _ _ t238 (⟨#[67, 79, 76, 82]⟩ : ByteArray) t246 false _ ?side1 ?side2 A81.out).mono ?_); (case side1 => repeat (first | exact (Kd.V_reads' HO_10.out).2.2 | (with_reducible refine Kd.C_alloc ?_ _) | (with_reducible refine Kd.C_drewN ?_ _) | (with_reducible refine Kd.C_drew ?_))); (case side2 => exact (Kd.V_reads' HO_10.out).2.1); rintro e w88 ⟨v248, rfl, ho0, hb⟩; refine ⟨_, rfl, ?_⟩; have n0_ := Aside0.mk (Kd.R_below (by (with_reducible repeat (first | apply Kd.R_alloc | apply Kd.R_drewN | apply Kd.R_drew)); exact HO_5.out) hb); have n1_ := Aside0.mk (Kd.S_elder' (by (with_reducible repeat (first | apply Kd.S_alloc | apply Kd.S_drewN | apply Kd.S_drew)); exact HO_6.out) (Kd.R_base ho0) hb); have n2_ := Aside0.mk (Kd.V_elder' (by (with_reducible repeat (first | apply Kd.V_alloc | apply Kd.V_drewN | apply Kd.V_drew)); exact HO_10.out) (Kd.R_base ho0) hb); have n3_ := Aside0.mk (Kd.R_lower ho0 (below_size (by repeat (first | (with_reducible first | exact HB.out | apply below_alloc | apply pw_below_drewN | apply below_drew1) | exact HB.out)))); have n4_ := Aside0.mk (below_step (by repeat (first | (with_reducible first | exact HB.out | apply below_alloc | apply pw_below_drewN | apply below_drew1) | exact HB.out)) hb); clear HO_5; clear HO_6; clear HO_10; clear HB; have HO_5 := n0_; have HO_6 := n1_; have HO_10 := n2_; have HO249 := n3_; have HB := n4_; clear n0_ n1_ n2_ n3_ n4_; (try clear hb); (try clear hb2); (try clear hk); (try clear hi); (try clear ho0)) | ((with_reducible refine gate_callee (f := 24) rfl ?_); refine goesL_ (some 129) rfl rfl Try.func24 (by kernel_rfl) rfl #[.pointer (hq t238 (.slice Ao87 t238.length co87)), .string (⟨#[84]⟩ : ByteArray)] rfl (by (try simp only [List.map_toArray, List.map_cons, List.map_nil]); first | done | rfl | (simp only [List.length_drop, List.length_take]; rfl)) ?_; (with_reducible refine (sfnt_Font_Table.calls _ _ t238 (⟨#[84]⟩ : ByteArray) t250 t251 _ ?side1 ?side2 A82.out).mono ?_); (case side1 => repeat (first | exact (Kd.V_reads' HO_10.out).2.2 | (with_reducible refine Kd.C_alloc ?_ _) | (with_reducible refine Kd.C_drewN ?_ _) | (with_reducible refine Kd.C_drew ?_))); (case side2 => exact (Kd.V_reads' HO_10.out).2.1); rintro e w89 ⟨v252, rfl, ho0, hb⟩; refine ⟨_, rfl, ?_⟩; have n0_ := Aside0.mk (Kd.R_below (by (with_reducible repeat (first | apply Kd.R_alloc | apply Kd.R_drewN | apply Kd.R_drew)); exact HO_5.out) hb); have n1_ := Aside0.mk (Kd.S_elder' (by (with_reducible repeat (first | apply Kd.S_alloc | apply Kd.S_drewN | apply Kd.S_drew)); exact HO_6.out) (Kd.R_base ho0) hb); have n2_ := Aside0.mk (Kd.V_elder' (by (with_reducible repeat (first | apply Kd.V_alloc | apply Kd.V_drewN | apply Kd.V_drew)); exact HO_10.out) (Kd.R_base ho0) hb); have n3_ := Aside0.mk (Kd.R_elder' (by (with_reducible repeat (first | apply Kd.R_alloc | apply Kd.R_drewN | apply Kd.R_drew)); exact HO249.out) (Kd.R_base ho0) hb); have n4_ := Aside0.mk (Kd.R_lower (Kd.R_new' ho0 (Kd.R_lt (by (with_reducible repeat (first | apply Kd.R_alloc | apply Kd.R_drewN | apply Kd.R_drew)); exact HO249.out))) (below_size (by repeat (first | (with_reducible first | exact HB.out | apply below_alloc | apply pw_below_drewN | apply below_drew1) | exact HB.out)))); have n5_ := Aside0.mk (below_step (by repeat (first | (with_reducible first | exact HB.out | apply below_alloc | apply pw_below_drewN | apply below_drew1) | exact HB.out)) hb); clear HO_5; clear HO_6; clear HO_10; clear HO249; clear HB; have HO_5 := n0_; have HO_6 := n1_; have HO_10 := n2_; have HO249 := n3_; have HO253 := n4_; have HB := n5_; clear n0_ n1_ n2_ n3_ n4_ n5_; (try clear hb); (try clear hb2); (try clear hk); (try clear hi); (try clear ho0)))
                          go_ret
                          exact ⟨by first | rfl | (simp [errW_none, errW_some] <;> rfl) | (simp [*, errW_none, errW_some] <;> rfl), by repeat (first | (with_reducible first | exact HB.out | apply below_alloc | apply pw_below_drewN | apply below_drew1) | exact HB.out)⟩

/-- THE ONE PURE STATEMENT of versallaw14_SfntBack: yours. -/
def versallaw14_SfntBack.Pure : Prop := ∀ (l0 : List (List Int)) (l1 : List Int), l0.length ≤ maxLen → l0.length * 24 ≤ 140737488351232 → (∀ x ∈ l0, x.length * 1 ≤ 140737488351232 ∧ ∀ y ∈ x, (Lit.int .u8 y).wf = true) → l1.length ≤ maxLen → l1.length * 8 ≤ 140737488351232 → (∀ x ∈ l1, (Lit.int .i64 x).wf = true) → ∃ k, versallaw14_SfntBack.f k l0 l1 = some true
theorem versallaw14_SfntBack.walk (P : versallaw14_SfntBack.Pure) (a0 : Option Addr) (len0 cap0 : Nat) (l0 : List (List Int)) (a1 : Option Addr) (len1 cap1 : Nat) (z1 : List Int) (w : World) (w0 : ArgRows .u8 1 w a0 len0 cap0 l0) (y0 : len0 * 24 ≤ 140737488351232) (w1 : (a1 = none ∧ len1 = 0 ∧ cap1 = 0 ∧ z1 = []) ∨ ∃ x, a1 = some x ∧ len1 ≤ cap1 ∧ cap1 ≤ maxLen ∧ z1.length = cap1 ∧ (∀ i, i < z1.length → w.cell? (x.add i) = some (.int .i64 (z1.getD i 0))) ∧ ∀ n ∈ z1, (Lit.int .i64 n).wf = true) (y1 : len1 * 8 ≤ 140737488351232) :
    Calls Try.prog 4 #[.slice a0 len0 cap0, .slice a1 len1 cap1] w fun e w' => e = .returned (.bool true) ∧ Below w.heap.size w w' := by
  have hr0 := ArgRows_C (e := 5) w0
  obtain ⟨rfl, hc0, hm0, _, hw0⟩ := w0
  replace hm0 := Nat.le_trans hc0 hm0
  obtain ⟨l1, rfl, hr1, hm1, hw1, hc1⟩ := ReadsInt.ofRowC w1
  obtain ⟨k, h⟩ := P l0 l1 hm0 y0 hw0 hm1 y1 hw1
  refine (versallaw14_SfntBack.calls k _ _ l0 _ _ l1 true w hr0 hc0 (Kd.C_of_reads (d := (0 : Int)) (h1 := fun _ => rfl) hr1) hc1 h).mono ?_
  rintro e w' ⟨rfl, hd⟩
  exact ⟨rfl, hd⟩

end Go.Proofs.Ytenlimmgbgcgpaa.PCl
