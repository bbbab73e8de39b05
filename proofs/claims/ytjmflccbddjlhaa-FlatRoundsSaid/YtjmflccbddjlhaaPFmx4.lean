-- WRITTEN BY A PROGRAM OF THIS SESSION (wip/xprint) out of the translation. Not trusted: Lean checks it.
import Derived.Test.YtjmflccbddjlhaaPFmx0
namespace Go.Proofs.Ytjmflccbddjlhaa.PFm
open Go.RowKit Go.Proofs.YtjmflccbddjlhaaW.PrintWords Go.Proofs.YtjmflccbddjlhaaW.PrintLast Go.Proofs.YtjmflccbddjlhaaW.PrintMore
attribute [local go_sem] max2_int min2_int max_two min_two max_three min_three max_four min_four   -- for this text's walks alone
set_option linter.unusedVariables false
set_option linter.unusedSimpArgs false

/-! ### flat_begun_1: function 50 -/
def flat_begun_1.f (a0_0 : Int) (a0_1 : Int) (a0_2 : Bool) : Option (Bool) := some a0_2
set_option maxHeartbeats 8000000 in
set_option maxRecDepth 100000 in
theorem flat_begun_1.calls (a0_0 : Int) (a0_1 : Int) (a0_2 : Bool) (r : Bool) (w : World) (h : flat_begun_1.f a0_0 a0_1 a0_2 = some r) :
  Calls Try.prog 50 #[.agg #[.int .i64 a0_0, .int .i64 a0_1, .bool a0_2]] w fun e w' => e = .returned (.bool r) ∧ Below w.heap.size w w' := by
 have hu78 := Try.underlying78
 have HB := amk (Below.refl w.heap.size w)
 have H : (some a0_2) = some r := h
 clear h
 obtain rfl := Option.some.inj H
 go_enter Try.func50, Try.ntmps50
 go_wp2_with (first | ((with_reducible refine gate_dst (N := 1) rfl ?_); refine box_event ?hg (N := 1) ?hd (cs := #[.int .i64 a0_0, .int .i64 a0_1, .bool a0_2]) (t := 78) ?hr ?_; (case hd => rfl); (case hg => rfl); (case hr => first | (go_simp; done) | (go_simp; rfl)); intro gb154 hg w2 hbox hb; have n0_ := amk (below_step (by repeat (first | (with_reducible first | exact HB.out | apply bAl | apply bDN | apply bD1) | exact HB.out)) hb); have n1_ := amk (hbox); have n2_ := amk ((by rw [hg]; exact (below_size (by repeat (first | (with_reducible first | exact HB.out | apply bAl | apply bDN | apply bD1) | exact HB.out))) : w.heap.size ≤ gb154)); have n3_ := amk ((by rw [hg]; exact (below_size (by repeat (first | (with_reducible first | exact HB.out | apply bAl | apply bDN | apply bD1) | exact HB.out))) : w.heap.size ≤ gb154)); clear HB; have HB := n0_; have BK154 := n1_; have GW154 := n2_; have GE154 := n3_; clear n0_ n1_ n2_ n3_; clear hb hbox hg; have hcz3_0 : w2.cell? ⟨gb154, 0, none⟩ = some (.int .i64 a0_0) := (blk_cell BK154.out 0).trans rfl; have hcz3_1 : w2.cell? ⟨gb154, 1, none⟩ = some (.int .i64 a0_1) := (blk_cell BK154.out 1).trans rfl; have hcz3_2 : w2.cell? ⟨gb154, 2, none⟩ = some (.bool a0_2) := (blk_cell BK154.out 2).trans rfl; have hfz3_0 := blk_frozen BK154.out 0; have hfz3_1 := blk_frozen BK154.out 1; have hfz3_2 := blk_frozen BK154.out 2))
 go_ret
 exact ⟨by first | rfl | (simp [errW_none, errW_some] <;> rfl) | (simp [*, errW_none, errW_some] <;> rfl), by repeat (first | (with_reducible first | exact HB.out | apply bAl | apply bDN | apply bD1 | refine bSe ?_ GE154.out) | exact HB.out)⟩

/-! ### flat_place_49: function 49 -/
def flat_place_49.f (l0 : List S78) : Option Int := some (firstAt (fun x => x.f2) l0)
set_option maxHeartbeats 8000000 in
set_option maxRecDepth 100000 in
theorem flat_place_49.calls (A0 : Option Addr) (c0 : Nat) (l0 : List S78) (r : Int) (w : World) (hr0 : Kd.C k78 w A0 l0.length l0) (hc0 : l0.length ≤ c0) (h : flat_place_49.f l0 = some r) :
  Calls Try.prog 49 #[.slice A0 l0.length c0, .func (.func 50) #[] #[]] w fun e w' => e = .returned (.int .i64 r) ∧ Below w.heap.size w w' := by
 have hu78 := Try.underlying78
 obtain rfl := Option.some.inj h
 have hm : (l0.length : Int) ≤ 9223372036854775807 := by have := hr0.2.1; omega
 have HR := amk hr0
 clear h hr0
 go_enter Try.func49, Try.ntmps49
 go_wp2
 go_loopg [5, 8] l0.length (fun gg _ s8 wr => ∃ i : Int, 0 ≤ i ∧ i ≤ l0.length ∧ l0.length - i.toNat ≤ gg ∧ s8 = .int .i64 i ∧ Aside0 (Below w.heap.size w wr) ∧ Aside0 (∀ j : Nat, (j : Int) < i → (l0.getD j z78).f2 = false))
 case atStart => exact ⟨0, by omega, by omega, by omega, rfl, ⟨Below.refl _ w⟩, ⟨fun j hj => by omega⟩⟩
 case round =>
  obtain ⟨i, h0, hi, hg, rfl, BW, HA⟩ := hrel
  by_cases hlt : i < (l0.length : Int)
  ·have HL := amk hlt
   obtain ⟨ad, e, hx0, hx1, hx2⟩ := at_T78 (Kd.C_below HR.out BW.out) i h0 hlt
   cases e
   obtain ⟨bq, hbq⟩ : ∃ b : Bool, b = (rd_T78 l0 i).f2 := ⟨_, rfl⟩
   rw [← hbq] at hx2
   have HB := amk hbq
   clear hbq
   cases bq with
   | true =>
    go_wp2_with (go_at_call 50; refine (flat_begun_1.calls _ _ _ _ _ rfl).mono ?_; rintro e w' ⟨rfl, hb'⟩)
    go_ret
    refine ⟨?_, below_step BW.out hb'⟩
    rw [firstAt_hit (fun x => x.f2) l0 z78 i h0 HL.out HB.out.symm HA.out]
    rfl
   | false =>
    go_wp2_with (go_at_call 50; refine (flat_begun_1.calls _ _ _ _ _ rfl).mono ?_; rintro e w' ⟨rfl, hb'⟩)
    go_roundg (l0.length - (i.toNat + 1))
    case measure => omega
    case rel =>
     refine ⟨i + 1, by omega, by omega, by omega, by go_num, ⟨below_step BW.out hb'⟩, ⟨fun j hj => ?_⟩⟩
     by_cases e : (j : Int) = i
     ·have := HB.out
      unfold rd_T78 at this
      rw [show j = i.toNat by omega]; exact this.symm
     ·exact HA.out j (by omega)
  ·obtain rfl : i = (l0.length : Int) := by omega
   go_wp2
   go_ret
   refine ⟨?_, BW.out⟩
   rw [firstAt_miss (fun x => x.f2) l0 z78 (fun j hj => HA.out j (by omega))]
   rfl

/-! ### flat_place_61: function 61 -/
def flat_place_61.f  (a1 : Int) : Option ((List (S78))) := if a1 < 0 then (none) else (if (wrap64 (a1)) > 0 then (if 0 ≤ (wrap64 (a1)) then (if ([] : List (S78)).length + (wrap64 (a1) : Int).toNat < 5864062014805 then ((some (([] : List (S78)) ++ List.replicate (wrap64 (a1) : Int).toNat z78 : List (S78))).bind fun y155 => (if 0 ≤ (y155.length : Int) then (some (y155.take (0 : Int).toNat)) else (none))) else (none)) else (none)) else (some ([] : List (S78))))
set_option maxHeartbeats 8000000 in
set_option maxRecDepth 100000 in
theorem flat_place_61.calls  (a1 : Int) (r : List (S78)) (w : World) (h : flat_place_61.f a1 = some r) :
  Calls Try.prog 61 #[.slice none 0 0, .int .i64 a1] w fun e w' => ∃ v0_ : Value, e = .returned (v0_) ∧ Kd.R k78 78 w' w.heap.size (fun _ => True) v0_ r ∧ Below w.heap.size w w' := by
 have HB := amk (Below.refl w.heap.size w)
 have H : (if a1 < 0 then (none) else (if (wrap64 (a1)) > 0 then (if 0 ≤ (wrap64 (a1)) then (if ([] : List (S78)).length + (wrap64 (a1) : Int).toNat < 5864062014805 then ((some (([] : List (S78)) ++ List.replicate (wrap64 (a1) : Int).toNat z78 : List (S78))).bind fun y155 => (if 0 ≤ (y155.length : Int) then (some (y155.take (0 : Int).toNat)) else (none))) else (none)) else (none)) else (some ([] : List (S78))))) = some r := h
 clear h
 by_cases c3 : a1 < 0
 ·rw [if_pos c3] at H
  exact absurd H (by simp)
 ·rw [if_neg c3] at H
  have c3b0 : decide (a1 < 0) = false := decide_eq_false c3
  clear c3
  by_cases c4 : (wrap64 (a1)) > 0
  ·rw [if_pos c4] at H
   have c4b0 : decide (0 < (wrap64 (a1))) = true := decide_eq_true c4
   clear c4
   obtain ⟨ji5, hji5⟩ : ∃ j_ : Int, (wrap64 (a1)) = j_ := ⟨_, rfl⟩
   replace H : (if 0 ≤ (ji5) then (if ([] : List (S78)).length + (ji5 : Int).toNat < 5864062014805 then ((some (([] : List (S78)) ++ List.replicate (ji5 : Int).toNat z78 : List (S78))).bind fun y155 => (if 0 ≤ (y155.length : Int) then (some (y155.take (0 : Int).toNat)) else (none))) else (none)) else (none)) = some r := by first | (rw [hji5] at H; exact H) | (simp only [hji5] at H ⊢; exact H)
   (try rw [hji5] at c4b0)
   have hji5w : (IntKind.i64.wrap (a1)) = ji5 := (i64_w _).trans hji5
   by_cases c6 : 0 ≤ (ji5)
   ·rw [if_pos c6] at H
    have c6b0 := eq_true c6
    have c6b1 : decide (0 ≤ (ji5)) = true := decide_eq_true c6
    clear c6
    by_cases c7 : ([] : List (S78)).length + (ji5 : Int).toNat < 5864062014805
    ·rw [if_pos c7] at H
     have LMc7 := amk c7
     clear c7
     obtain ⟨y155, hy155⟩ : ∃ y_ : List (S78), y_ = (([] : List (S78)) ++ List.replicate (ji5 : Int).toNat z78) := ⟨_, rfl⟩
     replace H : (if 0 ≤ (y155.length : Int) then (some (y155.take (0 : Int).toNat)) else (none)) = some r := by first | (rw [hy155]; with_reducible exact H) | (have H2_ := (Option.bind_some _ _).symm.trans H; rw [hy155]; with_reducible exact H2_) | (have H2_ := (Option.bind_some _ _).symm.trans H; with_reducible exact H2_) | with_reducible exact H | (rw [hy155]; exact H) | exact H
     have Ny155 := amk hy155
     clear hy155
     by_cases c8 : 0 ≤ (y155.length : Int)
     ·rw [if_pos c8] at H
      have c8b0 := eq_true c8
      have c8b1 : decide (0 ≤ (y155.length : Int)) = true := decide_eq_true c8
      clear c8
      obtain ⟨y158, hy158⟩ : ∃ y_ : List (S78), y_ = (y155.take (0 : Int).toNat) := ⟨_, rfl⟩
      replace H : (some y158) = some r := by first | (rw [hy158]; with_reducible exact H) | (have H2_ := (Option.bind_some _ _).symm.trans H; rw [hy158]; with_reducible exact H2_) | (have H2_ := (Option.bind_some _ _).symm.trans H; with_reducible exact H2_) | with_reducible exact H | (rw [hy158]; exact H) | exact H
      have Ny158 := amk hy158
      clear hy158
      obtain rfl := Option.some.inj H
      go_enter Try.func61, Try.ntmps61
      go_wp2_with (first | (at_builtin; refine Kd.R_append_zeros k78 (w0 := w) w.heap.size rfl (.tmp 20) (.tmp 21) 72 3 78 (.agg #[(.int .i64 0), (.int .i64 0), (.bool false)]) 24 rfl Try.underlying72 Try.underlying3 info78 rfl (by decide) (by omega) (.slice none 0 0) ([] : List (S78)) z78 (ji5 : Int) (fun _ => True) rfl rfl (k78_mkM _ _ _ z78 ) ?aF ?aO (of_decide_eq_true (by first | (with_reducible assumption) | assumption)) ?aB ?aS ?aL ?_; (case aB => exact (by repeat (first | (with_reducible first | exact HB.out | apply bAl | apply bDN | apply bD1) | exact HB.out))); (case aF => exact (fun _ _ => trivial)); (case aO => exact ((Kd.R_nil _ _ _ _ (fun _ => True)))); (case aS => exact (below_size (by repeat (first | (with_reducible first | exact HB.out | apply bAl | apply bDN | apply bD1) | exact HB.out)))); (case aL => have := LMc7.out; omega); intro v156 w9 ho hb hg hat; rw [← Ny155.out] at ho; have n0_ := amk (hb); have n1_ := amk (ho); clear HB; have HB := n0_; have HO157 := n1_; clear n0_ n1_; clear ho hb hg hat; obtain ⟨Ao10, co10, eo10⟩ := Kd.R_slice HO157.out; subst eo10; have q11 : (0 : Int) ≤ ((y155.length : Int) : Int) := of_decide_eq_true (by first | (with_reducible assumption) | assumption); obtain ⟨i011, hi011, _, hsz11, _⟩ := info_parts info78; have hcut11 := cut_to (P := Try.prog) 72 78 .i64 Try.underlying72 hi011 Ao10 y155.length co10 0 (by omega) q11 (Kd.R_reads' HO157.out).2.1; have hr11 := Kd.R_take (m := (0 : Int).toNat) HO157.out (by omega); have hy11 : y158.length = (0 : Int).toNat := (by rw [Ny158.out, List.length_take]; omega); rw [← Ny158.out] at hr11; rw [← hy11] at hr11 hcut11; clear hy11 hi011 hsz11 HO157; have HO160 := amk hr11; clear hr11; replace q11 := eq_true q11))
      go_ret
      exact ⟨_, by first | rfl | (simp [errW_none, errW_some] <;> rfl) | (simp only [← hji5]; first | rfl | (simp [errW_none, errW_some] <;> rfl)) | (simp [*, errW_none, errW_some] <;> rfl), by (with_reducible repeat (first | apply Kd.R_alloc | apply Kd.R_drewN | apply Kd.R_drew)); exact HO160.out, by repeat (first | (with_reducible first | exact HB.out | apply bAl | apply bDN | apply bD1) | exact HB.out)⟩
     ·rw [if_neg c8] at H
      exact absurd H (by simp)
    ·rw [if_neg c7] at H
     exact absurd H (by simp)
   ·rw [if_neg c6] at H
    exact absurd H (by simp)
  ·rw [if_neg c4] at H
   have c4b0 : decide (0 < (wrap64 (a1))) = false := decide_eq_false c4
   clear c4
   obtain rfl := Option.some.inj H
   go_enter Try.func61, Try.ntmps61
   go_wp2
   go_ret
   exact ⟨_, by first | rfl | (simp [errW_none, errW_some] <;> rfl) | (simp [*, errW_none, errW_some] <;> rfl), by first | exact Kd.R_nil _ _ _ _ _ | exact Kd.N_nil _ _ _ _ _ | exact Kd.V_nil _ _ _ _ _ | exact Kd.Q_nil _ _ _ _ _ | exact Kd.S_nil _ _ _ _ _, by repeat (first | (with_reducible first | exact HB.out | apply bAl | apply bDN | apply bD1) | exact HB.out)⟩

/-! ### flat_place_51: function 51 -/
mutual
def flat_place_51.l0 : Nat → List (List (S78)) → Int → List (List (S78)) → Int → Int → Option ((List (S78)))
 | 0, _, _, _, _, _ => none
 | k + 1, x0, x3, x9, x10, x11 => if x11 < x10 then (if 0 ≤ x11 then (if x11 < (x9.length : Int) then (if (wrap64 (x3 + ((rd_L4 x9 x11).length : Int))) < 0 then (none) else (flat_place_51.l0 k x0 (wrap64 (x3 + ((rd_L4 x9 x11).length : Int))) x9 x10 (wrap64 (x11 + 1)))) else (none)) else (none)) else ((flat_place_61.f x3).bind fun t162 => (flat_place_51.l1 k t162 x0 (x0.length : Int) 0))
def flat_place_51.l1 : Nat → List (S78) → List (List (S78)) → Int → Int → Option ((List (S78)))
 | 0, _, _, _, _ => none
 | k + 1, x6, x25, x26, x27 => if x27 < x26 then (if 0 ≤ x27 then (if x27 < (x25.length : Int) then (if x6.length + (rd_L4 x25 x27).length < 5864062014805 then (flat_place_51.l1 k (x6 ++ (rd_L4 x25 x27)) x25 x26 (wrap64 (x27 + 1))) else (none)) else (none)) else (none)) else (some x6)
end
def flat_place_51.f (k : Nat) (l0 : List (List (S78))) : Option ((List (S78))) := flat_place_51.l0 k l0 0 l0 (l0.length : Int) 0
theorem flat_place_51.mono_l : ∀ k, (∀ y0 y1 y2 y3 y4, LeO (flat_place_51.l0 k y0 y1 y2 y3 y4) (flat_place_51.l0 (k + 1) y0 y1 y2 y3 y4)) ∧ (∀ y0 y1 y2 y3, LeO (flat_place_51.l1 k y0 y1 y2 y3) (flat_place_51.l1 (k + 1) y0 y1 y2 y3))
 | 0 => ⟨fun _ _ _ _ _ r h => by simp [flat_place_51.l0] at h, fun _ _ _ _ r h => by simp [flat_place_51.l1] at h⟩
 | k + 1 => by
  obtain ⟨ih0, ih1⟩ := flat_place_51.mono_l k
  refine ⟨?_, ?_⟩
  ·intro y0 y1 y2 y3 y4
   unfold flat_place_51.l0
   repeat' first
   | (with_reducible exact ih0 _ _ _ _ _)
   | (with_reducible exact ih1 _ _ _ _)
   | (with_reducible exact LeO.refl _)
   | (with_reducible exact LeO.none _)
   | (with_reducible refine LeO.ite ?_ ?_)
   | (with_reducible refine LeO.bind ?_ (fun _ => ?_))
   | exact ih0 _ _ _ _ _
   | exact ih1 _ _ _ _
   | exact LeO.none _
   | refine LeO.ite ?_ ?_
   | refine LeO.bind ?_ (fun _ => ?_)
  ·intro y0 y1 y2 y3
   unfold flat_place_51.l1
   repeat' first
   | (with_reducible exact ih0 _ _ _ _ _)
   | (with_reducible exact ih1 _ _ _ _)
   | (with_reducible exact LeO.refl _)
   | (with_reducible exact LeO.none _)
   | (with_reducible refine LeO.ite ?_ ?_)
   | (with_reducible refine LeO.bind ?_ (fun _ => ?_))
   | exact ih0 _ _ _ _ _
   | exact ih1 _ _ _ _
   | exact LeO.none _
   | refine LeO.ite ?_ ?_
   | refine LeO.bind ?_ (fun _ => ?_)
theorem flat_place_51.mono : ∀ a0 k, LeO (flat_place_51.f k a0) (flat_place_51.f (k + 1) a0) := by
 intro a0 k
 obtain ⟨ih0, ih1⟩ := flat_place_51.mono_l k
 unfold flat_place_51.f
 repeat' first
   | (with_reducible exact ih0 _ _ _ _ _)
   | (with_reducible exact ih1 _ _ _ _)
   | (with_reducible exact LeO.refl _)
   | (with_reducible exact LeO.none _)
   | (with_reducible refine LeO.ite ?_ ?_)
   | (with_reducible refine LeO.bind ?_ (fun _ => ?_))
   | exact ih0 _ _ _ _ _
   | exact ih1 _ _ _ _
   | exact LeO.none _
   | refine LeO.ite ?_ ?_
   | refine LeO.bind ?_ (fun _ => ?_)
set_option maxHeartbeats 8000000 in
set_option maxRecDepth 100000 in
theorem flat_place_51.calls (k : Nat) (A0 : Option Addr) (c0 : Nat) (l0 : List (List (S78))) (r : List (S78)) (w : World) (hr0 : Kd.C (Kd.slice 78 k78) w A0 l0.length l0) (hc0 : l0.length ≤ c0) (h : flat_place_51.f k l0 = some r) :
  Calls Try.prog 51 #[.slice A0 l0.length c0] w fun e w' => ∃ v0_ : Value, e = .returned (v0_) ∧ Kd.R k78 78 w' w.heap.size (fun _ => True) v0_ r ∧ Below w.heap.size w w' := by
 have HR0 := amk hr0
 have HC0 := amk hc0
 clear hr0 hc0
 have HB := amk (Below.refl w.heap.size w)
 have H : (flat_place_51.l0 k l0 0 l0 (l0.length : Int) 0) = some r := h
 clear h
 have H' := amk H
 clear H
 go_enter Try.func51, Try.ntmps51
 go_wp2
 go_loopg [3, 11] k (fun kq v3 v11 w' => ∃ (x3_1 : Int) (x11_1 : Int), v3 = .int .i64 x3_1 ∧ v11 = .int .i64 x11_1 ∧ Aside0 (flat_place_51.l0 kq l0 x3_1 l0 (l0.length : Int) x11_1 = some r) ∧ Aside0 (kq ≤ k) ∧ Aside0 (Below w.heap.size w w'))
 case atStart => exact ⟨(0), (0), (by first | rfl | (simp; done) | (simp [*]; done)), (by first | rfl | (simp; done) | (simp [*]; done)), H', ⟨Nat.le_refl _⟩, ⟨by repeat (first | (with_reducible first | exact HB.out | apply bAl | apply bDN | apply bD1) | exact HB.out)⟩⟩
 case round =>
  clear H'
  obtain ⟨x3_1, x11_1, rfl, rfl, HA, HK1, HB⟩ := hrel
  cases gk with
  | zero => exact absurd HA.out (by simp [flat_place_51.l0])
  | succ k1 =>
   have H := HA.out
   clear HA
   simp only [flat_place_51.l0] at H
   by_cases c2 : x11_1 < (l0.length : Int)
   ·rw [if_pos c2] at H
    have c2b0 : decide (x11_1 < (l0.length : Int)) = true := decide_eq_true c2
    clear c2
    by_cases c3 : 0 ≤ x11_1
    ·rw [if_pos c3] at H
     have c3b0 : decide (0 ≤ x11_1) = true := decide_eq_true c3
     clear c3
     by_cases c4 : x11_1 < (l0.length : Int)
     ·rw [if_pos c4] at H
      have c4b0 : decide (x11_1 < (l0.length : Int)) = true := decide_eq_true c4
      clear c4
      by_cases c5 : (wrap64 (x3_1 + ((rd_L4 l0 x11_1).length : Int))) < 0
      ·rw [if_pos c5] at H
       exact absurd H (by simp)
      ·rw [if_neg c5] at H
       have c5b0 : decide ((wrap64 (x3_1 + ((rd_L4 l0 x11_1).length : Int))) < 0) = false := decide_eq_false c5
       clear c5
       have H' := amk H
       clear H
       have p161 : 0 ≤ (x11_1 : Int) := of_decide_eq_true (by first | (with_reducible assumption) | assumption)
       have q161 : x11_1 < (l0.length : Int) := of_decide_eq_true (by first | (with_reducible assumption) | assumption)
       obtain ⟨ad161, A161_0, c161_0, e161, hx161_0, hl161_0, hi161_0⟩ := at_L4 HR0.out x11_1 p161 q161
       cases e161
       replace hx161_0 := (HB.out.cell (cLt w _ hx161_0)).trans hx161_0
       have HR161_0 := amk hi161_0
       have HC161_0 := amk hl161_0
       clear hi161_0 hl161_0
       replace p161 := eq_true p161
       replace q161 := eq_true q161
       go_wp2
       go_roundg k1
       case measure => have := HK1.out; omega
       case rel => exact ⟨(wrap64 (x3_1 + ((rd_L4 l0 x11_1).length : Int))), (wrap64 (x11_1 + 1)), (by first | rfl | (simp; done) | (simp [*]; done)), (by first | rfl | (simp; done) | (simp [*]; done)), H', ⟨by have := HK1.out; omega⟩, ⟨by repeat (first | (with_reducible first | exact HB.out | apply bAl | apply bDN | apply bD1) | exact HB.out)⟩⟩
     ·rw [if_neg c4] at H
      exact absurd H (by simp)
    ·rw [if_neg c3] at H
     exact absurd H (by simp)
   ·rw [if_neg c2] at H
    have c2b0 : decide (x11_1 < (l0.length : Int)) = false := decide_eq_false c2
    clear c2
    replace H := Option.bind_eq_some_iff.mp H
    obtain ⟨t162, A60, H⟩ := H
    replace H : (flat_place_51.l1 k1 t162 l0 (l0.length : Int) 0) = some r := H
    have A6 := amk A60
    clear A60
    have H' := amk H
    clear H
    go_wp2_with (first | ((with_reducible refine gate_callee (f := 61) rfl ?_); refine goesL_ (some 24) rfl rfl Try.func61 (by kernel_rfl) rfl #[.slice none 0 0, .int .i64 x3_1] rfl (by (try simp only [List.map_toArray, List.map_cons, List.map_nil]); first | done | rfl | (simp only [List.length_drop, List.length_take]; rfl)) ?_; (with_reducible refine (flat_place_61.calls  x3_1 t162 _ A6.out).mono ?_); rintro e w7 ⟨v163, rfl, ho0, hb⟩; refine ⟨_, rfl, ?_⟩; have n0_ := amk (Kd.R_lower ho0 (below_size (by repeat (first | (with_reducible first | exact HB.out | apply bAl | apply bDN | apply bD1) | exact HB.out)))); have n1_ := amk (below_step (by repeat (first | (with_reducible first | exact HB.out | apply bAl | apply bDN | apply bD1) | exact HB.out)) hb); clear HB; have HO164 := n0_; have HB := n1_; clear n0_ n1_; (try clear hb); (try clear hb2); (try clear hk); (try clear hi); (try clear ho0)))
    go_loopg [6, 27] k1 (fun kq v6 v27 w' => ∃ (x6_2 : List (S78)) (x27_2 : Int), v27 = .int .i64 x27_2 ∧ Aside0 (flat_place_51.l1 kq x6_2 l0 (l0.length : Int) x27_2 = some r) ∧ Aside0 (kq ≤ k1) ∧ Aside0 (Kd.R k78 78 w' w.heap.size (fun _ => True) v6 x6_2) ∧ Aside0 (Below w.heap.size w w'))
    case atStart => exact ⟨(t162), (0), (by first | rfl | (simp; done) | (simp [*]; done)), H', ⟨Nat.le_refl _⟩, ⟨by (with_reducible repeat (first | apply Kd.R_alloc | apply Kd.R_drewN | apply Kd.R_drew)); exact HO164.out⟩, ⟨by repeat (first | (with_reducible first | exact HB.out | apply bAl | apply bDN | apply bD1) | exact HB.out)⟩⟩
    case round =>
     clear H'
     try clear c1
     try clear p1
     try clear q1
     try clear hx1
     try clear c2
     try clear c2b0
     try clear p2
     try clear c3
     try clear c3b0
     try clear c4
     try clear c4b0
     try clear c5
     try clear c5b0
     try clear c6
     try clear p6
     try clear hx161_0
     try clear p161
     try clear q161
     obtain ⟨x6_2, x27_2, rfl, HA, HK2, HO_6, HB⟩ := hrel
     cases gk with
     | zero => exact absurd HA.out (by simp [flat_place_51.l1])
     | succ k2 =>
      have H := HA.out
      clear HA
      simp only [flat_place_51.l1] at H
      by_cases c8 : x27_2 < (l0.length : Int)
      ·rw [if_pos c8] at H
       have c8b0 : decide (x27_2 < (l0.length : Int)) = true := decide_eq_true c8
       clear c8
       by_cases c9 : 0 ≤ x27_2
       ·rw [if_pos c9] at H
        have c9b0 : decide (0 ≤ x27_2) = true := decide_eq_true c9
        clear c9
        by_cases c10 : x27_2 < (l0.length : Int)
        ·rw [if_pos c10] at H
         have c10b0 : decide (x27_2 < (l0.length : Int)) = true := decide_eq_true c10
         clear c10
         by_cases c11 : x6_2.length + (rd_L4 l0 x27_2).length < 5864062014805
         ·rw [if_pos c11] at H
          have LMc11 := amk c11
          clear c11
          obtain ⟨y166, hy166⟩ : ∃ y_ : List (S78), y_ = (x6_2 ++ (rd_L4 l0 x27_2)) := ⟨_, rfl⟩
          replace H : (flat_place_51.l1 k2 y166 l0 (l0.length : Int) (wrap64 (x27_2 + 1))) = some r := by first | (rw [hy166]; with_reducible exact H) | (have H2_ := (Option.bind_some _ _).symm.trans H; rw [hy166]; with_reducible exact H2_) | (have H2_ := (Option.bind_some _ _).symm.trans H; with_reducible exact H2_) | with_reducible exact H | (rw [hy166]; exact H) | exact H
          have Ny166 := amk hy166
          clear hy166
          have H' := amk H
          clear H
          have p165 : 0 ≤ (x27_2 : Int) := of_decide_eq_true (by first | (with_reducible assumption) | assumption)
          have q165 : x27_2 < (l0.length : Int) := of_decide_eq_true (by first | (with_reducible assumption) | assumption)
          obtain ⟨ad165, A165_0, c165_0, e165, hx165_0, hl165_0, hi165_0⟩ := at_L4 HR0.out x27_2 p165 q165
          cases e165
          replace hx165_0 := (HB.out.cell (cLt w _ hx165_0)).trans hx165_0
          have HR165_0 := amk hi165_0
          have HC165_0 := amk hl165_0
          clear hi165_0 hl165_0
          replace p165 := eq_true p165
          replace q165 := eq_true q165
          go_wp2_with (first | ((with_reducible refine gate_builtin (b := .append) (xs := #[.tmp 31, .tmp 32]) rfl ?_); at_builtin; refine Kd.R_append_rows k78 (w0 := w) w.heap.size rfl (.tmp 31) (.tmp 32) 72 78 (.agg #[(.int .i64 0), (.int .i64 0), (.bool false)]) 24 rfl Try.underlying72 info78 rfl (by decide) (by omega) u6 x6_2 (rd_L4 l0 x27_2) _ _ _ (fun _ => True) (fun _ => False) rfl rfl ?aO ?aR (fun _ _ h => h) (fun _ h => h.elim) ?aF ?aB ?aS ?aL ?_; (case aR => repeat (first | exact (Kd.C_below HR165_0.out HB.out) | (with_reducible refine Kd.C_alloc ?_ _) | (with_reducible refine Kd.C_drewN ?_ _) | (with_reducible refine Kd.C_drew ?_))); (case aB => exact (by repeat (first | (with_reducible first | exact HB.out | apply bAl | apply bDN | apply bD1) | exact HB.out))); (case aF => exact (fun _ _ => trivial)); (case aO => exact (by (with_reducible repeat (first | apply Kd.R_alloc | apply Kd.R_drewN | apply Kd.R_drew)); exact HO_6.out)); (case aS => exact (below_size (by repeat (first | (with_reducible first | exact HB.out | apply bAl | apply bDN | apply bD1) | exact HB.out)))); (case aL => have := LMc11.out; omega); intro v167 w12 ho hb hg hat; rw [← Ny166.out] at ho; have n0_ := amk (hb); have n1_ := amk (ho); clear HB; clear HO_6; have HB := n0_; have HO168 := n1_; clear n0_ n1_; clear ho hb hg hat))
          go_roundg k2
          case measure => have := HK1.out; have := HK2.out; omega
          case rel => exact ⟨(y166), (wrap64 (x27_2 + 1)), (by first | rfl | (simp; done) | (simp [*]; done)), H', ⟨by have := HK1.out; have := HK2.out; omega⟩, ⟨by (with_reducible repeat (first | apply Kd.R_alloc | apply Kd.R_drewN | apply Kd.R_drew)); exact HO168.out⟩, ⟨by repeat (first | (with_reducible first | exact HB.out | apply bAl | apply bDN | apply bD1) | exact HB.out)⟩⟩
         ·rw [if_neg c11] at H
          exact absurd H (by simp)
        ·rw [if_neg c10] at H
         exact absurd H (by simp)
       ·rw [if_neg c9] at H
        exact absurd H (by simp)
      ·rw [if_neg c8] at H
       have c8b0 : decide (x27_2 < (l0.length : Int)) = false := decide_eq_false c8
       clear c8
       obtain rfl := Option.some.inj H
       go_wp2
       go_ret
       exact ⟨_, by first | rfl | (simp [errW_none, errW_some] <;> rfl) | (simp [*, errW_none, errW_some] <;> rfl), by (with_reducible repeat (first | apply Kd.R_alloc | apply Kd.R_drewN | apply Kd.R_drew)); exact HO_6.out, by repeat (first | (with_reducible first | exact HB.out | apply bAl | apply bDN | apply bD1) | exact HB.out)⟩

end Go.Proofs.Ytjmflccbddjlhaa.PFm
