-- WRITTEN BY A PROGRAM OF THIS SESSION (wip/xprint) out of the translation. Not trusted: Lean checks it.
import Derived.Test.YtenlimmgbgcgpaaPAnx0
import Derived.Test.YtenlimmgbgcgpaaPAnx1
namespace Go.Proofs.Ytenlimmgbgcgpaa.PAn
open Go.RowKit Go.Proofs.YtenlimmgbgcgpaaW.PrintWords Go.Proofs.YtenlimmgbgcgpaaW.PrintLast Go.Proofs.YtenlimmgbgcgpaaW.PrintMore
attribute [local go_sem] max2_int min2_int max_two min_two max_three min_three max_four min_four   -- for this text's walks alone
set_option linter.unusedVariables false
set_option linter.unusedSimpArgs false

/-! ### sfnt_Open: function 20 -/
def sfnt_Open.l0 : Nat → List Int → Int → Int → List (ByteArray × List Int) → Option (List S135 × Int)
  | 0, _, _, _, _ => none
  | k + 1, l0, n, i, x => if i < n then
      (if 0 ≤ wrap64 (12 + wrap64 (i * 16)) then (if wrap64 (12 + wrap64 (i * 16)) ≤ wrap64 (wrap64 (12 + wrap64 (i * 16)) + 4) then (if wrap64 (wrap64 (12 + wrap64 (i * 16)) + 4) ≤ (l0.length : Int) then
        ((peek_U32.f k l0 (wrap64 (wrap64 (12 + wrap64 (i * 16)) + 8))).bind fun o => (peek_U32.f k l0 (wrap64 (wrap64 (12 + wrap64 (i * 16)) + 12))).bind fun s => (peek_Part.f l0 o.1 s.1).bind fun p =>
          (slices_Contains_string_string.f k (x.map (·.1)) (strOfNums ((l0.take (wrap64 (wrap64 (12 + wrap64 (i * 16)) + 4)).toNat).drop (wrap64 (12 + wrap64 (i * 16))).toNat))).bind fun c =>
            (if c = true then some ([], 2) else if p.2 = true then
              (if x.length < 1000000 ∧ (strOfNums ((l0.take (wrap64 (wrap64 (12 + wrap64 (i * 16)) + 4)).toNat).drop (wrap64 (12 + wrap64 (i * 16))).toNat)).size ≤ 9223372036854775807 ∧ ∀ p ∈ x, p.1.toList ≠ (strOfNums ((l0.take (wrap64 (wrap64 (12 + wrap64 (i * 16)) + 4)).toNat).drop (wrap64 (12 + wrap64 (i * 16))).toNat)).toList then
                sfnt_Open.l0 k l0 n (wrap64 (i + 1)) (x ++ [(strOfNums ((l0.take (wrap64 (wrap64 (12 + wrap64 (i * 16)) + 4)).toNat).drop (wrap64 (12 + wrap64 (i * 16))).toNat), p.1)]) else none)
              else some ([], 3)))
        else none) else none) else none)
      else some ([⟨x⟩], 0)
def sfnt_Open.f (k : Nat) (l0 : List Int) : Option (List S135 × Int) :=
  (peek_U16.f k l0 4).bind fun n => if (l0.length : Int) < 12 then some ([], 3) else (sfnt_versioned.f k l0).bind fun b =>
    if b = true then (if n.1 > 64 then some ([], 4) else if (l0.length : Int) < wrap64 (12 + wrap64 (n.1 * 16)) then some ([], 3) else sfnt_Open.l0 k l0 n.1 0 []) else some ([], 2)
theorem sfnt_Open.mono_l : ∀ k y0 y1 y2 y3, LeO (sfnt_Open.l0 k y0 y1 y2 y3) (sfnt_Open.l0 (k + 1) y0 y1 y2 y3)
  | 0, _, _, _, _ => fun r h => by simp [sfnt_Open.l0] at h
  | k + 1, y0, y1, y2, y3 => by
    have ih0 := sfnt_Open.mono_l k
    rw [sfnt_Open.l0, sfnt_Open.l0]
    repeat' first
      | (with_reducible exact ih0 _ _ _ _)
      | (with_reducible exact peek_U32.mono _ _ _)
      | (with_reducible exact slices_Contains_string_string.mono _ _ _)
      | (with_reducible exact LeO.refl _)
      | (with_reducible exact LeO.none _)
      | (with_reducible refine LeO.ite ?_ ?_)
      | (with_reducible refine LeO.bind ?_ (fun _ => ?_))
theorem sfnt_Open.mono : ∀ a0 k, LeO (sfnt_Open.f k a0) (sfnt_Open.f (k + 1) a0) := by
  intro a0 k
  unfold sfnt_Open.f
  repeat' first
      | (with_reducible exact sfnt_Open.mono_l _ _ _ _ _)
      | (with_reducible exact peek_U16.mono _ _ _)
      | (with_reducible exact sfnt_versioned.mono _ _)
      | (with_reducible exact LeO.refl _)
      | (with_reducible exact LeO.none _)
      | (with_reducible refine LeO.ite ?_ ?_)
      | (with_reducible refine LeO.bind ?_ (fun _ => ?_))
set_option maxHeartbeats 8000000 in
set_option maxRecDepth 100000 in
theorem sfnt_Open.calls (k : Nat) (A0 : Option Addr) (c0 : Nat) (l0 : List Int) (r1 : List S135) (r2 : Int) (w : World) (hr0 : Kd.C (Kd.int .u8) w A0 l0.length l0) (hc0 : l0.length ≤ c0) (h : sfnt_Open.f k l0 = some (r1, r2)) :
    Calls Try.prog 20 #[.slice A0 l0.length c0] w fun e w' => ∃ v0_ : Value, e = .returned (.tuple #[.pointer (hq r1 v0_), .int .i64 r2]) ∧ Kd.V k135 135 w' w.heap.size (fun k_ => w.heap.size ≤ k_) v0_ r1 ∧ Below w.heap.size w w' := by
  have hu135 := Try.underlying135
  have hmm := @run_makeMap Try.prog
  have HR0 := Aside0.mk hr0
  have HC0 := Aside0.mk hc0
  clear hr0 hc0
  have HB := Aside0.mk (Below.refl w.heap.size w)
  replace h := Option.bind_eq_some_iff.mp h
  obtain ⟨⟨n, nb⟩, A1, H⟩ := h
  replace A1 := Aside0.mk A1
  by_cases c1 : (l0.length : Int) < 12
  · rw [if_pos c1] at H
    have c1b0 : decide ((l0.length : Int) < 12) = true := decide_eq_true c1
    simp only [Option.some.injEq, Prod.mk.injEq] at H
    obtain ⟨rfl, rfl⟩ := H
    go_enter Try.func20, Try.ntmps20
    go_wp2_with (first | (go_at_call 64; refine (peek_U16.calls k _ _ l0 4 n nb _ ?s1 ?s2 A1.out).mono ?_; (case s1 => exact HR0.out); (case s2 => exact HC0.out); rintro e w' ⟨rfl, ⟨nd, rfl⟩⟩))
    go_ret2
    exact ⟨(.slice none 0 0), rfl, Kd.V_nil _ _ _ _ _, pw_below_drewN HB.out _⟩
  · rw [if_neg c1] at H
    have c1b0 : decide ((l0.length : Int) < 12) = false := decide_eq_false c1
    replace H := Option.bind_eq_some_iff.mp H
    obtain ⟨b, A2, H⟩ := H
    replace A2 := Aside0.mk A2
    cases b with
    | false =>
      simp only [Bool.false_eq_true, if_false, Option.some.injEq, Prod.mk.injEq] at H
      obtain ⟨rfl, rfl⟩ := H
      go_enter Try.func20, Try.ntmps20
      go_wp2_with (first | (go_at_call 64; refine (peek_U16.calls k _ _ l0 4 n nb _ ?s1 ?s2 A1.out).mono ?_; (case s1 => exact HR0.out); (case s2 => exact HC0.out); rintro e w' ⟨rfl, ⟨nd, rfl⟩⟩) | (go_at_call 65; refine (sfnt_versioned.calls k _ _ l0 false _ ?s1 ?s2 A2.out).mono ?_; (case s1 => exact Kd.C_drewN HR0.out _); (case s2 => exact HC0.out); rintro e w' ⟨rfl, hb⟩))
      go_ret2
      exact ⟨(.slice none 0 0), rfl, Kd.V_nil _ _ _ _ _, below_step (pw_below_drewN HB.out _) hb⟩
    | true =>
      simp only [if_true] at H
      by_cases c2 : n > 64
      · rw [if_pos c2] at H
        have c2b0 : decide (64 < n) = true := decide_eq_true c2
        simp only [Option.some.injEq, Prod.mk.injEq] at H
        obtain ⟨rfl, rfl⟩ := H
        go_enter Try.func20, Try.ntmps20
        go_wp2_with (first | (go_at_call 64; refine (peek_U16.calls k _ _ l0 4 n nb _ ?s1 ?s2 A1.out).mono ?_; (case s1 => exact HR0.out); (case s2 => exact HC0.out); rintro e w' ⟨rfl, ⟨nd, rfl⟩⟩) | (go_at_call 65; refine (sfnt_versioned.calls k _ _ l0 true _ ?s1 ?s2 A2.out).mono ?_; (case s1 => exact Kd.C_drewN HR0.out _); (case s2 => exact HC0.out); rintro e w' ⟨rfl, hb⟩))
        go_ret2
        exact ⟨(.slice none 0 0), rfl, Kd.V_nil _ _ _ _ _, below_step (pw_below_drewN HB.out _) hb⟩
      · rw [if_neg c2] at H
        have c2b0 : decide (64 < n) = false := decide_eq_false c2
        by_cases c3 : (l0.length : Int) < wrap64 (12 + wrap64 (n * 16))
        · rw [if_pos c3] at H
          have c3b0 : decide ((l0.length : Int) < wrap64 (12 + wrap64 (n * 16))) = true := decide_eq_true c3
          simp only [Option.some.injEq, Prod.mk.injEq] at H
          obtain ⟨rfl, rfl⟩ := H
          go_enter Try.func20, Try.ntmps20
          go_wp2_with (first | (go_at_call 64; refine (peek_U16.calls k _ _ l0 4 n nb _ ?s1 ?s2 A1.out).mono ?_; (case s1 => exact HR0.out); (case s2 => exact HC0.out); rintro e w' ⟨rfl, ⟨nd, rfl⟩⟩) | (go_at_call 65; refine (sfnt_versioned.calls k _ _ l0 true _ ?s1 ?s2 A2.out).mono ?_; (case s1 => exact Kd.C_drewN HR0.out _); (case s2 => exact HC0.out); rintro e w' ⟨rfl, hb⟩))
          go_ret2
          exact ⟨(.slice none 0 0), rfl, Kd.V_nil _ _ _ _ _, below_step (pw_below_drewN HB.out _) hb⟩
        · rw [if_neg c3] at H
          have c3b0 : decide ((l0.length : Int) < wrap64 (12 + wrap64 (n * 16))) = false := decide_eq_false c3
          replace H := Aside0.mk H
          go_enter Try.func20, Try.ntmps20
          go_wp2_with (first | (go_at_call 64; refine (peek_U16.calls k _ _ l0 4 n nb _ ?s1 ?s2 A1.out).mono ?_; (case s1 => exact HR0.out); (case s2 => exact HC0.out); rintro e w' ⟨rfl, ⟨nd, rfl⟩⟩) | (go_at_call 65; refine (sfnt_versioned.calls k _ _ l0 true _ ?s1 ?s2 A2.out).mono ?_; (case s1 => exact Kd.C_drewN HR0.out _); (case s2 => exact HC0.out); rintro e w1 ⟨rfl, hb⟩) | ((with_reducible refine gate_dst (N := 41) rfl ?_); refine box_event ?hg (N := 41) ?hd (cs := #[.slice none 0 0, .map (some w1.heap.size)]) (t := 135) ?hr ?_; (case hd => rfl); (case hg => rfl); (case hr => first | (go_simp; done) | (go_simp; rfl)); intro gb hgb wb hbox hb3; have HB1 := Aside0.mk (below_step (pw_below_drewN HB.out nd) hb); have GE := Aside0.mk (show w.heap.size ≤ gb by rw [hgb]; exact (below_alloc HB1.out _).size); have HST := Aside0.mk (show FontSt 135 5 9 w wb gb w1.heap.size (.slice none 0 0) [] [] from ⟨hbox, MapAt_below (MapAt_new w1) hb3, TabsAt_nil _ _ _, Kd.R_nil _ _ _ _ _, below_step (below_alloc HB1.out _) hb3⟩); have GM := Aside0.mk HB1.out.size; clear hgb hbox hb3 hb HB1))
          generalize w1.heap.size = gm at HST GM ⊢
          clear c1 c1b0 c2 c2b0 c3 c3b0
          go_loopg [43] k (fun kq v43 wr => ∃ (i : Int) (u : Value) (m : List (ByteArray × Value)) (x : List (ByteArray × List Int)), v43 = .int .i64 i ∧ Aside0 (sfnt_Open.l0 kq l0 n i x = some (r1, r2)) ∧ Aside0 (kq ≤ k) ∧ Aside0 (FontSt 135 5 9 w wr gb gm u m x))
          case atStart => exact ⟨0, _, [], [], rfl, H, ⟨Nat.le_refl _⟩, HST⟩
          case round =>
            obtain ⟨i, u, m, x, rfl, HA, HK, HS⟩ := hrel
            obtain ⟨Au, cu, hu⟩ := Kd.R_slice HS.out.2.2.2.1
            obtain ⟨tg, htg⟩ : ∃ tg, tg = x.map (·.1) := ⟨_, rfl⟩
            rw [← htg] at hu
            subst hu
            have HBr := Aside0.mk HS.out.2.2.2.2
            clear H HST
            cases gk with
            | zero => exact absurd HA.out (by simp [sfnt_Open.l0])
            | succ k2 =>
              have H := HA.out
              clear HA
              simp only [sfnt_Open.l0] at H
              rw [← htg] at H
              replace htg := Aside0.mk htg
              by_cases c4 : i < n
              · rw [if_pos c4] at H
                have c4b0 : decide (i < n) = true := decide_eq_true c4
                obtain ⟨at_, hat⟩ : ∃ a, wrap64 (12 + wrap64 (i * 16)) = a := ⟨_, rfl⟩
                rw [hat] at H
                have hatw : (IntKind.i64.wrap (12 + wrap64 (i * 16))) = at_ := (i64_w _).trans hat
                by_cases d0 : 0 ≤ at_
                case neg => rw [if_neg d0] at H; exact absurd H (by simp)
                rw [if_pos d0] at H
                have d0b0 := eq_true d0
                have d0b1 : decide (0 ≤ at_) = true := decide_eq_true d0
                by_cases d1 : at_ ≤ wrap64 (at_ + 4)
                case neg => rw [if_neg d1] at H; exact absurd H (by simp)
                rw [if_pos d1] at H
                have d1b0 := eq_true d1
                have d1b1 : decide (at_ ≤ wrap64 (at_ + 4)) = true := decide_eq_true d1
                by_cases d2 : wrap64 (at_ + 4) ≤ (l0.length : Int)
                case neg => rw [if_neg d2] at H; exact absurd H (by simp)
                rw [if_pos d2] at H
                have d2b0 := eq_true d2
                have d2b1 : decide (wrap64 (at_ + 4) ≤ (l0.length : Int)) = true := decide_eq_true d2
                obtain ⟨i0, hi0, _, hsz, _⟩ := info_parts info5
                obtain ⟨A2, hcut, hA, hC⟩ := print_mid_of (P := Try.prog) (Value.int .u8) 0 24 5 .i64 .i64 Try.underlying24 hi0 hsz A0 c0 l0 at_ (wrap64 (at_ + 4)) d0 d1 d2 HC0.out
                have HR1 := Kd.C_of_reads (h1 := fun _ => rfl) (hA _ (Kd.reads_of_C HR0.out))
                generalize ((l0.take (wrap64 (at_ + 4)).toNat).drop at_.toNat) = ys at H hcut HR1
                clear hA hC
                have hcv := Kd.C_string (P := Try.prog) (A := A2) (c := c0 - at_.toNat) Try.underlying24 Try.underlying5 Try.underlying9 (Kd.C_below HR1 HBr.out)
                generalize strOfNums ys = tag at H hcv
                replace H := Option.bind_eq_some_iff.mp H
                obtain ⟨⟨o, ob⟩, B1, H⟩ := H
                replace H := Option.bind_eq_some_iff.mp H
                obtain ⟨⟨s, sb⟩, B2, H⟩ := H
                replace H := Option.bind_eq_some_iff.mp H
                obtain ⟨⟨pl, pb⟩, B3, H⟩ := H
                replace H := Option.bind_eq_some_iff.mp H
                obtain ⟨cb, B4, H⟩ := H
                replace B1 := Aside0.mk B1
                replace B2 := Aside0.mk B2
                replace B3 := Aside0.mk B3
                replace B4 := Aside0.mk B4
                cases cb with
                | true =>
                  simp only [if_true, Option.some.injEq, Prod.mk.injEq] at H
                  obtain ⟨rfl, rfl⟩ := H
                  go_wp2_with (first | (go_at_call 66; (with_reducible refine (peek_U32.calls k2 _ _ l0 (wrap64 (at_ + 8)) o ob _ ?s1 ?s2 B1.out).mono ?_); (case s1 => exact Kd.C_below HR0.out HBr.out); (case s2 => exact HC0.out); rintro e w' ⟨rfl, ⟨nd1, rfl⟩⟩) | (go_at_call 66; (with_reducible refine (peek_U32.calls k2 _ _ l0 (wrap64 (at_ + 12)) s sb _ ?s1 ?s2 B2.out).mono ?_); (case s1 => exact Kd.C_drewN (Kd.C_below HR0.out HBr.out) _); (case s2 => exact HC0.out); rintro e w' ⟨rfl, ⟨nd2, rfl⟩⟩) | (go_at_call 67; (with_reducible refine (peek_Part.calls _ _ l0 o s pl pb _ ?s1 ?s2 B3.out).mono ?_); (case s1 => exact Kd.C_drewN (Kd.C_below HR0.out HBr.out) _); (case s2 => exact HC0.out); rintro e wp ⟨vp, rfl, hrp, hbp⟩; have HB4 := Aside0.mk (below_step (pw_below_drewN (Below.refl wr.heap.size wr) _) hbp); have HS2 := Aside0.mk (FontSt_below HS.out HB4.out); have hz0 : wp.cell? ⟨gb, 0, none⟩ = some (.slice Au tg.length cu) := (blk_cell HS2.out.1 0).trans rfl; have HC9 := Aside0.mk (show tg.length = tg.length ∧ tg.length ≤ cu ∧ Kd.C Kd.string wp Au tg.length tg from by have h_ := HS2.out.2.2.2.1; rw [← htg.out] at h_; exact Kd.R_reads' h_)) | (go_at_call 61; (with_reducible refine (slices_Contains_string_string.calls k2 _ _ tg tag true _ ?s1 ?s2 B4.out).mono ?_); (case s1 => exact HC9.out.2.2); (case s2 => exact HC9.out.2.1); rintro e w' ⟨rfl, ⟨nd3, rfl⟩⟩))
                  go_ret2
                  exact ⟨(.slice none 0 0), rfl, Kd.V_nil _ _ _ _ _, pw_below_drewN HS2.out.2.2.2.2 _⟩
                | false =>
                  simp only [Bool.false_eq_true, if_false] at H
                  cases pb with
                  | false =>
                    simp only [Bool.false_eq_true, if_false, Option.some.injEq, Prod.mk.injEq] at H
                    obtain ⟨rfl, rfl⟩ := H
                    go_wp2_with (first | (go_at_call 66; (with_reducible refine (peek_U32.calls k2 _ _ l0 (wrap64 (at_ + 8)) o ob _ ?s1 ?s2 B1.out).mono ?_); (case s1 => exact Kd.C_below HR0.out HBr.out); (case s2 => exact HC0.out); rintro e w' ⟨rfl, ⟨nd1, rfl⟩⟩) | (go_at_call 66; (with_reducible refine (peek_U32.calls k2 _ _ l0 (wrap64 (at_ + 12)) s sb _ ?s1 ?s2 B2.out).mono ?_); (case s1 => exact Kd.C_drewN (Kd.C_below HR0.out HBr.out) _); (case s2 => exact HC0.out); rintro e w' ⟨rfl, ⟨nd2, rfl⟩⟩) | (go_at_call 67; (with_reducible refine (peek_Part.calls _ _ l0 o s pl false _ ?s1 ?s2 B3.out).mono ?_); (case s1 => exact Kd.C_drewN (Kd.C_below HR0.out HBr.out) _); (case s2 => exact HC0.out); rintro e wp ⟨vp, rfl, hrp, hbp⟩; have HB4 := Aside0.mk (below_step (pw_below_drewN (Below.refl wr.heap.size wr) _) hbp); have HS2 := Aside0.mk (FontSt_below HS.out HB4.out); have hz0 : wp.cell? ⟨gb, 0, none⟩ = some (.slice Au tg.length cu) := (blk_cell HS2.out.1 0).trans rfl; have HC9 := Aside0.mk (show tg.length = tg.length ∧ tg.length ≤ cu ∧ Kd.C Kd.string wp Au tg.length tg from by have h_ := HS2.out.2.2.2.1; rw [← htg.out] at h_; exact Kd.R_reads' h_)) | (go_at_call 61; (with_reducible refine (slices_Contains_string_string.calls k2 _ _ tg tag false _ ?s1 ?s2 B4.out).mono ?_); (case s1 => exact HC9.out.2.2); (case s2 => exact HC9.out.2.1); rintro e w' ⟨rfl, ⟨nd3, rfl⟩⟩))
                    go_ret2
                    exact ⟨(.slice none 0 0), rfl, Kd.V_nil _ _ _ _ _, pw_below_drewN HS2.out.2.2.2.2 _⟩
                  | true =>
                    simp only [if_true] at H
                    by_cases d4 : (x.length < 1000000 ∧ tag.size ≤ 9223372036854775807 ∧ ∀ p ∈ x, p.1.toList ≠ tag.toList)
                    case neg => rw [if_neg d4] at H; exact absurd H (by simp)
                    rw [if_pos d4] at H
                    replace H := Aside0.mk H
                    have HL := Aside0.mk d4.1
                    have HSZ : Aside0 (tag.size ≤ maxLen) := ⟨d4.2.1⟩
                    have HML : Aside0 (m.length < maxLen) := ⟨by have := HS.out.2.2.1.1; have := HL.out; unfold maxLen; omega⟩
                    have HNEW : Aside0 (∀ p ∈ m, p.1 ≠ tag) := ⟨fun p hp he => by obtain ⟨q, hq, hqe⟩ := List.mem_map.1 (TabsAt_keys HS.out.2.2.1 p hp); exact d4.2.2 q hq (by rw [hqe, he])⟩
                    clear d4
                    go_wp2_with (first | (go_at_call 66; (with_reducible refine (peek_U32.calls k2 _ _ l0 (wrap64 (at_ + 8)) o ob _ ?s1 ?s2 B1.out).mono ?_); (case s1 => exact Kd.C_below HR0.out HBr.out); (case s2 => exact HC0.out); rintro e w' ⟨rfl, ⟨nd1, rfl⟩⟩) | (go_at_call 66; (with_reducible refine (peek_U32.calls k2 _ _ l0 (wrap64 (at_ + 12)) s sb _ ?s1 ?s2 B2.out).mono ?_); (case s1 => exact Kd.C_drewN (Kd.C_below HR0.out HBr.out) _); (case s2 => exact HC0.out); rintro e w' ⟨rfl, ⟨nd2, rfl⟩⟩) | (go_at_call 67; (with_reducible refine (peek_Part.calls _ _ l0 o s pl true _ ?s1 ?s2 B3.out).mono ?_); (case s1 => exact Kd.C_drewN (Kd.C_below HR0.out HBr.out) _); (case s2 => exact HC0.out); rintro e wp ⟨vp, rfl, hrp, hbp⟩; have HB4 := Aside0.mk (below_step (pw_below_drewN (Below.refl wr.heap.size wr) _) hbp); have HS2 := Aside0.mk (FontSt_below HS.out HB4.out); have hz0 : wp.cell? ⟨gb, 0, none⟩ = some (.slice Au tg.length cu) := (blk_cell HS2.out.1 0).trans rfl; have HC9 := Aside0.mk (show tg.length = tg.length ∧ tg.length ≤ cu ∧ Kd.C Kd.string wp Au tg.length tg from by have h_ := HS2.out.2.2.2.1; rw [← htg.out] at h_; exact Kd.R_reads' h_)) | (go_at_call 61; (with_reducible refine (slices_Contains_string_string.calls k2 _ _ tg tag false _ ?s1 ?s2 B4.out).mono ?_); (case s1 => exact HC9.out.2.2); (case s2 => exact HC9.out.2.1); rintro e w' ⟨rfl, ⟨nd3, rfl⟩⟩))
                    have HS3 := Aside0.mk (FontSt_below HS2.out (below_drew1 (pw_below_drewN (Below.refl wp.heap.size wp) nd3)))
                    have HP : Aside0 (Kd.R (Kd.int .u8) 5 (World.drewN wp nd3).drew w.heap.size (fun _ => True) vp pl) := ⟨Kd.R_drew (Kd.R_drewN (Kd.R_lower hrp (by have := HBr.out.size; simpa using this)) _)⟩
                    have BK := Aside0.mk HS3.out.1
                    have HM := Aside0.mk HS3.out.2.1
                    have HT := Aside0.mk HS3.out.2.2.1
                    have HO := Aside0.mk (show Kd.R Kd.string 9 (World.drewN wp nd3).drew w.heap.size (fun k => w.heap.size ≤ k) (.slice Au tg.length cu) tg from by have h_ := HS3.out.2.2.2.1; rw [← htg.out] at h_; exact h_)
                    replace HB := Aside0.mk HS3.out.2.2.2.2
                    replace HL : Aside0 (tg.length < 1000000) := ⟨by rw [htg.out, List.length_map]; exact HL.out⟩
                    clear hz0 HC9 HS3 HS2 HB4
                    refine start_ (n := 20) (S := fun w' => w'.cell? ⟨gb, 0, none⟩ = some (.slice Au tg.length cu) ∧ w'.cell? ⟨gb, 1, none⟩ = some (.map (some gm))) (ds := [16, 17, 19]) #[false, false, false, false, false, false, false, false, false, false, false, false, false, false, false, false, false, false, false, false] (by kernel_rfl) rfl rfl ⟨(blk_cell BK.out 0).trans rfl, (blk_cell BK.out 1).trans rfl⟩ (fun hHeld => ?_)
                    generalize (World.drewN wp nd3).drew = wd at BK HM HT HO HB HP hHeld ⊢
                    refine pure_ (i := 0) (N := some 86) (v := ?_) (a' := ?_) #[true, false, false, false, false, false, false, false, false, false, false, false, false, false, false, false, false, false, false, false] rfl rfl (by kernel_rfl) (fun _ _ _ h => h) (Or.inl ⟨by rfl, ?_⟩) ?_ ?_
                    rotate_left
                    · intro w'
                      go_simp
                      with_reducible rfl
                    rotate_left
                    · simp only [Act.put, List.setIfInBounds_toArray, List.set_cons_zero, List.set_cons_succ, i64_w, i32_w]
                      rfl
                    refine pure_ (i := 1) (N := some 87) (v := ?_) (a' := ?_) #[true, true, false, false, false, false, false, false, false, false, false, false, false, false, false, false, false, false, false, false] rfl rfl (by kernel_rfl) (fun _ _ _ h => h) (Or.inl ⟨by rfl, ?_⟩) ?_ ?_
                    rotate_left
                    · intro w'
                      go_simp
                      with_reducible rfl
                    rotate_left
                    · simp only [Act.put, List.setIfInBounds_toArray, List.set_cons_zero, List.set_cons_succ, i64_w, i32_w]
                      rfl
                    refine pure_ (i := 2) (N := some 88) (v := ?_) (a' := ?_) #[true, true, true, false, false, false, false, false, false, false, false, false, false, false, false, false, false, false, false, false] rfl rfl (by kernel_rfl) (fun _ _ _ h => h) (Or.inl ⟨by rfl, ?_⟩) ?_ ?_
                    rotate_left
                    · intro w'
                      go_simp
                      with_reducible rfl
                    rotate_left
                    · simp only [Act.put, List.setIfInBounds_toArray, List.set_cons_zero, List.set_cons_succ, i64_w, i32_w]
                      rfl
                    refine pure_ (i := 3) (N := some 89) (v := ?_) (a' := ?_) #[true, true, true, true, false, false, false, false, false, false, false, false, false, false, false, false, false, false, false, false] rfl rfl (by kernel_rfl) (fun _ _ _ h => h) (Or.inl ⟨by rfl, ?_⟩) ?_ ?_
                    rotate_left
                    · intro w'
                      go_simp
                      with_reducible rfl
                    rotate_left
                    · simp only [Act.put, List.setIfInBounds_toArray, List.set_cons_zero, List.set_cons_succ, i64_w, i32_w]
                      rfl
                    refine pure_ (i := 5) (N := some 91) (v := ?_) (a' := ?_) #[true, true, true, true, false, true, false, false, false, false, false, false, false, false, false, false, false, false, false, false] rfl rfl (by kernel_rfl) (fun _ _ _ h => h) (Or.inl ⟨by rfl, ?_⟩) ?_ ?_
                    rotate_left
                    · intro w'
                      go_simp
                      with_reducible rfl
                    rotate_left
                    · simp only [Act.put, List.setIfInBounds_toArray, List.set_cons_zero, List.set_cons_succ, i64_w, i32_w]
                      rfl
                    refine pure_ (i := 6) (N := some 92) (v := ?_) (a' := ?_) #[true, true, true, true, false, true, true, false, false, false, false, false, false, false, false, false, false, false, false, false] rfl rfl (by kernel_rfl) (fun _ _ _ h => h) (Or.inl ⟨by rfl, ?_⟩) ?_ ?_
                    rotate_left
                    · intro w'
                      go_simp
                      with_reducible rfl
                    rotate_left
                    · simp only [Act.put, List.setIfInBounds_toArray, List.set_cons_zero, List.set_cons_succ, i64_w, i32_w]
                      rfl
                    refine pure_ (i := 7) (N := some 93) (v := ?_) (a' := ?_) #[true, true, true, true, false, true, true, true, false, false, false, false, false, false, false, false, false, false, false, false] rfl rfl (by kernel_rfl) (fun _ _ _ h => h) (Or.inl ⟨by rfl, ?_⟩) ?_ ?_
                    rotate_left
                    · intro w'
                      go_simp
                      with_reducible rfl
                    rotate_left
                    · simp only [Act.put, List.setIfInBounds_toArray, List.set_cons_zero, List.set_cons_succ, i64_w, i32_w]
                      rfl
                    refine pure_ (i := 8) (N := some 94) (v := ?_) (a' := ?_) #[true, true, true, true, false, true, true, true, true, false, false, false, false, false, false, false, false, false, false, false] rfl rfl (by kernel_rfl) (fun _ _ _ h => h) (Or.inl ⟨by rfl, ?_⟩) ?_ ?_
                    rotate_left
                    · intro w'
                      go_simp
                      with_reducible rfl
                    rotate_left
                    · simp only [Act.put, List.setIfInBounds_toArray, List.set_cons_zero, List.set_cons_succ, i64_w, i32_w]
                      rfl
                    refine pure_ (i := 10) (N := some 96) (v := ?_) (a' := ?_) #[true, true, true, true, false, true, true, true, true, false, true, false, false, false, false, false, false, false, false, false] rfl rfl (by kernel_rfl) (fun _ _ _ h => h) (Or.inl ⟨by rfl, ?_⟩) ?_ ?_
                    rotate_left
                    · intro w'
                      go_simp
                      with_reducible rfl
                    rotate_left
                    · simp only [Act.put, List.setIfInBounds_toArray, List.set_cons_zero, List.set_cons_succ, i64_w, i32_w]
                      rfl
                    refine pure_ (i := 13) (N := some 99) (v := ?_) (a' := ?_) #[true, true, true, true, false, true, true, true, true, false, true, false, false, true, false, false, false, false, false, false] rfl rfl (by kernel_rfl) (fun _ _ _ h => h) (Or.inl ⟨by rfl, ?_⟩) ?_ ?_
                    rotate_left
                    · intro w'
                      go_simp
                      with_reducible rfl
                    rotate_left
                    · simp only [Act.put, List.setIfInBounds_toArray, List.set_cons_zero, List.set_cons_succ, i64_w, i32_w]
                      rfl
                    refine take_ (i := 4) (N := some 90) (v := ?_) (a' := ?_) #[true, true, true, true, true, true, true, true, true, false, true, false, false, true, false, false, false, false, false, false] rfl rfl (by kernel_rfl) (fun _ _ _ h => h) (Or.inl ⟨by rfl, ?_⟩) hHeld ?_ ?_
                    rotate_left
                    · rintro w' ⟨s0, s1⟩
                      go_simp
                      with_reducible rfl
                    rotate_left
                    · simp only [Act.put, List.setIfInBounds_toArray, List.set_cons_zero, List.set_cons_succ, i64_w, i32_w]
                      rfl
                    refine take_ (i := 9) (N := some 95) (v := ?_) (a' := ?_) #[true, true, true, true, true, true, true, true, true, true, true, false, false, true, false, false, false, false, false, false] rfl rfl (by kernel_rfl) (fun _ _ _ h => h) (Or.inl ⟨by rfl, ?_⟩) hHeld ?_ ?_
                    rotate_left
                    · rintro w' ⟨s0, s1⟩
                      go_simp
                      with_reducible rfl
                    rotate_left
                    · simp only [Act.put, List.setIfInBounds_toArray, List.set_cons_zero, List.set_cons_succ, i64_w, i32_w]
                      rfl
                    refine one_ (i := 11) (N := some 97) #[true, true, true, true, true, true, true, true, true, true, true, true, false, true, false, false, false, false, false, false] rfl rfl (by kernel_rfl) (by decide) (fun K hK => ?_)
                    refine value_ (w1 := ?_) (v := ?_) (by rfl) rfl ?_ ?_
                    rotate_left 2
                    · go_simp
                      constructor
                      · rfl
                      · rfl
                    refine hK.out _ _ ⟨(blk_cell (blk_alloc BK.out _) 0).trans rfl, (blk_cell (blk_alloc BK.out _) 1).trans rfl⟩ (fun hHeld => ?_)
                    clear hK K
                    refine norm_ (a' := ?_) ?_ ?_
                    rotate_left
                    · show Act.put _ (some 97) _ = _
                      simp only [Act.put, List.setIfInBounds_toArray, List.set_cons_zero, List.set_cons_succ, i64_w, i32_w]
                      rfl
                    refine one_ (i := 12) (N := some 98) #[true, true, true, true, true, true, true, true, true, true, true, true, true, true, false, false, false, false, false, false] rfl rfl (by kernel_rfl) (by decide) (fun K hK => ?_)
                    refine Kd.R_append_step Kd.string (w0 := w) w.heap.size (by rfl) (.tmp 95) (.tmp 97) 25 9 (.string ⟨#[]⟩) 16 rfl Try.underlying25 info9 rfl (by decide) (by omega) (.slice Au tg.length cu) tg tag [.string tag] (fun k_ => (w.heap.size ≤ k_)) (fun _ => False) rfl rfl rfl (fun _ hk => hk.elim) (fun k_ hk => Nat.le_trans (below_size (by repeat (first | exact HB.out | apply below_alloc))) hk) (by (with_reducible repeat (first | apply Kd.R_alloc)); exact HO.out) (by repeat (first | exact HB.out | apply below_alloc)) (below_size (by repeat (first | exact HB.out | apply below_alloc))) (by have := HL.out; omega) ?_
                    intro v1 w2 ho hb hg hat
                    have BK2 := Aside0.mk (blk_grown (g := gb) (o := .cells #[.slice Au tg.length cu, .map (some gm)] 135 (0, 0)) BK.out hg (Kd.R_ne HO.out BK.out (by decide)))
                    have HM2 := Aside0.mk (MapAt_grown HM.out hg (R_ne_map HO.out HM.out))
                    have HT2 := Aside0.mk (TabsAt_grown HT.out hg (Kd.R_typed HO.out) (by decide))
                    have HP2 := Aside0.mk (Kd.R_over' HP.out (Kd.R_typed HO.out) (by decide) hg)
                    have HB2 := Aside0.mk hb
                    obtain ⟨tg2, htg2⟩ : ∃ t, t = tg ++ [tag] := ⟨_, rfl⟩
                    rw [← htg2] at ho
                    obtain ⟨A9, c9, e9⟩ := Kd.R_slice ho
                    subst e9
                    have HO2 := Aside0.mk ho
                    replace htg2 := Aside0.mk htg2
                    clear ho hb hg hat
                    refine hK.out _ _ ⟨(blk_cell BK2.out 0).trans rfl, (blk_cell BK2.out 1).trans rfl⟩ (fun hHeld => ?_)
                    clear hK K
                    refine norm_ (a' := ?_) ?_ ?_
                    rotate_left
                    · show Act.put _ (some 98) _ = _
                      simp only [Act.put, List.setIfInBounds_toArray, List.set_cons_zero, List.set_cons_succ, i64_w, i32_w]
                      rfl
                    refine pure_ (i := 14) (N := some 100) (v := ?_) (a' := ?_) #[true, true, true, true, true, true, true, true, true, true, true, true, true, true, true, false, false, false, false, false] rfl rfl (by kernel_rfl) (fun _ _ _ h => h) (Or.inl ⟨by rfl, ?_⟩) ?_ ?_
                    rotate_left
                    · intro w'
                      go_simp
                      with_reducible rfl
                    rotate_left
                    · simp only [Act.put, List.setIfInBounds_toArray, List.set_cons_zero, List.set_cons_succ, i64_w, i32_w]
                      rfl
                    refine pure_ (i := 15) (N := some 101) (v := ?_) (a' := ?_) #[true, true, true, true, true, true, true, true, true, true, true, true, true, true, true, true, false, false, false, false] rfl rfl (by kernel_rfl) (fun _ _ _ h => h) (Or.inl ⟨by rfl, ?_⟩) ?_ ?_
                    rotate_left
                    · intro w'
                      go_simp
                      with_reducible rfl
                    rotate_left
                    · simp only [Act.put, List.setIfInBounds_toArray, List.set_cons_zero, List.set_cons_succ, i64_w, i32_w]
                      rfl
                    refine last_ (i := 16) (N := none) #[true, true, true, true, true, true, true, true, true, true, true, true, true, true, true, true, true, false, false, false] rfl rfl (by kernel_rfl) (by decide) (fun K hK => ?_)
                    have hs_ : w2.cell? ⟨gb, 0, none⟩ = some (.slice Au tg.length cu) := (blk_cell BK2.out 0).trans rfl
                    have hfs_ := blk_frozen BK2.out 0
                    refine skip_ (w1 := ?_) (by rfl) rfl ?_ ?_
                    rotate_left
                    · go_simp
                      rfl
                    refine hK.out _ _ ?_
                    clear hK K
                    refine last_ (i := 17) (N := some 102) #[true, true, true, true, true, true, true, true, true, true, true, true, true, true, true, true, true, true, false, false] rfl rfl (by kernel_rfl) (by decide) (fun K hK => ?_)
                    have HW3 := Aside0.mk (font_store BK2.out HM2.out HT2.out HP2.out HO2.out HB2.out (by decide) (by decide) GE.out)
                    generalize World.setCell w2 ⟨gb, 0, none⟩ (.slice A9 tg2.length c9) = w3 at HW3 ⊢
                    obtain ⟨o1, clk, he1, he2⟩ := MapAt_entry (P := Try.prog) Try.underlying9 Try.underlying133 (z := .slice none 0 0) (fun w_ => by kernel_rfl) HW3.out.2.1 HSZ.out HNEW.out HML.out
                    refine value_ (w1 := ?_) (v := ?_) (by rfl) rfl ?_ ?_
                    rotate_left 2
                    · go_simp
                      constructor
                      · rfl
                      · rfl
                    refine hK.out _ _ ?_
                    clear hK K
                    refine norm_ (a' := ?_) ?_ ?_
                    rotate_left
                    · show Act.put _ (some 102) _ = _
                      simp only [Act.put, List.setIfInBounds_toArray, List.set_cons_zero, List.set_cons_succ, i64_w, i32_w]
                      rfl
                    refine pure_ (i := 18) (N := some 103) (v := ?_) (a' := ?_) #[true, true, true, true, true, true, true, true, true, true, true, true, true, true, true, true, true, true, true, false] rfl rfl (by kernel_rfl) (fun _ _ _ h => h) (Or.inl ⟨by rfl, ?_⟩) ?_ ?_
                    rotate_left
                    · intro w'
                      go_simp
                      with_reducible rfl
                    rotate_left
                    · simp only [Act.put, List.setIfInBounds_toArray, List.set_cons_zero, List.set_cons_succ, i64_w, i32_w]
                      rfl
                    refine last_ (i := 19) (N := none) #[true, true, true, true, true, true, true, true, true, true, true, true, true, true, true, true, true, true, true, true] rfl rfl (by kernel_rfl) (by decide) (fun K hK => ?_)
                    obtain ⟨o2, he3, HM4⟩ := he2 vp (ChangeMaps.setBlock w3 gm o1) (setBlock_at HW3.out.2.1 o1)
                    simp only [goInt] at he3
                    refine skip_ (w1 := ?_) (by rfl) rfl ?_ ?_
                    rotate_left
                    · go_simp
                      rfl
                    refine hK.out _ _ ?_
                    clear hK K
                    refine done_ (by kernel_rfl) ?_
                    have HFE := Aside0.mk (show FontSt 135 5 9 w (ChangeMaps.setBlock (ChangeMaps.setBlock w3 gm o1) gm o2) gb gm (.slice A9 tg2.length c9) (m ++ [(tag, vp)]) (x ++ [(tag, pl)]) from font_end (by have h_ := HW3.out; rw [htg2.out, htg.out] at h_ ⊢; exact h_) GM.out HM4)
                    generalize ChangeMaps.setBlock (ChangeMaps.setBlock w3 gm o1) gm o2 = w5 at HFE ⊢
                    clear HW3 HM4 he1 he2 he3 BK HM HT HO HP BK2 HM2 HT2 HP2 HO2 HB2 hHeld hs_ hfs_
                    go_wp2
                    go_roundg k2
                    case measure => omega
                    case rel => exact ⟨wrap64 (i + 1), _, _, _, rfl, H, ⟨by have := HK.out; omega⟩, HFE⟩
              · rw [if_neg c4] at H
                have c4b0 : decide (i < n) = false := decide_eq_false c4
                simp only [Option.some.injEq, Prod.mk.injEq] at H
                obtain ⟨rfl, rfl⟩ := H
                go_wp2
                go_ret2
                exact ⟨(.slice (some ⟨gb, 0, none⟩) 1 1), rfl, V_box HS.out.1 GE.out (font_FK (e := 5) (es := 9) (by rw [htg.out, List.length_map]) HS.out.2.2.2.1 HS.out.2.1 HS.out.2.2.1 GM.out), HS.out.2.2.2.2⟩

/-! ### slices_Grow_byte_byte: function 110 -/
def slices_Grow_byte_byte.f  (a1 : Int) : Option (List Int) := if a1 < 0 then (none) else (if (wrap64 (a1)) > 0 then (if 0 ≤ (wrap64 (a1)) then (if ([] : List Int).length + (wrap64 (a1) : Int).toNat < 140737488355328 then ((some (([] : List Int) ++ List.replicate (wrap64 (a1) : Int).toNat 0 : List Int)).bind fun y126 => (if 0 ≤ (y126.length : Int) then (some (y126.take (0 : Int).toNat)) else (none))) else (none)) else (none)) else (some ([] : List Int)))
set_option maxHeartbeats 8000000 in
set_option maxRecDepth 100000 in
theorem slices_Grow_byte_byte.calls  (a1 : Int) (r : List Int) (w : World) (h : slices_Grow_byte_byte.f a1 = some r) :
    Calls Try.prog 110 #[.slice none 0 0, .int .i64 a1] w fun e w' => ∃ v0_ : Value, e = .returned (v0_) ∧ Kd.R (Kd.int .u8) 5 w' w.heap.size (fun _ => True) v0_ r ∧ Below w.heap.size w w' := by
  have HB := Aside0.mk (Below.refl w.heap.size w)
  have H : (if a1 < 0 then (none) else (if (wrap64 (a1)) > 0 then (if 0 ≤ (wrap64 (a1)) then (if ([] : List Int).length + (wrap64 (a1) : Int).toNat < 140737488355328 then ((some (([] : List Int) ++ List.replicate (wrap64 (a1) : Int).toNat 0 : List Int)).bind fun y126 => (if 0 ≤ (y126.length : Int) then (some (y126.take (0 : Int).toNat)) else (none))) else (none)) else (none)) else (some ([] : List Int)))) = some r := h
  clear h
  by_cases c3 : a1 < 0
  · rw [if_pos c3] at H
    exact absurd H (by simp)
  · rw [if_neg c3] at H
    have c3b0 : decide (a1 < 0) = false := decide_eq_false c3
    clear c3
    by_cases c4 : (wrap64 (a1)) > 0
    · rw [if_pos c4] at H
      have c4b0 : decide (0 < (wrap64 (a1))) = true := decide_eq_true c4
      clear c4
      obtain ⟨ji5, hji5⟩ : ∃ j_ : Int, (wrap64 (a1)) = j_ := ⟨_, rfl⟩
      replace H : (if 0 ≤ (ji5) then (if ([] : List Int).length + (ji5 : Int).toNat < 140737488355328 then ((some (([] : List Int) ++ List.replicate (ji5 : Int).toNat 0 : List Int)).bind fun y126 => (if 0 ≤ (y126.length : Int) then (some (y126.take (0 : Int).toNat)) else (none))) else (none)) else (none)) = some r := by first | (rw [hji5] at H; exact H) | (simp only [hji5] at H ⊢; exact H)
      (try rw [hji5] at c4b0)
      have hji5w : (IntKind.i64.wrap (a1)) = ji5 := (i64_w _).trans hji5
      by_cases c6 : 0 ≤ (ji5)
      · rw [if_pos c6] at H
        have c6b0 := eq_true c6
        have c6b1 : decide (0 ≤ (ji5)) = true := decide_eq_true c6
        clear c6
        by_cases c7 : ([] : List Int).length + (ji5 : Int).toNat < 140737488355328
        · rw [if_pos c7] at H
          have LMc7 := Aside0.mk c7
          clear c7
          obtain ⟨y126, hy126⟩ : ∃ y_ : List Int, y_ = (([] : List Int) ++ List.replicate (ji5 : Int).toNat 0) := ⟨_, rfl⟩
          replace H : (if 0 ≤ (y126.length : Int) then (some (y126.take (0 : Int).toNat)) else (none)) = some r := by first | (rw [hy126]; with_reducible exact H) | (have H2_ := (Option.bind_some _ _).symm.trans H; rw [hy126]; with_reducible exact H2_) | (have H2_ := (Option.bind_some _ _).symm.trans H; with_reducible exact H2_) | with_reducible exact H | (rw [hy126]; exact H) | exact H
          have Ny126 := Aside0.mk hy126
          clear hy126
          by_cases c8 : 0 ≤ (y126.length : Int)
          · rw [if_pos c8] at H
            have c8b0 := eq_true c8
            have c8b1 : decide (0 ≤ (y126.length : Int)) = true := decide_eq_true c8
            clear c8
            obtain ⟨y129, hy129⟩ : ∃ y_ : List Int, y_ = (y126.take (0 : Int).toNat) := ⟨_, rfl⟩
            replace H : (some y129) = some r := by first | (rw [hy129]; with_reducible exact H) | (have H2_ := (Option.bind_some _ _).symm.trans H; rw [hy129]; with_reducible exact H2_) | (have H2_ := (Option.bind_some _ _).symm.trans H; with_reducible exact H2_) | with_reducible exact H | (rw [hy129]; exact H) | exact H
            have Ny129 := Aside0.mk hy129
            clear hy129
            obtain rfl := Option.some.inj H
            go_enter Try.func110, Try.ntmps110
            go_wp2_with (first | (at_builtin; refine Kd.R_append_zeros (Kd.int .u8) (w0 := w) w.heap.size rfl (.tmp 20) (.tmp 21) 24 3 5 (.int .u8 0) 1 rfl Try.underlying24 Try.underlying3 info5 rfl (by decide) (by omega) (.slice none 0 0) ([] : List Int) 0 (ji5 : Int) (fun _ => True) rfl rfl rfl ?aF ?aO (of_decide_eq_true (by first | (with_reducible assumption) | assumption)) ?aB ?aS ?aL ?_; (case aB => exact (by repeat (first | (with_reducible first | exact HB.out | apply below_alloc | apply pw_below_drewN | apply below_drew1) | exact HB.out))); (case aF => exact (fun _ _ => trivial)); (case aO => exact ((Kd.R_nil _ _ _ _ (fun _ => True)))); (case aS => exact (below_size (by repeat (first | (with_reducible first | exact HB.out | apply below_alloc | apply pw_below_drewN | apply below_drew1) | exact HB.out)))); (case aL => have := LMc7.out; omega); intro v127 w9 ho hb hg hat; (first | rw [← Ny126.out] at ho | (simp only [Int.reduceToNat] at ho; rw [← Ny126.out] at ho)); have n0_ := Aside0.mk (hb); have n1_ := Aside0.mk (ho); clear HB; have HB := n0_; have HO128 := n1_; clear n0_ n1_; clear ho hb hg hat; obtain ⟨Ao10, co10, eo10⟩ := Kd.R_slice HO128.out; subst eo10; have q11 : (0 : Int) ≤ ((y126.length : Int) : Int) := of_decide_eq_true (by first | (with_reducible assumption) | assumption); obtain ⟨i011, hi011, _, hsz11, _⟩ := info_parts info5; have hcut11 := cut_to (P := Try.prog) 24 5 .i64 Try.underlying24 hi011 Ao10 y126.length co10 0 (by omega) q11 (Kd.R_reads' HO128.out).2.1; have hr11 := Kd.R_take (m := (0 : Int).toNat) HO128.out (by omega); have hy11 : y129.length = (0 : Int).toNat := (by rw [Ny129.out, List.length_take]; omega); rw [← Ny129.out] at hr11; rw [← hy11] at hr11 hcut11; clear hy11 hi011 hsz11 HO128; have HO131 := Aside0.mk hr11; clear hr11; replace q11 := eq_true q11))
            go_ret
            exact ⟨_, by first | rfl | (simp [errW_none, errW_some] <;> rfl) | (simp only [← hji5]; first | rfl | (simp [errW_none, errW_some] <;> rfl)) | (simp [*, errW_none, errW_some] <;> rfl), by (with_reducible repeat (first | apply Kd.R_alloc | apply Kd.R_drewN | apply Kd.R_drew)); exact HO131.out, by repeat (first | (with_reducible first | exact HB.out | apply below_alloc | apply pw_below_drewN | apply below_drew1) | exact HB.out)⟩
          · rw [if_neg c8] at H
            exact absurd H (by simp)
        · rw [if_neg c7] at H
          exact absurd H (by simp)
      · rw [if_neg c6] at H
        exact absurd H (by simp)
    · rw [if_neg c4] at H
      have c4b0 : decide (0 < (wrap64 (a1))) = false := decide_eq_false c4
      clear c4
      obtain rfl := Option.some.inj H
      go_enter Try.func110, Try.ntmps110
      go_wp2
      go_ret
      exact ⟨_, by first | rfl | (simp [errW_none, errW_some] <;> rfl) | (simp [*, errW_none, errW_some] <;> rfl), by first | exact Kd.R_nil _ _ _ _ _ | exact Kd.N_nil _ _ _ _ _ | exact Kd.V_nil _ _ _ _ _ | exact Kd.Q_nil _ _ _ _ _ | exact Kd.S_nil _ _ _ _ _, by repeat (first | (with_reducible first | exact HB.out | apply below_alloc | apply pw_below_drewN | apply below_drew1) | exact HB.out)⟩

/-! ### slices_Concat_byte_byte: function 62 -/
mutual
def slices_Concat_byte_byte.l0 : Nat → List (List Int) → Int → List (List Int) → Int → Int → Option (List Int)
  | 0, _, _, _, _, _ => none
  | k + 1, x0, x3, x9, x10, x11 => if x11 < x10 then (if 0 ≤ x11 then (if x11 < (x9.length : Int) then (if (wrap64 (x3 + ((rd_L2 x9 x11).length : Int))) < 0 then (none) else (slices_Concat_byte_byte.l0 k x0 (wrap64 (x3 + ((rd_L2 x9 x11).length : Int))) x9 x10 (wrap64 (x11 + 1)))) else (none)) else (none)) else ((slices_Grow_byte_byte.f x3).bind fun t133 => (slices_Concat_byte_byte.l1 k t133 x0 (x0.length : Int) 0))
def slices_Concat_byte_byte.l1 : Nat → List Int → List (List Int) → Int → Int → Option (List Int)
  | 0, _, _, _, _ => none
  | k + 1, x6, x25, x26, x27 => if x27 < x26 then (if 0 ≤ x27 then (if x27 < (x25.length : Int) then (if x6.length + (rd_L2 x25 x27).length < 140737488355328 then (slices_Concat_byte_byte.l1 k (x6 ++ (rd_L2 x25 x27)) x25 x26 (wrap64 (x27 + 1))) else (none)) else (none)) else (none)) else (some x6)
end
def slices_Concat_byte_byte.f (k : Nat) (l0 : List (List Int)) : Option (List Int) := slices_Concat_byte_byte.l0 k l0 0 l0 (l0.length : Int) 0
theorem slices_Concat_byte_byte.mono_l : ∀ k, (∀ y0 y1 y2 y3 y4, LeO (slices_Concat_byte_byte.l0 k y0 y1 y2 y3 y4) (slices_Concat_byte_byte.l0 (k + 1) y0 y1 y2 y3 y4)) ∧ (∀ y0 y1 y2 y3, LeO (slices_Concat_byte_byte.l1 k y0 y1 y2 y3) (slices_Concat_byte_byte.l1 (k + 1) y0 y1 y2 y3))
  | 0 => ⟨fun _ _ _ _ _ r h => by simp [slices_Concat_byte_byte.l0] at h, fun _ _ _ _ r h => by simp [slices_Concat_byte_byte.l1] at h⟩
  | k + 1 => by
    obtain ⟨ih0, ih1⟩ := slices_Concat_byte_byte.mono_l k
    refine ⟨?_, ?_⟩
    · intro y0 y1 y2 y3 y4
      unfold slices_Concat_byte_byte.l0
      repeat' first
      | (with_reducible exact ih0 _ _ _ _ _)
      | (with_reducible exact ih1 _ _ _ _)
      | (with_reducible exact LeO.refl _)
      | (with_reducible exact LeO.none _)
      | (with_reducible refine LeO.ite ?_ ?_)
      | (with_reducible refine LeO.bind ?_ (fun _ => ?_))
      | exact ih0 _ _ _ _ _
      | exact ih1 _ _ _ _
      | exact LeO.none _
      | refine LeO.ite ?_ ?_
      | refine LeO.bind ?_ (fun _ => ?_)
    · intro y0 y1 y2 y3
      unfold slices_Concat_byte_byte.l1
      repeat' first
      | (with_reducible exact ih0 _ _ _ _ _)
      | (with_reducible exact ih1 _ _ _ _)
      | (with_reducible exact LeO.refl _)
      | (with_reducible exact LeO.none _)
      | (with_reducible refine LeO.ite ?_ ?_)
      | (with_reducible refine LeO.bind ?_ (fun _ => ?_))
      | exact ih0 _ _ _ _ _
      | exact ih1 _ _ _ _
      | exact LeO.none _
      | refine LeO.ite ?_ ?_
      | refine LeO.bind ?_ (fun _ => ?_)
theorem slices_Concat_byte_byte.mono : ∀ a0 k, LeO (slices_Concat_byte_byte.f k a0) (slices_Concat_byte_byte.f (k + 1) a0) := by
  intro a0 k
  obtain ⟨ih0, ih1⟩ := slices_Concat_byte_byte.mono_l k
  unfold slices_Concat_byte_byte.f
  repeat' first
      | (with_reducible exact ih0 _ _ _ _ _)
      | (with_reducible exact ih1 _ _ _ _)
      | (with_reducible exact LeO.refl _)
      | (with_reducible exact LeO.none _)
      | (with_reducible refine LeO.ite ?_ ?_)
      | (with_reducible refine LeO.bind ?_ (fun _ => ?_))
      | exact ih0 _ _ _ _ _
      | exact ih1 _ _ _ _
      | exact LeO.none _
      | refine LeO.ite ?_ ?_
      | refine LeO.bind ?_ (fun _ => ?_)
set_option maxHeartbeats 8000000 in
set_option maxRecDepth 100000 in
theorem slices_Concat_byte_byte.calls (k : Nat) (A0 : Option Addr) (c0 : Nat) (l0 : List (List Int)) (r : List Int) (w : World) (hr0 : Kd.C (Kd.slice 5 (Kd.int .u8)) w A0 l0.length l0) (hc0 : l0.length ≤ c0) (h : slices_Concat_byte_byte.f k l0 = some r) :
    Calls Try.prog 62 #[.slice A0 l0.length c0] w fun e w' => ∃ v0_ : Value, e = .returned (v0_) ∧ Kd.R (Kd.int .u8) 5 w' w.heap.size (fun _ => True) v0_ r ∧ Below w.heap.size w w' := by
  have HR0 := Aside0.mk hr0
  have HC0 := Aside0.mk hc0
  clear hr0 hc0
  have HB := Aside0.mk (Below.refl w.heap.size w)
  have H : (slices_Concat_byte_byte.l0 k l0 0 l0 (l0.length : Int) 0) = some r := h
  clear h
  have H' := Aside0.mk H
  clear H
  go_enter Try.func62, Try.ntmps62
  go_wp2
  go_loopg [3, 11] k (fun kq v3 v11 w' => ∃ (x3_1 : Int) (x11_1 : Int), v3 = .int .i64 x3_1 ∧ v11 = .int .i64 x11_1 ∧ Aside0 (slices_Concat_byte_byte.l0 kq l0 x3_1 l0 (l0.length : Int) x11_1 = some r) ∧ Aside0 (kq ≤ k) ∧ Aside0 (Below w.heap.size w w'))
  case atStart => exact ⟨(0), (0), (by first | rfl | (simp; done) | (simp [*]; done)), (by first | rfl | (simp; done) | (simp [*]; done)), H', ⟨Nat.le_refl _⟩, ⟨by repeat (first | (with_reducible first | exact HB.out | apply below_alloc | apply pw_below_drewN | apply below_drew1) | exact HB.out)⟩⟩
  case round =>
    clear H'
    obtain ⟨x3_1, x11_1, rfl, rfl, HA, HK1, HB⟩ := hrel
    cases gk with
    | zero => exact absurd HA.out (by simp [slices_Concat_byte_byte.l0])
    | succ k1 =>
      have H := HA.out
      clear HA
      simp only [slices_Concat_byte_byte.l0] at H
      by_cases c2 : x11_1 < (l0.length : Int)
      · rw [if_pos c2] at H
        have c2b0 : decide (x11_1 < (l0.length : Int)) = true := decide_eq_true c2
        clear c2
        by_cases c3 : 0 ≤ x11_1
        · rw [if_pos c3] at H
          have c3b0 : decide (0 ≤ x11_1) = true := decide_eq_true c3
          clear c3
          by_cases c4 : x11_1 < (l0.length : Int)
          · rw [if_pos c4] at H
            have c4b0 : decide (x11_1 < (l0.length : Int)) = true := decide_eq_true c4
            clear c4
            by_cases c5 : (wrap64 (x3_1 + ((rd_L2 l0 x11_1).length : Int))) < 0
            · rw [if_pos c5] at H
              exact absurd H (by simp)
            · rw [if_neg c5] at H
              have c5b0 : decide ((wrap64 (x3_1 + ((rd_L2 l0 x11_1).length : Int))) < 0) = false := decide_eq_false c5
              clear c5
              have H' := Aside0.mk H
              clear H
              have p132 : 0 ≤ (x11_1 : Int) := of_decide_eq_true (by first | (with_reducible assumption) | assumption)
              have q132 : x11_1 < (l0.length : Int) := of_decide_eq_true (by first | (with_reducible assumption) | assumption)
              obtain ⟨ad132, A132_0, c132_0, e132, hx132_0, hl132_0, hi132_0⟩ := at_L2 HR0.out x11_1 p132 q132
              cases e132
              replace hx132_0 := (HB.out.cell (cLt w _ hx132_0)).trans hx132_0
              have HR132_0 := Aside0.mk hi132_0
              have HC132_0 := Aside0.mk hl132_0
              clear hi132_0 hl132_0
              replace p132 := eq_true p132
              replace q132 := eq_true q132
              go_wp2
              go_roundg k1
              case measure => have := HK1.out; omega
              case rel => exact ⟨(wrap64 (x3_1 + ((rd_L2 l0 x11_1).length : Int))), (wrap64 (x11_1 + 1)), (by first | rfl | (simp; done) | (simp [*]; done)), (by first | rfl | (simp; done) | (simp [*]; done)), H', ⟨by have := HK1.out; omega⟩, ⟨by repeat (first | (with_reducible first | exact HB.out | apply below_alloc | apply pw_below_drewN | apply below_drew1) | exact HB.out)⟩⟩
          · rw [if_neg c4] at H
            exact absurd H (by simp)
        · rw [if_neg c3] at H
          exact absurd H (by simp)
      · rw [if_neg c2] at H
        have c2b0 : decide (x11_1 < (l0.length : Int)) = false := decide_eq_false c2
        clear c2
        replace H := Option.bind_eq_some_iff.mp H
        obtain ⟨t133, A60, H⟩ := H
        replace H : (slices_Concat_byte_byte.l1 k1 t133 l0 (l0.length : Int) 0) = some r := H
        have A6 := Aside0.mk A60
        clear A60
        have H' := Aside0.mk H
        clear H
        go_wp2_with (first | ((with_reducible refine gate_callee (f := 110) rfl ?_); refine goesL_ (some 24) rfl rfl Try.func110 (by kernel_rfl) rfl #[.slice none 0 0, .int .i64 x3_1] rfl (by (try simp only [List.map_toArray, List.map_cons, List.map_nil]); first | done | rfl | (simp only [List.length_drop, List.length_take]; rfl)) ?_; (with_reducible refine (slices_Grow_byte_byte.calls  x3_1 t133 _ A6.out).mono ?_); rintro e w7 ⟨v134, rfl, ho0, hb⟩; refine ⟨_, rfl, ?_⟩; have n0_ := Aside0.mk (Kd.R_lower ho0 (below_size (by repeat (first | (with_reducible first | exact HB.out | apply below_alloc | apply pw_below_drewN | apply below_drew1) | exact HB.out)))); have n1_ := Aside0.mk (below_step (by repeat (first | (with_reducible first | exact HB.out | apply below_alloc | apply pw_below_drewN | apply below_drew1) | exact HB.out)) hb); clear HB; have HO135 := n0_; have HB := n1_; clear n0_ n1_; (try clear hb); (try clear hb2); (try clear hk); (try clear hi); (try clear ho0)))
        go_loopg [6, 27] k1 (fun kq v6 v27 w' => ∃ (x6_2 : List Int) (x27_2 : Int), v27 = .int .i64 x27_2 ∧ Aside0 (slices_Concat_byte_byte.l1 kq x6_2 l0 (l0.length : Int) x27_2 = some r) ∧ Aside0 (kq ≤ k1) ∧ Aside0 (Kd.R (Kd.int .u8) 5 w' w.heap.size (fun _ => True) v6 x6_2) ∧ Aside0 (Below w.heap.size w w'))
        case atStart => exact ⟨(t133), (0), (by first | rfl | (simp; done) | (simp [*]; done)), H', ⟨Nat.le_refl _⟩, ⟨by (with_reducible repeat (first | apply Kd.R_alloc | apply Kd.R_drewN | apply Kd.R_drew)); exact HO135.out⟩, ⟨by repeat (first | (with_reducible first | exact HB.out | apply below_alloc | apply pw_below_drewN | apply below_drew1) | exact HB.out)⟩⟩
        case round =>
          clear H'
          try clear c1
          try clear p1
          try clear q1
          try clear hx1
          try clear c2
          try clear c2b0
          try clear p2
          try clear c3
          try clear c3b0
          try clear c4
          try clear c4b0
          try clear c5
          try clear c5b0
          try clear c6
          try clear p6
          try clear hx132_0
          try clear p132
          try clear q132
          obtain ⟨x6_2, x27_2, rfl, HA, HK2, HO_6, HB⟩ := hrel
          cases gk with
          | zero => exact absurd HA.out (by simp [slices_Concat_byte_byte.l1])
          | succ k2 =>
            have H := HA.out
            clear HA
            simp only [slices_Concat_byte_byte.l1] at H
            by_cases c8 : x27_2 < (l0.length : Int)
            · rw [if_pos c8] at H
              have c8b0 : decide (x27_2 < (l0.length : Int)) = true := decide_eq_true c8
              clear c8
              by_cases c9 : 0 ≤ x27_2
              · rw [if_pos c9] at H
                have c9b0 : decide (0 ≤ x27_2) = true := decide_eq_true c9
                clear c9
                by_cases c10 : x27_2 < (l0.length : Int)
                · rw [if_pos c10] at H
                  have c10b0 : decide (x27_2 < (l0.length : Int)) = true := decide_eq_true c10
                  clear c10
                  by_cases c11 : x6_2.length + (rd_L2 l0 x27_2).length < 140737488355328
                  · rw [if_pos c11] at H
                    have LMc11 := Aside0.mk c11
                    clear c11
                    obtain ⟨y137, hy137⟩ : ∃ y_ : List Int, y_ = (x6_2 ++ (rd_L2 l0 x27_2)) := ⟨_, rfl⟩
                    replace H : (slices_Concat_byte_byte.l1 k2 y137 l0 (l0.length : Int) (wrap64 (x27_2 + 1))) = some r := by first | (rw [hy137]; with_reducible exact H) | (have H2_ := (Option.bind_some _ _).symm.trans H; rw [hy137]; with_reducible exact H2_) | (have H2_ := (Option.bind_some _ _).symm.trans H; with_reducible exact H2_) | with_reducible exact H | (rw [hy137]; exact H) | exact H
                    have Ny137 := Aside0.mk hy137
                    clear hy137
                    have H' := Aside0.mk H
                    clear H
                    have p136 : 0 ≤ (x27_2 : Int) := of_decide_eq_true (by first | (with_reducible assumption) | assumption)
                    have q136 : x27_2 < (l0.length : Int) := of_decide_eq_true (by first | (with_reducible assumption) | assumption)
                    obtain ⟨ad136, A136_0, c136_0, e136, hx136_0, hl136_0, hi136_0⟩ := at_L2 HR0.out x27_2 p136 q136
                    cases e136
                    replace hx136_0 := (HB.out.cell (cLt w _ hx136_0)).trans hx136_0
                    have HR136_0 := Aside0.mk hi136_0
                    have HC136_0 := Aside0.mk hl136_0
                    clear hi136_0 hl136_0
                    replace p136 := eq_true p136
                    replace q136 := eq_true q136
                    go_wp2_with (first | ((with_reducible refine gate_builtin (b := .append) (xs := #[.tmp 31, .tmp 32]) rfl ?_); at_builtin; refine Kd.R_append_rows (Kd.int .u8) (w0 := w) w.heap.size rfl (.tmp 31) (.tmp 32) 24 5 (.int .u8 0) 1 rfl Try.underlying24 info5 rfl (by decide) (by omega) u6 x6_2 (rd_L2 l0 x27_2) _ _ _ (fun _ => True) (fun _ => False) rfl rfl ?aO ?aR (fun _ _ h => h) (fun _ h => h.elim) ?aF ?aB ?aS ?aL ?_; (case aR => repeat (first | exact (Kd.C_below HR136_0.out HB.out) | (with_reducible refine Kd.C_alloc ?_ _) | (with_reducible refine Kd.C_drewN ?_ _) | (with_reducible refine Kd.C_drew ?_))); (case aB => exact (by repeat (first | (with_reducible first | exact HB.out | apply below_alloc | apply pw_below_drewN | apply below_drew1) | exact HB.out))); (case aF => exact (fun _ _ => trivial)); (case aO => exact (by (with_reducible repeat (first | apply Kd.R_alloc | apply Kd.R_drewN | apply Kd.R_drew)); exact HO_6.out)); (case aS => exact (below_size (by repeat (first | (with_reducible first | exact HB.out | apply below_alloc | apply pw_below_drewN | apply below_drew1) | exact HB.out)))); (case aL => have := LMc11.out; omega); intro v138 w12 ho hb hg hat; rw [← Ny137.out] at ho; have n0_ := Aside0.mk (hb); have n1_ := Aside0.mk (ho); clear HB; clear HO_6; have HB := n0_; have HO139 := n1_; clear n0_ n1_; clear ho hb hg hat))
                    go_roundg k2
                    case measure => have := HK1.out; have := HK2.out; omega
                    case rel => exact ⟨(y137), (wrap64 (x27_2 + 1)), (by first | rfl | (simp; done) | (simp [*]; done)), H', ⟨by have := HK1.out; have := HK2.out; omega⟩, ⟨by (with_reducible repeat (first | apply Kd.R_alloc | apply Kd.R_drewN | apply Kd.R_drew)); exact HO139.out⟩, ⟨by repeat (first | (with_reducible first | exact HB.out | apply below_alloc | apply pw_below_drewN | apply below_drew1) | exact HB.out)⟩⟩
                  · rw [if_neg c11] at H
                    exact absurd H (by simp)
                · rw [if_neg c10] at H
                  exact absurd H (by simp)
              · rw [if_neg c9] at H
                exact absurd H (by simp)
            · rw [if_neg c8] at H
              have c8b0 : decide (x27_2 < (l0.length : Int)) = false := decide_eq_false c8
              clear c8
              obtain rfl := Option.some.inj H
              go_wp2
              go_ret
              exact ⟨_, by first | rfl | (simp [errW_none, errW_some] <;> rfl) | (simp [*, errW_none, errW_some] <;> rfl), by (with_reducible repeat (first | apply Kd.R_alloc | apply Kd.R_drewN | apply Kd.R_drew)); exact HO_6.out, by repeat (first | (with_reducible first | exact HB.out | apply below_alloc | apply pw_below_drewN | apply below_drew1) | exact HB.out)⟩

/-! ### sfnt_u32: function 63 -/
def sfnt_u32.f (a0 : Int) : Option (List Int) := some (([(a0 / 16777216) % 256, (a0 / 65536) % 256, (a0 / 256) % 256, (a0) % 256] : List Int))
set_option maxHeartbeats 8000000 in
set_option maxRecDepth 100000 in
theorem sfnt_u32.calls (a0 : Int) (r : List Int) (w : World) (h : sfnt_u32.f a0 = some r) :
    Calls Try.prog 63 #[.int .i64 a0] w fun e w' => ∃ v0_ : Value, e = .returned (v0_) ∧ Kd.R (Kd.int .u8) 5 w' w.heap.size (fun _ => True) v0_ r ∧ Below w.heap.size w w' := by
  have HB := Aside0.mk (Below.refl w.heap.size w)
  have H : (some (([(a0 / 16777216) % 256, (a0 / 65536) % 256, (a0 / 256) % 256, (a0) % 256] : List Int))) = some r := h
  clear h
  obtain ⟨y140, hy140⟩ : ∃ y_ : List Int, y_ = (([(a0 / 16777216) % 256, (a0 / 65536) % 256, (a0 / 256) % 256, (a0) % 256] : List Int)) := ⟨_, rfl⟩
  replace H : (some y140) = some r := by first | (rw [hy140]; with_reducible exact H) | (have H2_ := (Option.bind_some _ _).symm.trans H; rw [hy140]; with_reducible exact H2_) | (have H2_ := (Option.bind_some _ _).symm.trans H; with_reducible exact H2_) | with_reducible exact H | (rw [hy140]; exact H) | exact H
  have Ny140 := Aside0.mk hy140
  clear hy140
  obtain rfl := Option.some.inj H
  go_enter Try.func63, Try.ntmps63
  go_wp2_with (first | ((with_reducible refine gate_dst (N := 14) rfl ?_); refine Kd.R_lit (Kd.int .u8) _ 5 ?hg (N := 14) ?hd (xs := ([(a0 / 16777216) % 256, (a0 / 65536) % 256, (a0 / 256) % 256, (a0) % 256] : List Int)) (inner := [.int .u8 ((a0 / 16777216) % 256), .int .u8 ((a0 / 65536) % 256), .int .u8 ((a0 / 256) % 256), .int .u8 ((a0) % 256)]) (ok := fun _ => True) (okp := fun _ => True) ?hr ?hp (fun _ hk => hk) trivial (Below.refl _ _) (Nat.le_refl _) (by simp) ?_; (case hd => rfl); (case hg => rfl); (case hr => first | (go_simp; done) | (go_simp; rfl)); (case hp => exact (Reps.one (show Kd.M (Kd.int .u8) _ _ _ ((a0 / 16777216) % 256) [.int .u8 ((a0 / 16777216) % 256)] from rfl) (Reps.one (show Kd.M (Kd.int .u8) _ _ _ ((a0 / 65536) % 256) [.int .u8 ((a0 / 65536) % 256)] from rfl) (Reps.one (show Kd.M (Kd.int .u8) _ _ _ ((a0 / 256) % 256) [.int .u8 ((a0 / 256) % 256)] from rfl) (Reps.one (show Kd.M (Kd.int .u8) _ _ _ ((a0) % 256) [.int .u8 ((a0) % 256)] from rfl) (Reps.none _ _)))))); intro v141 w2 ho3 hb hg_ hnew_; clear hg_ hnew_; (first | rw [← Ny140.out] at ho3 | (simp only [Int.reduceToNat] at ho3; rw [← Ny140.out] at ho3)); have n0_ := Aside0.mk (Kd.R_lower ho3 (below_size (by repeat (first | (with_reducible first | exact HB.out | apply below_alloc | apply pw_below_drewN | apply below_drew1) | exact HB.out)))); have n1_ := Aside0.mk (below_step (by repeat (first | (with_reducible first | exact HB.out | apply below_alloc | apply pw_below_drewN | apply below_drew1) | exact HB.out)) hb); clear HB; have HO142 := n0_; have HB := n1_; clear n0_ n1_; clear hb ho3))
  go_ret
  exact ⟨_, by first | rfl | (simp [errW_none, errW_some] <;> rfl) | (simp [*, errW_none, errW_some] <;> rfl), by (with_reducible repeat (first | apply Kd.R_alloc | apply Kd.R_drewN | apply Kd.R_drew)); exact HO142.out, by repeat (first | (with_reducible first | exact HB.out | apply below_alloc | apply pw_below_drewN | apply below_drew1) | exact HB.out)⟩

end Go.Proofs.Ytenlimmgbgcgpaa.PAn
