import Derived.OpenShut
import Derived.ChangeSame
import Derived.WideShapes
import Derived.JoinedOf
import Derived.SizedLaws
import Derived.Deep.Matrix
import Derived.Test.YtenlimmgbgcgpaaWX
/-! Arguments that the rows open: arrays of whole numbers by value. -/
namespace Go.Proofs.YtenlimmgbgcgpaaW.PrintMore
open Go Go.ChangeShapes Go.WideShapes Go.RowKit
section
variable {H : Type} {enc : TypeId × Value → H} {P : Program} {w W : World} {base b : Nat} {sp : Nat → Bool} {held : Bool} {r : Reach} {t e n : Nat} {k : IntKind} {v : Value} {d : DataW H} {p : List MemPlace}
def intV : Value → Int
  | .int _ x => x
  | _ => 0
theorem open_arr (ht : P.underlying t = some (.array n e)) (he : P.underlying e = some (.int k)) (hce : P.cellsOf e = 1) (hct : P.cellsOf t = n)
    (hv : Value.okWide P W r b t v) (h : DataW.Trod enc P w base sp held t v d p) :
    ∃ zs : List Int, zs.length = n ∧ v = .agg ⟨zs.map (Value.int k)⟩ ∧ ∀ x ∈ zs, (Lit.int k x).wf = true := by
  obtain ⟨cs, rfl, hsz, _⟩ : ∃ cs, v = .agg cs ∧ cs.size = P.cellsOf t ∧ Row.okWide P W r b t cs := by
    simpa [Value.okWide, ht] using hv
  obtain ⟨fuel, hf⟩ := h
  obtain ⟨xs, m, _, _, _, hl, hel⟩ := DataW.trod_array ht hf
  rw [hct] at hsz
  have key : ∀ i, i < n → ∃ x : Int, cs[i]? = some (.int k x) ∧ (Lit.int k x).wf = true := by
    intro i hi
    have h1 := hel i hi
    rw [List.getElem?_eq_getElem (by omega)] at h1
    obtain ⟨x, e1, _, w1⟩ := DataW.trod_int he h1
    refine ⟨x, ?_, w1⟩
    have hcs : (Value.cells (.agg cs)).toList = cs.toList := rfl
    rw [hce] at e1
    have h2 : ((cs.toList.drop (i * 1)).take 1)[0]? = some (.int k x) := by
      have : (cs.toList.drop (i * 1)).take 1 = [.int k x] := by simpa [Value.cells] using e1
      rw [this]; rfl
    rw [List.getElem?_take, if_pos (by omega), List.getElem?_drop, Nat.mul_one, Nat.add_zero] at h2
    simpa using h2
  refine ⟨(List.range n).map (fun i => intV (cs[i]?.getD (.bool false))), by simp, ?_, ?_⟩
  · congr 1
    apply Array.ext'
    apply List.ext_getElem?
    intro i
    by_cases hi : i < n
    · obtain ⟨x, hx, _⟩ := key i hi
      simp [hi, hx, intV]
    · rw [List.getElem?_eq_none (by simp; omega), List.getElem?_eq_none (by simp; omega)]
  · intro x hx
    simp only [List.mem_map, List.mem_range] at hx
    obtain ⟨i, hi, rfl⟩ := hx
    obtain ⟨x, hx, hw⟩ := key i hi
    rw [hx]; exact hw
theorem open_arr2 (ht : P.underlying t = some (.array 2 e)) (he : P.underlying e = some (.int k)) (hce : P.cellsOf e = 1) (hct : P.cellsOf t = 2)
    (hv : Value.okWide P W r b t v) (h : DataW.Trod enc P w base sp held t v d p) :
    ∃ x0 x1 : Int, v = .agg #[.int k x0, .int k x1] ∧ (Lit.int k x0).wf = true ∧ (Lit.int k x1).wf = true := by
  obtain ⟨zs, hl, hv, hw⟩ := open_arr ht he hce hct hv h
  match zs, hl with
  | [x0, x1], _ => exact ⟨x0, x1, hv, hw _ (by simp), hw _ (by simp)⟩
theorem open_arr6 (ht : P.underlying t = some (.array 6 e)) (he : P.underlying e = some (.int k)) (hce : P.cellsOf e = 1) (hct : P.cellsOf t = 6)
    (hv : Value.okWide P W r b t v) (h : DataW.Trod enc P w base sp held t v d p) :
    ∃ x0 x1 x2 x3 x4 x5 : Int, v = .agg #[.int k x0, .int k x1, .int k x2, .int k x3, .int k x4, .int k x5] ∧ (Lit.int k x0).wf = true ∧ (Lit.int k x1).wf = true ∧ (Lit.int k x2).wf = true ∧ (Lit.int k x3).wf = true ∧ (Lit.int k x4).wf = true ∧ (Lit.int k x5).wf = true := by
  obtain ⟨zs, hl, hv, hw⟩ := open_arr ht he hce hct hv h
  match zs, hl with
  | [x0, x1, x2, x3, x4, x5], _ => exact ⟨x0, x1, x2, x3, x4, x5, hv, hw _ (by simp), hw _ (by simp), hw _ (by simp), hw _ (by simp), hw _ (by simp), hw _ (by simp)⟩
end
section
variable {H : Type} {enc : TypeId × Value → H} {P : Program} {W : World} {base : Nat} {held : Bool} {t e q : TypeId} {k : IntKind}
theorem weights_all {ds : List (DataW H)} {d : DataW H} (hd : d ∈ ds) : ∀ n ∈ d.weights P e, n ∈ DataW.weightsAll P e ds := by
  induction ds with
  | nil => simp at hd
  | cons d0 t ih =>
    intro n hn
    simp only [DataW.weightsAll, List.mem_append]
    rcases List.mem_cons.1 hd with rfl | hd
    · exact .inl hn
    · exact .inr (ih hd n hn)
theorem open_rows {ts : List TypeId} {ds : List (DataW H)} {j : Nat} {d : DataW H} {ps : List MemPlace} {a : Option Addr} {len cap B B1 : Nat}
    (hsz : (DataW.weightsEach P ts ds).all (· ≤ reachBytes) = true) (htj : ts[j]? = some t) (hdj : ds[j]? = some d)
    (ht : P.underlying t = some (.slice e)) (he : P.underlying e = some (.slice q)) (hq : P.underlying q = some (.int k)) (ce : P.cellsOf e = 1) (cq : P.cellsOf q = 1) (hB : P.bytesOf q = B) (hB1 : P.bytesOf e = B1)
    (h : DataW.Trod enc P W base (fun _ => true) held t (.slice a len cap) d ps) : len * B1 ≤ 140737488351232 ∧ ∃ l, ArgRows k B W a len cap l := by
  obtain ⟨fuel, hf⟩ := h
  have hww := fun n hn => of_decide_eq_true (List.all_eq_true.1 hsz n (DataW.weights_mem_each htj hdj n hn))
  rcases Deep.open_int_rows ht he hq ce cq hf with ⟨hcs, _⟩ | ⟨x, l, c, A, L, C, Z, hcs, _, hl, hm, hx, hr⟩
  · simp [Value.cells] at hcs
    obtain ⟨rfl, rfl, rfl⟩ := hcs
    exact ⟨by omega, [], rfl, Nat.le_refl _, Nat.zero_le _, fun h => absurd h (by omega), fun r hr => by simp at hr⟩
  · simp [Value.cells] at hcs
    obtain ⟨rfl, rfl, rfl⟩ := hcs
    obtain ⟨hd, _⟩ := Prod.mk.inj hx
    subst hd
    have z := sized_slice hsz htj hdj ht
    rw [hB1, List.length_map, List.length_range] at z
    refine ⟨Nat.le_trans (Nat.mul_le_mul_right _ (Nat.le_add_right _ _)) z, (List.range len).map (fun r => (Z r).take (L r)), by simp, hl, hm, ?_, ?_⟩
    · intro hp
      refine ⟨x, rfl, fun j r hj => ?_⟩
      have hjl : j < len := by
        have := (List.getElem?_eq_some_iff.1 hj).1
        simpa using this
      obtain ⟨h1, h2, h3, h4, h5, h6, h7⟩ := hr j (by omega)
      have hrr : r = (Z j).take (L j) := by simpa [hjl] using hj.symm
      have hlen : r.length = L j := by rw [hrr, List.length_take]; omega
      refine ⟨A j, C j, by rw [hlen]; exact h1, by omega, h3, fun hpos => ?_⟩
      cases hA : A j with
      | none => have := h6 hA; omega
      | some a' =>
        refine ⟨a', rfl, fun i hi => ?_⟩
        rw [(h7 a' hA).2 i (by omega)]
        congr 2
        rw [hrr, List.getD_eq_getElem?_getD, List.getD_eq_getElem?_getD, List.getElem?_take, if_pos (by omega)]
    · intro r hr'
      obtain ⟨j, hj, rfl⟩ := List.mem_map.1 hr'
      have hjl : j < len := by simpa using hj
      obtain ⟨h1, h2, h3, h4, h5, h6, h7⟩ := hr j (by omega)
      refine ⟨?_, fun y hy => h5 y (List.mem_of_mem_take hy)⟩
      cases hA : A j with
      | none =>
        have := h6 hA
        rw [List.length_take, show L j = 0 by omega]
        simp
      | some a' =>
        have hz := hww (((lits (H := H) k ((Z j).take (L j))).length + (lits (H := H) k ((Z j).drop (L j))).length) * P.bytesOf q) (by
          simp only [DataW.weights, ht]
          refine List.mem_cons_of_mem _ (List.mem_append_left _ (weights_all (List.mem_map.2 ⟨j, hj, rfl⟩) _ ?_))
          simp only [Deep.intRow, hA, DataW.weights, he]
          exact List.mem_cons_self)
        rw [hB] at hz
        refine Nat.le_trans (Nat.mul_le_mul_right _ ?_) hz
        simp [lits]
end
end Go.Proofs.YtenlimmgbgcgpaaW.PrintMore
