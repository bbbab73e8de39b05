import Derived.OpenShut
import Derived.ChangeSame
import Derived.WideShapes
import Derived.JoinedOf
namespace Go.Proofs.YtjmflccbddjlhaaW.PrintMore
open Go Go.ChangeShapes Go.WideShapes Go.RowKit
section
variable {H : Type} {enc : TypeId × Value → H} {P : Program} {w W : World} {base b : Nat} {sp : Nat → Bool} {held : Bool} {r : Reach} {t e n : Nat} {k : IntKind} {v : Value} {d : DataW H} {p : List MemPlace}
def intV : Value → Int
  | .int _ x => x
  | _ => 0
theorem open_arr (ht : P.underlying t = some (.array n e)) (he : P.underlying e = some (.int k)) (hce : P.cellsOf e = 1) (hct : P.cellsOf t = n)
    (hv : Value.okWide P W r b t v) (h : DataW.Trod enc P w base sp held t v d p) :
    ∃ zs : List Int, zs.length = n ∧ v = .agg ⟨zs.map (Value.int k)⟩ ∧ ∀ x ∈ zs, (Lit.int k x).wf = true := by
  obtain ⟨cs, rfl, hsz, _⟩ : ∃ cs, v = .agg cs ∧ cs.size = P.cellsOf t ∧ Row.okWide P W r b t cs := by
    simpa [Value.okWide, ht] using hv
  obtain ⟨fuel, hf⟩ := h
  obtain ⟨xs, m, _, _, _, hl, hel⟩ := DataW.trod_array ht hf
  rw [hct] at hsz
  have key : ∀ i, i < n → ∃ x : Int, cs[i]? = some (.int k x) ∧ (Lit.int k x).wf = true := by
    intro i hi
    have h1 := hel i hi
    rw [List.getElem?_eq_getElem (by omega)] at h1
    obtain ⟨x, e1, _, w1⟩ := DataW.trod_int he h1
    refine ⟨x, ?_, w1⟩
    have hcs : (Value.cells (.agg cs)).toList = cs.toList := rfl
    rw [hce] at e1
    have h2 : ((cs.toList.drop (i * 1)).take 1)[0]? = some (.int k x) := by
      have : (cs.toList.drop (i * 1)).take 1 = [.int k x] := by simpa [Value.cells] using e1
      rw [this]; rfl
    rw [List.getElem?_take, if_pos (by omega), List.getElem?_drop, Nat.mul_one, Nat.add_zero] at h2
    simpa using h2
  refine ⟨(List.range n).map (fun i => intV (cs[i]?.getD (.bool false))), by simp, ?_, ?_⟩
  · congr 1
    apply Array.ext'
    apply List.ext_getElem?
    intro i
    by_cases hi : i < n
    · obtain ⟨x, hx, _⟩ := key i hi
      simp [hi, hx, intV]
    · rw [List.getElem?_eq_none (by simp; omega), List.getElem?_eq_none (by simp; omega)]
  · intro x hx
    simp only [List.mem_map, List.mem_range] at hx
    obtain ⟨i, hi, rfl⟩ := hx
    obtain ⟨x, hx, hw⟩ := key i hi
    rw [hx]; exact hw
theorem open_arr2 (ht : P.underlying t = some (.array 2 e)) (he : P.underlying e = some (.int k)) (hce : P.cellsOf e = 1) (hct : P.cellsOf t = 2)
    (hv : Value.okWide P W r b t v) (h : DataW.Trod enc P w base sp held t v d p) :
    ∃ x0 x1 : Int, v = .agg #[.int k x0, .int k x1] ∧ (Lit.int k x0).wf = true ∧ (Lit.int k x1).wf = true := by
  obtain ⟨zs, hl, hv, hw⟩ := open_arr ht he hce hct hv h
  match zs, hl with
  | [x0, x1], _ => exact ⟨x0, x1, hv, hw _ (by simp), hw _ (by simp)⟩
theorem open_arr6 (ht : P.underlying t = some (.array 6 e)) (he : P.underlying e = some (.int k)) (hce : P.cellsOf e = 1) (hct : P.cellsOf t = 6)
    (hv : Value.okWide P W r b t v) (h : DataW.Trod enc P w base sp held t v d p) :
    ∃ x0 x1 x2 x3 x4 x5 : Int, v = .agg #[.int k x0, .int k x1, .int k x2, .int k x3, .int k x4, .int k x5] ∧ (Lit.int k x0).wf = true ∧ (Lit.int k x1).wf = true ∧ (Lit.int k x2).wf = true ∧ (Lit.int k x3).wf = true ∧ (Lit.int k x4).wf = true ∧ (Lit.int k x5).wf = true := by
  obtain ⟨zs, hl, hv, hw⟩ := open_arr ht he hce hct hv h
  match zs, hl with
  | [x0, x1, x2, x3, x4, x5], _ => exact ⟨x0, x1, x2, x3, x4, x5, hv, hw _ (by simp), hw _ (by simp), hw _ (by simp), hw _ (by simp), hw _ (by simp), hw _ (by simp)⟩
end
end Go.Proofs.YtjmflccbddjlhaaW.PrintMore
