import Derived.Lib.SliceRun
import Derived.Lib.ConvBytes
import Derived.Test.YtenlimmgbgcgpaaWMore
/-! Short names, and what the turned print leans on. -/
namespace Go.Proofs.YtenlimmgbgcgpaaW.PrintMore
open Go.RowKit Go.Proofs.YtenlimmgbgcgpaaW.PrintWords Go.Proofs.YtenlimmgbgcgpaaW.PrintLast
theorem kN {w : World} {g : Nat} {o : Obj} (h : w.heap[g]? = some o) (n : Nat) : (w.drewN n).heap[g]? = some o := blk_drewN h n
theorem kD {w : World} {g : Nat} {o : Obj} (h : w.heap[g]? = some o) : w.drew.heap[g]? = some o := blk_drew h
theorem kA {w : World} {g : Nat} {o : Obj} (h : w.heap[g]? = some o) (o' : Obj) : (w.alloc o').heap[g]? = some o := blk_alloc h o'
theorem cLt (w : World) (a : Addr) {v : Value} (h : w.cell? a = some v) : a.block < w.heap.size := World.block_lt_of_cell? w a h
/-- The first place at which a predicate holds, or -1. -/
def firstAt {α : Type} (p : α → Bool) (l : List α) : Int := match l.findIdx? p with | some i => (i : Int) | none => -1
theorem firstAt_hit {α : Type} (p : α → Bool) (l : List α) (z : α) (i : Int) (h0 : 0 ≤ i) (hi : i < l.length) (hp : p (l.getD i.toNat z) = true) (hb : ∀ j : Nat, (j : Int) < i → p (l.getD j z) = false) : firstAt p l = i := by
  have hlt : i.toNat < l.length := by omega
  have : l.findIdx? p = some i.toNat := by
    rw [List.findIdx?_eq_some_iff_getElem]
    refine ⟨hlt, ?_, fun j hj => ?_⟩
    · rw [List.getD_eq_getElem?_getD, List.getElem?_eq_getElem hlt] at hp; exact hp
    · have := hb j (by omega)
      rw [List.getD_eq_getElem?_getD, List.getElem?_eq_getElem (by omega)] at this
      simpa using this
  unfold firstAt
  rw [this]
  show ((i.toNat : Nat) : Int) = i
  omega
theorem firstAt_miss {α : Type} (p : α → Bool) (l : List α) (z : α) (hb : ∀ j : Nat, j < l.length → p (l.getD j z) = false) : firstAt p l = -1 := by
  have : l.findIdx? p = none := by
    rw [List.findIdx?_eq_none_iff]
    intro x hx
    obtain ⟨j, hj, rfl⟩ := List.mem_iff_getElem.1 hx
    have := hb j hj
    rw [List.getD_eq_getElem?_getD, List.getElem?_eq_getElem hj] at this
    simpa using this
  unfold firstAt
  rw [this]

/-! Short names for words that stand often (pack.py puts them in). -/
theorem sTA {α : Type _} (l : List α) (i : Nat) (a : α) : l.toArray.setIfInBounds i a = (l.set i a).toArray := List.setIfInBounds_toArray l i a
theorem sCZ {α : Type _} {x : α} {xs : List α} {a : α} : (x :: xs).set 0 a = a :: xs := rfl
theorem sCS {α : Type _} {x : α} {xs : List α} {i : Nat} {a : α} : (x :: xs).set (i + 1) a = x :: xs.set i a := rfl
theorem amk {p : Prop} (h : p) : Aside0 p := ⟨h⟩
theorem bAl {w W : World} (h : Below w.heap.size w W) (o : Obj) : Below w.heap.size w (W.alloc o) := below_alloc h o
theorem bDN {B : Nat} {w W : World} (h : Below B w W) (n : Nat) : Below B w (W.drewN n) := pw_below_drewN h n
theorem bD1 {B : Nat} {w W : World} (h : Below B w W) : Below B w W.drew := below_drew1 h
theorem bSe {w W : World} {g j : Nat} {v : Value} (h : Below w.heap.size w W) (hg : w.heap.size ≤ g) : Below w.heap.size w (W.setCell ⟨g, j, none⟩ v) := below_set h hg
/-! Handles: a pointer that may be nil, told as a row of length 0 or 1. -/
def adrOf : Value → Addr
  | .slice (some a) _ _ => a
  | _ => ⟨0, 0, none⟩
def hq {α : Type} : List α → Value → Option Addr
  | [], _ => none
  | _ :: _, v => some (adrOf v)
theorem hq_isNone {α : Type} (l : List α) (v : Value) : (hq l v).isNone = ((l.length : Int) == 0) := by
  cases l with
  | nil => rfl
  | cons x t => simp only [hq, Option.isNone_some]; exact (beq_eq_false_iff_ne.2 (by simp only [List.length_cons]; omega)).symm
theorem hq_pos {α : Type} {l : List α} {ad : Addr} (h : 0 < (l.length : Int)) (n c : Nat) : hq l (.slice (some ad) n c) = some ad := by
  cases l with
  | nil => simp at h
  | cons x t => rfl
theorem FK_slice_V {α : Type} {d : Kd α} {e : Nat} {W : World} {base : Nat} {ok : Nat → Prop} {v : Value} {l : List α} (h : Kd.V d e W base ok v l) : Kd.FK (Kd.slice e d) W ok l [v] := by
  obtain ⟨A, c, rfl, hl, hf⟩ := h
  exact Kd.FK_slice_mk hl hf
/-- A variable of the call's own, as what is shared. -/
theorem V_box {α : Type} {d : Kd α} {e t : Nat} {w : World} {base : Nat} {ok : Nat → Prop} {g : Nat} {cs : Array Value} {x : α} (h : w.heap[g]? = some (.cells cs t (0, 0))) (hok : ok g) (hk : Kd.FK d w ok x cs.toList) : Kd.V d e w base ok (.slice (some ⟨g, 0, none⟩) 1 1) [x] := by
  refine Kd.V_mk (xs := [x]) (Nat.le_refl _) (fun W' hW => ⟨rfl, by simp, fun _ => ⟨⟨g, 0, none⟩, rfl, fun j p hp => ?_⟩⟩)
  obtain ⟨rfl, rfl⟩ : j = 0 ∧ p = x := by
    cases j with
    | zero => simp at hp; exact ⟨rfl, hp.symm⟩
    | succ j => simp at hp
  have hlt : g < w.heap.size := blk_lt h
  have h' : W'.heap[g]? = some (.cells cs t (0, 0)) := (hW g hok hlt).trans h
  have hK := hk W' hW
  refine ⟨cs.toList, d.K_len hK, hK, fun i u hu => ?_⟩
  rw [Nat.zero_mul, Nat.zero_add, add_plain]
  exact (blk_cell h' i).trans (by simpa using hu)
theorem below_bytes (w : World) (e : TypeId) (s : ByteArray) : Below w.heap.size w (Go.Lib.bytesWorld w e s) :=
  ⟨rfl, rfl, rfl, by rw [Go.Lib.bytesWorld_size]; omega, fun k hk => Go.Lib.bytesWorld_at_old w e s k hk⟩
/-- A string's bytes: a new row that is told as shared. -/
theorem V_bytes {P : Program} {ops : Array Oper} {rest : List Oper} {Q : Exit → Act → World → Prop} {o : Oper} {a : Act} {w0 W : World} (base e : Nat) (hgd : o.guard = none) {N : Tmp} (_hd : o.dst = some N) (s : ByteArray) {ok : Nat → Prop}
    (hrun : (execOp a.eval o).run P W = .ok (.value (.slice (some ⟨W.heap.size, 0, none⟩) s.size (grownCap W s.size 0 e))) (Go.Lib.bytesWorld W e s))
    (hfresh : ok W.heap.size) (HB : Below base w0 W) (hbase : base ≤ W.heap.size) (hm : s.size ≤ 9223372036854775807)
    (h : ∀ v1 w1, Kd.V (Kd.int .u8) e w1 base ok v1 (bytesOf s) → Below base w0 w1 → Below W.heap.size W w1 → True → wpList P ops Q rest (a.put o.dst v1) w1) : wpList P ops Q (o :: rest) a W := by
  have hl : (bytesOf s).length = s.size := by unfold bytesOf; rw [List.length_map]; rfl
  have hb := below_bytes W e s
  refine Kd.event_run hgd hrun (h _ _ ?_ ?_ hb trivial)
  · have hF : Kd.V (Kd.int .u8) e (Go.Lib.bytesWorld W e s) base ok (.slice (some ⟨W.heap.size, 0, none⟩) (bytesOf s).length (grownCap W s.size 0 e)) (bytesOf s) := by
      refine Kd.V_mk (by rw [hl]; exact grownCap_ge W s.size 0 e) (fun W' hW => ⟨rfl, by rw [hl]; exact hm, fun _ => ⟨_, rfl, fun j p hp => ?_⟩⟩)
      have hlt : W.heap.size < (Go.Lib.bytesWorld W e s).heap.size := by rw [Go.Lib.bytesWorld_size]; omega
      have hj : j < s.size := by
        have := (List.getElem?_eq_some_iff.1 hp).1
        omega
      refine ⟨[.int .u8 p], rfl, ?_, fun i u hu => ?_⟩
      · rfl
      · cases i with
        | succ i => simp at hu
        | zero =>
          obtain rfl : u = .int .u8 p := by simpa using hu.symm
          have hc := Go.Lib.bytesWorld_cell W e s j hj
          have hp' : p = (s.data.toList.getD j 0).toNat := by
            unfold bytesOf at hp
            rw [List.getElem?_map] at hp
            rw [List.getD_eq_getElem?_getD]
            cases hd : s.data.toList[j]? with
            | none => rw [hd] at hp; simp at hp
            | some b => rw [hd] at hp; simpa using hp.symm
          rw [hp', ← hc]
          show W'.cell? ((⟨W.heap.size, 0, none⟩ : Addr).add (j * 1 + 0)) = _
          rw [add_plain, Nat.mul_one, Nat.add_zero]
          unfold World.cell?
          simp only [hW _ hfresh hlt]
    rw [hl] at hF
    exact hF
  · exact ⟨hb.os.trans HB.os, hb.tape.trans HB.tape, hb.output.trans HB.output, Nat.le_trans HB.size hb.size, fun k hk => (hb.block k (by omega)).trans (HB.block k hk)⟩
/-- The same, as a step of a region that draws its order. -/
theorem V_bytes_step {P : Program} {ops : Array Oper} {Kc : Act → World → Prop} {Q : Exit → Act → World → Prop} {o : Oper} {a : Act} {w0 W : World} (base e : Nat) (hw : Region.wanted o (yielded ops a.tmps) = true) {N : Tmp} (_hd : o.dst = some N) (s : ByteArray) {ok : Nat → Prop}
    (hrun : (execOp a.eval o).run P W = .ok (.value (.slice (some ⟨W.heap.size, 0, none⟩) s.size (grownCap W s.size 0 e))) (Go.Lib.bytesWorld W e s))
    (hfresh : ok W.heap.size) (HB : Below base w0 W) (hbase : base ≤ W.heap.size) (hm : s.size ≤ 9223372036854775807)
    (h : ∀ v1 w1, Kd.V (Kd.int .u8) e w1 base ok v1 (bytesOf s) → Below base w0 w1 → Below W.heap.size W w1 → True → Kc (a.put o.dst v1) w1) : if Region.wanted o (yielded ops a.tmps) = true then Oper.wp P o a W Kc Q else Kc (a.put o.dst undef) W := by
  have hl : (bytesOf s).length = s.size := by unfold bytesOf; rw [List.length_map]; rfl
  have hb := below_bytes W e s
  refine event_step hw hrun (h _ _ ?_ ?_ hb trivial)
  · have hF : Kd.V (Kd.int .u8) e (Go.Lib.bytesWorld W e s) base ok (.slice (some ⟨W.heap.size, 0, none⟩) (bytesOf s).length (grownCap W s.size 0 e)) (bytesOf s) := by
      refine Kd.V_mk (by rw [hl]; exact grownCap_ge W s.size 0 e) (fun W' hW => ⟨rfl, by rw [hl]; exact hm, fun _ => ⟨_, rfl, fun j p hp => ?_⟩⟩)
      have hlt : W.heap.size < (Go.Lib.bytesWorld W e s).heap.size := by rw [Go.Lib.bytesWorld_size]; omega
      have hj : j < s.size := by
        have := (List.getElem?_eq_some_iff.1 hp).1
        omega
      refine ⟨[.int .u8 p], rfl, ?_, fun i u hu => ?_⟩
      · rfl
      · cases i with
        | succ i => simp at hu
        | zero =>
          obtain rfl : u = .int .u8 p := by simpa using hu.symm
          have hc := Go.Lib.bytesWorld_cell W e s j hj
          have hp' : p = (s.data.toList.getD j 0).toNat := by
            unfold bytesOf at hp
            rw [List.getElem?_map] at hp
            rw [List.getD_eq_getElem?_getD]
            cases hd : s.data.toList[j]? with
            | none => rw [hd] at hp; simp at hp
            | some b => rw [hd] at hp; simpa using hp.symm
          rw [hp', ← hc]
          show W'.cell? ((⟨W.heap.size, 0, none⟩ : Addr).add (j * 1 + 0)) = _
          rw [add_plain, Nat.mul_one, Nat.add_zero]
          unfold World.cell?
          simp only [hW _ hfresh hlt]
    rw [hl] at hF
    exact hF
  · exact ⟨hb.os.trans HB.os, hb.tape.trans HB.tape, hb.output.trans HB.output, Nat.le_trans HB.size hb.size, fun k hk => (hb.block k (by omega)).trans (HB.block k hk)⟩
/-- An element that is a row, by its cell. -/
theorem elem_C {α : Type} {d : Kd α} {e : Nat} {w : World} {ad : Addr} {n : Nat} {xs : List (List α)} (h : Kd.C (Kd.slice e d) w (some ad) n xs) (i : Int) (z : List α) (h0 : 0 ≤ i) (h1 : i < xs.length) {A' : Option Addr} {n' c' : Nat} (hc : w.cell? (ad.add i.toNat) = some (.slice A' n' c')) : Kd.C d w A' (xs.getD i.toNat z).length (xs.getD i.toNat z) := by
  obtain ⟨ad', cs, e1, _, hK, hcc⟩ := Kd.C_get h z i h0 (by have := h.1; omega)
  obtain rfl : ad = ad' := Option.some.inj e1
  obtain ⟨A, c, rfl, _, hC⟩ := hK
  have h2 := hcc 0 _ rfl
  rw [Nat.add_zero, show (Kd.slice e d).sz = 1 from rfl, Nat.mul_one] at h2
  rw [h2] at hc
  injection hc with hc
  injection hc with ha _ _
  rw [← ha]
  exact hC
/-- An argument's rows of whole numbers. -/
def ArgRows (k : IntKind) (B : Nat) (w : World) (a : Option Addr) (len cap : Nat) (l : List (List Int)) : Prop :=
  l.length = len ∧ len ≤ cap ∧ cap ≤ maxLen ∧ (0 < len → ∃ ad, a = some ad ∧ ∀ j r, l[j]? = some r → ∃ A c, w.cell? (ad.add j) = some (.slice A r.length c) ∧ r.length ≤ c ∧ c ≤ maxLen ∧ (0 < r.length → ∃ a', A = some a' ∧ ∀ i, i < r.length → w.cell? (a'.add i) = some (.int k (r.getD i 0)))) ∧
  ∀ r ∈ l, r.length * B ≤ 140737488351232 ∧ ∀ x ∈ r, (Lit.int k x).wf = true
theorem ArgRows_C {e : Nat} {k : IntKind} {B : Nat} {w : World} {a : Option Addr} {len cap : Nat} {l : List (List Int)} (h : ArgRows k B w a len cap l) : Kd.C (Kd.slice e (Kd.int k)) w a len l := by
  obtain ⟨h1, h2, h3, h4, _⟩ := h
  have hmax : maxLen ≤ 9223372036854775807 := by decide
  refine ⟨h1, by omega, fun hp => ?_⟩
  obtain ⟨ad, rfl, hr⟩ := h4 hp
  refine ⟨ad, rfl, fun j r hj => ?_⟩
  obtain ⟨A, c, g1, g2, g3, g4⟩ := hr j r hj
  refine ⟨[.slice A r.length c], rfl, ⟨A, c, rfl, g2, ⟨rfl, by omega, fun hpos => ?_⟩⟩, fun i u hu => ?_⟩
  · obtain ⟨a', rfl, hc⟩ := g4 hpos
    refine ⟨a', rfl, fun i x hx => ⟨[.int k x], rfl, rfl, fun q u hu => ?_⟩⟩
    cases q with
    | succ q => simp at hu
    | zero =>
      obtain rfl : u = .int k x := by simpa using hu.symm
      have hi := (List.getElem?_eq_some_iff.1 hx).1
      have := hc i hi
      rw [List.getD_eq_getElem?_getD, hx] at this
      show w.cell? (a'.add (i * 1 + 0)) = _
      rw [Nat.mul_one, Nat.add_zero]
      exact this
  · cases i with
    | succ i => simp at hu
    | zero =>
      obtain rfl : u = .slice A r.length c := by simpa using hu.symm
      show w.cell? (ad.add (j * 1 + 0)) = _
      rw [Nat.mul_one, Nat.add_zero]
      exact g1
end Go.Proofs.YtenlimmgbgcgpaaW.PrintMore
