import Derived.Maps.Own
import Derived.WalkKit
import Derived.Lib.SliceRun
import Derived.Lib.ConvBytes
import Derived.Test.YtenlimmgbgcgpaaWX
/-! A font: its tags and a map of its tables (versal/sfnt.Font), told by hand. -/
namespace Go.Proofs.YtenlimmgbgcgpaaW.PrintMore
open Go Go.RowKit Go.WideMaps Go.Maps Go.ChangeMaps Go.Proofs.YtenlimmgbgcgpaaW.PrintWords Go.Proofs.YtenlimmgbgcgpaaW.PrintLast
/-- Block b is a map with these keys (in the order in which they were put) and elements. -/
def MapAt (W : World) (b : Nat) (l : List (ByteArray × Value)) : Prop :=
  (l.map (·.1)).Nodup ∧ l.length ≤ maxLen ∧ (∀ p ∈ l, p.1.size ≤ maxLen) ∧ ∃ es clock, W.heap[b]? = some (.map es clock) ∧ es.toList.map (fun x => (x.key, x.val)) = l.map (fun p => (Value.string p.1, p.2)) ∧ ∀ x ∈ es.toList, x.born < clock
theorem MapAt_new (w : World) : MapAt (w.alloc (.map #[] 0)) w.heap.size [] :=
  ⟨List.nodup_nil, Nat.zero_le _, fun p hp => by simp at hp, #[], 0, by rw [World.alloc]; exact Array.getElem?_push_size, rfl, fun x hx => by simp at hx⟩
theorem MapAt_keep {w w1 : World} {b : Nat} {l : List (ByteArray × Value)} (h : MapAt w b l) (hb : w1.heap[b]? = w.heap[b]?) : MapAt w1 b l := by
  obtain ⟨h1, h2, h3, es, clock, h4, h5, h6⟩ := h
  exact ⟨h1, h2, h3, es, clock, hb.trans h4, h5, h6⟩
theorem MapAt_lt {w : World} {b : Nat} {l : List (ByteArray × Value)} (h : MapAt w b l) : b < w.heap.size := by
  obtain ⟨_, _, _, es, clock, h4, _⟩ := h
  exact (Array.getElem?_eq_some_iff.1 h4).1
theorem keys_of {P : Program} {k : TypeId} (hk : P.underlying k = some .string) {es : Array MapEntry} {l : List (ByteArray × Value)} (h3 : ∀ p ∈ l, p.1.size ≤ maxLen) (h5 : es.toList.map (fun x => (x.key, x.val)) = l.map (fun p => (Value.string p.1, p.2))) : ∀ e ∈ es.toList, ∃ q, keyOf P k e.key = some q := by
  intro e he
  have : (e.key, e.val) ∈ es.toList.map (fun x => (x.key, x.val)) := List.mem_map.2 ⟨e, he, rfl⟩
  rw [h5] at this
  obtain ⟨p, hp, heq⟩ := List.mem_map.1 this
  rw [← (Prod.mk.inj heq).1]
  exact ⟨_, keyOf_string_mk hk (h3 p hp)⟩
theorem entry_of {es : Array MapEntry} {l : List (ByteArray × Value)} (h5 : es.toList.map (fun x => (x.key, x.val)) = l.map (fun p => (Value.string p.1, p.2))) {j : Nat} {e : MapEntry} (h : es.toList[j]? = some e) : ∃ p, l[j]? = some p ∧ e.key = .string p.1 ∧ e.val = p.2 := by
  have h1 := congrArg (fun z => z[j]?) h5
  simp only [List.getElem?_map, h, Option.map_some] at h1
  cases hp : l[j]? with
  | none => rw [hp] at h1; simp at h1
  | some p =>
    rw [hp] at h1
    simp only [Option.map_some, Option.some.injEq, Prod.mk.injEq] at h1
    exact ⟨p, rfl, h1.1, h1.2⟩
theorem MapAt_entry {P : Program} {k t e : TypeId} (hk : P.underlying k = some .string) (ht : P.underlying t = some (.map k e)) {z : Value} (hz : ∀ w, (zeroValue e).run P w = .ok z w) {w : World} {b : Nat} {l : List (ByteArray × Value)} (h : MapAt w b l) {s : ByteArray} (hs : s.size ≤ maxLen) (hn : ∀ p ∈ l, p.1 ≠ s) (hm : l.length < maxLen) :
    ∃ (o1 : Obj) (clock : Nat), (Instr.mapEntry t (.map (some b)) (.string s)).run P w = .ok (.tuple #[z, goInt clock]) (setBlock w b o1) ∧ ∀ (v : Value) (W : World), W.heap[b]? = some o1 → ∃ o2, (Instr.entryStore t (.map (some b)) (goInt clock) v).run P W = .ok () (setBlock W b o2) ∧ MapAt (setBlock W b o2) b (l ++ [(s, v)]) := by
  obtain ⟨h1, h2, h3, es, clock, h4, h5, h6⟩ := h
  have K : Keyed P k := string_keyed hk
  have hkey := keyOf_string_mk hk hs
  rcases K.find w hkey es.toList (keys_of hk h3 h5) with ⟨f1, f2⟩ | ⟨j, e0, f1, f2, f3⟩
  · refine ⟨.map (es.push ⟨.string s, z, clock⟩) (clock + 1), clock, ?_, fun v W hW => ⟨.map (es.push ⟨.string s, v, clock⟩) (clock + 1), ?_, ?_, ?_, ?_, _, _, heap_setBlock_same hW _, ?_, ?_⟩⟩
    · simp [Instr.mapEntry, run_underlying ht, MapKept.run_getObj_map h4, K.check w false hkey, f1, hz, MapKept.run_setObj_map _ h4, Result.andThen, setBlock]
    · have hf : (es.push (⟨.string s, z, clock⟩ : MapEntry)).findIdx? (fun e => (e.born : Int) == (clock : Int)) = some es.size := by
        rw [Array.findIdx?_eq_some_iff_getElem]
        refine ⟨by simp, by simp, fun j hj => ?_⟩
        have := h6 (es[j]) (by simp)
        simp [Array.getElem_push, hj]
        omega
      have hmod : (es.push (⟨.string s, z, clock⟩ : MapEntry)).modify es.size (fun e => { e with val := v }) = es.push ⟨.string s, v, clock⟩ := by
        apply Array.ext'
        apply List.ext_getElem?
        intro i
        simp only [Array.toList_modify, Array.toList_push, List.getElem?_modify]
        by_cases hi : es.size = i
        · subst hi
          simp
        · simp only [hi, if_false, Option.map_eq_map, Option.map_id']
          by_cases hl : i < es.size
          · simp [List.getElem?_append_left, hl]
          · rw [List.getElem?_eq_none (by simp; omega), List.getElem?_eq_none (by simp; omega)]
      simp [Instr.entryStore, MapKept.run_getObj_map hW, goInt, asInt, asIntOf, hf, hmod, MapKept.run_setObj_map _ hW, Result.andThen, setBlock]
    · rw [List.map_append, List.nodup_append]
      refine ⟨h1, by simp, ?_⟩
      intro a ha c hc
      obtain ⟨p, hp, rfl⟩ := List.mem_map.1 ha
      simp only [List.map_cons, List.map_nil, List.mem_singleton] at hc
      rw [hc]; exact hn p hp
    · rw [List.length_append, List.length_singleton]; omega
    · intro p hp
      rcases List.mem_append.1 hp with hp | hp
      · exact h3 p hp
      · rw [List.mem_singleton.1 hp]; exact hs
    · simp [h5]
    · intro x hx
      simp only [Array.toList_push, List.mem_append, List.mem_singleton] at hx
      rcases hx with hx | rfl
      · have := h6 x hx; omega
      · exact Nat.lt_succ_self _
  · obtain ⟨p, hp, e1, _⟩ := entry_of h5 f2
    exact absurd (by rw [e1] at f3; exact Value.string.inj f3) (hn p (List.mem_of_getElem? hp))
/-- What the map has at a key. -/
def mapGet {α : Type} (l : List (ByteArray × α)) (s : ByteArray) : Option α := (l.find? (fun p => decide (p.1 = s))).map (·.2)
theorem nodup_find {l : List (ByteArray × Value)} (h : (l.map (·.1)).Nodup) {j : Nat} {p : ByteArray × Value} (hp : l[j]? = some p) : l.find? (fun q => decide (q.1 = p.1)) = some p := by
  induction l generalizing j with
  | nil => simp at hp
  | cons q t ih =>
    rw [List.map_cons, List.nodup_cons] at h
    cases j with
    | zero =>
      simp only [List.getElem?_cons_zero, Option.some.injEq] at hp
      subst hp
      rw [List.find?_cons_of_pos (by exact decide_eq_true rfl)]
    | succ j =>
      rw [List.getElem?_cons_succ] at hp
      rw [List.find?_cons_of_neg, ih h.2 hp]
      intro e
      have e : q.1 = p.1 := of_decide_eq_true e
      exact h.1 (e ▸ List.mem_map.2 ⟨p, List.mem_of_getElem? hp, rfl⟩)
theorem MapAt_look {P : Program} {k t e : TypeId} (hk : P.underlying k = some .string) (ht : P.underlying t = some (.map k e)) {w : World} {z : Value} (hz : (zeroValue e).run P w = .ok z w) {b : Nat} {l : List (ByteArray × Value)} (h : MapAt w b l) {s : ByteArray} (hs : s.size ≤ maxLen) :
    (Instr.lookup t (.map (some b)) (.string s) true).run P w = .ok (match mapGet l s with | some v => .tuple #[v, .bool true] | none => .tuple #[z, .bool false]) w := by
  obtain ⟨h1, h2, h3, es, clock, h4, h5, _⟩ := h
  have K : Keyed P k := string_keyed hk
  have hkey := keyOf_string_mk hk hs
  rcases K.find w hkey es.toList (keys_of hk h3 h5) with ⟨f1, f2⟩ | ⟨j, e0, f1, f2, f3⟩
  · have hg : mapGet l s = none := by
      unfold mapGet
      rw [Option.map_eq_none_iff, List.find?_eq_none]
      intro p hp hps
      obtain rfl : p.1 = s := of_decide_eq_true hps
      have : (Value.string p.1, p.2) ∈ l.map (fun p => (Value.string p.1, p.2)) := List.mem_map.2 ⟨p, hp, rfl⟩
      rw [← h5] at this
      obtain ⟨x, hx, hxe⟩ := List.mem_map.1 this
      exact f2 x hx (Prod.mk.inj hxe).1
    rw [hg]
    simp [Instr.lookup, run_underlying ht, MapKept.run_getObj_map h4, K.check w _ hkey, f1, hz, Result.andThen]
  · obtain ⟨p, hp, e1, e2⟩ := entry_of h5 f2
    have e3 : p.1 = s := by rw [e1] at f3; exact Value.string.inj f3
    have hg : mapGet l s = some e0.val := by
      unfold mapGet
      rw [← e3, nodup_find h1 hp, e2]; rfl
    rw [hg]
    simp [Instr.lookup, run_underlying ht, MapKept.run_getObj_map h4, K.check w _ hkey, f1, Result.andThen]

/-- A row of bytes that is read. -/
def TabAt (w : World) (v : Value) (ys : List Int) : Prop := ∃ A c, v = .slice A ys.length c ∧ ys.length ≤ c ∧ Kd.C (Kd.int .u8) w A ys.length ys
theorem TabAt_V {w : World} {e base : Nat} {ok : Nat → Prop} {v : Value} {ys : List Int} (h : Kd.V (Kd.int .u8) e w base ok v ys) {W : World} (hW : ∀ k, ok k → k < w.heap.size → W.heap[k]? = w.heap[k]?) : TabAt W v ys := by
  obtain ⟨A, c, rfl, hl, hf⟩ := h
  exact ⟨A, c, rfl, hl, hf W hW⟩
theorem MapAt_below {w w1 : World} {b : Nat} {l : List (ByteArray × Value)} (h : MapAt w b l) (hb : Below w.heap.size w w1) : MapAt w1 b l := MapAt_keep h (hb.block b (MapAt_lt h))
/-- A font: its tags and a map of its tables, as a row of pairs. -/
def fontK : Kd (List (ByteArray × List Int)) where
  sz := 2
  E := []
  K := fun w x cs => ∃ A c b m, cs = [.slice A x.length c, .map (some b)] ∧ x.length ≤ c ∧ Kd.C Kd.string w A x.length (x.map (·.1)) ∧ MapAt w b m ∧ m.length = x.length ∧ ∀ (j : Nat) (p : ByteArray × Value) (q : ByteArray × List Int), m[j]? = some p → x[j]? = some q → p.1 = q.1 ∧ TabAt w p.2 q.2
  M := fun _ _ _ _ _ => False
  K_len := by
    rintro w x cs ⟨A, c, b, m, rfl, _⟩
    rfl
  K_one := by
    rintro w x cs ⟨A, c, b, m, rfl, _⟩ u hu
    simp only [List.mem_cons, List.not_mem_nil, or_false] at hu
    rcases hu with rfl | rfl <;> rfl
  K_below := by
    rintro w w1 x cs hb ⟨A, c, b, m, rfl, hl, hC, hm, hn, hv⟩
    refine ⟨A, c, b, m, rfl, hl, Kd.C_below hC hb, MapAt_below hm hb, hn, fun j p q hp hq => ⟨(hv j p q hp hq).1, ?_⟩⟩
    obtain ⟨A', c', h1, h2, h3⟩ := (hv j p q hp hq).2
    exact ⟨A', c', h1, h2, Kd.C_below h3 hb⟩
  K_of_M := fun h => h.elim
  M_mono := fun _ h => h
  M_bound := fun h => h
  M_move := fun _ h => h
  M_lower := fun _ h => h
theorem fontK_FK {W : World} {ok : Nat → Prop} {x : List (ByteArray × List Int)} {A : Option Addr} {c b e base : Nat} {m : List (ByteArray × Value)} (hl : x.length ≤ c) (hA : Kd.F Kd.string W ok A x.length (x.map (·.1))) (hm : MapAt W b m) (hb : ok b) (hn : m.length = x.length)
    (hv : ∀ (j : Nat) (p : ByteArray × Value) (q : ByteArray × List Int), m[j]? = some p → x[j]? = some q → p.1 = q.1 ∧ Kd.V (Kd.int .u8) e W base ok p.2 q.2) : Kd.FK fontK W ok x [.slice A x.length c, .map (some b)] := by
  intro W' hW
  refine ⟨A, c, b, m, rfl, hl, hA W' hW, MapAt_keep hm (hW b hb (MapAt_lt hm)), hn, fun j p q hp hq => ⟨(hv j p q hp hq).1, TabAt_V (hv j p q hp hq).2 hW⟩⟩

theorem add_one' (ad : Addr) : ad.add 1 = ⟨ad.block, ad.off + 1, none⟩ := by
  have := add_field ad 0 1 (by omega)
  rwa [Nat.zero_add, Addr.add_zero'] at this
theorem mapGet_rel {w : World} : ∀ {m : List (ByteArray × Value)} {x : List (ByteArray × List Int)}, m.length = x.length → (∀ (j : Nat) (p : ByteArray × Value) (q : ByteArray × List Int), m[j]? = some p → x[j]? = some q → p.1 = q.1 ∧ TabAt w p.2 q.2) → ∀ s : ByteArray,
    (mapGet m s = none ∧ mapGet x s = none) ∨ ∃ v l, mapGet m s = some v ∧ mapGet x s = some l ∧ TabAt w v l
  | [], [], _, _, s => .inl ⟨rfl, rfl⟩
  | p :: m, q :: x, hn, hv, s => by
    obtain ⟨h1, h2⟩ := hv 0 p q rfl rfl
    by_cases e : p.1 = s
    · refine .inr ⟨p.2, q.2, ?_, ?_, h2⟩
      · unfold mapGet; rw [List.find?_cons_of_pos (by exact decide_eq_true e)]; rfl
      · unfold mapGet; rw [List.find?_cons_of_pos (by exact decide_eq_true (h1.symm.trans e))]; rfl
    · have e1 : mapGet (p :: m) s = mapGet m s := by unfold mapGet; rw [List.find?_cons_of_neg (by simpa using e)]
      have e2 : mapGet (q :: x) s = mapGet x s := by unfold mapGet; rw [List.find?_cons_of_neg (by rw [← h1]; simpa using e)]
      rw [e1, e2]
      exact mapGet_rel (by simpa using hn) (fun j p' q' hp hq => hv (j + 1) p' q' hp hq) s
/-- The tables of a font in the making: rows of its own. -/
def TabsAt (e : Nat) (W : World) (base : Nat) (m : List (ByteArray × Value)) (x : List (ByteArray × List Int)) : Prop :=
  m.length = x.length ∧ ∀ (j : Nat) (p : ByteArray × Value) (q : ByteArray × List Int), m[j]? = some p → x[j]? = some q → p.1 = q.1 ∧ Kd.R (Kd.int .u8) e W base (fun _ => True) p.2 q.2
theorem TabsAt_nil (e : Nat) (W : World) (base : Nat) : TabsAt e W base [] [] := ⟨rfl, fun j p q h => by simp at h⟩
theorem R_u8_step {e base : Nat} {W W1 : World} {v : Value} {l : List Int} (h : Kd.R (Kd.int .u8) e W base (fun _ => True) v l) (hm : ∀ k cells, base ≤ k → k < W.heap.size → W.heap[k]? = some (.cells cells e (0, 0)) → W1.heap[k]? = W.heap[k]?) : Kd.R (Kd.int .u8) e W1 base (fun _ => True) v l :=
  Kd.R_mono (Kd.R_move (Kd.R_bound h) (fun k hk => by
    obtain ⟨_, h1, h2, q, hq, cells, hc⟩ := hk
    have : q = e := by
      rcases List.mem_cons.1 hq with h | h
      · exact h
      · exact absurd h (by intro h; cases h)
    subst this
    exact hm k cells h1 h2 hc)) (fun _ _ => trivial)
theorem TabsAt_step {e base : Nat} {W W1 : World} {m : List (ByteArray × Value)} {x : List (ByteArray × List Int)} (h : TabsAt e W base m x) (hm : ∀ k cells, base ≤ k → k < W.heap.size → W.heap[k]? = some (.cells cells e (0, 0)) → W1.heap[k]? = W.heap[k]?) : TabsAt e W1 base m x :=
  ⟨h.1, fun j p q hp hq => ⟨(h.2 j p q hp hq).1, R_u8_step (h.2 j p q hp hq).2 hm⟩⟩
theorem TabsAt_below {e base : Nat} {W W1 : World} {m : List (ByteArray × Value)} {x : List (ByteArray × List Int)} (h : TabsAt e W base m x) (hb : Below W.heap.size W W1) : TabsAt e W1 base m x := TabsAt_step h (fun k _ _ hk _ => hb.block k hk)
theorem TabsAt_snoc {e base : Nat} {W : World} {m : List (ByteArray × Value)} {x : List (ByteArray × List Int)} (h : TabsAt e W base m x) {s : ByteArray} {v : Value} {l : List Int} (hr : Kd.R (Kd.int .u8) e W base (fun _ => True) v l) : TabsAt e W base (m ++ [(s, v)]) (x ++ [(s, l)]) := by
  refine ⟨by simp [h.1], fun j p q hp hq => ?_⟩
  by_cases hj : j < m.length
  · rw [List.getElem?_append_left hj] at hp
    rw [List.getElem?_append_left (by rw [← h.1]; exact hj)] at hq
    exact h.2 j p q hp hq
  · have hj' : j = m.length := by
      have := (List.getElem?_eq_some_iff.1 hp).1
      rw [List.length_append, List.length_singleton] at this
      omega
    subst hj'
    rw [List.getElem?_append_right (Nat.le_refl _), Nat.sub_self] at hp
    rw [h.1, List.getElem?_append_right (Nat.le_refl _), Nat.sub_self] at hq
    obtain rfl : (s, v) = p := by simpa using hp
    obtain rfl : (s, l) = q := by simpa using hq
    exact ⟨rfl, hr⟩
theorem TabsAt_keys {e base : Nat} {W : World} {m : List (ByteArray × Value)} {x : List (ByteArray × List Int)} (h : TabsAt e W base m x) : ∀ p ∈ m, p.1 ∈ x.map (·.1) := by
  intro p hp
  obtain ⟨j, hj, rfl⟩ := List.mem_iff_getElem.1 hp
  have hx : j < x.length := by rw [← h.1]; exact hj
  have := (h.2 j _ _ (List.getElem?_eq_getElem hj) (List.getElem?_eq_getElem hx)).1
  rw [this]
  exact List.mem_map.2 ⟨_, List.getElem_mem hx, rfl⟩
theorem font_FK {e es base gm : Nat} {W : World} {m : List (ByteArray × Value)} {x : List (ByteArray × List Int)} {A : Option Addr} {c n : Nat} (hn : n = x.length) (h0 : Kd.R Kd.string es W base (fun k => base ≤ k) (.slice A n c) (x.map (·.1))) (hm : MapAt W gm m) (ht : TabsAt e W base m x) (hg : base ≤ gm) : Kd.FK fontK W (fun k => base ≤ k) x [.slice A n c, .map (some gm)] := by
  subst hn
  have hV := Kd.V_at (Kd.R_V (base' := base) h0)
  have hF := hV.2.2
  rw [List.length_map] at hF
  refine fontK_FK (e := e) (base := base) hV.2.1 hF hm hg ht.1 (fun j p q hp hq => ⟨(ht.2 j p q hp hq).1, ?_⟩)
  exact Kd.V_mono (Kd.R_V (Kd.R_bound (ht.2 j p q hp hq).2)) (fun k hk => hk.2.1)

theorem MapAt_alloc {w : World} {b : Nat} {l : List (ByteArray × Value)} (h : MapAt w b l) (o : Obj) : MapAt (w.alloc o) b l := MapAt_below h (below_alloc (Below.refl _ _) o)
theorem MapAt_grown {w w1 : World} {b : Nat} {l : List (ByteArray × Value)} (h : MapAt w b l) {row : Option Nat} (hg : w.grownBy w1 row) (hne : some b ≠ row) : MapAt w1 b l := MapAt_keep h (hg.block b (MapAt_lt h) hne)
theorem TabsAt_alloc {e base : Nat} {W : World} {m : List (ByteArray × Value)} {x : List (ByteArray × List Int)} (h : TabsAt e W base m x) (o : Obj) : TabsAt e (W.alloc o) base m x := TabsAt_below h (below_alloc (Below.refl _ _) o)
theorem TabsAt_grown {e es base : Nat} {W W1 : World} {m : List (ByteArray × Value)} {x : List (ByteArray × List Int)} (h : TabsAt e W base m x) {row : Option Nat} (hg : W.grownBy W1 row) (ht : ∀ k, row = some k → ∃ cells, W.heap[k]? = some (.cells cells es (0, 0))) (hne : e ≠ es) : TabsAt e W1 base m x :=
  TabsAt_step h (fun k cells _ hk hc => hg.block k hk (fun he => by
    obtain ⟨cells', hc'⟩ := ht k he.symm
    rw [hc] at hc'
    injection hc' with hc'
    injection hc' with _ hc'
    exact hne hc'))
theorem R_ne_map {α : Type} {d : Kd α} {e base : Nat} {ok : Nat → Prop} {w : World} {v : Value} {xs : List α} (h : Kd.R d e w base ok v xs) {b : Nat} {l : List (ByteArray × Value)} (hm : MapAt w b l) : some b ≠ v.ownBlock := fun he => by
  obtain ⟨cells, hc⟩ := Kd.R_typed h b he.symm
  obtain ⟨_, _, _, es, clock, h4, _⟩ := hm
  rw [hc] at h4
  injection h4 with h4
  cases h4
theorem setBlock_at {w : World} {b : Nat} {l : List (ByteArray × Value)} (h : MapAt w b l) (o : Obj) : (setBlock w b o).heap[b]? = some o := by
  obtain ⟨_, _, _, es, clock, h4, _⟩ := h
  exact heap_setBlock_same h4 o
/-- A font in the making. -/
def FontSt (T e es : Nat) (w W : World) (gb gm : Nat) (u : Value) (m : List (ByteArray × Value)) (x : List (ByteArray × List Int)) : Prop :=
  W.heap[gb]? = some (.cells #[u, .map (some gm)] T (0, 0)) ∧ MapAt W gm m ∧ TabsAt e W w.heap.size m x ∧ Kd.R Kd.string es W w.heap.size (fun k => w.heap.size ≤ k) u (x.map (·.1)) ∧ Below w.heap.size w W
theorem FontSt_below {T e es gb gm : Nat} {w W W1 : World} {u : Value} {m : List (ByteArray × Value)} {x : List (ByteArray × List Int)} (h : FontSt T e es w W gb gm u m x) (hb : Below W.heap.size W W1) : FontSt T e es w W1 gb gm u m x := by
  obtain ⟨h1, h2, h3, h4, h5⟩ := h
  exact ⟨blk_below h1 hb, MapAt_below h2 hb, TabsAt_below h3 hb, Kd.R_below h4 hb, below_step h5 hb⟩
theorem font_store {T e es gb gm : Nat} {w w2 : World} {u v1 vt : Value} {m : List (ByteArray × Value)} {x : List (ByteArray × List Int)} {tags : List ByteArray} {tl : List Int} (h1 : w2.heap[gb]? = some (.cells #[u, .map (some gm)] T (0, 0))) (h2 : MapAt w2 gm m) (h3 : TabsAt e w2 w.heap.size m x)
    (h4 : Kd.R (Kd.int .u8) e w2 w.heap.size (fun _ => True) vt tl) (h5 : Kd.R Kd.string es w2 w.heap.size (fun k => w.heap.size ≤ k) v1 tags) (h6 : Below w.heap.size w w2) (he : e ≠ T) (hes : es ≠ T) (hg : w.heap.size ≤ gb) :
    (w2.setCell ⟨gb, 0, none⟩ v1).heap[gb]? = some (.cells #[v1, .map (some gm)] T (0, 0)) ∧ MapAt (w2.setCell ⟨gb, 0, none⟩ v1) gm m ∧ TabsAt e (w2.setCell ⟨gb, 0, none⟩ v1) w.heap.size m x ∧
      Kd.R (Kd.int .u8) e (w2.setCell ⟨gb, 0, none⟩ v1) w.heap.size (fun _ => True) vt tl ∧ Kd.R Kd.string es (w2.setCell ⟨gb, 0, none⟩ v1) w.heap.size (fun k => w.heap.size ≤ k) v1 tags ∧ Below w.heap.size w (w2.setCell ⟨gb, 0, none⟩ v1) := by
  have hfar : ∀ k, k ≠ gb → (w2.setCell ⟨gb, 0, none⟩ v1).heap[k]? = w2.heap[k]? := fun k hk => Below.heap_setCell w2 ⟨gb, 0, none⟩ v1 k hk
  have hty : ∀ (q : Nat), q ≠ T → ∀ k cells, w2.heap[k]? = some (.cells cells q (0, 0)) → k ≠ gb := fun q hq k cells hc hkg => by
    subst hkg
    rw [hc] at h1
    injection h1 with h1
    injection h1 with _ h1
    exact hq h1
  have hgm : gm ≠ gb := fun h => by
    subst h
    obtain ⟨_, _, _, es', clock, hh, _⟩ := h2
    rw [hh] at h1
    injection h1 with h1
    cases h1
  exact ⟨blk_put h1 0 v1 rfl, MapAt_keep h2 (hfar gm hgm), TabsAt_step h3 (fun k cells _ _ hc => hfar k (hty e he k cells hc)), R_u8_step h4 (fun k cells _ _ hc => hfar k (hty e he k cells hc)), Kd.R_set h5 h1 (by
    intro q hq
    rcases List.mem_cons.1 hq with rfl | hq
    · exact hes
    · cases hq) 0 v1, below_set h6 hg⟩
theorem font_end {T e es gb gm : Nat} {w w3 : World} {v1 vt : Value} {m : List (ByteArray × Value)} {x : List (ByteArray × List Int)} {s : ByteArray} {tl : List Int} {o1 o2 : Obj}
    (h : w3.heap[gb]? = some (.cells #[v1, .map (some gm)] T (0, 0)) ∧ MapAt w3 gm m ∧ TabsAt e w3 w.heap.size m x ∧ Kd.R (Kd.int .u8) e w3 w.heap.size (fun _ => True) vt tl ∧ Kd.R Kd.string es w3 w.heap.size (fun k => w.heap.size ≤ k) v1 (x.map (·.1) ++ [s]) ∧ Below w.heap.size w w3)
    (hg : w.heap.size ≤ gm) (hm : MapAt (setBlock (setBlock w3 gm o1) gm o2) gm (m ++ [(s, vt)])) : FontSt T e es w (setBlock (setBlock w3 gm o1) gm o2) gb gm v1 (m ++ [(s, vt)]) (x ++ [(s, tl)]) := by
  obtain ⟨h1, h2, h3, h4, h5, h6⟩ := h
  have hfar : ∀ k, k ≠ gm → (setBlock (setBlock w3 gm o1) gm o2).heap[k]? = w3.heap[k]? := fun k hk => by
    simp only [setBlock]
    rw [Array.getElem?_setIfInBounds, if_neg (fun h => hk h.symm), Array.getElem?_setIfInBounds, if_neg (fun h => hk h.symm)]
  have hty : ∀ k cells q, w3.heap[k]? = some (.cells cells q (0, 0)) → k ≠ gm := fun k cells q hc hkg => by
    subst hkg
    obtain ⟨_, _, _, es', clock, hh, _⟩ := h2
    rw [hc] at hh
    injection hh with hh
    cases hh
  refine ⟨(hfar gb (hty gb _ _ h1)).trans h1, hm, ?_, ?_, ?_⟩
  · exact TabsAt_snoc (TabsAt_step h3 (fun k cells _ _ hc => hfar k (hty k _ _ hc))) (R_u8_step h4 (fun k cells _ _ hc => hfar k (hty k _ _ hc)))
  · rw [List.map_append]
    exact Kd.R_mono (Kd.R_move (Kd.R_bound h5) (fun k hk => by
      obtain ⟨_, _, _, q, _, cells, hc⟩ := hk
      exact hfar k (hty k _ _ hc))) (fun _ hk => hk.1)
  · exact ⟨h6.os, h6.tape, h6.output, by simpa [setBlock] using h6.size, fun k hk => (hfar k (by omega)).trans (h6.block k hk)⟩
end Go.Proofs.YtenlimmgbgcgpaaW.PrintMore
