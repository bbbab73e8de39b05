/- The plain law of SfntAnywhere, where body and numbers are of at most 1048576 places: each table is the bytes that its record tells. -/
import Derived.Laws.BitsLemmas
import Derived.Test.YtenlimmgbgcgpaaPAnx5
namespace Go.Proofs.Ytenlimmgbgcgpaa.Pure
open Go.RowKit Go.Proofs.Ytenlimmgbgcgpaa.PAn Go.Proofs.YtenlimmgbgcgpaaW.PrintWords Go.Proofs.YtenlimmgbgcgpaaW.PrintLast Go.Proofs.YtenlimmgbgcgpaaW.PrintMore

/-! ### numbers out of bytes -/
theorem w64 {x : Int} (h : -9223372036854775808 ≤ x) (h' : x ≤ 9223372036854775807) : wrap64 x = x := by unfold wrap64; omega
def Bytes (l : List Int) : Prop := ∀ c ∈ l, 0 ≤ c ∧ c < 256
theorem Bytes.append {l m : List Int} (h : Bytes l) (h' : Bytes m) : Bytes (l ++ m) := fun c hc => (List.mem_append.1 hc).elim (h c) (h' c)
theorem Bytes.take {l : List Int} (h : Bytes l) (n : Nat) : Bytes (l.take n) := fun c hc => h c (List.mem_of_mem_take hc)
theorem Bytes.drop {l : List Int} (h : Bytes l) (n : Nat) : Bytes (l.drop n) := fun c hc => h c (List.mem_of_mem_drop hc)
theorem bytesOf_Bytes (s : ByteArray) : Bytes (bytesOf s) := by
  intro c hc
  obtain ⟨b, _, rfl⟩ := List.mem_map.1 hc
  have := b.toNat_lt
  omega
theorem there_f {l : List Int} {a n : Int} (hl : l.length < 140737488355328) (h0 : 0 ≤ a) (h1 : a ≤ l.length) (h2 : 0 ≤ n) : peek_there.f l a n = some (decide (n ≤ l.length - a)) := by
  unfold peek_there.f
  rw [if_pos (by omega), if_pos h1, if_pos (by omega), w64 (by omega) (by omega)]
def beF (n : Int) (l : List Int) : Int := l.foldl (fun n c => n * 256 + c) n
theorem or_byte {n c : Int} (h0 : 0 ≤ n) (h1 : n < 281474976710656) (h2 : 0 ≤ c) (h3 : c < 256) : Go.bits .or .i64 (wrap64 (n * 256)) (wrap64 c) = n * 256 + c := by
  rw [w64 (by omega) (by omega), w64 (by omega) (by omega)]
  exact bits_join .i64 63 (by decide) (fun m h h' => by rw [IntKind.wrap_i64]; omega) 8 (n * 256) c (by omega) (by omega) (by omega) h2 (by omega) (by omega)
theorem number_l {xs : List Int} (hx : Bytes xs) (hl : xs.length ≤ 7) : ∀ (d i : Nat) (n : Int), i + d = xs.length → 0 ≤ n → n < 256 ^ i → Ev (fun k => peek_number.l0 k n xs xs.length i) (beF n (xs.drop i), true) := by
  intro d
  induction d with
  | zero =>
    intro i n hi h0 h1
    refine Ev.step (f := fun _ => some (beF n (xs.drop i), true)) (fun k => ?_) (Ev.now _)
    simp only [peek_number.l0]
    rw [if_neg (by omega), List.drop_eq_nil_of_le (by omega)]
    rfl
  | succ d ih =>
    intro i n hi h0 h1
    have hlt : i < xs.length := by omega
    have hd : xs.drop i = xs[i] :: xs.drop (i + 1) := List.drop_eq_getElem_cons hlt
    obtain ⟨hc0, hc1⟩ := hx xs[i] (List.getElem_mem hlt)
    have hpow : (256 : Int) ^ i ≤ 281474976710656 := by
      rcases (show i = 0 ∨ i = 1 ∨ i = 2 ∨ i = 3 ∨ i = 4 ∨ i = 5 ∨ i = 6 by omega) with rfl | rfl | rfl | rfl | rfl | rfl | rfl <;> decide
    have hrd : rd xs (i : Int) = xs[i] := by unfold rd; rw [Int.toNat_natCast, List.getD_eq_getElem?_getD, List.getElem?_eq_getElem hlt]; rfl
    have hn : n < 281474976710656 := by omega
    have := ih (i + 1) (n * 256 + xs[i]) (by omega) (by omega) (by rw [Int.pow_succ]; omega)
    rw [hd]
    show Ev _ (beF (n * 256 + xs[i]) (xs.drop (i + 1)), true)
    refine Ev.step (fun k => ?_) this
    simp only [peek_number.l0]
    rw [if_pos (by omega), if_pos (by omega), if_pos (by omega), hrd, or_byte h0 hn hc0 hc1, w64 (by omega) (by omega)]
    rfl
theorem number_f {l : List Int} (hb : Bytes l) (hl : l.length < 140737488355328) {a s : Int} (h0 : 0 ≤ a) (h1 : 0 ≤ s) (h2 : s ≤ 7) (h : a + s ≤ l.length) : Ev (fun k => peek_number.f k l a s) (beF 0 ((l.drop a.toNat).take s.toNat), true) := by
  have he : (l.take (a + s).toNat).drop a.toNat = (l.drop a.toNat).take s.toNat := by
    rw [List.drop_take]
    congr 1
    omega
  have hn := number_l (xs := (l.drop a.toNat).take s.toNat) ((hb.drop _).take _) (by rw [List.length_take]; omega) _ 0 0 (Nat.zero_add _) (by omega) (by decide)
  rw [List.drop_zero] at hn
  refine Ev.congr (fun k => ?_) hn
  unfold peek_number.f
  rw [there_f hl h0 (by omega) h1, Option.bind_some, decide_eq_true (by omega), if_pos rfl, if_pos h0, w64 (by omega) (by omega), if_pos (by omega), if_pos h, he]
  rfl
theorem U16_f {l : List Int} (hb : Bytes l) (hl : l.length < 140737488355328) {a : Int} (h0 : 0 ≤ a) (h : a + 2 ≤ l.length) : Ev (fun k => peek_U16.f k l a) (beF 0 ((l.drop a.toNat).take 2), true) :=
  Ev.bind (number_f hb hl h0 (by omega) (by omega) h) (Ev.now _)
theorem U32_f {l : List Int} (hb : Bytes l) (hl : l.length < 140737488355328) {a : Int} (h0 : 0 ≤ a) (h : a + 4 ≤ l.length) : Ev (fun k => peek_U32.f k l a) (beF 0 ((l.drop a.toNat).take 4), true) :=
  Ev.bind (number_f hb hl h0 (by omega) (by omega) h) (Ev.now _)
def b4 (a : Int) : List Int := [(a / 16777216) % 256, (a / 65536) % 256, (a / 256) % 256, a % 256]
theorem b4_Bytes (a : Int) : Bytes (b4 a) := by
  intro c hc
  simp only [b4, List.mem_cons, List.not_mem_nil, or_false] at hc
  rcases hc with rfl | rfl | rfl | rfl <;> omega
theorem be_b4 {a : Int} (h0 : 0 ≤ a) (h1 : a < 4294967296) : beF 0 (b4 a) = a := by
  show (((0 * 256 + (a / 16777216) % 256) * 256 + (a / 65536) % 256) * 256 + (a / 256) % 256) * 256 + a % 256 = a
  omega

/-! ### rows -/
theorem clone_f {l : List Int} (h : l.length < 140737488355328) : slices_Clone_byte_byte.f l = some l := by
  unfold slices_Clone_byte_byte.f
  rw [Option.bind_some, if_pos (by simpa using h)]
  rfl
theorem cloneS_f {l : List ByteArray} (h : l.length < 8796093022208) : slices_Clone_string_string.f l = some l := by
  unfold slices_Clone_string_string.f
  rw [Option.bind_some, if_pos (by simpa using h)]
  rfl
theorem part_f {l : List Int} (hl : l.length < 140737488355328) {a n : Int} (h0 : 0 ≤ a) (h1 : 0 ≤ n) (h : a + n ≤ l.length) : peek_Part.f l a n = some ((l.drop a.toNat).take n.toNat, true) := by
  have he : (l.take (a + n).toNat).drop a.toNat = (l.drop a.toNat).take n.toNat := by
    rw [List.drop_take]
    congr 1
    omega
  unfold peek_Part.f
  rw [there_f hl h0 (by omega) h1, Option.bind_some, decide_eq_true (by omega), if_pos rfl, if_pos h0, w64 (by omega) (by omega), if_pos (by omega), if_pos h, he, clone_f (by rw [List.length_take, List.length_drop]; omega)]
  rfl
def hasS (l : List ByteArray) (s : ByteArray) : Bool := l.any (fun x => decide (s.toList = x.toList))
theorem index_l (l : List ByteArray) (s : ByteArray) (hl : l.length < 140737488355328) : ∀ (d i : Nat), i + d = l.length → ∃ r, Ev (fun k => slices_Index_string_string.l0 k l s l.length i) r ∧ decide (r ≥ 0) = hasS (l.drop i) s := by
  intro d
  induction d with
  | zero =>
    intro i hi
    refine ⟨-1, Ev.step (f := fun _ => some (-1)) (fun k => ?_) (Ev.now _), ?_⟩
    · simp only [slices_Index_string_string.l0]
      rw [if_neg (by omega)]
    · rw [List.drop_eq_nil_of_le (by omega)]; rfl
  | succ d ih =>
    intro i hi
    have hlt : i < l.length := by omega
    have hd : l.drop i = l[i] :: l.drop (i + 1) := List.drop_eq_getElem_cons hlt
    have hrd : rdOf ByteArray.empty l (i : Int) = l[i] := by unfold rdOf; rw [Int.toNat_natCast, List.getD_eq_getElem?_getD, List.getElem?_eq_getElem hlt]; rfl
    by_cases e : s.toList = (l[i]).toList
    · refine ⟨i, Ev.step (f := fun _ => some (i : Int)) (fun k => ?_) (Ev.now _), ?_⟩
      · simp only [slices_Index_string_string.l0]
        rw [if_pos (by omega), if_pos (by omega), if_pos (by omega), hrd, if_pos e]
      · rw [hd]; unfold hasS; rw [List.any_cons, decide_eq_true e, Bool.true_or]; exact decide_eq_true (by omega)
    · obtain ⟨r, h1, h2⟩ := ih (i + 1) (by omega)
      refine ⟨r, Ev.step (fun k => ?_) h1, ?_⟩
      · simp only [slices_Index_string_string.l0]
        rw [if_pos (by omega), if_pos (by omega), if_pos (by omega), hrd, if_neg e, w64 (by omega) (by omega)]
        rfl
      · rw [h2, hd]; unfold hasS; rw [List.any_cons, decide_eq_false e, Bool.false_or]
theorem contains_f (l : List ByteArray) (s : ByteArray) (hl : l.length < 140737488355328) : Ev (fun k => slices_Contains_string_string.f k l s) (hasS l s) := by
  obtain ⟨r, h1, h2⟩ := index_l l s hl l.length 0 (Nat.zero_add _)
  rw [List.drop_zero] at h2
  rw [← h2]
  exact Ev.bind (f := fun _ t => some (decide (t ≥ 0))) h1 (Ev.now _)
theorem grow_f {n : Int} (h0 : 0 ≤ n) (h : n < 140737488355328) : slices_Grow_byte_byte.f n = some [] := by
  unfold slices_Grow_byte_byte.f
  rw [if_neg (by omega), w64 (by omega) (by omega)]
  by_cases e : n > 0
  · rw [if_pos e, if_pos h0, if_pos (by simp; omega), Option.bind_some, if_pos (by omega)]
    rfl
  · rw [if_neg e]
theorem rd_L (l : List (List Int)) (i : Nat) (h : i < l.length) : rd_L2 l (i : Int) = l[i] := by unfold rd_L2; rw [Int.toNat_natCast, List.getD_eq_getElem?_getD, List.getElem?_eq_getElem h]; rfl
theorem concat_l1 (ls : List (List Int)) (hl : ls.length < 140737488355328) : ∀ (d i : Nat) (acc : List Int), i + d = ls.length → acc.length + (ls.drop i).flatten.length < 140737488355328 → Ev (fun k => slices_Concat_byte_byte.l1 k acc ls ls.length i) (acc ++ (ls.drop i).flatten) := by
  intro d
  induction d with
  | zero =>
    intro i acc hi ha
    refine Ev.step (f := fun _ => some (acc ++ (ls.drop i).flatten)) (fun k => ?_) (Ev.now _)
    simp only [slices_Concat_byte_byte.l1]
    rw [if_neg (by omega), List.drop_eq_nil_of_le (by omega)]
    simp
  | succ d ih =>
    intro i acc hi ha
    have hlt : i < ls.length := by omega
    have hd : ls.drop i = ls[i] :: ls.drop (i + 1) := List.drop_eq_getElem_cons hlt
    rw [hd, List.flatten_cons, List.length_append] at ha
    have := ih (i + 1) (acc ++ ls[i]) (by omega) (by rw [List.length_append]; omega)
    rw [hd, List.flatten_cons, ← List.append_assoc]
    refine Ev.step (fun k => ?_) this
    simp only [slices_Concat_byte_byte.l1]
    rw [if_pos (by omega), if_pos (by omega), if_pos (by omega), rd_L ls i hlt, if_pos (by omega), w64 (by omega) (by omega)]
    rfl
theorem concat_l0 (ls : List (List Int)) (hl : ls.length < 140737488355328) (ht : ls.flatten.length < 140737488355328) : ∀ (d i : Nat) (n : Int), i + d = ls.length → 0 ≤ n → n + (ls.drop i).flatten.length < 140737488355328 → Ev (fun k => slices_Concat_byte_byte.l0 k ls n ls ls.length i) ls.flatten := by
  intro d
  induction d with
  | zero =>
    intro i n hi h0 ha
    have := concat_l1 ls hl ls.length 0 [] (Nat.zero_add _) (by simpa using ht)
    rw [List.drop_zero, List.nil_append] at this
    refine Ev.step (fun k => ?_) this
    simp only [slices_Concat_byte_byte.l0]
    rw [if_neg (by omega), grow_f h0 (by omega), Option.bind_some]
    rfl
  | succ d ih =>
    intro i n hi h0 ha
    have hlt : i < ls.length := by omega
    have hd : ls.drop i = ls[i] :: ls.drop (i + 1) := List.drop_eq_getElem_cons hlt
    rw [hd, List.flatten_cons, List.length_append] at ha
    refine Ev.step (fun k => ?_) (ih (i + 1) (n + (ls[i]).length) (by omega) (by omega) (by omega))
    simp only [slices_Concat_byte_byte.l0]
    rw [if_pos (by omega), if_pos (by omega), if_pos (by omega), rd_L ls i hlt, w64 (by omega) (by omega), if_neg (by omega), w64 (by omega) (by omega)]
    rfl
theorem concat_f (ls : List (List Int)) (hl : ls.length < 140737488355328) (ht : ls.flatten.length < 140737488355328) : Ev (fun k => slices_Concat_byte_byte.f k ls) ls.flatten := by
  have := concat_l0 ls hl ht ls.length 0 0 (Nat.zero_add _) (by omega) (by rw [List.drop_zero]; omega)
  exact this

/-! ### a font laid -/
def recs : List (ByteArray × List Int) → Int → List Int
  | [], _ => []
  | (s, t) :: r, a => bytesOf s ++ b4 0 ++ b4 a ++ b4 t.length ++ recs r (a + t.length)
def layP (x : List (ByteArray × List Int)) : List Int := [0, 1, 0, 0, 0, (x.length : Int) % 256, 0, 0, 0, 0, 0, 0] ++ recs x (12 + 16 * x.length) ++ (x.map (·.2)).flatten
/-- tags of four bytes, each once. -/
def Tagged (x : List (ByteArray × List Int)) : Prop := (∀ p ∈ x, p.1.size = 4) ∧ (x.map (fun p => p.1.toList)).Nodup
theorem Tagged.fresh {x : List (ByteArray × List Int)} (h : Tagged x) (i : Nat) (hi : i < x.length) : hasS ((x.map (·.1)).take i) (x[i]).1 = false := by
  unfold hasS
  rw [List.any_eq_false]
  intro s hs
  rw [← List.map_take] at hs
  obtain ⟨p, hp, rfl⟩ := List.mem_map.1 hs
  obtain ⟨j, hj, rfl⟩ := List.mem_iff_getElem.1 hp
  rw [List.length_take] at hj
  rw [List.getElem_take]
  intro e
  have e := of_decide_eq_true e
  have hn := List.pairwise_iff_getElem.1 h.2 j i (by simp; omega) (by simpa using hi) (by omega)
  simp only [List.getElem_map] at hn
  exact hn e.symm
theorem lay_l (x : List (ByteArray × List Int)) (hx : Tagged x) (hn : x.length ≤ 64) (hf : (x.map (·.2)).flatten.length < 1000000000) : ∀ (d i : Nat) (acc : List Int) (a : Int), i + d = x.length → 0 ≤ a → a + ((x.drop i).map (·.2)).flatten.length < 10000000000 → acc.length + 16 * d < 1000000 →
    Ev (fun k => sfnt_Lay.l0 k (x.map (·.1)) (x.map (·.2)) acc a (x.map (·.1)) ((x.map (·.1)).length : Int) i) (acc ++ recs (x.drop i) a ++ (x.map (·.2)).flatten, 0) := by
  intro d
  induction d with
  | zero =>
    intro i acc a hi h0 h1 h2
    have c1 := concat_f (x.map (·.2)) (by rw [List.length_map]; omega) (by omega)
    have c2 := concat_f [acc, (x.map (·.2)).flatten] (by simp) (by simp only [List.flatten_cons, List.flatten_nil, List.length_append, List.length_nil]; omega)
    have hfl : [acc, (x.map (·.2)).flatten].flatten = acc ++ (x.map (·.2)).flatten := by simp
    rw [hfl] at c2
    rw [List.drop_eq_nil_of_le (by omega), show recs [] a = [] from rfl, List.append_nil]
    refine Ev.step (fun k => ?_) (Ev.bind c1 (f := fun k t => (slices_Concat_byte_byte.f k [acc, t]).bind fun u => some (u, 0)) (Ev.bind c2 (Ev.now _)))
    simp only [sfnt_Lay.l0]
    rw [if_neg (by rw [List.length_map]; omega)]
  | succ d ih =>
    intro i acc a hi h0 h1 h2
    have hlt : i < x.length := by omega
    have hd : x.drop i = x[i] :: x.drop (i + 1) := List.drop_eq_getElem_cons hlt
    have hs : (x[i]).1.size = 4 := hx.1 _ (List.getElem_mem hlt)
    have hrt : rdOf ByteArray.empty (x.map (·.1)) (i : Int) = (x[i]).1 := by unfold rdOf; rw [Int.toNat_natCast, List.getD_eq_getElem?_getD, List.getElem?_map, List.getElem?_eq_getElem hlt]; rfl
    have hrl : rd_L2 (x.map (·.2)) (i : Int) = (x[i]).2 := by rw [rd_L _ i (by simpa using hlt)]; simp
    rw [hd, List.map_cons, List.flatten_cons, List.length_append] at h1
    have hbl : (bytesOf (x[i]).1).length = 4 := by rw [bytesOf_length, hs]
    have c2 := concat_f [acc, bytesOf (x[i]).1, b4 0, b4 a, b4 ((x[i]).2.length : Int)] (by simp) (by simp only [List.flatten_cons, List.flatten_nil, List.length_append, List.length_nil, hbl, b4, List.length_cons]; omega)
    have hfl : [acc, bytesOf (x[i]).1, b4 0, b4 a, b4 ((x[i]).2.length : Int)].flatten = acc ++ (bytesOf (x[i]).1 ++ b4 0 ++ b4 a ++ b4 ((x[i]).2.length : Int)) := by simp
    rw [hfl] at c2
    have hI := ih (i + 1) (acc ++ (bytesOf (x[i]).1 ++ b4 0 ++ b4 a ++ b4 ((x[i]).2.length : Int))) (a + (x[i]).2.length) (by omega) (by omega) (by omega) (by simp only [List.length_append, hbl, b4, List.length_cons, List.length_nil]; omega)
    have hC := contains_f ((x.map (·.1)).take i) (x[i]).1 (by rw [List.length_take, List.length_map]; omega)
    rw [hx.fresh i hlt] at hC
    have hre : acc ++ recs (x.drop i) a ++ (x.map (·.2)).flatten = acc ++ (bytesOf (x[i]).1 ++ b4 0 ++ b4 a ++ b4 ((x[i]).2.length : Int)) ++ recs (x.drop (i + 1)) (a + (x[i]).2.length) ++ (x.map (·.2)).flatten := by
      rw [hd]
      simp [recs, List.append_assoc]
    rw [hre]
    have hJ : Ev (fun k => sfnt_Lay.j2 k (x.map (·.1)) (x.map (·.2)) acc a i (x[i]).1 (x.map (·.1)) ((x.map (·.1)).length : Int) i false) (acc ++ (bytesOf (x[i]).1 ++ b4 0 ++ b4 a ++ b4 ((x[i]).2.length : Int)) ++ recs (x.drop (i + 1)) (a + (x[i]).2.length) ++ (x.map (·.2)).flatten, 0) := by
      refine Ev.step (fun k => ?_) (Ev.bind c2 (f := fun k t => sfnt_Lay.l0 k (x.map (·.1)) (x.map (·.2)) t (a + (x[i]).2.length) (x.map (·.1)) ((x.map (·.1)).length : Int) ((i + 1 : Nat) : Int)) hI)
      simp only [sfnt_Lay.j2, sfnt_u32.f, Option.bind_some]
      rw [if_neg (by decide), if_pos (by omega), if_pos (by omega), if_pos (by rw [List.length_map]; omega), hrl, w64 (x := a + _) (by omega) (by omega), w64 (x := (i : Int) + 1) (by omega) (by omega)]
      rfl
    refine Ev.step (fun k => ?_) (Ev.bind hC (f := fun k t => sfnt_Lay.j2 k (x.map (·.1)) (x.map (·.2)) acc a i (x[i]).1 (x.map (·.1)) ((x.map (·.1)).length : Int) i t) hJ)
    simp only [sfnt_Lay.l0]
    rw [if_pos (by rw [List.length_map]; omega), if_pos (by omega), if_pos (by rw [List.length_map]; omega), hrt, if_pos (by omega), if_pos (by rw [List.length_map]; omega), Int.toNat_natCast]
theorem lay_f (x : List (ByteArray × List Int)) (hx : Tagged x) (hn : x.length ≤ 64) (hf : (x.map (·.2)).flatten.length < 1000000000) : Ev (fun k => sfnt_Lay.f k (x.map (·.1)) (x.map (·.2))) (layP x, 0) := by
  have := lay_l x hx hn hf x.length 0 [0, 1, 0, 0, 0, (x.length : Int) % 256, 0, 0, 0, 0, 0, 0] (12 + 16 * x.length) (Nat.zero_add _) (by omega) (by rw [List.drop_zero]; omega) (by simp only [List.length_cons, List.length_nil]; omega)
  rw [List.drop_zero] at this
  refine Ev.congr (f := fun k => sfnt_Lay.j0 k (x.map (·.1)) (x.map (·.2)) false) (fun k => ?_) (Ev.step (fun k => ?_) this)
  · unfold sfnt_Lay.f
    rw [if_pos (by simp), decide_eq_false (by rw [List.length_map]; omega)]
  · simp only [sfnt_Lay.j0]
    rw [if_neg (by decide), List.length_map, w64 (x := (x.length : Int) * 16) (by omega) (by omega), w64 (by omega) (by omega), Int.mul_comm (x.length : Int) 16]
    rfl
/-! ### a font opened -/
theorem bytesOf_str (s : ByteArray) : strOfNums (bytesOf s) = s := by
  have : (strOfNums (bytesOf s)).data = s.data := by
    apply Array.ext'
    rw [strOfNums_data]
    unfold bytesOf
    rw [List.map_map]
    conv => rhs; rw [← List.map_id s.data.toList]
    apply List.map_congr_left
    intro b _
    simp
  cases s; cases hq : strOfNums (bytesOf _); simp_all
theorem recs_length (x : List (ByteArray × List Int)) (h : ∀ p ∈ x, p.1.size = 4) : ∀ a, (recs x a).length = 16 * x.length := by
  induction x with
  | nil => intro a; rfl
  | cons p r ih =>
    intro a
    obtain ⟨s, t⟩ := p
    have hs : s.size = 4 := h (s, t) List.mem_cons_self
    simp only [recs, List.length_append, bytesOf_length, hs, b4, List.length_cons, List.length_nil, ih (fun p hp => h p (List.mem_cons_of_mem _ hp))]
    omega
def flen (x : List (ByteArray × List Int)) : Nat := (x.map (·.2)).flatten.length
theorem recs_split (x : List (ByteArray × List Int)) : ∀ (i : Nat) (a : Int), recs x a = recs (x.take i) a ++ recs (x.drop i) (a + flen (x.take i)) := by
  induction x with
  | nil => intro i a; simp [recs]
  | cons p r ih =>
    intro i a
    obtain ⟨s, t⟩ := p
    cases i with
    | zero => simp [recs, flen]
    | succ i =>
      rw [List.take_succ_cons, List.drop_succ_cons]
      have h1 : flen ((s, t) :: r.take i) = t.length + flen (r.take i) := by simp [flen]
      simp only [recs]
      rw [ih i (a + t.length), h1]
      rw [show a + (t.length : Int) + (flen (r.take i) : Int) = a + ((t.length + flen (r.take i) : Nat) : Int) by omega]
      simp [List.append_assoc]
theorem recs_Bytes (x : List (ByteArray × List Int)) : ∀ a, Bytes (recs x a) := by
  induction x with
  | nil => intro a c hc; simp [recs] at hc
  | cons p r ih =>
    intro a
    exact ((((bytesOf_Bytes _).append (b4_Bytes _)).append (b4_Bytes _)).append (b4_Bytes _)).append (ih _)
theorem layP_Bytes {x : List (ByteArray × List Int)} (h : ∀ p ∈ x, Bytes p.2) : Bytes (layP x) := by
  refine Bytes.append (Bytes.append ?_ (recs_Bytes _ _)) ?_
  · intro c hc
    simp only [List.mem_cons, List.not_mem_nil, or_false] at hc
    omega
  · intro c hc
    obtain ⟨l, hl, hc⟩ := List.mem_flatten.1 hc
    obtain ⟨p, hp, rfl⟩ := List.mem_map.1 hl
    exact h p hp c hc
theorem layP_length {x : List (ByteArray × List Int)} (h : ∀ p ∈ x, p.1.size = 4) : (layP x).length = 12 + 16 * x.length + flen x := by
  simp only [layP, List.length_append, recs_length x h, flen, List.length_cons, List.length_nil]
/-- The record of a table, and what lies ahead of it. -/
theorem layP_rec {x : List (ByteArray × List Int)} (h : ∀ p ∈ x, p.1.size = 4) (i : Nat) (hi : i < x.length) :
    ∃ pre post, layP x = pre ++ (bytesOf (x[i]).1 ++ (b4 0 ++ (b4 (12 + 16 * x.length + flen (x.take i)) ++ (b4 (x[i]).2.length ++ post)))) ∧ pre.length = 12 + 16 * i := by
  have hd : x.drop i = x[i] :: x.drop (i + 1) := List.drop_eq_getElem_cons hi
  refine ⟨[0, 1, 0, 0, 0, (x.length : Int) % 256, 0, 0, 0, 0, 0, 0] ++ recs (x.take i) (12 + 16 * x.length), recs (x.drop (i + 1)) (12 + 16 * x.length + flen (x.take i) + (x[i]).2.length) ++ (x.map (·.2)).flatten, ?_, ?_⟩
  · unfold layP
    rw [recs_split x i, hd]
    simp only [recs, List.append_assoc]
  · rw [List.length_append, recs_length _ (fun p hp => h p (List.mem_of_mem_take hp)), List.length_take]
    simp only [List.length_cons, List.length_nil]
    omega
theorem at_split (x : List (ByteArray × List Int)) (i : Nat) (hi : i < x.length) : x = x.take i ++ x[i] :: x.drop (i + 1) := by
  rw [← List.drop_eq_getElem_cons hi, List.take_append_drop]
theorem flen_split (x : List (ByteArray × List Int)) (i : Nat) (hi : i < x.length) : flen x = flen (x.take i) + ((x[i]).2.length + flen (x.drop (i + 1))) := by
  have h := congrArg flen (at_split x i hi)
  rw [h]
  unfold flen
  rw [List.map_append, List.flatten_append, List.length_append, List.map_cons, List.flatten_cons, List.length_append]
theorem layP_tab {x : List (ByteArray × List Int)} (h : ∀ p ∈ x, p.1.size = 4) (i : Nat) (hi : i < x.length) : ((layP x).drop (12 + 16 * x.length + flen (x.take i))).take (x[i]).2.length = (x[i]).2 := by
  have hd : x.drop i = x[i] :: x.drop (i + 1) := List.drop_eq_getElem_cons hi
  have hfl : (x.map (·.2)).flatten = ((x.take i).map (·.2)).flatten ++ ((x[i]).2 ++ ((x.drop (i + 1)).map (·.2)).flatten) := by
    have h := congrArg (fun z => (z.map (·.2)).flatten) (at_split x i hi)
    rw [h]
    show ((x.take i ++ x[i] :: x.drop (i + 1)).map (·.2)).flatten = _
    rw [List.map_append, List.flatten_append, List.map_cons, List.flatten_cons]
  have hl : ([0, 1, 0, 0, 0, (x.length : Int) % 256, 0, 0, 0, 0, 0, 0] ++ recs x (12 + 16 * x.length)).length = 12 + 16 * x.length := by
    rw [List.length_append, recs_length x h]; simp only [List.length_cons, List.length_nil]
  unfold layP
  rw [List.drop_append, hl, List.drop_eq_nil_of_le (by rw [hl]; omega), List.nil_append, show 12 + 16 * x.length + flen (x.take i) - (12 + 16 * x.length) = flen (x.take i) by omega, hfl]
  rw [List.drop_append, show flen (x.take i) = (((x.take i).map (·.2)).flatten).length from rfl, List.drop_length, List.nil_append, Nat.sub_self, List.drop_zero, List.take_left']
  rfl
theorem cut_at {l pre m post : List Int} {a n : Nat} (h : l = pre ++ (m ++ post)) (ha : pre.length = a) (hn : m.length = n) : (l.drop a).take n = m := by
  subst h; subst ha; subst hn
  rw [List.drop_left, List.take_left]
theorem open_l (x : List (ByteArray × List Int)) (hx : Tagged x) (hb : ∀ p ∈ x, Bytes p.2) (hn : x.length ≤ 64) (hf : flen x < 1000000000) : ∀ (d i : Nat), i + d = x.length → Ev (fun k => sfnt_Open.l0 k (layP x) x.length i (x.take i)) ([⟨x⟩], 0) := by
  intro d
  induction d with
  | zero =>
    intro i hi
    refine Ev.step (f := fun _ => some ([⟨x⟩], 0)) (fun k => ?_) (Ev.now _)
    simp only [sfnt_Open.l0]
    rw [if_neg (by omega), List.take_of_length_le (by omega)]
  | succ d ih =>
    intro i hi
    have hlt : i < x.length := by omega
    have hs : (x[i]).1.size = 4 := hx.1 _ (List.getElem_mem hlt)
    have hbl : (bytesOf (x[i]).1).length = 4 := by rw [bytesOf_length, hs]
    have hB := layP_Bytes hb
    have hL := layP_length hx.1
    have hfs := flen_split x i hlt
    obtain ⟨pre, post, hl, hp⟩ := layP_rec hx.1 i hlt
    have e1 : wrap64 (12 + wrap64 ((i : Int) * 16)) = ((12 + 16 * i : Nat) : Int) := by rw [w64 (x := (i : Int) * 16) (by omega) (by omega), w64 (by omega) (by omega)]; omega
    have e4 : wrap64 (((12 + 16 * i : Nat) : Int) + 4) = ((12 + 16 * i + 4 : Nat) : Int) := by rw [w64 (by omega) (by omega)]; omega
    have e8 : wrap64 (((12 + 16 * i : Nat) : Int) + 8) = ((12 + 16 * i + 8 : Nat) : Int) := by rw [w64 (by omega) (by omega)]; omega
    have e12 : wrap64 (((12 + 16 * i : Nat) : Int) + 12) = ((12 + 16 * i + 12 : Nat) : Int) := by rw [w64 (by omega) (by omega)]; omega
    have c1 : ((layP x).take (12 + 16 * i + 4)).drop (12 + 16 * i) = bytesOf (x[i]).1 := by
      rw [List.drop_take, show 12 + 16 * i + 4 - (12 + 16 * i) = 4 by omega]
      exact cut_at hl hp hbl
    have c2 : ((layP x).drop (12 + 16 * i + 8)).take 4 = b4 (12 + 16 * x.length + flen (x.take i)) :=
      cut_at (pre := pre ++ (bytesOf (x[i]).1 ++ b4 0)) (post := b4 ((x[i]).2.length : Int) ++ post) (by rw [hl]; simp only [List.append_assoc]) (by simp only [List.length_append, hp, hbl, b4, List.length_cons, List.length_nil] <;> omega) rfl
    have c3 : ((layP x).drop (12 + 16 * i + 12)).take 4 = b4 ((x[i]).2.length : Int) :=
      cut_at (pre := pre ++ (bytesOf (x[i]).1 ++ (b4 0 ++ b4 (12 + 16 * x.length + flen (x.take i))))) (post := post) (by rw [hl]; simp only [List.append_assoc]) (by simp only [List.length_append, hp, hbl, b4, List.length_cons, List.length_nil] <;> omega) rfl
    have u1 := U32_f hB (by omega) (a := ((12 + 16 * i + 8 : Nat) : Int)) (by omega) (by omega)
    have u2 := U32_f hB (by omega) (a := ((12 + 16 * i + 12 : Nat) : Int)) (by omega) (by omega)
    rw [Int.toNat_natCast, c2, be_b4 (by omega) (by omega)] at u1
    rw [Int.toNat_natCast, c3, be_b4 (by omega) (by omega)] at u2
    have p1 := part_f (l := layP x) (by omega) (a := 12 + 16 * x.length + flen (x.take i)) (n := (x[i]).2.length) (by omega) (by omega) (by omega)
    rw [show ((12 + 16 * (x.length : Int) + (flen (x.take i) : Int)) : Int).toNat = 12 + 16 * x.length + flen (x.take i) by omega, Int.toNat_natCast, layP_tab hx.1 i hlt] at p1
    have h1 := contains_f ((x.take i).map (·.1)) (x[i]).1 (by rw [List.length_map, List.length_take]; omega)
    rw [List.map_take, hx.fresh i hlt] at h1
    have hfr : ∀ p ∈ x.take i, p.1.toList ≠ (x[i]).1.toList := by
      intro p hp he
      have := hx.fresh i hlt
      unfold hasS at this
      rw [List.any_eq_false] at this
      exact this p.1 (by rw [← List.map_take]; exact List.mem_map.2 ⟨p, hp, rfl⟩) (decide_eq_true he.symm)
    have hI := ih (i + 1) (by omega)
    have ht : x.take (i + 1) = x.take i ++ [((x[i]).1, (x[i]).2)] := by rw [List.take_succ_eq_append_getElem hlt]
    rw [ht] at hI
    refine Ev.step (fun k => ?_) (Ev.bind u1 (f := fun k o => (peek_U32.f k (layP x) ((12 + 16 * i + 12 : Nat) : Int)).bind fun s => (peek_Part.f (layP x) o.1 s.1).bind fun p => (slices_Contains_string_string.f k ((x.map (·.1)).take i) (x[i]).1).bind fun c => if c = true then some ([], 2) else if p.2 = true then sfnt_Open.l0 k (layP x) x.length ((i + 1 : Nat) : Int) (x.take i ++ [((x[i]).1, p.1)]) else some ([], 3)) (Ev.bind u2 (f := fun k s => (peek_Part.f (layP x) (12 + 16 * x.length + flen (x.take i)) s.1).bind fun p => (slices_Contains_string_string.f k ((x.map (·.1)).take i) (x[i]).1).bind fun c => if c = true then some ([], 2) else if p.2 = true then sfnt_Open.l0 k (layP x) x.length ((i + 1 : Nat) : Int) (x.take i ++ [((x[i]).1, p.1)]) else some ([], 3)) ?_))
    · simp only [sfnt_Open.l0]
      rw [if_pos (by omega), e1, e4, e8, e12, if_pos (by omega), if_pos (by omega), if_pos (by omega), Int.toNat_natCast, Int.toNat_natCast, c1, bytesOf_str, List.map_take]
      rw [w64 (x := (i : Int) + 1) (by omega) (by omega)]
      have hg : (x.take i).length < 1000000 ∧ (x[i]).1.size ≤ 9223372036854775807 ∧ ∀ p ∈ x.take i, p.1.toList ≠ (x[i]).1.toList := ⟨by rw [List.length_take]; omega, by omega, hfr⟩
      simp only [if_pos hg]
      rfl
    · refine Ev.congr (fun k => by rw [p1, Option.bind_some]) (Ev.bind h1 (f := fun k c => if c = true then some ([], 2) else if true = true then sfnt_Open.l0 k (layP x) x.length ((i + 1 : Nat) : Int) (x.take i ++ [((x[i]).1, (x[i]).2)]) else some ([], 3)) ?_)
      exact hI
theorem open_f (x : List (ByteArray × List Int)) (hx : Tagged x) (hb : ∀ p ∈ x, Bytes p.2) (hn : x.length ≤ 64) (hf : flen x < 1000000000) : Ev (fun k => sfnt_Open.f k (layP x)) ([⟨x⟩], 0) := by
  have hB := layP_Bytes hb
  have hL := layP_length hx.1
  have u := U16_f hB (by omega) (a := 4) (by omega) (by omega)
  have hu : beF 0 (((layP x).drop (4 : Int).toNat).take 2) = x.length := by
    show beF 0 [0, (x.length : Int) % 256] = _
    show ((0 * 256 + 0) * 256 + (x.length : Int) % 256) = _
    omega
  rw [hu] at u
  have hv : Ev (fun k => sfnt_versioned.f k (layP x)) true := by
    have h4 : (layP x).take 4 = [0, 1, 0, 0] := rfl
    have hc := contains_f [(⟨#[0, 1, 0, 0]⟩ : ByteArray), ⟨#[79, 84, 84, 79]⟩, ⟨#[116, 114, 117, 101]⟩] (strOfNums [0, 1, 0, 0]) (by decide)
    have hh : hasS [(⟨#[0, 1, 0, 0]⟩ : ByteArray), ⟨#[79, 84, 84, 79]⟩, ⟨#[116, 114, 117, 101]⟩] (strOfNums [0, 1, 0, 0]) = true := by
      unfold hasS
      rw [List.any_cons, decide_eq_true (by rfl), Bool.true_or]
    rw [hh] at hc
    refine Ev.congr (fun k => ?_) (Ev.bind hc (f := fun _ t => some t) (Ev.now _))
    unfold sfnt_versioned.f
    rw [if_pos (by omega), h4]
  have hl := open_l x hx hb hn hf x.length 0 (Nat.zero_add _)
  rw [List.take_zero] at hl
  have ho : ∀ k, sfnt_Open.f k (layP x) = (peek_U16.f k (layP x) 4).bind fun n => if ((layP x).length : Int) < 12 then some ([], 3) else (sfnt_versioned.f k (layP x)).bind fun b => if b = true then (if n.1 > 64 then some ([], 4) else if ((layP x).length : Int) < wrap64 (12 + wrap64 (n.1 * 16)) then some ([], 3) else sfnt_Open.l0 k (layP x) n.1 0 []) else some ([], 2) := fun k => rfl
  refine Ev.congr ho (Ev.bind u (f := fun k (n : Int × Bool) => if ((layP x).length : Int) < 12 then some ([], 3) else (sfnt_versioned.f k (layP x)).bind fun b => if b = true then (if n.1 > 64 then some ([], 4) else if ((layP x).length : Int) < wrap64 (12 + wrap64 (n.1 * 16)) then some ([], 3) else sfnt_Open.l0 k (layP x) n.1 0 []) else some ([], 2)) ?_)
  refine Ev.congr (fun k => if_neg (by omega)) (Ev.bind hv (f := fun k b => if b = true then (if (x.length : Int) > 64 then some ([], 4) else if ((layP x).length : Int) < wrap64 (12 + wrap64 ((x.length : Int) * 16)) then some ([], 3) else sfnt_Open.l0 k (layP x) x.length 0 []) else some ([], 2)) ?_)
  refine Ev.congr (fun k => ?_) hl
  rw [if_pos rfl, if_neg (by omega), w64 (x := (x.length : Int) * 16) (by omega) (by omega), w64 (by omega) (by omega), if_neg (by omega)]
  rfl
theorem tags_f (x : List (ByteArray × List Int)) (hn : x.length < 1000000) : sfnt_Font_Tags.f [⟨x⟩] = some (x.map (·.1)) := by
  unfold sfnt_Font_Tags.f
  rw [if_pos (by show (0 : Int) < ((1 : Nat) : Int); omega)]
  exact cloneS_f (by rw [List.length_map]; show x.length < _; omega)
theorem table_f (x : List (ByteArray × List Int)) (s : ByteArray) (hs : s.size ≤ 1000000) {t : Option (List Int)} (ht : mapGet x s = t) (hl : ∀ l, t = some l → l.length < 1000000000) : sfnt_Font_Table.f [⟨x⟩] s = some (t.getD [], t.isSome) := by
  unfold sfnt_Font_Table.f
  rw [if_pos (by show (0 : Int) < ((1 : Nat) : Int); omega), if_pos (by omega)]
  have hr : (rd_T135 [(⟨x⟩ : S135)] 0).f0 = x := rfl
  rw [hr, ht]
  cases t with
  | none => rfl
  | some l =>
    rw [show (some l).getD [] = l from rfl, clone_f (by have := hl l rfl; omega)]
    rfl
theorem Tagged.get {x : List (ByteArray × List Int)} (h : Tagged x) (i : Nat) (hi : i < x.length) : mapGet x (x[i]).1 = some (x[i]).2 := by
  unfold mapGet
  have : x.find? (fun p => decide (p.1 = (x[i]).1)) = some x[i] := by
    rw [List.find?_eq_some_iff_getElem]
    refine ⟨decide_eq_true rfl, i, hi, rfl, fun j hj => ?_⟩
    have hn := List.pairwise_iff_getElem.1 h.2 j i (by simp; omega) (by simpa using hi) hj
    simp only [List.getElem_map] at hn
    have : ¬ (x[j]).1 = (x[i]).1 := fun e => hn (by rw [e])
    simpa using this
  rw [this]
  rfl
/-! ### the example -/
def exA : List (ByteArray × List Int) := [(⟨#[97, 98, 99, 100]⟩, [1, 2]), (⟨#[101, 102, 103, 104]⟩, [3])]
theorem exA_tagged : Tagged exA := ⟨by intro p hp; simp only [exA, List.mem_cons, List.not_mem_nil, or_false] at hp; rcases hp with rfl | rfl <;> rfl, by decide +kernel⟩
theorem exA_bytes : ∀ p ∈ exA, Bytes p.2 := by
  intro p hp
  simp only [exA, List.mem_cons, List.not_mem_nil, or_false] at hp
  rcases hp with rfl | rfl <;> intro c hc <;> simp only [List.mem_cons, List.not_mem_nil, or_false] at hc <;> omega
/-! ### a font of any bytes whose records tell its tables -/
theorem shr_pos {x : Int} (m : Nat) (hm : m ≤ 64) : shr .i64 x (m : Int) = x / 2 ^ m := by
  unfold shr
  rw [Int.toNat_natCast, Nat.min_eq_left (by show m ≤ IntKind.i64.bits; exact hm)]
theorem big_step {k : Nat} {n : Int} {acc : List Int} {i : Nat} (hi : i ≤ 7) (ha : acc.length < 1000) : versalref6_Big.l0 (k + 1) n acc i = versalref6_Big.l0 k n (acc ++ [(n / 2 ^ (8 * i)) % 256]) ((i : Int) - 1) := by
  simp only [versalref6_Big.l0]
  have h1 : IntKind.u64.wrap (wrap64 (8 * (i : Int))) = ((8 * i : Nat) : Int) := by
    rw [w64 (by omega) (by omega)]
    have : IntKind.u64.wrap (8 * (i : Int)) = (8 * (i : Int)) % 18446744073709551616 := by simp [IntKind.wrap, IntKind.bits, IntKind.signed]
    rw [this]; omega
  rw [if_pos (by omega), h1, if_pos (by omega), if_pos (by omega), shr_pos _ (by omega), w64 (by omega) (by omega)]
theorem big_end {n : Int} {acc : List Int} : Ev (fun k => versalref6_Big.l0 k n acc (-1)) acc :=
  Ev.step (f := fun _ => some acc) (fun k => by simp only [versalref6_Big.l0]; rw [if_neg (by omega)]) (Ev.now _)
theorem big2_f (n : Int) : Ev (fun k => versalref6_Big.f k n 2) [(n / 256) % 256, n % 256] := by
  have e : [(n / 256) % 256, n % 256] = [(n / 2 ^ (8 * 1)) % 256, (n / 2 ^ (8 * 0)) % 256] := by simp
  rw [e]
  refine Ev.congr (f := fun k => versalref6_Big.l0 k n [] ((1 : Nat) : Int)) (fun k => by unfold versalref6_Big.f; rw [w64 (by omega) (by omega)]; rfl) ?_
  refine Ev.step (fun k => big_step (by omega) (by simp)) ?_
  refine Ev.congr (f := fun k => versalref6_Big.l0 k n [(n / 2 ^ (8 * 1)) % 256] ((0 : Nat) : Int)) (fun k => rfl) ?_
  refine Ev.step (fun k => big_step (by omega) (by simp)) ?_
  exact big_end
theorem big4_f (n : Int) : Ev (fun k => versalref6_Big.f k n 4) (b4 n) := by
  have e : b4 n = [(n / 2 ^ (8 * 3)) % 256, (n / 2 ^ (8 * 2)) % 256, (n / 2 ^ (8 * 1)) % 256, (n / 2 ^ (8 * 0)) % 256] := by simp [b4]
  rw [e]
  refine Ev.congr (f := fun k => versalref6_Big.l0 k n [] ((3 : Nat) : Int)) (fun k => by unfold versalref6_Big.f; rw [w64 (by omega) (by omega)]; rfl) ?_
  refine Ev.step (fun k => big_step (by omega) (by simp)) ?_
  refine Ev.congr (f := fun k => versalref6_Big.l0 k n [(n / 2 ^ (8 * 3)) % 256] ((2 : Nat) : Int)) (fun k => rfl) ?_
  refine Ev.step (fun k => big_step (by omega) (by simp)) ?_
  refine Ev.congr (f := fun k => versalref6_Big.l0 k n [(n / 2 ^ (8 * 3)) % 256, (n / 2 ^ (8 * 2)) % 256] ((1 : Nat) : Int)) (fun k => rfl) ?_
  refine Ev.step (fun k => big_step (by omega) (by simp)) ?_
  refine Ev.congr (f := fun k => versalref6_Big.l0 k n [(n / 2 ^ (8 * 3)) % 256, (n / 2 ^ (8 * 2)) % 256, (n / 2 ^ (8 * 1)) % 256] ((0 : Nat) : Int)) (fun k => rfl) ?_
  refine Ev.step (fun k => big_step (by omega) (by simp)) ?_
  exact big_end
/-- The records of b tell the tables of x. -/
def Told (b : List Int) (x : List (ByteArray × List Int)) : Prop :=
  ∀ (i : Nat) (h : i < x.length), ∃ off : Nat, off + (x[i]).2.length ≤ b.length ∧ (b.drop (12 + 16 * i)).take 4 = bytesOf (x[i]).1 ∧ (b.drop (12 + 16 * i + 8)).take 4 = b4 off ∧ (b.drop (12 + 16 * i + 12)).take 4 = b4 (x[i]).2.length ∧ (b.drop off).take (x[i]).2.length = (x[i]).2
theorem gen_l (b : List Int) (hB : Bytes b) (hL : b.length < 1000000000) (x : List (ByteArray × List Int)) (hx : Tagged x) (hn : x.length ≤ 64) (h12 : 12 + 16 * x.length ≤ b.length) (hT : Told b x) : ∀ (d i : Nat), i + d = x.length → Ev (fun k => sfnt_Open.l0 k b x.length i (x.take i)) ([⟨x⟩], 0) := by
  intro d
  induction d with
  | zero =>
    intro i hi
    refine Ev.step (f := fun _ => some ([⟨x⟩], 0)) (fun k => ?_) (Ev.now _)
    simp only [sfnt_Open.l0]
    rw [if_neg (by omega), List.take_of_length_le (by omega)]
  | succ d ih =>
    intro i hi
    have hlt : i < x.length := by omega
    have hs : (x[i]).1.size = 4 := hx.1 _ (List.getElem_mem hlt)
    obtain ⟨off, ho, c0, c2, c3, c4⟩ := hT i hlt
    have e1 : wrap64 (12 + wrap64 ((i : Int) * 16)) = ((12 + 16 * i : Nat) : Int) := by rw [w64 (x := (i : Int) * 16) (by omega) (by omega), w64 (by omega) (by omega)]; omega
    have e4 : wrap64 (((12 + 16 * i : Nat) : Int) + 4) = ((12 + 16 * i + 4 : Nat) : Int) := by rw [w64 (by omega) (by omega)]; omega
    have e8 : wrap64 (((12 + 16 * i : Nat) : Int) + 8) = ((12 + 16 * i + 8 : Nat) : Int) := by rw [w64 (by omega) (by omega)]; omega
    have e12 : wrap64 (((12 + 16 * i : Nat) : Int) + 12) = ((12 + 16 * i + 12 : Nat) : Int) := by rw [w64 (by omega) (by omega)]; omega
    have c1 : (b.take (12 + 16 * i + 4)).drop (12 + 16 * i) = bytesOf (x[i]).1 := by
      rw [List.drop_take, show 12 + 16 * i + 4 - (12 + 16 * i) = 4 by omega]
      exact c0
    have u1 := U32_f hB (by omega) (a := ((12 + 16 * i + 8 : Nat) : Int)) (by omega) (by omega)
    have u2 := U32_f hB (by omega) (a := ((12 + 16 * i + 12 : Nat) : Int)) (by omega) (by omega)
    rw [Int.toNat_natCast, c2, be_b4 (by omega) (by omega)] at u1
    rw [Int.toNat_natCast, c3, be_b4 (by omega) (by omega)] at u2
    have p1 := part_f (l := b) (by omega) (a := off) (n := (x[i]).2.length) (by omega) (by omega) (by omega)
    rw [Int.toNat_natCast, Int.toNat_natCast, c4] at p1
    have h1 := contains_f ((x.take i).map (·.1)) (x[i]).1 (by rw [List.length_map, List.length_take]; omega)
    rw [List.map_take, hx.fresh i hlt] at h1
    have hfr : ∀ p ∈ x.take i, p.1.toList ≠ (x[i]).1.toList := by
      intro p hp he
      have := hx.fresh i hlt
      unfold hasS at this
      rw [List.any_eq_false] at this
      exact this p.1 (by rw [← List.map_take]; exact List.mem_map.2 ⟨p, hp, rfl⟩) (decide_eq_true he.symm)
    have hI := ih (i + 1) (by omega)
    have ht : x.take (i + 1) = x.take i ++ [((x[i]).1, (x[i]).2)] := by rw [List.take_succ_eq_append_getElem hlt]
    rw [ht] at hI
    refine Ev.step (fun k => ?_) (Ev.bind u1 (f := fun k o => (peek_U32.f k b ((12 + 16 * i + 12 : Nat) : Int)).bind fun s => (peek_Part.f b o.1 s.1).bind fun p => (slices_Contains_string_string.f k ((x.map (·.1)).take i) (x[i]).1).bind fun c => if c = true then some ([], 2) else if p.2 = true then sfnt_Open.l0 k b x.length ((i + 1 : Nat) : Int) (x.take i ++ [((x[i]).1, p.1)]) else some ([], 3)) (Ev.bind u2 (f := fun k s => (peek_Part.f b off s.1).bind fun p => (slices_Contains_string_string.f k ((x.map (·.1)).take i) (x[i]).1).bind fun c => if c = true then some ([], 2) else if p.2 = true then sfnt_Open.l0 k b x.length ((i + 1 : Nat) : Int) (x.take i ++ [((x[i]).1, p.1)]) else some ([], 3)) ?_))
    · simp only [sfnt_Open.l0]
      rw [if_pos (by omega), e1, e4, e8, e12, if_pos (by omega), if_pos (by omega), if_pos (by omega), Int.toNat_natCast, Int.toNat_natCast, c1, bytesOf_str, List.map_take]
      rw [w64 (x := (i : Int) + 1) (by omega) (by omega)]
      have hg : (x.take i).length < 1000000 ∧ (x[i]).1.size ≤ 9223372036854775807 ∧ ∀ p ∈ x.take i, p.1.toList ≠ (x[i]).1.toList := ⟨by rw [List.length_take]; omega, by omega, hfr⟩
      simp only [if_pos hg]
      rfl
    · refine Ev.congr (fun k => by rw [p1, Option.bind_some]) (Ev.bind h1 (f := fun k c => if c = true then some ([], 2) else if true = true then sfnt_Open.l0 k b x.length ((i + 1 : Nat) : Int) (x.take i ++ [((x[i]).1, (x[i]).2)]) else some ([], 3)) ?_)
      exact hI
theorem gen_f (b : List Int) (hB : Bytes b) (hL : b.length < 1000000000) (x : List (ByteArray × List Int)) (hx : Tagged x) (hn : x.length ≤ 64) (h12 : 12 + 16 * x.length ≤ b.length) (hT : Told b x) (h4 : b.take 4 = [0, 1, 0, 0]) (h5 : (b.drop 4).take 2 = [((x.length : Int) / 256) % 256, (x.length : Int) % 256]) : Ev (fun k => sfnt_Open.f k b) ([⟨x⟩], 0) := by
  have u := U16_f hB (by omega) (a := 4) (by omega) (by omega)
  have hu : beF 0 ((b.drop (4 : Int).toNat).take 2) = x.length := by
    show beF 0 ((b.drop 4).take 2) = _
    rw [h5]
    show ((0 * 256 + ((x.length : Int) / 256) % 256) * 256 + (x.length : Int) % 256) = _
    omega
  rw [hu] at u
  have hv : Ev (fun k => sfnt_versioned.f k b) true := by
    have hc := contains_f [(⟨#[0, 1, 0, 0]⟩ : ByteArray), ⟨#[79, 84, 84, 79]⟩, ⟨#[116, 114, 117, 101]⟩] (strOfNums [0, 1, 0, 0]) (by decide)
    have hh : hasS [(⟨#[0, 1, 0, 0]⟩ : ByteArray), ⟨#[79, 84, 84, 79]⟩, ⟨#[116, 114, 117, 101]⟩] (strOfNums [0, 1, 0, 0]) = true := by
      unfold hasS
      rw [List.any_cons, decide_eq_true (by rfl), Bool.true_or]
    rw [hh] at hc
    refine Ev.congr (fun k => ?_) (Ev.bind hc (f := fun _ t => some t) (Ev.now _))
    unfold sfnt_versioned.f
    rw [if_pos (by omega), h4]
  have hl := gen_l b hB hL x hx hn h12 hT x.length 0 (Nat.zero_add _)
  rw [List.take_zero] at hl
  have ho : ∀ k, sfnt_Open.f k b = (peek_U16.f k b 4).bind fun n => if (b.length : Int) < 12 then some ([], 3) else (sfnt_versioned.f k b).bind fun c => if c = true then (if n.1 > 64 then some ([], 4) else if (b.length : Int) < wrap64 (12 + wrap64 (n.1 * 16)) then some ([], 3) else sfnt_Open.l0 k b n.1 0 []) else some ([], 2) := fun k => rfl
  refine Ev.congr ho (Ev.bind u (f := fun k (n : Int × Bool) => if (b.length : Int) < 12 then some ([], 3) else (sfnt_versioned.f k b).bind fun c => if c = true then (if n.1 > 64 then some ([], 4) else if (b.length : Int) < wrap64 (12 + wrap64 (n.1 * 16)) then some ([], 3) else sfnt_Open.l0 k b n.1 0 []) else some ([], 2)) ?_)
  refine Ev.congr (fun k => if_neg (by omega)) (Ev.bind hv (f := fun k c => if c = true then (if (x.length : Int) > 64 then some ([], 4) else if (b.length : Int) < wrap64 (12 + wrap64 ((x.length : Int) * 16)) then some ([], 3) else sfnt_Open.l0 k b x.length 0 []) else some ([], 2)) ?_)
  refine Ev.congr (fun k => ?_) hl
  rw [if_pos rfl, if_neg (by omega), w64 (x := (x.length : Int) * 16) (by omega) (by omega), w64 (by omega) (by omega), if_neg (by omega)]
  rfl
theorem pick_f {a m : Int} (h0 : 0 < m) (h1 : m < 4611686018427387904) : ∃ p, versalhand_Pick.f a m = some p ∧ 0 ≤ p ∧ p < m := by
  unfold versalhand_Pick.f
  rw [if_neg (by omega)]
  have h2 := Int.tmod_lt_of_pos a h0
  have h3 : -m < Int.tmod a m := Int.lt_tmod_of_pos a h0
  by_cases e : Int.tmod a m < 0
  · rw [if_pos e]
    exact ⟨_, rfl, by rw [w64 (by omega) (by omega)]; omega, by rw [w64 (by omega) (by omega)]; omega⟩
  · rw [if_neg e]
    exact ⟨_, rfl, by omega, h2⟩
/-! ### the statement SfntAnywhere -/
theorem wf_u8 {y : Int} (h : (Lit.int .u8 y).wf = true) : 0 ≤ y ∧ y < 256 := by
  simp only [Lit.wf, Bool.and_eq_true, decide_eq_true_eq] at h
  have h1 : IntKind.u8.min = 0 := by decide
  have h2 : IntKind.u8.max = 255 := by decide
  omega
theorem bytesOf_append (a b : ByteArray) : bytesOf (a ++ b) = bytesOf a ++ bytesOf b := by
  unfold bytesOf
  rw [ByteArray.data_append, Array.toList_append, List.map_append]
theorem bytesOf_one {c : Int} (h0 : 0 ≤ c) (h1 : c < 256) : bytesOf (strOfNums [c]) = [c] := by
  unfold bytesOf
  rw [strOfNums_data]
  simp only [List.map_cons, List.map_nil, UInt8.toNat_ofNat']
  congr 1
  omega
def dA (i : Nat) : Int := (wrap64 (48 + (i : Int))) % 256
theorem dA_bd (i : Nat) : 0 ≤ dA i ∧ dA i < 256 := by unfold dA; omega
def tA (i : Nat) : ByteArray := (⟨#[84, 65, 66]⟩ : ByteArray) ++ strOfNums [dA i]
theorem tA_bytes (i : Nat) : bytesOf (tA i) = [84, 65, 66, dA i] := by
  unfold tA
  rw [bytesOf_append, bytesOf_one (dA_bd i).1 (dA_bd i).2]
  rfl
theorem tA_size (i : Nat) : (tA i).size = 4 := by
  rw [← bytesOf_length, tA_bytes]; rfl
theorem tA_inj {i j : Nat} (hi : i < 100) (hj : j < 100) (h : (tA i).toList = (tA j).toList) : i = j := by
  rw [ByteArray.toList_eq, ByteArray.toList_eq] at h
  have h2 : bytesOf (tA i) = bytesOf (tA j) := by unfold bytesOf; rw [h]
  rw [tA_bytes, tA_bytes] at h2
  have h3 : dA i = dA j := by simpa using h2
  unfold dA at h3
  rw [w64 (by omega) (by omega), w64 (by omega) (by omega)] at h3
  omega
def rA (hd : Nat) (i : Nat) (e : Nat × Nat) : List Int := [84, 65, 66] ++ [dA i, 1, 2, 3, 4] ++ b4 ((hd + e.1 : Nat) : Int) ++ b4 (e.2 : Int)
theorem rA_length (hd i : Nat) (e : Nat × Nat) : (rA hd i e).length = 16 := rfl
theorem rA_Bytes (hd i : Nat) (e : Nat × Nat) : Bytes (rA hd i e) := by
  refine Bytes.append (Bytes.append (Bytes.append ?_ ?_) (b4_Bytes _)) (b4_Bytes _)
  · intro c hc; simp only [List.mem_cons, List.not_mem_nil, or_false] at hc; omega
  · intro c hc
    have := dA_bd i
    simp only [List.mem_cons, List.not_mem_nil, or_false] at hc; omega
def recsA (hd : Nat) : Nat → List (Nat × Nat) → List Int
  | _, [] => []
  | i, e :: r => rA hd i e ++ recsA hd (i + 1) r
theorem recsA_length (hd : Nat) : ∀ (es : List (Nat × Nat)) (i : Nat), (recsA hd i es).length = 16 * es.length
  | [], _ => rfl
  | e :: r, i => by
    simp only [recsA, List.length_append, rA_length, recsA_length hd r, List.length_cons]
    omega
theorem recsA_Bytes (hd : Nat) : ∀ (es : List (Nat × Nat)) (i : Nat), Bytes (recsA hd i es)
  | [], _ => fun c hc => by simp [recsA] at hc
  | e :: r, i => (rA_Bytes hd i e).append (recsA_Bytes hd r (i + 1))
theorem recsA_snoc (hd : Nat) : ∀ (es : List (Nat × Nat)) (i : Nat) (e : Nat × Nat), recsA hd i (es ++ [e]) = recsA hd i es ++ rA hd (i + es.length) e
  | [], i, e => by simp [recsA]
  | e0 :: r, i, e => by
    simp only [List.cons_append, recsA, recsA_snoc hd r (i + 1) e, List.append_assoc, List.length_cons]
    rw [show i + 1 + r.length = i + (r.length + 1) by omega]
theorem recsA_at (hd : Nat) : ∀ (es : List (Nat × Nat)) (i j : Nat) (h : j < es.length), ∃ pre post, recsA hd i es = pre ++ (rA hd (i + j) es[j] ++ post) ∧ pre.length = 16 * j
  | e :: r, i, 0, _ => ⟨[], recsA hd (i + 1) r, rfl, rfl⟩
  | e :: r, i, j + 1, h => by
    obtain ⟨pre, post, h1, h2⟩ := recsA_at hd r (i + 1) j (by simpa using h)
    refine ⟨rA hd i e ++ pre, post, ?_, ?_⟩
    · simp only [recsA, h1, List.append_assoc, List.getElem_cons_succ]
      rw [show i + 1 + j = i + (j + 1) by omega]
    · rw [List.length_append, rA_length, h2]; omega
def hdrA (n : Nat) : List Int := [0, 1, 0, 0, ((n : Int) / 256) % 256, (n : Int) % 256, 0, 0, 0, 0, 0, 0]
def xA (body : List Int) (es : List (Nat × Nat)) : List (ByteArray × List Int) := (List.range es.length).map (fun j => (tA j, (body.drop (es.getD j (0, 0)).1).take (es.getD j (0, 0)).2))
theorem xA_length (body : List Int) (es : List (Nat × Nat)) : (xA body es).length = es.length := by simp [xA]
theorem xA_at (body : List Int) (es : List (Nat × Nat)) (j : Nat) (h : j < es.length) : (xA body es)[j]'(by rw [xA_length]; exact h) = (tA j, (body.drop es[j].1).take es[j].2) := by
  simp [xA, List.getD_eq_getElem?_getD, List.getElem?_eq_getElem h]
theorem xA_snoc (body : List Int) (es : List (Nat × Nat)) (e : Nat × Nat) : xA body (es ++ [e]) = xA body es ++ [(tA es.length, (body.drop e.1).take e.2)] := by
  apply List.ext_getElem
  · rw [List.length_append, xA_length, xA_length, List.length_append]; rfl
  · intro j h1 h2
    rw [xA_length, List.length_append, List.length_singleton] at h1
    rw [xA_at body _ j (by rw [List.length_append]; exact h1)]
    by_cases hj : j < es.length
    · rw [List.getElem_append_left (show j < (xA body es).length by rw [xA_length]; exact hj), xA_at body es j hj, List.getElem_append_left hj]
    · have : j = es.length := by omega
      subst this
      simp [xA_length]
theorem xA_tagged (body : List Int) (es : List (Nat × Nat)) (hn : es.length ≤ 8) : Tagged (xA body es) := by
  constructor
  · intro q hq
    obtain ⟨i, _, rfl⟩ := List.mem_map.1 hq
    exact tA_size i
  · unfold xA
    rw [List.map_map]
    refine List.pairwise_map.2 ?_
    refine List.Pairwise.imp_of_mem ?_ (List.nodup_range (n := es.length))
    intro i j hi hj hne h
    exact hne (tA_inj (by have := List.mem_range.1 hi; omega) (by have := List.mem_range.1 hj; omega) h)
theorem known_f : Ev (fun k => versallaw14_known.f k) true := by
  have hl := lay_f exA exA_tagged (by decide) (by decide)
  have ho := open_f exA exA_tagged exA_bytes (by decide) (by decide)
  have ht := tags_f exA (by decide)
  have hb := table_f exA (⟨#[101, 102, 103, 104]⟩ : ByteArray) (by decide) (t := some [3]) (exA_tagged.get 1 (by decide)) (fun l hl => by cases hl; decide)
  refine Ev.congr (fun k => rfl) (Ev.bind hl (f := fun k (b : List Int × Int) => (sfnt_Open.f k b.1).bind fun (c : List S135 × Int) => (if b.2 = 0 then (if c.2 = 0 then (versallaw14_known.j0 k c.1 ((c.1.length : Int) == 0)) else (versallaw14_known.j0 k c.1 true)) else (versallaw14_known.j0 k c.1 true))) (Ev.bind ho (f := fun k (c : List S135 × Int) => (if (0 : Int) = 0 then (if c.2 = 0 then (versallaw14_known.j0 k c.1 ((c.1.length : Int) == 0)) else (versallaw14_known.j0 k c.1 true)) else (versallaw14_known.j0 k c.1 true))) ?_))
  refine Ev.congr (fun k => (if_pos rfl).trans (if_pos rfl)) ?_
  refine Ev.step (f := fun _ => some true) (fun k => ?_) (Ev.now _)
  simp only [versallaw14_known.j0, hb, ht, Option.bind_some]
  decide +kernel
/-- The records stand in the font's bytes. -/
theorem anywhere_told {body : List Int} (es : List (Nat × Nat)) (hes : ∀ e ∈ es, e.1 + e.2 ≤ body.length) : Told (hdrA es.length ++ recsA (12 + 16 * es.length) 0 es ++ body) (xA body es) := by
  intro j hj
  have hj' : j < es.length := by rw [xA_length] at hj; exact hj
  obtain ⟨pre, post, h1, h2⟩ := recsA_at (12 + 16 * es.length) es 0 j hj'
  have hle := hes _ (List.getElem_mem hj')
  have hlen : ((body.drop es[j].1).take es[j].2).length = es[j].2 := by rw [List.length_take, List.length_drop]; omega
  have hb : hdrA es.length ++ recsA (12 + 16 * es.length) 0 es ++ body = (hdrA es.length ++ pre) ++ ([84, 65, 66, dA j] ++ ([1, 2, 3, 4] ++ (b4 ((12 + 16 * es.length + es[j].1 : Nat) : Int) ++ (b4 (es[j].2 : Int) ++ (post ++ body))))) := by
    rw [h1]
    simp [rA, List.append_assoc]
  have hpl : (hdrA es.length ++ pre).length = 12 + 16 * j := by rw [List.length_append, h2]; rfl
  simp only [xA_at body es j hj', hlen]
  refine ⟨12 + 16 * es.length + es[j].1, ?_, ?_, ?_, ?_, ?_⟩
  · rw [List.length_append, List.length_append, recsA_length]
    have : (hdrA es.length).length = 12 := rfl
    omega
  · rw [tA_bytes]
    exact cut_at hb hpl rfl
  · exact cut_at (pre := (hdrA es.length ++ pre) ++ ([84, 65, 66, dA j] ++ [1, 2, 3, 4])) (post := b4 (es[j].2 : Int) ++ (post ++ body)) (by rw [hb]; simp only [List.append_assoc]) (by rw [List.length_append, hpl]; rfl) rfl
  · exact cut_at (pre := (hdrA es.length ++ pre) ++ ([84, 65, 66, dA j] ++ ([1, 2, 3, 4] ++ b4 ((12 + 16 * es.length + es[j].1 : Nat) : Int)))) (post := post ++ body) (by rw [hb]; simp only [List.append_assoc]) (by rw [List.length_append, hpl]; rfl) rfl
  · have hH : (hdrA es.length ++ recsA (12 + 16 * es.length) 0 es).length = 12 + 16 * es.length := by rw [List.length_append, recsA_length]; rfl
    rw [List.drop_append, hH, List.drop_eq_nil_of_le (by rw [hH]; omega), List.nil_append, show 12 + 16 * es.length + es[j].1 - (12 + 16 * es.length) = es[j].1 by omega]
theorem ask_l {body : List Int} {es : List (Nat × Nat)} (hn : es.length ≤ 8) (hL : body.length ≤ 1048576) : ∀ (d i : Nat), i + d = es.length →
    Ev (fun k => versallaw14_SfntAnywhere.l1 k ((xA body es).map (fun p => strOfNums p.2)) [⟨xA body es⟩] (((xA body es).map (fun p => strOfNums p.2)).length : Int) i) true := by
  have hx := xA_tagged body es hn
  have hXL := xA_length body es
  intro d
  induction d with
  | zero =>
    intro i hi
    refine Ev.step (f := fun _ => some true) (fun k => ?_) (Ev.now _)
    simp only [versallaw14_SfntAnywhere.l1]
    rw [if_neg (by rw [List.length_map]; omega)]
  | succ d ih =>
    intro i hi
    have hlt : i < es.length := by omega
    have hlt' : i < (xA body es).length := by omega
    have hg := hx.get i hlt'
    rw [xA_at body es i hlt] at hg
    have ht : sfnt_Font_Table.f [⟨xA body es⟩] (tA i) = some ((body.drop es[i].1).take es[i].2, true) := table_f (xA body es) (tA i) (by rw [tA_size]; omega) hg (fun l hl => by cases hl; rw [List.length_take, List.length_drop]; omega)
    have hrt : rdOf ByteArray.empty ((xA body es).map (fun p => strOfNums p.2)) (i : Int) = strOfNums ((body.drop es[i].1).take es[i].2) := by
      unfold rdOf
      rw [Int.toNat_natCast, List.getD_eq_getElem?_getD, List.getElem?_map, List.getElem?_eq_getElem hlt', xA_at body es i hlt]
      rfl
    refine Ev.step (fun k => ?_) (ih (i + 1) (by omega))
    simp only [versallaw14_SfntAnywhere.l1]
    rw [if_pos (by rw [List.length_map]; omega), Option.bind_some, if_pos (by rw [strOfNums_size]; simp)]
    have hT : ((⟨#[84, 65, 66]⟩ : ByteArray) ++ strOfNums [(wrap64 (48 + (i : Int))) % 256]) = tA i := rfl
    rw [hT, ht, Option.bind_some, if_pos rfl, if_pos (by omega), if_pos (by rw [List.length_map]; omega), hrt, if_pos rfl, w64 (by omega) (by omega)]
    rfl
theorem end_l {body l1 : List Int} (hb : Bytes body) (hL : body.length ≤ 1048576) {es : List (Nat × Nat)} (hn : es.length ≤ 8) (hes : ∀ e ∈ es, e.1 + e.2 ≤ body.length) (hd : Int) :
    Ev (fun k => versallaw14_SfntAnywhere.l0 k body l1 es.length (hdrA es.length ++ recsA (12 + 16 * es.length) 0 es) hd ((xA body es).map (fun p => strOfNums p.2)) es.length) true := by
  have hx := xA_tagged body es hn
  have hXL := xA_length body es
  have hH : (hdrA es.length ++ recsA (12 + 16 * es.length) 0 es).length = 12 + 16 * es.length := by rw [List.length_append, recsA_length]; rfl
  have hB : Bytes (hdrA es.length ++ recsA (12 + 16 * es.length) 0 es ++ body) := Bytes.append (Bytes.append (by
    intro c hc
    simp only [hdrA, List.mem_cons, List.not_mem_nil, or_false] at hc
    omega) (recsA_Bytes _ _ _)) hb
  have ho := gen_f (hdrA es.length ++ recsA (12 + 16 * es.length) 0 es ++ body) hB (by rw [List.length_append, hH]; omega) (xA body es) hx (by omega) (by rw [List.length_append, hH]; omega) (anywhere_told es hes) rfl (by rw [hXL]; rfl)
  have hT := tags_f (xA body es) (by omega)
  have hA := ask_l (body := body) (es := es) hn hL es.length 0 (Nat.zero_add _)
  have hj : Ev (fun k => versallaw14_SfntAnywhere.j1 k ((xA body es).map (fun p => strOfNums p.2)) [⟨xA body es⟩] false) true := by
    refine Ev.step (fun k => ?_) hA
    simp only [versallaw14_SfntAnywhere.j1]
    rw [if_neg (by decide)]
    rfl
  refine Ev.step (f := fun k => (sfnt_Open.f k (hdrA es.length ++ recsA (12 + 16 * es.length) 0 es ++ body)).bind fun (c : List S135 × Int) => (versallaw14_known.f k).bind fun t => (if t = true then (if c.2 = 0 then (if (c.1.length : Int) = 0 then (versallaw14_SfntAnywhere.j1 k ((xA body es).map (fun p => strOfNums p.2)) c.1 true) else ((sfnt_Font_Tags.f c.1).bind fun t265 => (versallaw14_SfntAnywhere.j1 k ((xA body es).map (fun p => strOfNums p.2)) c.1 ((t265.length : Int) != es.length)))) else (versallaw14_SfntAnywhere.j1 k ((xA body es).map (fun p => strOfNums p.2)) c.1 true)) else (versallaw14_SfntAnywhere.j1 k ((xA body es).map (fun p => strOfNums p.2)) c.1 true))) (fun k => ?_) ?_
  · simp only [versallaw14_SfntAnywhere.l0]
    rw [if_neg (by omega), if_pos (by rw [hH]; omega)]
  · refine Ev.bind ho (f := fun k (c : List S135 × Int) => (versallaw14_known.f k).bind fun t => (if t = true then (if c.2 = 0 then (if (c.1.length : Int) = 0 then (versallaw14_SfntAnywhere.j1 k ((xA body es).map (fun p => strOfNums p.2)) c.1 true) else ((sfnt_Font_Tags.f c.1).bind fun t265 => (versallaw14_SfntAnywhere.j1 k ((xA body es).map (fun p => strOfNums p.2)) c.1 ((t265.length : Int) != es.length)))) else (versallaw14_SfntAnywhere.j1 k ((xA body es).map (fun p => strOfNums p.2)) c.1 true)) else (versallaw14_SfntAnywhere.j1 k ((xA body es).map (fun p => strOfNums p.2)) c.1 true))) ?_
    refine Ev.bind known_f (f := fun k t => (if t = true then (if (0 : Int) = 0 then (if (1 : Int) = 0 then (versallaw14_SfntAnywhere.j1 k ((xA body es).map (fun p => strOfNums p.2)) [⟨xA body es⟩] true) else ((sfnt_Font_Tags.f [⟨xA body es⟩]).bind fun t265 => (versallaw14_SfntAnywhere.j1 k ((xA body es).map (fun p => strOfNums p.2)) [⟨xA body es⟩] ((t265.length : Int) != es.length)))) else (versallaw14_SfntAnywhere.j1 k ((xA body es).map (fun p => strOfNums p.2)) [⟨xA body es⟩] true)) else (versallaw14_SfntAnywhere.j1 k ((xA body es).map (fun p => strOfNums p.2)) [⟨xA body es⟩] true))) ?_
    refine Ev.congr (fun k => ?_) hj
    rw [if_pos rfl, if_pos rfl, if_neg (by decide), hT, Option.bind_some, List.length_map, hXL, bne_self_eq_false]
theorem w_add (a b : Nat) (h : a + b ≤ 1000000000000) : wrap64 ((a : Int) + (b : Int)) = ((a + b : Nat) : Int) := by rw [w64 (by omega) (by omega)]; omega
theorem w_suc (a : Nat) (h : a ≤ 1000000000000) : wrap64 ((a : Int) + 1) = ((a + 1 : Nat) : Int) := by rw [w64 (by omega) (by omega)]; omega
theorem w_dbl (a : Nat) (h : a ≤ 1000000000000) : wrap64 (2 * (a : Int)) = ((2 * a : Nat) : Int) := by rw [w64 (by omega) (by omega)]; omega
theorem w_sub (a b : Nat) (h : a ≤ 1000000000000) (h' : b ≤ a) : wrap64 ((a : Int) - (b : Int)) = (a : Int) - (b : Int) ∧ wrap64 ((a : Int) - (b : Int) + 1) = (a : Int) - (b : Int) + 1 ∧ wrap64 ((a : Int) + 1) = (a : Int) + 1 := ⟨w64 (by omega) (by omega), w64 (by omega) (by omega), w64 (by omega) (by omega)⟩
theorem cut_mid (body : List Int) (P Q : Nat) : (body.take (P + Q)).drop P = (body.drop P).take Q := by rw [List.drop_take]; congr 1; omega
theorem tab_bytes : bytesOf (⟨#[84, 65, 66]⟩ : ByteArray) = [84, 65, 66] := rfl
theorem nat_facts {i n l b P Q : Nat} (hi : i < n) (h2 : 2 * i + 1 < l) (hPQ : P + Q ≤ b) : (i : Int) < (n : Int) ∧ (0 : Int) ≤ (P : Int) ∧ (P : Int) ≤ ((P + Q : Nat) : Int) ∧ ((P + Q : Nat) : Int) ≤ (b : Int) ∧ (0 : Int) ≤ ((2 * i : Nat) : Int) ∧ ((2 * i : Nat) : Int) < (l : Int) ∧ (0 : Int) ≤ ((2 * i + 1 : Nat) : Int) ∧ ((2 * i + 1 : Nat) : Int) < (l : Int) := by omega
theorem len_facts {acc : List Int} {want : List ByteArray} (c : Int) (ha : acc.length < 10000) (hw : want.length < 10000) : want.length < 8796093022208 ∧ acc.length + 3 < 140737488355328 ∧ (acc ++ [84, 65, 66]).length + ([c, 1, 2, 3, 4] : List Int).length < 140737488355328 := by
  refine ⟨by omega, by omega, ?_⟩
  rw [List.length_append]
  show acc.length + 3 + 5 < _
  omega
theorem step_facts {hd i n l b P Q : Nat} (hi : i < n) (hn : n ≤ 8) (_ : 2 * i + 1 < l) (hh : hd ≤ 1000000) (hL : b ≤ 1048576) (hPQ : P + Q ≤ b) :
    (wrap64 (2 * (i : Int)) = ((2 * i : Nat) : Int) ∧ wrap64 (((2 * i : Nat) : Int) + 1) = ((2 * i + 1 : Nat) : Int) ∧ wrap64 ((b : Int) + 1) = (b : Int) + 1 ∧ wrap64 ((hd : Int) + (P : Int)) = ((hd + P : Nat) : Int)) ∧
      wrap64 ((P : Int) + (Q : Int)) = ((P + Q : Nat) : Int) ∧ wrap64 ((i : Int) + 1) = ((i + 1 : Nat) : Int) ∧ wrap64 ((b : Int) - (P : Int)) = (b : Int) - (P : Int) ∧ wrap64 ((b : Int) - (P : Int) + 1) = (b : Int) - (P : Int) + 1 := by
  have hs := w_sub b P (by omega) (by omega)
  exact ⟨⟨w_dbl i (by omega), w_suc (2 * i) (by omega), hs.2.2, w_add hd P (by omega)⟩, w_add P Q (by omega), w_suc i (by omega), hs.1, hs.2.1⟩
set_option maxHeartbeats 1000000 in
theorem any_step (k : Nat) (body l1 acc : List Int) (want : List ByteArray) (hd n i P Q : Nat) (hi : i < n) (hn : n ≤ 8) (h2 : 2 * i + 1 < l1.length) (hh : hd ≤ 1000000) (hL : body.length ≤ 1048576) (ha : acc.length < 10000) (hw : want.length < 10000)
    (hp : versalhand_Pick.f (rd l1 ((2 * i : Nat) : Int)) ((body.length : Int) + 1) = some (P : Int)) (hq : versalhand_Pick.f (rd l1 ((2 * i + 1 : Nat) : Int)) ((body.length : Int) - (P : Int) + 1) = some (Q : Int)) (hPQ : P + Q ≤ body.length) :
    versallaw14_SfntAnywhere.l0 (k + 1) body l1 n acc (hd : Int) want i = (versalref6_Big.f k ((hd + P : Nat) : Int) 4).bind fun t241 => if (acc ++ [84, 65, 66] ++ [dA i, 1, 2, 3, 4]).length + t241.length < 140737488355328 then (versalref6_Big.f k (Q : Int) 4).bind fun t247 => if (acc ++ [84, 65, 66] ++ [dA i, 1, 2, 3, 4] ++ t241).length + t247.length < 140737488355328 then versallaw14_SfntAnywhere.l0 k body l1 n (acc ++ [84, 65, 66] ++ [dA i, 1, 2, 3, 4] ++ t241 ++ t247) (hd : Int) (want ++ [strOfNums ((body.drop P).take Q)]) ((i + 1 : Nat) : Int) else none else none := by
  obtain ⟨⟨e1, e2, e3, e4⟩, e5, e6, e7, e8⟩ := step_facts (hd := hd) hi hn h2 hh hL hPQ
  obtain ⟨g0, g1, g2, g3, g4, g5, g6, g7⟩ := nat_facts hi h2 hPQ
  obtain ⟨hc, g8, g9⟩ := len_facts (dA i) ha hw
  have hcut := cut_mid body P Q
  have hTAB := tab_bytes
  have hd5 : ([(wrap64 (48 + (i : Int))) % 256, 1, 2, 3, 4] : List Int) = [dA i, 1, 2, 3, 4] := by unfold dA; rfl
  rw [versallaw14_SfntAnywhere.l0]
  simp only [e1, e2, e3, if_pos g0, if_pos g4, if_pos g5, hp, Option.bind_some, if_pos g6, if_pos g7, e7, e8, hq, if_pos g8, hTAB, hd5, if_pos g9, e4, e5, e6, if_pos g1, if_pos g2, if_pos g3, if_pos hc, Int.toNat_natCast, hcut]
theorem make_l {body l1 : List Int} (hb : Bytes body) (hL : body.length ≤ 1048576) {n : Nat} (hn : n ≤ 8) (hl : 2 * n ≤ l1.length) : ∀ (d : Nat) (es : List (Nat × Nat)), es.length + d = n → (∀ e ∈ es, e.1 + e.2 ≤ body.length) →
    Ev (fun k => versallaw14_SfntAnywhere.l0 k body l1 n (hdrA n ++ recsA (12 + 16 * n) 0 es) ((12 + 16 * n : Nat) : Int) ((xA body es).map (fun p => strOfNums p.2)) es.length) true := by
  intro d
  induction d with
  | zero =>
    intro es hi hes
    obtain rfl : n = es.length := by omega
    exact end_l hb hL hn hes _
  | succ d ih =>
    intro es hi hes
    obtain ⟨p, hp, hp0, hp1⟩ := pick_f (a := rd l1 ((2 * es.length : Nat) : Int)) (m := (body.length : Int) + 1) (by omega) (by omega)
    obtain ⟨q, hq, hq0, hq1⟩ := pick_f (a := rd l1 ((2 * es.length + 1 : Nat) : Int)) (m := (body.length : Int) - p + 1) (by omega) (by omega)
    obtain ⟨P, rfl⟩ := Int.eq_ofNat_of_zero_le hp0
    obtain ⟨Q, rfl⟩ := Int.eq_ofNat_of_zero_le hq0
    have hI := ih (es ++ [(P, Q)]) (by rw [List.length_append, List.length_singleton]; omega) (fun e he => by
      rcases List.mem_append.1 he with he | he
      · exact hes e he
      · rw [List.mem_singleton.1 he]; show P + Q ≤ _; omega)
    rw [recsA_snoc, xA_snoc, List.map_append, List.length_append, List.length_singleton, Nat.zero_add] at hI
    have hH : (hdrA n ++ recsA (12 + 16 * n) 0 es).length = 12 + 16 * es.length := by rw [List.length_append, recsA_length]; rfl
    have hW : ((xA body es).map (fun p => strOfNums p.2)).length = es.length := by rw [List.length_map, xA_length]
    have b1 := big4_f ((12 + 16 * n + P : Nat) : Int)
    have b2 := big4_f (Q : Int)
    have hlen : ∀ a : Int, (b4 a).length = 4 := fun _ => rfl
    have hR : hdrA n ++ recsA (12 + 16 * n) 0 es ++ [84, 65, 66] ++ [dA es.length, 1, 2, 3, 4] ++ b4 ((12 + 16 * n + P : Nat) : Int) ++ b4 (Q : Int) = hdrA n ++ (recsA (12 + 16 * n) 0 es ++ rA (12 + 16 * n) es.length (P, Q)) := by
      simp only [rA, List.append_assoc]
    have hst := fun k => any_step k body l1 (hdrA n ++ recsA (12 + 16 * n) 0 es) ((xA body es).map (fun p => strOfNums p.2)) (12 + 16 * n) n es.length P Q (by omega) hn (by omega) (by omega) hL (by omega) (by omega) hp hq (by omega)
    rw [← hR] at hI
    have hm1 : ((xA body es).map (fun p => strOfNums p.2) ++ [(tA es.length, (body.drop P).take Q)].map (fun p => strOfNums p.2)) = ((xA body es).map (fun p => strOfNums p.2) ++ [strOfNums ((body.drop P).take Q)]) := rfl
    rw [hm1] at hI
    generalize hdrA n ++ recsA (12 + 16 * n) 0 es = acc at hI hst hH ⊢
    generalize (xA body es).map (fun p => strOfNums p.2) = want at hI hst hW ⊢
    have l1_ : (acc ++ [84, 65, 66] ++ [dA es.length, 1, 2, 3, 4]).length + (b4 ((12 + 16 * n + P : Nat) : Int)).length < 140737488355328 := by rw [hlen]; simp only [List.length_append, hH, List.length_cons, List.length_nil]; omega
    have l2_ : (acc ++ [84, 65, 66] ++ [dA es.length, 1, 2, 3, 4] ++ b4 ((12 + 16 * n + P : Nat) : Int)).length + (b4 (Q : Int)).length < 140737488355328 := by rw [List.length_append, hlen, hlen]; simp only [List.length_append, hH, List.length_cons, List.length_nil]; omega
    refine Ev.step hst (Ev.bind b1 (f := fun k t241 => if (acc ++ [84, 65, 66] ++ [dA es.length, 1, 2, 3, 4]).length + t241.length < 140737488355328 then (versalref6_Big.f k (Q : Int) 4).bind fun t247 => if (acc ++ [84, 65, 66] ++ [dA es.length, 1, 2, 3, 4] ++ t241).length + t247.length < 140737488355328 then versallaw14_SfntAnywhere.l0 k body l1 n (acc ++ [84, 65, 66] ++ [dA es.length, 1, 2, 3, 4] ++ t241 ++ t247) ((12 + 16 * n : Nat) : Int) (want ++ [strOfNums ((body.drop P).take Q)]) ((es.length + 1 : Nat) : Int) else none else none) ?_)
    refine Ev.congr (fun k => if_pos l1_) (Ev.bind b2 (f := fun k t247 => if (acc ++ [84, 65, 66] ++ [dA es.length, 1, 2, 3, 4] ++ b4 ((12 + 16 * n + P : Nat) : Int)).length + t247.length < 140737488355328 then versallaw14_SfntAnywhere.l0 k body l1 n (acc ++ [84, 65, 66] ++ [dA es.length, 1, 2, 3, 4] ++ b4 ((12 + 16 * n + P : Nat) : Int) ++ t247) ((12 + 16 * n : Nat) : Int) (want ++ [strOfNums ((body.drop P).take Q)]) ((es.length + 1 : Nat) : Int) else none) ?_)
    exact Ev.congr (fun k => if_pos l2_) hI
theorem SfntAnywhere : versallaw14_SfntAnywhere.Pure := by
  intro l0 l1 _ _ hb _ _ _ h0 h1
  obtain ⟨n, hn⟩ : ∃ n : Nat, n = min (l1.length / 2) 8 := ⟨_, rfl⟩
  have hmn : mn (wrap64 ((l1.length : Int) / 2)) 8 = (n : Int) := by
    rw [w64 (by omega) (by omega)]
    unfold mn
    split <;> omega
  have hM := make_l (body := l0) (l1 := l1) (fun c hc => wf_u8 (hb c hc)) h0 (n := n) (by omega) (by omega) n [] (Nat.zero_add _) (fun e he => by simp at he)
  have hB := big2_f (n : Int)
  have : Ev (fun k => versallaw14_SfntAnywhere.f k l0 l1) true := by
    refine Ev.congr (f := fun k => (versalref6_Big.f k (n : Int) 2).bind fun t219 => if ([0, 1, 0, 0] : List Int).length + t219.length < 140737488355328 then (if (([0, 1, 0, 0] : List Int) ++ t219).length + 6 < 140737488355328 then versallaw14_SfntAnywhere.l0 k l0 l1 (n : Int) (([0, 1, 0, 0] : List Int) ++ t219 ++ List.replicate 6 0) ((12 + 16 * n : Nat) : Int) [] 0 else none) else none) (fun k => ?_) ?_
    · unfold versallaw14_SfntAnywhere.f
      rw [hmn, w64 (x := 16 * (n : Int)) (by omega) (by omega), w64 (by omega) (by omega), show (12 + 16 * (n : Int)) = ((12 + 16 * n : Nat) : Int) by omega]
      rfl
    · refine Ev.bind hB (f := fun k t219 => if ([0, 1, 0, 0] : List Int).length + t219.length < 140737488355328 then (if (([0, 1, 0, 0] : List Int) ++ t219).length + 6 < 140737488355328 then versallaw14_SfntAnywhere.l0 k l0 l1 (n : Int) (([0, 1, 0, 0] : List Int) ++ t219 ++ List.replicate 6 0) ((12 + 16 * n : Nat) : Int) [] 0 else none) else none) ?_
      refine Ev.congr (fun k => (if_pos (by simp)).trans (if_pos (by simp))) ?_
      exact hM
  exact this.rounds
end Go.Proofs.Ytenlimmgbgcgpaa.Pure
