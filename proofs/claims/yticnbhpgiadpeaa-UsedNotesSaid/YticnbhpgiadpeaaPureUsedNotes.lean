/- Whether a row is right, whether a word may be noted, and it noted, are the document's, for every row, room and word; no condition. -/
import Derived.Test.YticnbhpgiadpeaaPUsedNotesx3
namespace Go.Proofs.Yticnbhpgiadpeaa.Pure
open Go Go.RowKit Go.Proofs.Yticnbhpgiadpeaa.PUsedNotes Go.Proofs.YticnbhpgiadpeaaW.PrintWords Go.Proofs.YticnbhpgiadpeaaW.PrintLast Go.Proofs.YticnbhpgiadpeaaW.PrintMore

theorem wf32 {x : Int} (h : (Lit.int .u32 x).wf = true) : 0 ≤ x ∧ x < 4294967296 := by
  simp only [Lit.wf, IntKind.min, IntKind.max, IntKind.signed, IntKind.bits, Bool.and_eq_true] at h
  simp at h
  omega
theorem wf8 {x : Int} (h : (Lit.int .u8 x).wf = true) : 0 ≤ x ∧ x < 256 := by
  simp only [Lit.wf, IntKind.min, IntKind.max, IntKind.signed, IntKind.bits, Bool.and_eq_true] at h
  simp at h
  omega
theorem wf16 {x : Int} (h : (Lit.int .u16 x).wf = true) : 0 ≤ x ∧ x < 65536 := by
  simp only [Lit.wf, IntKind.min, IntKind.max, IntKind.signed, IntKind.bits, Bool.and_eq_true] at h
  simp at h
  omega
theorem wf64 {x : Int} (h : (Lit.int .i64 x).wf = true) : -9223372036854775808 ≤ x ∧ x ≤ 9223372036854775807 := by
  simp only [Lit.wf, IntKind.min, IntKind.max, IntKind.signed, IntKind.bits, Bool.and_eq_true] at h
  simp at h
  omega
theorem w64 {x : Int} (h1 : -9223372036854775808 ≤ x) (h2 : x ≤ 9223372036854775807) : wrap64 x = x := by
  unfold wrap64
  omega
theorem rd_nat (xs : List Int) (i : Nat) (h : i < xs.length) : rd xs (i : Int) = xs[i] := by
  unfold rd
  simp [List.getD_eq_getElem?_getD, h]
/-- From place i on, n places: does p hold of all? -/
def allF (p : Nat → Bool) : Nat → Nat → Bool
  | 0, _ => true
  | n + 1, i => p i && allF p n (i + 1)
theorem allF_iff (p : Nat → Bool) (n i : Nat) : allF p n i = true ↔ ∀ j, i ≤ j → j < i + n → p j = true := by
  induction n generalizing i with
  | zero => simp [allF]; intro j h1 h2; omega
  | succ n ih =>
    simp only [allF, Bool.and_eq_true, ih]
    constructor
    · rintro ⟨h0, h⟩ j h1 h2
      by_cases e : j = i
      · subst e; exact h0
      · exact h j (by omega) (by omega)
    · intro h
      exact ⟨h i (by omega) (by omega), fun j h1 h2 => h j (by omega) (by omega)⟩
/-- The first place from i on, of n, of which p holds. -/
def fnd (p : Nat → Bool) : Nat → Nat → Option Nat
  | 0, _ => none
  | n + 1, i => if p i = true then some i else fnd p n (i + 1)
theorem fnd_some {p : Nat → Bool} {n i j : Nat} (h : fnd p n i = some j) : i ≤ j ∧ j < i + n ∧ p j = true ∧ ∀ m, i ≤ m → m < j → p m = false := by
  induction n generalizing i with
  | zero => simp [fnd] at h
  | succ n ih =>
    simp only [fnd] at h
    by_cases e : p i = true
    · rw [if_pos e] at h
      cases h
      exact ⟨Nat.le_refl _, by omega, e, fun m h1 h2 => by omega⟩
    · rw [if_neg e] at h
      obtain ⟨h1, h2, h3, h4⟩ := ih h
      refine ⟨by omega, by omega, h3, fun m m1 m2 => ?_⟩
      by_cases c : m = i
      · subst c; simpa using e
      · exact h4 m (by omega) m2
theorem fnd_none {p : Nat → Bool} {n i : Nat} (h : fnd p n i = none) : ∀ m, i ≤ m → m < i + n → p m = false := by
  induction n generalizing i with
  | zero => intro m h1 h2; omega
  | succ n ih =>
    simp only [fnd] at h
    by_cases e : p i = true
    · rw [if_pos e] at h; cases h
    · rw [if_neg e] at h
      intro m h1 h2
      by_cases c : m = i
      · subst c; simpa using e
      · exact ih h m (by omega) (by omega)
theorem fnd_eq_some {p : Nat → Bool} {n i j : Nat} (h1 : i ≤ j) (h2 : j < i + n) (h3 : p j = true) (h4 : ∀ m, i ≤ m → m < j → p m = false) : fnd p n i = some j := by
  cases h : fnd p n i with
  | none => have := fnd_none h j h1 h2; rw [this] at h3; cases h3
  | some q =>
    obtain ⟨a, b, c, d⟩ := fnd_some h
    congr 1
    rcases Nat.lt_trichotomy q j with e | e | e
    · have := h4 q a e; rw [this] at c; cases c
    · exact e
    · have := d j h1 e; rw [this] at h3; cases h3
theorem fnd_eq_none {p : Nat → Bool} {n i : Nat} (h : ∀ m, i ≤ m → m < i + n → p m = false) : fnd p n i = none := by
  cases e : fnd p n i with
  | none => rfl
  | some q =>
    obtain ⟨a, b, c, _⟩ := fnd_some e
    rw [h q a b] at c; cases c
theorem rows_eq (a b : List Int) (h : a.length = b.length) : allF (fun i => decide (rd a (i : Int) = rd b (i : Int))) a.length 0 = decide (a = b) := by
  rw [Bool.eq_iff_iff, allF_iff]
  simp only [decide_eq_true_eq]
  constructor
  · intro H
    apply List.ext_getElem h
    intro i h1 h2
    have := H i (by omega) (by omega)
    rw [rd_nat a i h1, rd_nat b i h2] at this
    exact this
  · intro e j _ _
    rw [e]
/-- A loop that asks place by place. -/
theorem all_loop (f : Nat → Nat → Option Bool) (n : Nat) (p : Nat → Bool) (h : ∀ k i, i ≤ n → f (k + 1) i = if i < n then (if p i = true then f k (i + 1) else some false) else some true) :
    ∀ (d k i : Nat), n - i = d → i ≤ n → d < k → f k i = some (allF p d i) := by
  intro d
  induction d with
  | zero =>
    intro k i h1 h2 h3
    obtain ⟨k, rfl⟩ : ∃ m, k = m + 1 := ⟨k - 1, by omega⟩
    rw [h k i h2, if_neg (by omega)]; rfl
  | succ d ih =>
    intro k i h1 h2 h3
    obtain ⟨k, rfl⟩ : ∃ m, k = m + 1 := ⟨k - 1, by omega⟩
    rw [h k i h2, if_pos (by omega)]
    simp only [allF]
    cases e : p i with
    | true => rw [if_pos rfl, ih k (i + 1) (by omega) (by omega) (by omega)]; simp
    | false => simp
/-- A loop that looks for the first place. -/
theorem fnd_loop {α : Type} (f : Nat → Nat → Option α) (n : Nat) (p : Nat → Bool) (yes : Nat → α) (no : α) (c : Nat) (h : ∀ k i, i ≤ n → c ≤ k → f (k + 1) i = if i < n then (if p i = true then some (yes i) else f k (i + 1)) else some no) :
    ∀ (d k i : Nat), n - i = d → i ≤ n → c + d < k → f k i = some (match fnd p d i with | some j => yes j | none => no) := by
  intro d
  induction d with
  | zero =>
    intro k i h1 h2 h3
    obtain ⟨k, rfl⟩ : ∃ m, k = m + 1 := ⟨k - 1, by omega⟩
    rw [h k i h2 (by omega), if_neg (by omega)]; rfl
  | succ d ih =>
    intro k i h1 h2 h3
    obtain ⟨k, rfl⟩ : ∃ m, k = m + 1 := ⟨k - 1, by omega⟩
    rw [h k i h2 (by omega), if_pos (by omega)]
    simp only [fnd]
    cases e : p i with
    | true => simp
    | false => rw [if_neg (by simp), if_neg (by simp), ih k (i + 1) (by omega) (by omega) (by omega)]
theorem index_eq (l : List Int) (w : Int) (k : Nat) (hl : l.length ≤ 4611686018427387904) (hk : l.length < k) : slices_Index_uint32_uint32.f k l w = some (match fnd (fun i => decide (w = rd l (i : Int))) l.length 0 with | some j => (j : Int) | none => -1) := by
  unfold slices_Index_uint32_uint32.f
  have h := fnd_loop (fun k i => slices_Index_uint32_uint32.l0 k l w (l.length : Int) (i : Int)) l.length (fun i => decide (w = rd l (i : Int))) (fun j => (j : Int)) (-1) 0 (by
    intro k i hi _
    simp only [slices_Index_uint32_uint32.l0]
    by_cases c : i < l.length
    · rw [if_pos (by omega), if_pos (by omega), if_pos (by omega), if_pos c, w64 (by omega) (by omega)]
      simp
    · rw [if_neg (by omega), if_neg c]) l.length k 0 (by omega) (by omega) (by omega)
  simp only [Int.natCast_zero] at h
  exact h
theorem mem_fnd (l : List Int) (w : Int) : (∃ j, fnd (fun i => decide (w = rd l (i : Int))) l.length 0 = some j) ↔ w ∈ l := by
  constructor
  · rintro ⟨j, h⟩
    obtain ⟨_, h2, h3, _⟩ := fnd_some h
    simp only [decide_eq_true_eq] at h3
    rw [rd_nat l j (by omega)] at h3
    rw [h3]; exact List.getElem_mem _
  · intro h
    obtain ⟨i, hi, e⟩ := List.getElem_of_mem h
    cases c : fnd (fun i => decide (w = rd l (i : Int))) l.length 0 with
    | some j => exact ⟨j, rfl⟩
    | none =>
      have := fnd_none c i (by omega) (by omega)
      simp only [decide_eq_false_iff_not, rd_nat l i hi] at this
      exact absurd e.symm this
theorem contains_eq (l : List Int) (w : Int) (k : Nat) (hl : l.length ≤ 4611686018427387904) (hk : l.length < k) : slices_Contains_uint32_uint32.f k l w = some (decide (w ∈ l)) := by
  unfold slices_Contains_uint32_uint32.f
  rw [index_eq l w k hl hk]
  simp only [Option.bind_some]
  congr 1
  have := mem_fnd l w
  cases c : fnd (fun i => decide (w = rd l (i : Int))) l.length 0 with
  | some j => rw [c] at this; have : w ∈ l := this.mp ⟨j, rfl⟩; simp [this]
  | none => rw [c] at this; have : ¬ w ∈ l := fun h => by obtain ⟨j, hj⟩ := this.mpr h; cases hj
            simp [this]
theorem rdL_nat (xs : List (List Int)) (i : Nat) (h : i < xs.length) : rd_L1 xs (i : Int) = xs[i] := by
  unfold rd_L1
  simp [List.getD_eq_getElem?_getD, h]
theorem grow_eq (n : Nat) (h : n < 35184372088832) : slices_Grow_uint32_uint32.f [] (n : Int) = some [] := by
  unfold slices_Grow_uint32_uint32.f
  rw [if_neg (by omega), if_neg (by simp)]
  by_cases c : (n : Int) > 0
  · rw [if_pos c, if_pos (by omega), if_pos (by simp; omega)]
    simp
  · rw [if_neg c]
theorem concat_l1 (ll : List (List Int)) (hll : ll.length ≤ 1000000) : ∀ (d k i : Nat) (acc : List Int), ll.length - i = d → i ≤ ll.length → acc.length + ((ll.drop i).map List.length).sum < 35184372088832 → d < k →
    slices_Concat_uint32_uint32.l1 k acc ll (ll.length : Int) (i : Int) = some (acc ++ (ll.drop i).flatten) := by
  intro d
  induction d with
  | zero =>
    intro k i acc h1 h2 h3 h4
    obtain ⟨k, rfl⟩ : ∃ m, k = m + 1 := ⟨k - 1, by omega⟩
    rw [slices_Concat_uint32_uint32.l1, if_neg (by omega), List.drop_eq_nil_of_le (by omega)]
    simp
  | succ d ih =>
    intro k i acc h1 h2 h3 h4
    obtain ⟨k, rfl⟩ : ∃ m, k = m + 1 := ⟨k - 1, by omega⟩
    have hi : i < ll.length := by omega
    rw [List.drop_eq_getElem_cons hi] at h3 ⊢
    simp only [List.map_cons, List.sum_cons] at h3
    rw [slices_Concat_uint32_uint32.l1, if_pos (by omega), if_pos (by omega), if_pos (by omega), rdL_nat ll i hi, if_pos (by omega), w64 (by omega) (by omega)]
    have ei : (i : Int) + 1 = ((i + 1 : Nat) : Int) := by omega
    rw [ei, ih k (i + 1) _ (by omega) (by omega) (by rw [List.length_append]; omega) (by omega), List.flatten_cons, List.append_assoc]
theorem concat_l0 (ll : List (List Int)) (hll : ll.length ≤ 1000000) (hs : (ll.map List.length).sum < 35184372088832) : ∀ (d k i s : Nat), ll.length - i = d → i ≤ ll.length → s + ((ll.drop i).map List.length).sum = (ll.map List.length).sum → d + ll.length + 1 < k →
    slices_Concat_uint32_uint32.l0 k ll (s : Int) ll (ll.length : Int) (i : Int) = some ll.flatten := by
  intro d
  induction d with
  | zero =>
    intro k i s h1 h2 h3 h4
    obtain ⟨k, rfl⟩ : ∃ m, k = m + 1 := ⟨k - 1, by omega⟩
    rw [List.drop_eq_nil_of_le (by omega)] at h3
    simp only [List.map_nil, List.sum_nil, Nat.add_zero] at h3
    rw [slices_Concat_uint32_uint32.l0, if_neg (by omega), grow_eq s (by omega), Option.bind_some]
    have h := concat_l1 ll hll ll.length k 0 [] (by omega) (by omega) (by simpa using hs) (by omega)
    simp only [Int.natCast_zero, List.drop_zero, List.nil_append] at h
    exact h
  | succ d ih =>
    intro k i s h1 h2 h3 h4
    obtain ⟨k, rfl⟩ : ∃ m, k = m + 1 := ⟨k - 1, by omega⟩
    have hi : i < ll.length := by omega
    rw [List.drop_eq_getElem_cons hi] at h3
    simp only [List.map_cons, List.sum_cons] at h3
    rw [slices_Concat_uint32_uint32.l0, if_pos (by omega), if_pos (by omega), if_pos (by omega), rdL_nat ll i hi, w64 (x := (s : Int) + (ll[i].length : Int)) (by omega) (by omega), if_neg (by omega), w64 (by omega) (by omega)]
    have ei : (i : Int) + 1 = ((i + 1 : Nat) : Int) := by omega
    have es : (s : Int) + (ll[i].length : Int) = ((s + ll[i].length : Nat) : Int) := by omega
    rw [ei, es]
    exact ih k (i + 1) _ (by omega) (by omega) (by omega) (by omega)
theorem concat_eq (ll : List (List Int)) (k : Nat) (hll : ll.length ≤ 1000000) (hs : (ll.map List.length).sum < 35184372088832) (hk : ll.length + ll.length + 1 < k) : slices_Concat_uint32_uint32.f k ll = some ll.flatten := by
  unfold slices_Concat_uint32_uint32.f
  have h := concat_l0 ll hll hs ll.length k 0 0 (by omega) (by omega) (by simp) (by omega)
  simp only [Int.natCast_zero] at h
  exact h
/-- Is no word there twice? -/
def nodupB (l : List Int) : Bool := allF (fun i => !decide (rd l (i : Int) ∈ l.take i)) l.length 0
theorem nodupB_iff (l : List Int) : nodupB l = decide l.Nodup := by
  rw [Bool.eq_iff_iff]
  unfold nodupB
  rw [allF_iff, decide_eq_true_eq, List.Nodup, List.pairwise_iff_getElem]
  constructor
  · intro h i j hi hj hij e
    have := h j (by omega) (by omega)
    simp only [Bool.not_eq_true', decide_eq_false_iff_not] at this
    apply this
    rw [rd_nat l j hj, ← e]
    rw [List.mem_take_iff_getElem]
    exact ⟨i, by omega, rfl⟩
  · intro h j _ hj
    simp only [Bool.not_eq_true', decide_eq_false_iff_not]
    intro hm
    rw [rd_nat l j (by omega), List.mem_take_iff_getElem] at hm
    obtain ⟨i, hi, e⟩ := hm
    exact h i j (by omega) (by omega) (by omega) e
def rightB (l : List Int) (room : Int) : Bool := decide ((l.length : Int) ≤ room) && decide l.Nodup
theorem right_eq (l : List Int) (room : Int) (k : Nat) (hl : l.length ≤ 1000000) (hk : l.length + l.length + 2 < k) : used_Right.f k l room = some (rightB l room) := by
  unfold used_Right.f rightB
  by_cases c : (l.length : Int) > room
  · rw [if_pos c, decide_eq_false (by omega)]; rfl
  rw [if_neg c, decide_eq_true (by omega), Bool.true_and]
  have h : ∀ (d k i : Nat), l.length - i = d → i ≤ l.length → l.length + d < k → used_Right.l0 k l l (l.length : Int) (i : Int) = some (allF (fun i => !decide (rd l (i : Int) ∈ l.take i)) d i) := by
    intro d
    induction d with
    | zero =>
      intro k i h1 h2 h3
      obtain ⟨k, rfl⟩ : ∃ m, k = m + 1 := ⟨k - 1, by omega⟩
      rw [used_Right.l0, if_neg (by omega)]; rfl
    | succ d ih =>
      intro k i h1 h2 h3
      obtain ⟨k, rfl⟩ : ∃ m, k = m + 1 := ⟨k - 1, by omega⟩
      rw [used_Right.l0, if_pos (by omega), if_pos (by omega), if_pos (by omega), if_pos (by omega), contains_eq _ _ _ (by rw [List.length_take]; omega) (by rw [List.length_take]; omega), Option.bind_some, w64 (by omega) (by omega)]
      have ei : (i : Int) + 1 = ((i + 1 : Nat) : Int) := by omega
      have et : (i : Int).toNat = i := by omega
      rw [ei, et, ih k (i + 1) (by omega) (by omega) (by omega), allF]
      by_cases e : rd l (i : Int) ∈ l.take i
      · rw [if_pos (decide_eq_true e), decide_eq_true e]; rfl
      · rw [if_neg (by simpa using e), decide_eq_false e]; rfl
  have h0 := h l.length k 0 (by omega) (by omega) (by omega)
  simp only [Int.natCast_zero] at h0
  rw [h0, ← nodupB_iff]; rfl
def mayOf (l : List Int) (room w : Int) : Int := if w ∈ l then 8 else if (l.length : Int) ≥ room then 10 else 0
theorem may_eq (l : List Int) (room w : Int) (k : Nat) (hl : l.length ≤ 1000000) (hk : l.length < k) : used_May.f k l room w = some (mayOf l room w) := by
  unfold used_May.f mayOf
  rw [contains_eq l w k (by omega) hk, Option.bind_some]
  by_cases c : w ∈ l
  · rw [if_pos (decide_eq_true c), if_pos c]
  · rw [if_neg (by simpa using c), if_neg c]
    split <;> rfl
def noteOf (l : List Int) (room w : Int) : List Int × Int := if mayOf l room w = 0 then (l ++ [w], 0) else (l, mayOf l room w)
theorem note_eq (l : List Int) (room w : Int) (k : Nat) (hl : l.length ≤ 1000000) (hk : l.length + 10 < k) : used_Note.f k l room w = some (noteOf l room w) := by
  unfold used_Note.f noteOf
  rw [may_eq l room w k hl (by omega), Option.bind_some]
  by_cases c : mayOf l room w = 0
  · rw [if_pos c, if_pos c, concat_eq _ k (by simp) (by simp; omega) (by simp; omega), Option.bind_some]
    simp
  · rw [if_neg c, if_neg c]
theorem awake40 : chamberlainlaw08_awake.f 40 = some true := by decide +kernel
theorem awake_eq (k : Nat) (h : 40 ≤ k) : chamberlainlaw08_awake.f k = some true := at_rounds (chamberlainlaw08_awake.mono) h awake40
theorem rsame_eq (a b : List Int) (k : Nat) (hb : a.length ≤ 4611686018427387904) (hk : a.length < k) : chamberlainref01_Same.f k a b = some (decide (a = b)) := by
  unfold chamberlainref01_Same.f
  by_cases hl : a.length = b.length
  · rw [if_pos (by omega)]
    have h := all_loop (fun k i => chamberlainref01_Same.l0 k a b (i : Int)) a.length (fun i => decide (rd a (i : Int) = rd b (i : Int))) (by
      intro k i hi
      simp only [chamberlainref01_Same.l0]
      by_cases c : i < a.length
      · rw [if_pos (by omega), if_pos (by omega), if_pos (by omega), if_pos c, w64 (by omega) (by omega)]
        simp
      · rw [if_neg (by omega), if_neg c]) a.length k 0 (by omega) (by omega) (by omega)
    simp only [Int.natCast_zero] at h
    rw [h, rows_eq a b hl]
  · rw [if_neg (by omega)]
    congr 1
    symm
    apply decide_eq_false
    intro e
    exact hl (by rw [e])
theorem rhas_eq (l : List Int) (w : Int) (k : Nat) (hl : l.length ≤ 4611686018427387904) (hk : l.length < k) : chamberlainref01_Has.f k l w = some (decide (w ∈ l)) := by
  unfold chamberlainref01_Has.f
  have h := fnd_loop (fun k i => chamberlainref01_Has.l0 k l w (i : Int)) l.length (fun i => decide (w = rd l (i : Int))) (fun _ => true) false 0 (by
    intro k i hi _
    simp only [chamberlainref01_Has.l0]
    by_cases c : i < l.length
    · rw [if_pos (by omega), if_pos (by omega), if_pos c, w64 (by omega) (by omega)]
      by_cases e : w = rd l (i : Int)
      · rw [if_pos e.symm, if_pos (decide_eq_true e)]
      · rw [if_neg (fun h => e h.symm), if_neg (by simpa using e)]; rfl
    · rw [if_neg (by omega), if_neg c]) l.length k 0 (by omega) (by omega) (by omega)
  simp only [Int.natCast_zero] at h
  rw [h]
  have := mem_fnd l w
  cases c : fnd (fun i => decide (w = rd l (i : Int))) l.length 0 with
  | some j => rw [c] at this; have : w ∈ l := this.mp ⟨j, rfl⟩; simp [this]
  | none => rw [c] at this; have : ¬ w ∈ l := fun h => by obtain ⟨j, hj⟩ := this.mpr h; cases hj
            simp [this]
theorem rright_l1 (l : List Int) (room : Int) (i : Nat) (hl : l.length ≤ 1000000) (hi : i < l.length) (R : Bool) (K0 : Nat)
    (hR : ∀ K, K0 ≤ K → chamberlainref08_Right.l0 K l room ((i : Int) + 1) = some R) :
    ∀ (d k j : Nat), i - j = d → j ≤ i → K0 + d < k → chamberlainref08_Right.l1 k l room (i : Int) (j : Int) = some (cond (allF (fun m => decide (rd l (i : Int) ≠ rd l (m : Int))) d j) R false) := by
  intro d
  induction d with
  | zero =>
    intro k j h1 h2 h3
    obtain ⟨k, rfl⟩ : ∃ m, k = m + 1 := ⟨k - 1, by omega⟩
    rw [chamberlainref08_Right.l1, if_neg (by omega), w64 (by omega) (by omega), hR k (by omega)]
    rfl
  | succ d ih =>
    intro k j h1 h2 h3
    obtain ⟨k, rfl⟩ : ∃ m, k = m + 1 := ⟨k - 1, by omega⟩
    rw [chamberlainref08_Right.l1, if_pos (by omega), if_pos (by omega), if_pos (by omega), if_pos (by omega), if_pos (by omega), w64 (by omega) (by omega), allF]
    by_cases c : rd l (i : Int) = rd l (j : Int)
    · rw [if_pos c, decide_eq_false (by simpa using c)]; rfl
    · have ei : (j : Int) + 1 = ((j + 1 : Nat) : Int) := by omega
      rw [if_neg c, decide_eq_true c, Bool.true_and, ei, ih k (j + 1) (by omega) (by omega) (by omega)]
theorem notin_all (l : List Int) (i : Nat) (hi : i < l.length) : allF (fun m => decide (rd l (i : Int) ≠ rd l (m : Int))) i 0 = !decide (rd l (i : Int) ∈ l.take i) := by
  rw [Bool.eq_iff_iff, allF_iff]
  simp only [decide_eq_true_eq, Bool.not_eq_true', decide_eq_false_iff_not]
  constructor
  · intro h hm
    rw [List.mem_take_iff_getElem] at hm
    obtain ⟨j, hj, e⟩ := hm
    exact h j (by omega) (by omega) (by rw [rd_nat l j (by omega), e])
  · intro h j _ hj e
    apply h
    rw [List.mem_take_iff_getElem]
    exact ⟨j, by omega, by rw [e, rd_nat l j (by omega)]⟩
theorem rright_eq (l : List Int) (room : Int) (k : Nat) (hl : l.length ≤ 1000) (hk : 1010000 < k) : chamberlainref08_Right.f k l room = some (rightB l room) := by
  unfold chamberlainref08_Right.f
  have h : ∀ (d k i : Nat), l.length - i = d → i ≤ l.length → d * (l.length + 2) < k → chamberlainref08_Right.l0 k l room (i : Int) = some (allF (fun i => !decide (rd l (i : Int) ∈ l.take i)) d i && decide ((l.length : Int) ≤ room)) := by
    intro d
    induction d with
    | zero =>
      intro k i h1 h2 h3
      obtain ⟨k, rfl⟩ : ∃ m, k = m + 1 := ⟨k - 1, by omega⟩
      rw [chamberlainref08_Right.l0, if_neg (by omega), allF, Bool.true_and]
    | succ d ih =>
      intro k i h1 h2 h3
      obtain ⟨k, rfl⟩ : ∃ m, k = m + 1 := ⟨k - 1, by omega⟩
      rw [Nat.add_mul] at h3
      have hR : ∀ K, d * (l.length + 2) + 1 ≤ K → chamberlainref08_Right.l0 K l room ((i : Int) + 1) = some (allF (fun i => !decide (rd l (i : Int) ∈ l.take i)) d (i + 1) && decide ((l.length : Int) ≤ room)) := by
        intro K hK
        have ei : (i : Int) + 1 = ((i + 1 : Nat) : Int) := by omega
        rw [ei]
        exact ih K (i + 1) (by omega) (by omega) (by omega)
      have q := rright_l1 l room i (by omega) (by omega) _ _ hR i k 0 (by omega) (by omega) (by omega)
      simp only [Int.natCast_zero] at q
      rw [chamberlainref08_Right.l0, if_pos (by omega), q, notin_all l i (by omega), allF]
      cases decide (rd l (i : Int) ∈ l.take i) <;> rfl
  have hm : l.length * (l.length + 2) ≤ 1000 * 1002 := Nat.mul_le_mul (by omega) (by omega)
  have h0 := h l.length k 0 (by omega) (by omega) (by omega)
  simp only [Int.natCast_zero] at h0
  rw [h0]
  unfold rightB
  rw [← nodupB_iff, Bool.and_comm]; rfl
theorem rmay_eq (l : List Int) (room w : Int) (k : Nat) (hl : l.length ≤ 1000000) (hk : l.length < k) : chamberlainref08_May.f k l room w = some (mayOf l room w) := by
  unfold chamberlainref08_May.f mayOf
  rw [rhas_eq l w k (by omega) hk, Option.bind_some]
  by_cases c : w ∈ l
  · rw [if_pos (decide_eq_true c), if_pos c]
  · rw [if_neg (by simpa using c), if_neg c]
    split <;> rfl
theorem UsedNotes : chamberlainlaw08_UsedNotes.Pure := by
  intro l room w _ hl _ _ _
  obtain ⟨k, hk⟩ : ∃ k, k = 2000000 := ⟨_, rfl⟩
  refine ⟨k + 1 + 1 + 1, ?_⟩
  unfold chamberlainlaw08_UsedNotes.f
  rw [awake_eq _ (by omega), Option.bind_some, if_pos rfl, chamberlainlaw08_UsedNotes.j0]
  by_cases h0 : (l.length : Int) > 200
  · rw [if_pos (decide_eq_true h0), awake_eq _ (by omega)]; rfl
  rw [if_neg (by simpa using h0), right_eq l room _ (by omega) (by omega), rright_eq l room _ (by omega) (by omega)]
  simp only [Option.bind_some, bne_self_eq_false]
  rw [if_neg (by decide), chamberlainlaw08_UsedNotes.j1]
  by_cases c : rightB l room = true
  · rw [if_neg (by simp [c]), may_eq l room w _ (by omega) (by omega), note_eq l room w _ (by omega) (by omega), rmay_eq l room w _ (by omega) (by omega)]
    simp only [Option.bind_some, if_true]
    rw [chamberlainlaw08_UsedNotes.j2]
    unfold noteOf
    by_cases e : mayOf l room w = 0
    · rw [if_pos e, e]
      dsimp only
      rw [if_neg (by simp), if_pos rfl, Option.bind_some, List.length_nil, if_pos (by omega), Option.bind_some, List.nil_append, if_pos (by omega), rsame_eq _ _ _ (by simp; omega) (by simp; omega)]
      simp
    · rw [if_neg e, if_neg (by simp), if_neg e, rsame_eq _ _ _ (by simp; omega) (by simp; omega)]
      simp
  · rw [if_pos (by simpa using c), right_eq l room _ (by omega) (by omega), rright_eq l room _ (by omega) (by omega)]
    simp

end Go.Proofs.Yticnbhpgiadpeaa.Pure
