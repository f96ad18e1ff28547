/- Whether a word is a draw's, and the word as a draw, are the document's, for every word of 32 bits; no condition. -/
import Derived.Test.YtdeanahhmciibaaPWordDrawsx2
namespace Go.Proofs.Ytdeanahhmciibaa.Pure
open Go Go.RowKit Go.Proofs.Ytdeanahhmciibaa.PWordDraws Go.Proofs.YtdeanahhmciibaaW.PrintWords Go.Proofs.YtdeanahhmciibaaW.PrintLast Go.Proofs.YtdeanahhmciibaaW.PrintMore

theorem wf32 {x : Int} (h : (Lit.int .u32 x).wf = true) : 0 ≤ x ∧ x < 4294967296 := by
  simp only [Lit.wf, IntKind.min, IntKind.max, IntKind.signed, IntKind.bits, Bool.and_eq_true] at h
  simp at h
  omega
theorem wf8 {x : Int} (h : (Lit.int .u8 x).wf = true) : 0 ≤ x ∧ x < 256 := by
  simp only [Lit.wf, IntKind.min, IntKind.max, IntKind.signed, IntKind.bits, Bool.and_eq_true] at h
  simp at h
  omega
theorem wf16 {x : Int} (h : (Lit.int .u16 x).wf = true) : 0 ≤ x ∧ x < 65536 := by
  simp only [Lit.wf, IntKind.min, IntKind.max, IntKind.signed, IntKind.bits, Bool.and_eq_true] at h
  simp at h
  omega
theorem wf64 {x : Int} (h : (Lit.int .i64 x).wf = true) : -9223372036854775808 ≤ x ∧ x ≤ 9223372036854775807 := by
  simp only [Lit.wf, IntKind.min, IntKind.max, IntKind.signed, IntKind.bits, Bool.and_eq_true] at h
  simp at h
  omega
theorem w64 {x : Int} (h1 : -9223372036854775808 ≤ x) (h2 : x ≤ 9223372036854775807) : wrap64 x = x := by
  unfold wrap64
  omega
theorem rd_nat (xs : List Int) (i : Nat) (h : i < xs.length) : rd xs (i : Int) = xs[i] := by
  unfold rd
  simp [List.getD_eq_getElem?_getD, h]
/-- From place i on, n places: does p hold of all? -/
def allF (p : Nat → Bool) : Nat → Nat → Bool
  | 0, _ => true
  | n + 1, i => p i && allF p n (i + 1)
theorem allF_iff (p : Nat → Bool) (n i : Nat) : allF p n i = true ↔ ∀ j, i ≤ j → j < i + n → p j = true := by
  induction n generalizing i with
  | zero => simp [allF]; intro j h1 h2; omega
  | succ n ih =>
    simp only [allF, Bool.and_eq_true, ih]
    constructor
    · rintro ⟨h0, h⟩ j h1 h2
      by_cases e : j = i
      · subst e; exact h0
      · exact h j (by omega) (by omega)
    · intro h
      exact ⟨h i (by omega) (by omega), fun j h1 h2 => h j (by omega) (by omega)⟩
/-- The first place from i on, of n, of which p holds. -/
def fnd (p : Nat → Bool) : Nat → Nat → Option Nat
  | 0, _ => none
  | n + 1, i => if p i = true then some i else fnd p n (i + 1)
theorem fnd_some {p : Nat → Bool} {n i j : Nat} (h : fnd p n i = some j) : i ≤ j ∧ j < i + n ∧ p j = true ∧ ∀ m, i ≤ m → m < j → p m = false := by
  induction n generalizing i with
  | zero => simp [fnd] at h
  | succ n ih =>
    simp only [fnd] at h
    by_cases e : p i = true
    · rw [if_pos e] at h
      cases h
      exact ⟨Nat.le_refl _, by omega, e, fun m h1 h2 => by omega⟩
    · rw [if_neg e] at h
      obtain ⟨h1, h2, h3, h4⟩ := ih h
      refine ⟨by omega, by omega, h3, fun m m1 m2 => ?_⟩
      by_cases c : m = i
      · subst c; simpa using e
      · exact h4 m (by omega) m2
theorem fnd_none {p : Nat → Bool} {n i : Nat} (h : fnd p n i = none) : ∀ m, i ≤ m → m < i + n → p m = false := by
  induction n generalizing i with
  | zero => intro m h1 h2; omega
  | succ n ih =>
    simp only [fnd] at h
    by_cases e : p i = true
    · rw [if_pos e] at h; cases h
    · rw [if_neg e] at h
      intro m h1 h2
      by_cases c : m = i
      · subst c; simpa using e
      · exact ih h m (by omega) (by omega)
theorem fnd_eq_some {p : Nat → Bool} {n i j : Nat} (h1 : i ≤ j) (h2 : j < i + n) (h3 : p j = true) (h4 : ∀ m, i ≤ m → m < j → p m = false) : fnd p n i = some j := by
  cases h : fnd p n i with
  | none => have := fnd_none h j h1 h2; rw [this] at h3; cases h3
  | some q =>
    obtain ⟨a, b, c, d⟩ := fnd_some h
    congr 1
    rcases Nat.lt_trichotomy q j with e | e | e
    · have := h4 q a e; rw [this] at c; cases c
    · exact e
    · have := d j h1 e; rw [this] at h3; cases h3
theorem fnd_eq_none {p : Nat → Bool} {n i : Nat} (h : ∀ m, i ≤ m → m < i + n → p m = false) : fnd p n i = none := by
  cases e : fnd p n i with
  | none => rfl
  | some q =>
    obtain ⟨a, b, c, _⟩ := fnd_some e
    rw [h q a b] at c; cases c
theorem rows_eq (a b : List Int) (h : a.length = b.length) : allF (fun i => decide (rd a (i : Int) = rd b (i : Int))) a.length 0 = decide (a = b) := by
  rw [Bool.eq_iff_iff, allF_iff]
  simp only [decide_eq_true_eq]
  constructor
  · intro H
    apply List.ext_getElem h
    intro i h1 h2
    have := H i (by omega) (by omega)
    rw [rd_nat a i h1, rd_nat b i h2] at this
    exact this
  · intro e j _ _
    rw [e]
/-- A loop that asks place by place. -/
theorem all_loop (f : Nat → Nat → Option Bool) (n : Nat) (p : Nat → Bool) (h : ∀ k i, i ≤ n → f (k + 1) i = if i < n then (if p i = true then f k (i + 1) else some false) else some true) :
    ∀ (d k i : Nat), n - i = d → i ≤ n → d < k → f k i = some (allF p d i) := by
  intro d
  induction d with
  | zero =>
    intro k i h1 h2 h3
    obtain ⟨k, rfl⟩ : ∃ m, k = m + 1 := ⟨k - 1, by omega⟩
    rw [h k i h2, if_neg (by omega)]; rfl
  | succ d ih =>
    intro k i h1 h2 h3
    obtain ⟨k, rfl⟩ : ∃ m, k = m + 1 := ⟨k - 1, by omega⟩
    rw [h k i h2, if_pos (by omega)]
    simp only [allF]
    cases e : p i with
    | true => rw [if_pos rfl, ih k (i + 1) (by omega) (by omega) (by omega)]; simp
    | false => simp
/-- A loop that looks for the first place. -/
theorem fnd_loop {α : Type} (f : Nat → Nat → Option α) (n : Nat) (p : Nat → Bool) (yes : Nat → α) (no : α) (c : Nat) (h : ∀ k i, i ≤ n → c ≤ k → f (k + 1) i = if i < n then (if p i = true then some (yes i) else f k (i + 1)) else some no) :
    ∀ (d k i : Nat), n - i = d → i ≤ n → c + d < k → f k i = some (match fnd p d i with | some j => yes j | none => no) := by
  intro d
  induction d with
  | zero =>
    intro k i h1 h2 h3
    obtain ⟨k, rfl⟩ : ∃ m, k = m + 1 := ⟨k - 1, by omega⟩
    rw [h k i h2 (by omega), if_neg (by omega)]; rfl
  | succ d ih =>
    intro k i h1 h2 h3
    obtain ⟨k, rfl⟩ : ∃ m, k = m + 1 := ⟨k - 1, by omega⟩
    rw [h k i h2 (by omega), if_pos (by omega)]
    simp only [fnd]
    cases e : p i with
    | true => simp
    | false => rw [if_neg (by simp), if_neg (by simp), ih k (i + 1) (by omega) (by omega) (by omega)]
theorem equal_eq (a b : List Int) (k : Nat) (hb : a.length ≤ 4611686018427387904) (hk : a.length < k) : slices_Equal_uint32_uint32.f k a b = some (decide (a = b)) := by
  unfold slices_Equal_uint32_uint32.f
  by_cases hl : a.length = b.length
  · rw [if_pos (by omega)]
    have h := all_loop (fun k i => slices_Equal_uint32_uint32.l0 k a b (a.length : Int) (i : Int)) a.length (fun i => decide (rd a (i : Int) = rd b (i : Int))) (by
      intro k i hi
      simp only [slices_Equal_uint32_uint32.l0]
      by_cases c : i < a.length
      · rw [if_pos (by omega), if_pos (by omega), if_pos (by omega), if_pos (by omega), if_pos c, w64 (by omega) (by omega)]
        simp
      · rw [if_neg (by omega), if_neg c]) a.length k 0 (by omega) (by omega) (by omega)
    simp only [Int.natCast_zero] at h
    rw [h, rows_eq a b hl]
  · rw [if_neg (by omega)]
    congr 1
    symm
    apply decide_eq_false
    intro e
    exact hl (by rw [e])
theorem same_eq (a b : List Int) (k : Nat) (hb : a.length ≤ 4611686018427387904) (hk : a.length < k) : word_Same.f k a b = some (decide (a = b)) := by
  unfold word_Same.f
  rw [equal_eq a b k hb hk]
  rfl
/-- Does a part stand at a place? -/
def occ (l p : List Int) (i : Nat) : Bool := decide (i + p.length ≤ l.length) && decide ((l.take (i + p.length)).drop i = p)
def found (l p : List Int) : Int × Bool := match fnd (occ l p) (l.length + 1) 0 with | some j => ((j : Int), true) | none => (0, false)
theorem find_eq (l p : List Int) (k : Nat) (hl : l.length ≤ 4611686018427387000) (hp : p.length ≤ 4611686018427387000) (hk : l.length + 1 + l.length + 1 < k) : word_Find.f k l p = some (found l p) := by
  unfold word_Find.f
  rw [w64 (by omega) (by omega)]
  have h := fnd_loop (fun k i => word_Find.l0 k l p ((l.length : Int) + 1) (i : Int)) (l.length + 1) (occ l p) (fun j => ((j : Int), true)) (0, false) (l.length + 1) (by
    intro k i hi hc
    simp only [word_Find.l0]
    by_cases c : i < l.length + 1
    · rw [if_pos (by omega), if_pos c, w64 (x := (i : Int) + (p.length : Int)) (by omega) (by omega), w64 (x := (i : Int) + 1) (by omega) (by omega)]
      by_cases d : i + p.length ≤ l.length
      · have e1 : ((i : Int) + (p.length : Int)).toNat = i + p.length := by omega
        have e2 : (i : Int).toNat = i := by omega
        have hlen : ((l.take (i + p.length)).drop i).length = p.length := by rw [List.length_drop, List.length_take]; omega
        rw [if_pos (by omega), if_pos (by omega), if_pos (by omega), e1, e2, same_eq _ _ _ (by rw [hlen]; omega) (by rw [hlen]; omega)]
        simp only [occ, d, Option.bind_some]
        simp
      · rw [if_neg (by omega)]
        simp [occ, d]
    · rw [if_neg (by omega), if_neg c]) (l.length + 1) k 0 (by omega) (by omega) (by omega)
  simp only [Int.natCast_zero] at h
  rw [h]
  unfold found
  cases fnd (occ l p) (l.length + 1) 0 <;> rfl
theorem clone_eq (l : List Int) (h : l.length < 35184372088832) : slices_Clone_uint32_uint32.f l = some l := by
  unfold slices_Clone_uint32_uint32.f
  simp only [Option.bind_some, List.length_nil, Nat.zero_add, List.nil_append]
  rw [if_pos h]
def cutOf (l : List Int) (a b : Int) : List Int × Bool := if a < 0 ∨ b < a ∨ b > (l.length : Int) then ([], false) else ((l.take b.toNat).drop a.toNat, true)
theorem cut_eq (l : List Int) (a b : Int) (h : l.length < 35184372088832) : word_Cut.f l a b = some (cutOf l a b) := by
  unfold word_Cut.f cutOf
  by_cases h1 : a < 0
  · rw [if_pos h1, if_pos (Or.inl h1)]
  rw [if_neg h1]
  by_cases h2 : b < a
  · rw [if_pos h2, if_pos (Or.inr (Or.inl h2))]
  rw [if_neg h2]
  by_cases h3 : b > (l.length : Int)
  · rw [if_pos h3, if_pos (Or.inr (Or.inr h3))]
  rw [if_neg h3, if_pos (by omega), if_pos (by omega), if_pos (by omega), if_neg (by omega), clone_eq _ (by rw [List.length_drop, List.length_take]; omega)]
  rfl
theorem index_eq (l : List Int) (w : Int) (k : Nat) (hl : l.length ≤ 4611686018427387904) (hk : l.length < k) : slices_Index_uint32_uint32.f k l w = some (match fnd (fun i => decide (w = rd l (i : Int))) l.length 0 with | some j => (j : Int) | none => -1) := by
  unfold slices_Index_uint32_uint32.f
  have h := fnd_loop (fun k i => slices_Index_uint32_uint32.l0 k l w (l.length : Int) (i : Int)) l.length (fun i => decide (w = rd l (i : Int))) (fun j => (j : Int)) (-1) 0 (by
    intro k i hi _
    simp only [slices_Index_uint32_uint32.l0]
    by_cases c : i < l.length
    · rw [if_pos (by omega), if_pos (by omega), if_pos (by omega), if_pos c, w64 (by omega) (by omega)]
      simp
    · rw [if_neg (by omega), if_neg c]) l.length k 0 (by omega) (by omega) (by omega)
  simp only [Int.natCast_zero] at h
  exact h
theorem mem_fnd (l : List Int) (w : Int) : (∃ j, fnd (fun i => decide (w = rd l (i : Int))) l.length 0 = some j) ↔ w ∈ l := by
  constructor
  · rintro ⟨j, h⟩
    obtain ⟨_, h2, h3, _⟩ := fnd_some h
    simp only [decide_eq_true_eq] at h3
    rw [rd_nat l j (by omega)] at h3
    rw [h3]; exact List.getElem_mem _
  · intro h
    obtain ⟨i, hi, e⟩ := List.getElem_of_mem h
    cases c : fnd (fun i => decide (w = rd l (i : Int))) l.length 0 with
    | some j => exact ⟨j, rfl⟩
    | none =>
      have := fnd_none c i (by omega) (by omega)
      simp only [decide_eq_false_iff_not, rd_nat l i hi] at this
      exact absurd e.symm this
theorem contains_eq (l : List Int) (w : Int) (k : Nat) (hl : l.length ≤ 4611686018427387904) (hk : l.length < k) : slices_Contains_uint32_uint32.f k l w = some (decide (w ∈ l)) := by
  unfold slices_Contains_uint32_uint32.f
  rw [index_eq l w k hl hk]
  simp only [Option.bind_some]
  congr 1
  have := mem_fnd l w
  cases c : fnd (fun i => decide (w = rd l (i : Int))) l.length 0 with
  | some j => rw [c] at this; have : w ∈ l := this.mp ⟨j, rfl⟩; simp [this]
  | none => rw [c] at this; have : ¬ w ∈ l := fun h => by obtain ⟨j, hj⟩ := this.mpr h; cases hj
            simp [this]
theorem has_eq (l : List Int) (w : Int) (k : Nat) (hl : l.length ≤ 4611686018427387904) (hk : l.length < k) : word_Has.f k l w = some (decide (w ∈ l)) := by
  unfold word_Has.f
  rw [contains_eq l w k hl hk]
  rfl
theorem awake20 : chamberlainlaw01_awake.f 20 = some true := by decide +kernel
theorem awake_eq (k : Nat) (h : 20 ≤ k) : chamberlainlaw01_awake.f k = some true := at_rounds (chamberlainlaw01_awake.mono) h awake20
theorem wraps_u32 (n : Int) (h₀ : 0 ≤ n) (h₁ : n < 2 ^ 32) : IntKind.u32.wrap n = n := by rw [IntKind.wrap_u32]; omega
theorem bits_or (x : Int) (h : 0 ≤ x ∧ x < 4294967296) : Go.bits .or .u32 x 2147483648 = if x < 2147483648 then x + 2147483648 else x := by
  obtain ⟨n, rfl⟩ : ∃ n : Nat, x = (n : Int) := ⟨x.toNat, by omega⟩
  have hb := (bits_nat .u32 32 (by decide) wraps_u32 n 2147483648 (by omega) (by decide)).2
  have e : ((2147483648 : Nat) : Int) = 2147483648 := rfl
  rw [e] at hb
  rw [hb]
  by_cases c : n < 2147483648
  · rw [if_pos (by omega)]
    have h1 := Nat.two_pow_add_eq_or_of_lt (i := 31) (b := n) (by omega) 1
    have h2 : n ||| 2147483648 = 2147483648 + n := by rw [Nat.or_comm]; exact h1.symm
    omega
  · rw [if_neg (by omega)]
    have h1 := Nat.two_pow_add_eq_or_of_lt (i := 31) (b := n - 2147483648) (by omega) 1
    have h3 : n = 2147483648 ||| (n - 2147483648) := by
      have : 2 ^ 31 * 1 + (n - 2147483648) = n := by omega
      rw [this] at h1; exact h1
    have h2 : n ||| 2147483648 = n := by
      rw [Nat.or_comm, h3, ← Nat.or_assoc, Nat.or_self]
    rw [h2]
theorem bits_and (x : Int) (h : 0 ≤ x ∧ x < 4294967296) : (Go.bits .and .u32 x 2147483648 != 0) = decide (2147483648 ≤ x) := by
  obtain ⟨n, rfl⟩ : ∃ n : Nat, x = (n : Int) := ⟨x.toNat, by omega⟩
  have hb := (bits_nat .u32 32 (by decide) wraps_u32 n 2147483648 (by omega) (by decide)).1
  have e : ((2147483648 : Nat) : Int) = 2147483648 := rfl
  rw [e] at hb
  rw [hb]
  have low : ∀ m, m < 2147483648 → m &&& 2147483648 = 0 := by
    intro m hm
    apply Nat.eq_of_testBit_eq
    intro i
    rw [Nat.testBit_and, Nat.zero_testBit]
    by_cases hi : i = 31
    · subst hi
      rw [Nat.testBit_lt_two_pow (by omega)]; rfl
    · have : (2147483648 : Nat).testBit i = false := by
        have := Nat.testBit_two_pow (n := 31) (m := i)
        rw [show (2147483648 : Nat) = 2 ^ 31 from rfl, this]
        exact decide_eq_false (fun h => hi h.symm)
      rw [this, Bool.and_false]
  by_cases c : 2147483648 ≤ n
  · have h1 := Nat.two_pow_add_eq_or_of_lt (i := 31) (b := n - 2147483648) (by omega) 1
    have h3 : n = 2147483648 ||| (n - 2147483648) := by
      have : 2 ^ 31 * 1 + (n - 2147483648) = n := by omega
      rw [this] at h1; exact h1
    have h4 : n &&& 2147483648 = 2147483648 := by
      rw [h3, Nat.and_or_distrib_right, Nat.and_self, low _ (by omega), Nat.or_zero]
    rw [h4, decide_eq_true (by omega)]; rfl
  · rw [low n (by omega), decide_eq_false (by omega)]; rfl
theorem draw_eq (x : Int) (h : 0 ≤ x ∧ x < 4294967296) : word_Draw.f x = some (if x < 2147483648 then x + 2147483648 else x) := by
  unfold word_Draw.f
  rw [bits_or x h]
theorem isdraw_eq (x : Int) (h : 0 ≤ x ∧ x < 4294967296) : word_IsDraw.f x = some (decide (2147483648 ≤ x)) := by
  unfold word_IsDraw.f
  rw [bits_and x h]
theorem risdraw_eq (x : Int) : chamberlainref01_IsDraw.f x = some (decide (2147483648 ≤ x)) := by
  unfold chamberlainref01_IsDraw.f
  rfl
theorem WordDraws : chamberlainlaw01_WordDraws.Pure := by
  intro w hw
  have hw := wf32 hw
  refine ⟨20, ?_⟩
  unfold chamberlainlaw01_WordDraws.f
  rw [awake20, draw_eq w hw, isdraw_eq w hw, risdraw_eq w]
  simp only [Option.bind_some, if_true, beq_self_eq_true]
  rw [isdraw_eq _ (by split <;> omega)]
  simp only [Option.bind_some]
  by_cases c : w < 2147483648
  · rw [if_pos c, if_pos (decide_eq_true (by omega)), if_pos ?_, if_neg (by simp; omega)]
    have e1 : Int.tmod (w + 2147483648) 2147483648 = (w + 2147483648) % 2147483648 := Int.tmod_eq_emod_of_nonneg (by omega)
    have e2 : Int.tmod w 2147483648 = w % 2147483648 := Int.tmod_eq_emod_of_nonneg (by omega)
    rw [e1, e2]
    omega
  · rw [if_neg c, if_pos (decide_eq_true (by omega)), if_pos rfl, if_pos (decide_eq_true (by omega))]
    simp

end Go.Proofs.Ytdeanahhmciibaa.Pure
