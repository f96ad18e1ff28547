/- The part that words are read as, or why they are none, is the document's, for every label and row; no condition. -/
import Derived.Test.YtpbmmompbknimaaPPartGetsx6
namespace Go.Proofs.Ytpbmmompbknimaa.Pure
open Go Go.RowKit Go.Proofs.Ytpbmmompbknimaa.PPartGets Go.Proofs.YtpbmmompbknimaaW.PrintWords Go.Proofs.YtpbmmompbknimaaW.PrintLast Go.Proofs.YtpbmmompbknimaaW.PrintMore
set_option linter.unusedSimpArgs false
set_option linter.unusedVariables false

theorem wf32 {x : Int} (h : (Lit.int .u32 x).wf = true) : 0 ≤ x ∧ x < 4294967296 := by
  simp only [Lit.wf, IntKind.min, IntKind.max, IntKind.signed, IntKind.bits, Bool.and_eq_true] at h
  simp at h
  omega
theorem wf8 {x : Int} (h : (Lit.int .u8 x).wf = true) : 0 ≤ x ∧ x < 256 := by
  simp only [Lit.wf, IntKind.min, IntKind.max, IntKind.signed, IntKind.bits, Bool.and_eq_true] at h
  simp at h
  omega
theorem wf16 {x : Int} (h : (Lit.int .u16 x).wf = true) : 0 ≤ x ∧ x < 65536 := by
  simp only [Lit.wf, IntKind.min, IntKind.max, IntKind.signed, IntKind.bits, Bool.and_eq_true] at h
  simp at h
  omega
theorem wf64 {x : Int} (h : (Lit.int .i64 x).wf = true) : -9223372036854775808 ≤ x ∧ x ≤ 9223372036854775807 := by
  simp only [Lit.wf, IntKind.min, IntKind.max, IntKind.signed, IntKind.bits, Bool.and_eq_true] at h
  simp at h
  omega
theorem w64 {x : Int} (h1 : -9223372036854775808 ≤ x) (h2 : x ≤ 9223372036854775807) : wrap64 x = x := by
  unfold wrap64
  omega
theorem rd_nat (xs : List Int) (i : Nat) (h : i < xs.length) : rd xs (i : Int) = xs[i] := by
  unfold rd
  simp [List.getD_eq_getElem?_getD, h]
/-- From place i on, n places: does p hold of all? -/
def allF (p : Nat → Bool) : Nat → Nat → Bool
  | 0, _ => true
  | n + 1, i => p i && allF p n (i + 1)
theorem allF_iff (p : Nat → Bool) (n i : Nat) : allF p n i = true ↔ ∀ j, i ≤ j → j < i + n → p j = true := by
  induction n generalizing i with
  | zero => simp [allF]; intro j h1 h2; omega
  | succ n ih =>
    simp only [allF, Bool.and_eq_true, ih]
    constructor
    · rintro ⟨h0, h⟩ j h1 h2
      by_cases e : j = i
      · subst e; exact h0
      · exact h j (by omega) (by omega)
    · intro h
      exact ⟨h i (by omega) (by omega), fun j h1 h2 => h j (by omega) (by omega)⟩
/-- The first place from i on, of n, of which p holds. -/
def fnd (p : Nat → Bool) : Nat → Nat → Option Nat
  | 0, _ => none
  | n + 1, i => if p i = true then some i else fnd p n (i + 1)
theorem fnd_some {p : Nat → Bool} {n i j : Nat} (h : fnd p n i = some j) : i ≤ j ∧ j < i + n ∧ p j = true ∧ ∀ m, i ≤ m → m < j → p m = false := by
  induction n generalizing i with
  | zero => simp [fnd] at h
  | succ n ih =>
    simp only [fnd] at h
    by_cases e : p i = true
    · rw [if_pos e] at h
      cases h
      exact ⟨Nat.le_refl _, by omega, e, fun m h1 h2 => by omega⟩
    · rw [if_neg e] at h
      obtain ⟨h1, h2, h3, h4⟩ := ih h
      refine ⟨by omega, by omega, h3, fun m m1 m2 => ?_⟩
      by_cases c : m = i
      · subst c; simpa using e
      · exact h4 m (by omega) m2
theorem fnd_none {p : Nat → Bool} {n i : Nat} (h : fnd p n i = none) : ∀ m, i ≤ m → m < i + n → p m = false := by
  induction n generalizing i with
  | zero => intro m h1 h2; omega
  | succ n ih =>
    simp only [fnd] at h
    by_cases e : p i = true
    · rw [if_pos e] at h; cases h
    · rw [if_neg e] at h
      intro m h1 h2
      by_cases c : m = i
      · subst c; simpa using e
      · exact ih h m (by omega) (by omega)
theorem fnd_eq_some {p : Nat → Bool} {n i j : Nat} (h1 : i ≤ j) (h2 : j < i + n) (h3 : p j = true) (h4 : ∀ m, i ≤ m → m < j → p m = false) : fnd p n i = some j := by
  cases h : fnd p n i with
  | none => have := fnd_none h j h1 h2; rw [this] at h3; cases h3
  | some q =>
    obtain ⟨a, b, c, d⟩ := fnd_some h
    congr 1
    rcases Nat.lt_trichotomy q j with e | e | e
    · have := h4 q a e; rw [this] at c; cases c
    · exact e
    · have := d j h1 e; rw [this] at h3; cases h3
theorem fnd_eq_none {p : Nat → Bool} {n i : Nat} (h : ∀ m, i ≤ m → m < i + n → p m = false) : fnd p n i = none := by
  cases e : fnd p n i with
  | none => rfl
  | some q =>
    obtain ⟨a, b, c, _⟩ := fnd_some e
    rw [h q a b] at c; cases c
theorem rows_eq (a b : List Int) (h : a.length = b.length) : allF (fun i => decide (rd a (i : Int) = rd b (i : Int))) a.length 0 = decide (a = b) := by
  rw [Bool.eq_iff_iff, allF_iff]
  simp only [decide_eq_true_eq]
  constructor
  · intro H
    apply List.ext_getElem h
    intro i h1 h2
    have := H i (by omega) (by omega)
    rw [rd_nat a i h1, rd_nat b i h2] at this
    exact this
  · intro e j _ _
    rw [e]
/-- A loop that asks place by place. -/
theorem all_loop (f : Nat → Nat → Option Bool) (n : Nat) (p : Nat → Bool) (h : ∀ k i, i ≤ n → f (k + 1) i = if i < n then (if p i = true then f k (i + 1) else some false) else some true) :
    ∀ (d k i : Nat), n - i = d → i ≤ n → d < k → f k i = some (allF p d i) := by
  intro d
  induction d with
  | zero =>
    intro k i h1 h2 h3
    obtain ⟨k, rfl⟩ : ∃ m, k = m + 1 := ⟨k - 1, by omega⟩
    rw [h k i h2, if_neg (by omega)]; rfl
  | succ d ih =>
    intro k i h1 h2 h3
    obtain ⟨k, rfl⟩ : ∃ m, k = m + 1 := ⟨k - 1, by omega⟩
    rw [h k i h2, if_pos (by omega)]
    simp only [allF]
    cases e : p i with
    | true => rw [if_pos rfl, ih k (i + 1) (by omega) (by omega) (by omega)]; simp
    | false => simp
/-- A loop that looks for the first place. -/
theorem fnd_loop {α : Type} (f : Nat → Nat → Option α) (n : Nat) (p : Nat → Bool) (yes : Nat → α) (no : α) (c : Nat) (h : ∀ k i, i ≤ n → c ≤ k → f (k + 1) i = if i < n then (if p i = true then some (yes i) else f k (i + 1)) else some no) :
    ∀ (d k i : Nat), n - i = d → i ≤ n → c + d < k → f k i = some (match fnd p d i with | some j => yes j | none => no) := by
  intro d
  induction d with
  | zero =>
    intro k i h1 h2 h3
    obtain ⟨k, rfl⟩ : ∃ m, k = m + 1 := ⟨k - 1, by omega⟩
    rw [h k i h2 (by omega), if_neg (by omega)]; rfl
  | succ d ih =>
    intro k i h1 h2 h3
    obtain ⟨k, rfl⟩ : ∃ m, k = m + 1 := ⟨k - 1, by omega⟩
    rw [h k i h2 (by omega), if_pos (by omega)]
    simp only [fnd]
    cases e : p i with
    | true => simp
    | false => rw [if_neg (by simp), if_neg (by simp), ih k (i + 1) (by omega) (by omega) (by omega)]
theorem rget_eq (k : Nat) (a0 : Int) (l : List Int) (h : 0 ≤ a0 ∧ a0 < 4294967296) : chamberlainref11_Get.f (k + 3) a0 l = some (pget a0 l 0, pget a0 l 1, pget a0 l 2, pget a0 l 3, pget a0 l 4, pget a0 l 5, pget a0 l 6, pgetwhy a0 l) := by
  have hcase : a0 = 2 ∨ a0 = 3 ∨ a0 = 4 ∨ a0 = 5 ∨ a0 = 6 ∨ a0 = 7 ∨ a0 = 8 ∨ a0 = 9 ∨ a0 < 2 ∨ a0 > 9 := by omega
  rcases hcase with rfl | rfl | rfl | rfl | rfl | rfl | rfl | rfl | h2 | h2
  · by_cases hl : l.length = 5
    · match l, hl with
      | [a, b, c, d, e], _ => simp [chamberlainref11_Get.f, chamberlainref11_Get.j0, chamberlainref11_Get.j1, chamberlainref11_words.f, chamberlainref11_words.j0, chamberlainref11_words.j1, rd, pget, pgetwhy, pgat, pix]
    · have hl2 : ¬ (l.length : Int) = 5 := by omega
      have hl3 : ¬ 5 = l.length := fun e => hl e.symm
      simp [chamberlainref11_Get.f, chamberlainref11_Get.j0, chamberlainref11_Get.j1, chamberlainref11_words.f, chamberlainref11_words.j0, chamberlainref11_words.j1, rd, pget, pgetwhy, pgat, pix, hl, hl2, hl3]
  · by_cases hl : l.length = 3
    · match l, hl with
      | [a, b, c], _ => simp [chamberlainref11_Get.f, chamberlainref11_Get.j0, chamberlainref11_Get.j1, chamberlainref11_words.f, chamberlainref11_words.j0, chamberlainref11_words.j1, rd, pget, pgetwhy, pgat, pix]
    · have hl2 : ¬ (l.length : Int) = 3 := by omega
      have hl3 : ¬ 3 = l.length := fun e => hl e.symm
      simp [chamberlainref11_Get.f, chamberlainref11_Get.j0, chamberlainref11_Get.j1, chamberlainref11_words.f, chamberlainref11_words.j0, chamberlainref11_words.j1, rd, pget, pgetwhy, pgat, pix, hl, hl2, hl3]
  · by_cases hl : l.length = 1
    · match l, hl with
      | [a], _ => simp [chamberlainref11_Get.f, chamberlainref11_Get.j0, chamberlainref11_Get.j1, chamberlainref11_words.f, chamberlainref11_words.j0, chamberlainref11_words.j1, rd, pget, pgetwhy, pgat, pix]
    · have hl2 : ¬ (l.length : Int) = 1 := by omega
      have hl3 : ¬ 1 = l.length := fun e => hl e.symm
      simp [chamberlainref11_Get.f, chamberlainref11_Get.j0, chamberlainref11_Get.j1, chamberlainref11_words.f, chamberlainref11_words.j0, chamberlainref11_words.j1, rd, pget, pgetwhy, pgat, pix, hl, hl2, hl3]
  · by_cases hl : l.length = 1
    · match l, hl with
      | [a], _ => simp [chamberlainref11_Get.f, chamberlainref11_Get.j0, chamberlainref11_Get.j1, chamberlainref11_words.f, chamberlainref11_words.j0, chamberlainref11_words.j1, rd, pget, pgetwhy, pgat, pix]
    · have hl2 : ¬ (l.length : Int) = 1 := by omega
      have hl3 : ¬ 1 = l.length := fun e => hl e.symm
      simp [chamberlainref11_Get.f, chamberlainref11_Get.j0, chamberlainref11_Get.j1, chamberlainref11_words.f, chamberlainref11_words.j0, chamberlainref11_words.j1, rd, pget, pgetwhy, pgat, pix, hl, hl2, hl3]
  · by_cases hl : l.length = 4
    · match l, hl with
      | [a, b, c, d], _ => simp [chamberlainref11_Get.f, chamberlainref11_Get.j0, chamberlainref11_Get.j1, chamberlainref11_words.f, chamberlainref11_words.j0, chamberlainref11_words.j1, rd, pget, pgetwhy, pgat, pix]
    · have hl2 : ¬ (l.length : Int) = 4 := by omega
      have hl3 : ¬ 4 = l.length := fun e => hl e.symm
      simp [chamberlainref11_Get.f, chamberlainref11_Get.j0, chamberlainref11_Get.j1, chamberlainref11_words.f, chamberlainref11_words.j0, chamberlainref11_words.j1, rd, pget, pgetwhy, pgat, pix, hl, hl2, hl3]
  · by_cases hl : l.length = 4
    · match l, hl with
      | [a, b, c, d], _ => simp [chamberlainref11_Get.f, chamberlainref11_Get.j0, chamberlainref11_Get.j1, chamberlainref11_words.f, chamberlainref11_words.j0, chamberlainref11_words.j1, rd, pget, pgetwhy, pgat, pix]
    · have hl2 : ¬ (l.length : Int) = 4 := by omega
      have hl3 : ¬ 4 = l.length := fun e => hl e.symm
      simp [chamberlainref11_Get.f, chamberlainref11_Get.j0, chamberlainref11_Get.j1, chamberlainref11_words.f, chamberlainref11_words.j0, chamberlainref11_words.j1, rd, pget, pgetwhy, pgat, pix, hl, hl2, hl3]
  · by_cases hl : l.length = 2
    · match l, hl with
      | [a, b], _ => simp [chamberlainref11_Get.f, chamberlainref11_Get.j0, chamberlainref11_Get.j1, chamberlainref11_words.f, chamberlainref11_words.j0, chamberlainref11_words.j1, rd, pget, pgetwhy, pgat, pix]
    · have hl2 : ¬ (l.length : Int) = 2 := by omega
      have hl3 : ¬ 2 = l.length := fun e => hl e.symm
      simp [chamberlainref11_Get.f, chamberlainref11_Get.j0, chamberlainref11_Get.j1, chamberlainref11_words.f, chamberlainref11_words.j0, chamberlainref11_words.j1, rd, pget, pgetwhy, pgat, pix, hl, hl2, hl3]
  · by_cases hl : l.length = 2
    · match l, hl with
      | [a, b], _ => simp [chamberlainref11_Get.f, chamberlainref11_Get.j0, chamberlainref11_Get.j1, chamberlainref11_words.f, chamberlainref11_words.j0, chamberlainref11_words.j1, rd, pget, pgetwhy, pgat, pix]
    · have hl2 : ¬ (l.length : Int) = 2 := by omega
      have hl3 : ¬ 2 = l.length := fun e => hl e.symm
      simp [chamberlainref11_Get.f, chamberlainref11_Get.j0, chamberlainref11_Get.j1, chamberlainref11_words.f, chamberlainref11_words.j0, chamberlainref11_words.j1, rd, pget, pgetwhy, pgat, pix, hl, hl2, hl3]
  · have c : a0 = 0 ∨ a0 = 1 := by omega
    rcases c with rfl | rfl <;> simp [chamberlainref11_Get.f, chamberlainref11_Get.j0, chamberlainref11_Get.j1, chamberlainref11_words.f, chamberlainref11_words.j0, chamberlainref11_words.j1, rd, pget, pgetwhy, pgat, pix]
  · have n2 : ¬ a0 = 2 := by omega
    have n3 : ¬ a0 = 3 := by omega
    have n4 : ¬ a0 = 4 := by omega
    have n5 : ¬ a0 = 5 := by omega
    have n6 : ¬ a0 = 6 := by omega
    have n7 : ¬ a0 = 7 := by omega
    have n8 : ¬ a0 = 8 := by omega
    have n9 : ¬ a0 = 9 := by omega
    have n1 : ¬ a0 < 2 := by omega
    simp [chamberlainref11_Get.f, chamberlainref11_Get.j0, chamberlainref11_Get.j1, chamberlainref11_words.f, chamberlainref11_words.j0, chamberlainref11_words.j1, rd, pget, pgetwhy, pgat, pix, n1, n2, n3, n4, n5, n6, n7, n8, n9, h2]
theorem PartGets : chamberlainlaw11_PartGets.Pure := by
  intro a0 l h0 _ _ _
  have h0 := wf32 h0
  obtain ⟨k, hk⟩ : ∃ k, k = 20000 := ⟨_, rfl⟩
  refine ⟨k + 4, ?_⟩
  have aw : ∀ n, 60 ≤ n → chamberlainlaw11_awake.f n = some true := fun n hn => at_rounds chamberlainlaw11_awake.mono hn chamberlainlaw11_awake.at60
  have hp : part_Get.f a0 l = some (pget a0 l 0, pget a0 l 1, pget a0 l 2, pget a0 l 3, pget a0 l 4, pget a0 l 5, pget a0 l 6, pgetwhy a0 l) := by unfold part_Get.f; rw [if_pos h0]
  unfold chamberlainlaw11_PartGets.f
  rw [aw _ (by omega), Option.bind_some, if_pos rfl]
  by_cases c : (l.length : Int) > 100
  · rw [show decide ((l.length : Int) > 100) = true from decide_eq_true c, chamberlainlaw11_PartGets.j0, if_pos rfl, aw _ (by omega)]; rfl
  · rw [show decide ((l.length : Int) > 100) = false from decide_eq_false c, chamberlainlaw11_PartGets.j0, if_neg (by decide), hp, Option.bind_some, rget_eq k a0 l h0, Option.bind_some]
    simp

end Go.Proofs.Ytpbmmompbknimaa.Pure
