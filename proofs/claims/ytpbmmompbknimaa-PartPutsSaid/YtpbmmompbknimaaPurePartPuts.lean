/- Whether a part may be, its words, and how many, are the document's, for every label and part; no condition. -/
import Derived.Test.YtpbmmompbknimaaQPartPuts
namespace Go.Proofs.Ytpbmmompbknimaa.Pure
open Go Go.RowKit Go.Proofs.Ytpbmmompbknimaa.PPartPuts Go.Proofs.YtpbmmompbknimaaW.PrintWords Go.Proofs.YtpbmmompbknimaaW.PrintLast Go.Proofs.YtpbmmompbknimaaW.PrintMore
set_option linter.unusedSimpArgs false
set_option linter.unusedVariables false

theorem wf32 {x : Int} (h : (Lit.int .u32 x).wf = true) : 0 ≤ x ∧ x < 4294967296 := by
  simp only [Lit.wf, IntKind.min, IntKind.max, IntKind.signed, IntKind.bits, Bool.and_eq_true] at h
  simp at h
  omega
theorem wf8 {x : Int} (h : (Lit.int .u8 x).wf = true) : 0 ≤ x ∧ x < 256 := by
  simp only [Lit.wf, IntKind.min, IntKind.max, IntKind.signed, IntKind.bits, Bool.and_eq_true] at h
  simp at h
  omega
theorem wf16 {x : Int} (h : (Lit.int .u16 x).wf = true) : 0 ≤ x ∧ x < 65536 := by
  simp only [Lit.wf, IntKind.min, IntKind.max, IntKind.signed, IntKind.bits, Bool.and_eq_true] at h
  simp at h
  omega
theorem wf64 {x : Int} (h : (Lit.int .i64 x).wf = true) : -9223372036854775808 ≤ x ∧ x ≤ 9223372036854775807 := by
  simp only [Lit.wf, IntKind.min, IntKind.max, IntKind.signed, IntKind.bits, Bool.and_eq_true] at h
  simp at h
  omega
theorem w64 {x : Int} (h1 : -9223372036854775808 ≤ x) (h2 : x ≤ 9223372036854775807) : wrap64 x = x := by
  unfold wrap64
  omega
theorem rd_nat (xs : List Int) (i : Nat) (h : i < xs.length) : rd xs (i : Int) = xs[i] := by
  unfold rd
  simp [List.getD_eq_getElem?_getD, h]
/-- From place i on, n places: does p hold of all? -/
def allF (p : Nat → Bool) : Nat → Nat → Bool
  | 0, _ => true
  | n + 1, i => p i && allF p n (i + 1)
theorem allF_iff (p : Nat → Bool) (n i : Nat) : allF p n i = true ↔ ∀ j, i ≤ j → j < i + n → p j = true := by
  induction n generalizing i with
  | zero => simp [allF]; intro j h1 h2; omega
  | succ n ih =>
    simp only [allF, Bool.and_eq_true, ih]
    constructor
    · rintro ⟨h0, h⟩ j h1 h2
      by_cases e : j = i
      · subst e; exact h0
      · exact h j (by omega) (by omega)
    · intro h
      exact ⟨h i (by omega) (by omega), fun j h1 h2 => h j (by omega) (by omega)⟩
/-- The first place from i on, of n, of which p holds. -/
def fnd (p : Nat → Bool) : Nat → Nat → Option Nat
  | 0, _ => none
  | n + 1, i => if p i = true then some i else fnd p n (i + 1)
theorem fnd_some {p : Nat → Bool} {n i j : Nat} (h : fnd p n i = some j) : i ≤ j ∧ j < i + n ∧ p j = true ∧ ∀ m, i ≤ m → m < j → p m = false := by
  induction n generalizing i with
  | zero => simp [fnd] at h
  | succ n ih =>
    simp only [fnd] at h
    by_cases e : p i = true
    · rw [if_pos e] at h
      cases h
      exact ⟨Nat.le_refl _, by omega, e, fun m h1 h2 => by omega⟩
    · rw [if_neg e] at h
      obtain ⟨h1, h2, h3, h4⟩ := ih h
      refine ⟨by omega, by omega, h3, fun m m1 m2 => ?_⟩
      by_cases c : m = i
      · subst c; simpa using e
      · exact h4 m (by omega) m2
theorem fnd_none {p : Nat → Bool} {n i : Nat} (h : fnd p n i = none) : ∀ m, i ≤ m → m < i + n → p m = false := by
  induction n generalizing i with
  | zero => intro m h1 h2; omega
  | succ n ih =>
    simp only [fnd] at h
    by_cases e : p i = true
    · rw [if_pos e] at h; cases h
    · rw [if_neg e] at h
      intro m h1 h2
      by_cases c : m = i
      · subst c; simpa using e
      · exact ih h m (by omega) (by omega)
theorem fnd_eq_some {p : Nat → Bool} {n i j : Nat} (h1 : i ≤ j) (h2 : j < i + n) (h3 : p j = true) (h4 : ∀ m, i ≤ m → m < j → p m = false) : fnd p n i = some j := by
  cases h : fnd p n i with
  | none => have := fnd_none h j h1 h2; rw [this] at h3; cases h3
  | some q =>
    obtain ⟨a, b, c, d⟩ := fnd_some h
    congr 1
    rcases Nat.lt_trichotomy q j with e | e | e
    · have := h4 q a e; rw [this] at c; cases c
    · exact e
    · have := d j h1 e; rw [this] at h3; cases h3
theorem fnd_eq_none {p : Nat → Bool} {n i : Nat} (h : ∀ m, i ≤ m → m < i + n → p m = false) : fnd p n i = none := by
  cases e : fnd p n i with
  | none => rfl
  | some q =>
    obtain ⟨a, b, c, _⟩ := fnd_some e
    rw [h q a b] at c; cases c
theorem rows_eq (a b : List Int) (h : a.length = b.length) : allF (fun i => decide (rd a (i : Int) = rd b (i : Int))) a.length 0 = decide (a = b) := by
  rw [Bool.eq_iff_iff, allF_iff]
  simp only [decide_eq_true_eq]
  constructor
  · intro H
    apply List.ext_getElem h
    intro i h1 h2
    have := H i (by omega) (by omega)
    rw [rd_nat a i h1, rd_nat b i h2] at this
    exact this
  · intro e j _ _
    rw [e]
/-- A loop that asks place by place. -/
theorem all_loop (f : Nat → Nat → Option Bool) (n : Nat) (p : Nat → Bool) (h : ∀ k i, i ≤ n → f (k + 1) i = if i < n then (if p i = true then f k (i + 1) else some false) else some true) :
    ∀ (d k i : Nat), n - i = d → i ≤ n → d < k → f k i = some (allF p d i) := by
  intro d
  induction d with
  | zero =>
    intro k i h1 h2 h3
    obtain ⟨k, rfl⟩ : ∃ m, k = m + 1 := ⟨k - 1, by omega⟩
    rw [h k i h2, if_neg (by omega)]; rfl
  | succ d ih =>
    intro k i h1 h2 h3
    obtain ⟨k, rfl⟩ : ∃ m, k = m + 1 := ⟨k - 1, by omega⟩
    rw [h k i h2, if_pos (by omega)]
    simp only [allF]
    cases e : p i with
    | true => rw [if_pos rfl, ih k (i + 1) (by omega) (by omega) (by omega)]; simp
    | false => simp
/-- A loop that looks for the first place. -/
theorem fnd_loop {α : Type} (f : Nat → Nat → Option α) (n : Nat) (p : Nat → Bool) (yes : Nat → α) (no : α) (c : Nat) (h : ∀ k i, i ≤ n → c ≤ k → f (k + 1) i = if i < n then (if p i = true then some (yes i) else f k (i + 1)) else some no) :
    ∀ (d k i : Nat), n - i = d → i ≤ n → c + d < k → f k i = some (match fnd p d i with | some j => yes j | none => no) := by
  intro d
  induction d with
  | zero =>
    intro k i h1 h2 h3
    obtain ⟨k, rfl⟩ : ∃ m, k = m + 1 := ⟨k - 1, by omega⟩
    rw [h k i h2 (by omega), if_neg (by omega)]; rfl
  | succ d ih =>
    intro k i h1 h2 h3
    obtain ⟨k, rfl⟩ : ∃ m, k = m + 1 := ⟨k - 1, by omega⟩
    rw [h k i h2 (by omega), if_pos (by omega)]
    simp only [fnd]
    cases e : p i with
    | true => simp
    | false => rw [if_neg (by simp), if_neg (by simp), ih k (i + 1) (by omega) (by omega) (by omega)]
theorem pe0 (x : Int) : (0 == x) = (x == 0) := by rw [Bool.eq_iff_iff, beq_iff_eq, beq_iff_eq]; exact eq_comm
theorem pe1 (x : Int) : (0 = x) = (x = 0) := propext eq_comm
theorem rput_eq (k : Nat) (a0 x0 x1 x2 x3 x4 x5 x6 : Int) (h : 0 ≤ a0 ∧ a0 < 4294967296) : chamberlainref11_Put.f (k + 3) a0 x0 x1 x2 x3 x4 x5 x6 = some (pwords a0 [x0, x1, x2, x3, x4, x5, x6], pwhy a0 [x0, x1, x2, x3, x4, x5, x6]) := by
  have hcase : a0 = 2 ∨ a0 = 3 ∨ a0 = 4 ∨ a0 = 5 ∨ a0 = 6 ∨ a0 = 7 ∨ a0 = 8 ∨ a0 = 9 ∨ a0 < 2 ∨ a0 > 9 := by omega
  have r7 : List.range 7 = [0, 1, 2, 3, 4, 5, 6] := rfl
  rcases hcase with rfl | rfl | rfl | rfl | rfl | rfl | rfl | rfl | h2 | h2
  case inr.inr.inr.inr.inr.inr.inr.inr.inl =>
    have c : a0 = 0 ∨ a0 = 1 := by omega
    rcases c with rfl | rfl <;> simp [chamberlainref11_Put.f, chamberlainref11_words.f, chamberlainref11_words.j0, chamberlainref11_words.j1, chamberlainref11_Get.f, chamberlainref11_Get.j0, pwords, pwhy, pfits, pix]
  case inr.inr.inr.inr.inr.inr.inr.inr.inr =>
    have n2 : ¬ a0 = 2 := by omega
    have n3 : ¬ a0 = 3 := by omega
    have n4 : ¬ a0 = 4 := by omega
    have n5 : ¬ a0 = 5 := by omega
    have n6 : ¬ a0 = 6 := by omega
    have n7 : ¬ a0 = 7 := by omega
    have n8 : ¬ a0 = 8 := by omega
    have n9 : ¬ a0 = 9 := by omega
    have n1 : ¬ a0 < 2 := by omega
    simp [chamberlainref11_Put.f, chamberlainref11_words.f, chamberlainref11_words.j0, chamberlainref11_words.j1, chamberlainref11_Get.f, chamberlainref11_Get.j0, pwords, pwhy, pfits, pix, n1, n2, n3, n4, n5, n6, n7, n8, n9, h2]
  all_goals
    simp [chamberlainref11_Put.f, chamberlainref11_words.f, chamberlainref11_words.j0, chamberlainref11_words.j1, chamberlainref11_Get.f, chamberlainref11_Get.j0, chamberlainref11_Get.j1, rd, pwords, pwhy, pfits, pz, pf, pix, r7, pe0, pe1]
  all_goals try (split <;> simp_all [pe1])
  all_goals try (intros; omega)
theorem rsize_eq (k : Nat) (a0 : Int) (h : 0 ≤ a0 ∧ a0 < 4294967296) : chamberlainref11_Size.f (k + 3) a0 = some ((pix a0).length : Int) := by
  have hcase : a0 = 2 ∨ a0 = 3 ∨ a0 = 4 ∨ a0 = 5 ∨ a0 = 6 ∨ a0 = 7 ∨ a0 = 8 ∨ a0 = 9 ∨ (¬ a0 = 2 ∧ ¬ a0 = 3 ∧ ¬ a0 = 4 ∧ ¬ a0 = 5 ∧ ¬ a0 = 6 ∧ ¬ a0 = 7 ∧ ¬ a0 = 8 ∧ ¬ a0 = 9) := by omega
  rcases hcase with rfl | rfl | rfl | rfl | rfl | rfl | rfl | rfl | ⟨n2, n3, n4, n5, n6, n7, n8, n9⟩
  case inr.inr.inr.inr.inr.inr.inr.inr =>
    simp [chamberlainref11_Size.f, chamberlainref11_words.f, chamberlainref11_words.j0, chamberlainref11_words.j1, pix, n2, n3, n4, n5, n6, n7, n8, n9]
  all_goals simp [chamberlainref11_Size.f, chamberlainref11_words.f, chamberlainref11_words.j0, chamberlainref11_words.j1, pix]
theorem same_loop (l : List Int) (hl : l.length ≤ 1000) : ∀ (d k i : Nat), l.length - i = d → i ≤ l.length → d < k → chamberlainref01_Same.l0 k l l (i : Int) = some true := by
  intro d
  induction d with
  | zero =>
    intro k i h1 h2 h3
    obtain ⟨k, rfl⟩ : ∃ m, k = m + 1 := ⟨k - 1, by omega⟩
    rw [chamberlainref01_Same.l0, if_neg (by omega)]
  | succ d ih =>
    intro k i h1 h2 h3
    obtain ⟨k, rfl⟩ : ∃ m, k = m + 1 := ⟨k - 1, by omega⟩
    rw [chamberlainref01_Same.l0, if_pos (by omega), if_pos (by omega), if_pos (by omega), if_pos rfl, w64 (by omega) (by omega), show (i : Int) + 1 = ((i + 1 : Nat) : Int) by omega]
    exact ih k (i + 1) (by omega) (by omega) (by omega)
theorem same_self (l : List Int) (k : Nat) (hl : l.length ≤ 1000) (hk : l.length < k) : chamberlainref01_Same.f k l l = some true := by
  unfold chamberlainref01_Same.f
  rw [if_pos rfl]
  have := same_loop l hl l.length k 0 (by omega) (by omega) hk
  simpa using this
theorem words_len (a0 : Int) (fs : List Int) : (pwords a0 fs).length ≤ 5 := by
  unfold pwords
  split
  · rw [List.length_map]; exact pix.len a0
  · simp
theorem PartPuts : chamberlainlaw11_PartPuts.Pure := by
  intro a0 x0 x1 x2 x3 x4 x5 x6 h0 _ _ _ _ _ _ _
  have h0 := wf32 h0
  obtain ⟨k, hk⟩ : ∃ k, k = 20000 := ⟨_, rfl⟩
  refine ⟨k + 3, ?_⟩
  have hp : part_Put.f a0 x0 x1 x2 x3 x4 x5 x6 = some (pwords a0 [x0, x1, x2, x3, x4, x5, x6], pwhy a0 [x0, x1, x2, x3, x4, x5, x6]) := by unfold part_Put.f; rw [if_pos h0]
  have hs : part_Size.f a0 = some ((pix a0).length : Int) := by unfold part_Size.f; rw [if_pos h0]
  have hw := words_len a0 [x0, x1, x2, x3, x4, x5, x6]
  unfold chamberlainlaw11_PartPuts.f part_May.f
  rw [at_rounds chamberlainlaw11_awake.mono (by omega : 60 ≤ k + 3) chamberlainlaw11_awake.at60, Option.bind_some, if_pos rfl, hp, Option.bind_some, rput_eq k a0 x0 x1 x2 x3 x4 x5 x6 h0, Option.bind_some, same_self (pwords a0 [x0, x1, x2, x3, x4, x5, x6]) (k + 3) (by omega) (by omega), Option.bind_some, if_pos rfl, if_pos rfl, Option.bind_some, Option.bind_some, if_pos (by simp), hs, Option.bind_some, rsize_eq k a0 h0, Option.bind_some]
  simp

end Go.Proofs.Ytpbmmompbknimaa.Pure
