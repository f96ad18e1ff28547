/- Each word of what is read counts, for every label, row, place, word and other label; no condition. -/
import Derived.Test.YtpbmmompbknimaaPPartWordsx4
namespace Go.Proofs.Ytpbmmompbknimaa.Pure
open Go Go.RowKit Go.Proofs.Ytpbmmompbknimaa.PPartWords Go.Proofs.YtpbmmompbknimaaW.PrintWords Go.Proofs.YtpbmmompbknimaaW.PrintLast Go.Proofs.YtpbmmompbknimaaW.PrintMore
set_option linter.unusedSimpArgs false
set_option linter.unusedVariables false

theorem wf32 {x : Int} (h : (Lit.int .u32 x).wf = true) : 0 ≤ x ∧ x < 4294967296 := by
  simp only [Lit.wf, IntKind.min, IntKind.max, IntKind.signed, IntKind.bits, Bool.and_eq_true] at h
  simp at h
  omega
theorem wf8 {x : Int} (h : (Lit.int .u8 x).wf = true) : 0 ≤ x ∧ x < 256 := by
  simp only [Lit.wf, IntKind.min, IntKind.max, IntKind.signed, IntKind.bits, Bool.and_eq_true] at h
  simp at h
  omega
theorem wf16 {x : Int} (h : (Lit.int .u16 x).wf = true) : 0 ≤ x ∧ x < 65536 := by
  simp only [Lit.wf, IntKind.min, IntKind.max, IntKind.signed, IntKind.bits, Bool.and_eq_true] at h
  simp at h
  omega
theorem wf64 {x : Int} (h : (Lit.int .i64 x).wf = true) : -9223372036854775808 ≤ x ∧ x ≤ 9223372036854775807 := by
  simp only [Lit.wf, IntKind.min, IntKind.max, IntKind.signed, IntKind.bits, Bool.and_eq_true] at h
  simp at h
  omega
theorem w64 {x : Int} (h1 : -9223372036854775808 ≤ x) (h2 : x ≤ 9223372036854775807) : wrap64 x = x := by
  unfold wrap64
  omega
theorem rd_nat (xs : List Int) (i : Nat) (h : i < xs.length) : rd xs (i : Int) = xs[i] := by
  unfold rd
  simp [List.getD_eq_getElem?_getD, h]
/-- From place i on, n places: does p hold of all? -/
def allF (p : Nat → Bool) : Nat → Nat → Bool
  | 0, _ => true
  | n + 1, i => p i && allF p n (i + 1)
theorem allF_iff (p : Nat → Bool) (n i : Nat) : allF p n i = true ↔ ∀ j, i ≤ j → j < i + n → p j = true := by
  induction n generalizing i with
  | zero => simp [allF]; intro j h1 h2; omega
  | succ n ih =>
    simp only [allF, Bool.and_eq_true, ih]
    constructor
    · rintro ⟨h0, h⟩ j h1 h2
      by_cases e : j = i
      · subst e; exact h0
      · exact h j (by omega) (by omega)
    · intro h
      exact ⟨h i (by omega) (by omega), fun j h1 h2 => h j (by omega) (by omega)⟩
/-- The first place from i on, of n, of which p holds. -/
def fnd (p : Nat → Bool) : Nat → Nat → Option Nat
  | 0, _ => none
  | n + 1, i => if p i = true then some i else fnd p n (i + 1)
theorem fnd_some {p : Nat → Bool} {n i j : Nat} (h : fnd p n i = some j) : i ≤ j ∧ j < i + n ∧ p j = true ∧ ∀ m, i ≤ m → m < j → p m = false := by
  induction n generalizing i with
  | zero => simp [fnd] at h
  | succ n ih =>
    simp only [fnd] at h
    by_cases e : p i = true
    · rw [if_pos e] at h
      cases h
      exact ⟨Nat.le_refl _, by omega, e, fun m h1 h2 => by omega⟩
    · rw [if_neg e] at h
      obtain ⟨h1, h2, h3, h4⟩ := ih h
      refine ⟨by omega, by omega, h3, fun m m1 m2 => ?_⟩
      by_cases c : m = i
      · subst c; simpa using e
      · exact h4 m (by omega) m2
theorem fnd_none {p : Nat → Bool} {n i : Nat} (h : fnd p n i = none) : ∀ m, i ≤ m → m < i + n → p m = false := by
  induction n generalizing i with
  | zero => intro m h1 h2; omega
  | succ n ih =>
    simp only [fnd] at h
    by_cases e : p i = true
    · rw [if_pos e] at h; cases h
    · rw [if_neg e] at h
      intro m h1 h2
      by_cases c : m = i
      · subst c; simpa using e
      · exact ih h m (by omega) (by omega)
theorem fnd_eq_some {p : Nat → Bool} {n i j : Nat} (h1 : i ≤ j) (h2 : j < i + n) (h3 : p j = true) (h4 : ∀ m, i ≤ m → m < j → p m = false) : fnd p n i = some j := by
  cases h : fnd p n i with
  | none => have := fnd_none h j h1 h2; rw [this] at h3; cases h3
  | some q =>
    obtain ⟨a, b, c, d⟩ := fnd_some h
    congr 1
    rcases Nat.lt_trichotomy q j with e | e | e
    · have := h4 q a e; rw [this] at c; cases c
    · exact e
    · have := d j h1 e; rw [this] at h3; cases h3
theorem fnd_eq_none {p : Nat → Bool} {n i : Nat} (h : ∀ m, i ≤ m → m < i + n → p m = false) : fnd p n i = none := by
  cases e : fnd p n i with
  | none => rfl
  | some q =>
    obtain ⟨a, b, c, _⟩ := fnd_some e
    rw [h q a b] at c; cases c
theorem rows_eq (a b : List Int) (h : a.length = b.length) : allF (fun i => decide (rd a (i : Int) = rd b (i : Int))) a.length 0 = decide (a = b) := by
  rw [Bool.eq_iff_iff, allF_iff]
  simp only [decide_eq_true_eq]
  constructor
  · intro H
    apply List.ext_getElem h
    intro i h1 h2
    have := H i (by omega) (by omega)
    rw [rd_nat a i h1, rd_nat b i h2] at this
    exact this
  · intro e j _ _
    rw [e]
/-- A loop that asks place by place. -/
theorem all_loop (f : Nat → Nat → Option Bool) (n : Nat) (p : Nat → Bool) (h : ∀ k i, i ≤ n → f (k + 1) i = if i < n then (if p i = true then f k (i + 1) else some false) else some true) :
    ∀ (d k i : Nat), n - i = d → i ≤ n → d < k → f k i = some (allF p d i) := by
  intro d
  induction d with
  | zero =>
    intro k i h1 h2 h3
    obtain ⟨k, rfl⟩ : ∃ m, k = m + 1 := ⟨k - 1, by omega⟩
    rw [h k i h2, if_neg (by omega)]; rfl
  | succ d ih =>
    intro k i h1 h2 h3
    obtain ⟨k, rfl⟩ : ∃ m, k = m + 1 := ⟨k - 1, by omega⟩
    rw [h k i h2, if_pos (by omega)]
    simp only [allF]
    cases e : p i with
    | true => rw [if_pos rfl, ih k (i + 1) (by omega) (by omega) (by omega)]; simp
    | false => simp
/-- A loop that looks for the first place. -/
theorem fnd_loop {α : Type} (f : Nat → Nat → Option α) (n : Nat) (p : Nat → Bool) (yes : Nat → α) (no : α) (c : Nat) (h : ∀ k i, i ≤ n → c ≤ k → f (k + 1) i = if i < n then (if p i = true then some (yes i) else f k (i + 1)) else some no) :
    ∀ (d k i : Nat), n - i = d → i ≤ n → c + d < k → f k i = some (match fnd p d i with | some j => yes j | none => no) := by
  intro d
  induction d with
  | zero =>
    intro k i h1 h2 h3
    obtain ⟨k, rfl⟩ : ∃ m, k = m + 1 := ⟨k - 1, by omega⟩
    rw [h k i h2 (by omega), if_neg (by omega)]; rfl
  | succ d ih =>
    intro k i h1 h2 h3
    obtain ⟨k, rfl⟩ : ∃ m, k = m + 1 := ⟨k - 1, by omega⟩
    rw [h k i h2 (by omega), if_pos (by omega)]
    simp only [fnd]
    cases e : p i with
    | true => simp
    | false => rw [if_neg (by simp), if_neg (by simp), ih k (i + 1) (by omega) (by omega) (by omega)]
theorem rsame_eq (a b : List Int) (k : Nat) (hb : a.length ≤ 4611686018427387904) (hk : a.length < k) : chamberlainref01_Same.f k a b = some (decide (a = b)) := by
  unfold chamberlainref01_Same.f
  by_cases hl : a.length = b.length
  · rw [if_pos (by omega)]
    have h := all_loop (fun k i => chamberlainref01_Same.l0 k a b (i : Int)) a.length (fun i => decide (rd a (i : Int) = rd b (i : Int))) (by
      intro k i hi
      simp only [chamberlainref01_Same.l0]
      by_cases c : i < a.length
      · rw [if_pos (by omega), if_pos (by omega), if_pos (by omega), if_pos c, w64 (by omega) (by omega)]
        simp
      · rw [if_neg (by omega), if_neg c]) a.length k 0 (by omega) (by omega) (by omega)
    simp only [Int.natCast_zero] at h
    rw [h, rows_eq a b hl]
  · rw [if_neg (by omega)]
    congr 1
    symm
    apply decide_eq_false
    intro e
    exact hl (by rw [e])
theorem pe0 (x : Int) : (0 == x) = (x == 0) := by rw [Bool.eq_iff_iff, beq_iff_eq, beq_iff_eq]; exact eq_comm
theorem pe1 (x : Int) : (0 = x) = (x = 0) := propext eq_comm
theorem r7 : List.range 7 = [0, 1, 2, 3, 4, 5, 6] := rfl
theorem same_loop (l : List Int) (hl : l.length ≤ 1000) : ∀ (d k i : Nat), l.length - i = d → i ≤ l.length → d < k → chamberlainref01_Same.l0 k l l (i : Int) = some true := by
  intro d
  induction d with
  | zero =>
    intro k i h1 h2 h3
    obtain ⟨k, rfl⟩ : ∃ m, k = m + 1 := ⟨k - 1, by omega⟩
    rw [chamberlainref01_Same.l0, if_neg (by omega)]
  | succ d ih =>
    intro k i h1 h2 h3
    obtain ⟨k, rfl⟩ : ∃ m, k = m + 1 := ⟨k - 1, by omega⟩
    rw [chamberlainref01_Same.l0, if_pos (by omega), if_pos (by omega), if_pos (by omega), if_pos rfl, w64 (by omega) (by omega), show (i : Int) + 1 = ((i + 1 : Nat) : Int) by omega]
    exact ih k (i + 1) (by omega) (by omega) (by omega)
theorem same_self (l : List Int) (k : Nat) (hl : l.length ≤ 1000) (hk : l.length < k) : chamberlainref01_Same.f k l l = some true := by
  unfold chamberlainref01_Same.f
  rw [if_pos rfl]
  have := same_loop l hl l.length k 0 (by omega) (by omega) hk
  simpa using this
theorem words_len (a0 : Int) (fs : List Int) : (pwords a0 fs).length ≤ 5 := by
  unfold pwords
  split
  · rw [List.length_map]; exact pix.len a0
  · simp
/-- What is read is put as it was. -/
theorem put_get (a0 : Int) (l : List Int) (h : pgetwhy a0 l = 0) : pwhy a0 [pget a0 l 0, pget a0 l 1, pget a0 l 2, pget a0 l 3, pget a0 l 4, pget a0 l 5, pget a0 l 6] = 0 ∧ pwords a0 [pget a0 l 0, pget a0 l 1, pget a0 l 2, pget a0 l 3, pget a0 l 4, pget a0 l 5, pget a0 l 6] = l := by
  have hcase : a0 = 2 ∨ a0 = 3 ∨ a0 = 4 ∨ a0 = 5 ∨ a0 = 6 ∨ a0 = 7 ∨ a0 = 8 ∨ a0 = 9 ∨ (¬ a0 = 2 ∧ ¬ a0 = 3 ∧ ¬ a0 = 4 ∧ ¬ a0 = 5 ∧ ¬ a0 = 6 ∧ ¬ a0 = 7 ∧ ¬ a0 = 8 ∧ ¬ a0 = 9) := by omega
  have hlen : (pix a0).length = l.length := by
    unfold pgetwhy at h
    split at h
    · cases h
    · split at h
      · assumption
      · cases h
  rcases hcase with rfl | rfl | rfl | rfl | rfl | rfl | rfl | rfl | ⟨n2, n3, n4, n5, n6, n7, n8, n9⟩
  · match l, hlen with
    | [a, b, c, d, e], _ => simp [pget, pgetwhy, pgat, pix, pwords, pwhy, pfits, pz, pf, r7]
  · match l, hlen with
    | [a, b, c], _ => simp [pget, pgetwhy, pgat, pix, pwords, pwhy, pfits, pz, pf, r7]
  · match l, hlen with
    | [a], _ => simp [pget, pgetwhy, pgat, pix, pwords, pwhy, pfits, pz, pf, r7]
  · match l, hlen with
    | [a], _ => simp [pget, pgetwhy, pgat, pix, pwords, pwhy, pfits, pz, pf, r7]
  · match l, hlen with
    | [a, b, c, d], _ => simp [pget, pgetwhy, pgat, pix, pwords, pwhy, pfits, pz, pf, r7]
  · match l, hlen with
    | [a, b, c, d], _ => simp [pget, pgetwhy, pgat, pix, pwords, pwhy, pfits, pz, pf, r7]
  · match l, hlen with
    | [a, b], _ => simp [pget, pgetwhy, pgat, pix, pwords, pwhy, pfits, pz, pf, r7]
  · match l, hlen with
    | [a, b], _ => simp [pget, pgetwhy, pgat, pix, pwords, pwhy, pfits, pz, pf, r7]
  · exfalso
    simp [pgetwhy, pix, n2, n3, n4, n5, n6, n7, n8, n9] at h
/-- What is put is read as it was. -/
theorem get_put (a0 x0 x1 x2 x3 x4 x5 x6 : Int) (h : pwhy a0 [x0, x1, x2, x3, x4, x5, x6] = 0) : pgetwhy a0 (pwords a0 [x0, x1, x2, x3, x4, x5, x6]) = 0 ∧ pget a0 (pwords a0 [x0, x1, x2, x3, x4, x5, x6]) 0 = x0 ∧ pget a0 (pwords a0 [x0, x1, x2, x3, x4, x5, x6]) 1 = x1 ∧ pget a0 (pwords a0 [x0, x1, x2, x3, x4, x5, x6]) 2 = x2 ∧ pget a0 (pwords a0 [x0, x1, x2, x3, x4, x5, x6]) 3 = x3 ∧ pget a0 (pwords a0 [x0, x1, x2, x3, x4, x5, x6]) 4 = x4 ∧ pget a0 (pwords a0 [x0, x1, x2, x3, x4, x5, x6]) 5 = x5 ∧ pget a0 (pwords a0 [x0, x1, x2, x3, x4, x5, x6]) 6 = x6 := by
  have hf : pfits a0 [x0, x1, x2, x3, x4, x5, x6] = true := by
    cases c : pfits a0 [x0, x1, x2, x3, x4, x5, x6] with
    | true => rfl
    | false => unfold pwhy at h; rw [c] at h; cases h
  have hcase : a0 = 2 ∨ a0 = 3 ∨ a0 = 4 ∨ a0 = 5 ∨ a0 = 6 ∨ a0 = 7 ∨ a0 = 8 ∨ a0 = 9 ∨ (¬ a0 = 2 ∧ ¬ a0 = 3 ∧ ¬ a0 = 4 ∧ ¬ a0 = 5 ∧ ¬ a0 = 6 ∧ ¬ a0 = 7 ∧ ¬ a0 = 8 ∧ ¬ a0 = 9) := by omega
  unfold pwords
  rw [hf]
  rcases hcase with rfl | rfl | rfl | rfl | rfl | rfl | rfl | rfl | ⟨n2, n3, n4, n5, n6, n7, n8, n9⟩
  case inr.inr.inr.inr.inr.inr.inr.inr =>
    exfalso
    simp [pfits, pix, n2, n3, n4, n5, n6, n7, n8, n9] at hf
  all_goals
    simp [pfits, pz, pf, pix, r7] at hf
    simp [pget, pgetwhy, pgat, pix, pf, hf]
theorem why_len {a0 : Int} {l : List Int} (h : pgetwhy a0 l = 0) : (pix a0).length = l.length := by
  unfold pgetwhy at h
  split at h
  · cases h
  · split at h
    · assumption
    · cases h
theorem why_iff (a0 : Int) (l : List Int) (hl : 0 < l.length) : pgetwhy a0 l = 0 ↔ (pix a0).length = l.length := by
  refine ⟨why_len, fun h => ?_⟩
  unfold pgetwhy
  rw [if_neg (by
    rw [List.isEmpty_iff]
    intro e
    rw [e] at h
    simp at h
    omega), if_pos h]
theorem PartWords : chamberlainlaw11_PartWords.Pure := by
  intro a0 l a2 a3 a4 h0 _ _ _ h2 _ h4
  have h0 := wf32 h0
  have h2 := wf8 h2
  have h4 := wf32 h4
  obtain ⟨k, hk⟩ : ∃ k, k = 20000 := ⟨_, rfl⟩
  refine ⟨k + 4, ?_⟩
  have aw : ∀ n, 60 ≤ n → chamberlainlaw11_awake.f n = some true := fun n hn => at_rounds chamberlainlaw11_awake.mono hn chamberlainlaw11_awake.at60
  have hg : ∀ a m, 0 ≤ a ∧ a < 4294967296 → part_Get.f a m = some (pget a m 0, pget a m 1, pget a m 2, pget a m 3, pget a m 4, pget a m 5, pget a m 6, pgetwhy a m) := fun a m h => by unfold part_Get.f; rw [if_pos h]
  have hs : ∀ a, 0 ≤ a ∧ a < 4294967296 → part_Size.f a = some ((pix a).length : Int) := fun a h => by unfold part_Size.f; rw [if_pos h]
  unfold chamberlainlaw11_PartWords.f
  rw [aw _ (by omega), Option.bind_some, if_pos rfl]
  by_cases c : (l.length : Int) > 100
  · rw [show decide ((l.length : Int) > 100) = true from decide_eq_true c, chamberlainlaw11_PartWords.j0, if_pos rfl, aw _ (by omega)]; rfl
  rw [show decide ((l.length : Int) > 100) = false from decide_eq_false c, chamberlainlaw11_PartWords.j0, if_neg (by decide), hg a0 l h0, Option.bind_some]
  by_cases q : pgetwhy a0 l = 0
  rotate_left
  · rw [if_neg q, chamberlainlaw11_PartWords.j1, if_pos rfl]
  rw [if_pos q]
  by_cases z : (l.length : Int) = 0
  · rw [show ((l.length : Int) == 0) = true from by simpa using z, chamberlainlaw11_PartWords.j1, if_pos rfl]
  rw [show ((l.length : Int) == 0) = false from by simpa using z, chamberlainlaw11_PartWords.j1, if_neg (by decide)]
  simp only [Option.bind_some, List.nil_append, List.length_nil]
  have hl := why_len q
  obtain ⟨i, hi, hit⟩ : ∃ i : Nat, i < l.length ∧ Int.tmod (wrap64 a2) (l.length : Int) = (i : Int) := by
    refine ⟨(a2 % (l.length : Int)).toNat, ?_, ?_⟩
    · have := Int.emod_lt_of_pos a2 (by omega : 0 < (l.length : Int))
      have := Int.emod_nonneg a2 (by omega : (l.length : Int) ≠ 0)
      omega
    · rw [w64 (by omega) (by omega), Int.tmod_eq_emod_of_nonneg (by omega)]
      have := Int.emod_nonneg a2 (by omega : (l.length : Int) ≠ 0)
      omega
  rw [if_pos (by omega), if_neg z, hit, if_pos (by omega), if_pos (by omega), Int.toNat_natCast, hg a0 _ h0, Option.bind_some, hg a4 l h4, Option.bind_some]
  have qm : pgetwhy a0 (l.set i a3) = 0 := (why_iff a0 _ (by rw [List.length_set]; omega)).2 (by rw [List.length_set]; exact hl)
  rw [if_pos qm, if_pos (by omega)]
  have p1 := (put_get a0 l q).2
  have p2 := (put_get a0 _ qm).2
  have e : (pget a0 l 0 == pget a0 (l.set i a3) 0 && (pget a0 l 1 == pget a0 (l.set i a3) 1 && (pget a0 l 2 == pget a0 (l.set i a3) 2 && (pget a0 l 3 == pget a0 (l.set i a3) 3 && (pget a0 l 4 == pget a0 (l.set i a3) 4 && (pget a0 l 5 == pget a0 (l.set i a3) 5 && (pget a0 l 6 == pget a0 (l.set i a3) 6))))))) = (rd l (i : Int) == a3) := by
    rw [rd_nat l i hi, Bool.eq_iff_iff]
    simp only [Bool.and_eq_true, beq_iff_eq]
    constructor
    · rintro ⟨e0, e1, e2, e3, e4, e5, e6⟩
      rw [e0, e1, e2, e3, e4, e5, e6, p2] at p1
      have := congrArg (fun t : List Int => t[i]?) p1
      simp [hi] at this
      exact this.symm
    · intro e
      have : l.set i a3 = l := by
        rw [← e]
        exact List.set_getElem_self hi
      rw [this]
      simp
  rw [e, if_pos (by simp), hs a4 h4, Option.bind_some, hs a0 h0, Option.bind_some]
  congr 1
  have w := why_iff a4 l (by omega)
  rw [beq_iff_eq, Bool.eq_iff_iff, beq_iff_eq, beq_iff_eq, w]
  omega

end Go.Proofs.Ytpbmmompbknimaa.Pure
