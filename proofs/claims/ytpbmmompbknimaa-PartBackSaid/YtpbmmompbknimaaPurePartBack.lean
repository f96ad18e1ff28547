/- What is put is read as it was, and what is read is put as it was, for every label, two parts and row; no condition. -/
import Derived.Test.YtpbmmompbknimaaQPartBack
namespace Go.Proofs.Ytpbmmompbknimaa.Pure
open Go Go.RowKit Go.Proofs.Ytpbmmompbknimaa.PPartBack Go.Proofs.YtpbmmompbknimaaW.PrintWords Go.Proofs.YtpbmmompbknimaaW.PrintLast Go.Proofs.YtpbmmompbknimaaW.PrintMore
set_option linter.unusedSimpArgs false
set_option linter.unusedVariables false

theorem wf32 {x : Int} (h : (Lit.int .u32 x).wf = true) : 0 ≤ x ∧ x < 4294967296 := by
  simp only [Lit.wf, IntKind.min, IntKind.max, IntKind.signed, IntKind.bits, Bool.and_eq_true] at h
  simp at h
  omega
theorem wf8 {x : Int} (h : (Lit.int .u8 x).wf = true) : 0 ≤ x ∧ x < 256 := by
  simp only [Lit.wf, IntKind.min, IntKind.max, IntKind.signed, IntKind.bits, Bool.and_eq_true] at h
  simp at h
  omega
theorem wf16 {x : Int} (h : (Lit.int .u16 x).wf = true) : 0 ≤ x ∧ x < 65536 := by
  simp only [Lit.wf, IntKind.min, IntKind.max, IntKind.signed, IntKind.bits, Bool.and_eq_true] at h
  simp at h
  omega
theorem wf64 {x : Int} (h : (Lit.int .i64 x).wf = true) : -9223372036854775808 ≤ x ∧ x ≤ 9223372036854775807 := by
  simp only [Lit.wf, IntKind.min, IntKind.max, IntKind.signed, IntKind.bits, Bool.and_eq_true] at h
  simp at h
  omega
theorem w64 {x : Int} (h1 : -9223372036854775808 ≤ x) (h2 : x ≤ 9223372036854775807) : wrap64 x = x := by
  unfold wrap64
  omega
theorem rd_nat (xs : List Int) (i : Nat) (h : i < xs.length) : rd xs (i : Int) = xs[i] := by
  unfold rd
  simp [List.getD_eq_getElem?_getD, h]
/-- From place i on, n places: does p hold of all? -/
def allF (p : Nat → Bool) : Nat → Nat → Bool
  | 0, _ => true
  | n + 1, i => p i && allF p n (i + 1)
theorem allF_iff (p : Nat → Bool) (n i : Nat) : allF p n i = true ↔ ∀ j, i ≤ j → j < i + n → p j = true := by
  induction n generalizing i with
  | zero => simp [allF]; intro j h1 h2; omega
  | succ n ih =>
    simp only [allF, Bool.and_eq_true, ih]
    constructor
    · rintro ⟨h0, h⟩ j h1 h2
      by_cases e : j = i
      · subst e; exact h0
      · exact h j (by omega) (by omega)
    · intro h
      exact ⟨h i (by omega) (by omega), fun j h1 h2 => h j (by omega) (by omega)⟩
/-- The first place from i on, of n, of which p holds. -/
def fnd (p : Nat → Bool) : Nat → Nat → Option Nat
  | 0, _ => none
  | n + 1, i => if p i = true then some i else fnd p n (i + 1)
theorem fnd_some {p : Nat → Bool} {n i j : Nat} (h : fnd p n i = some j) : i ≤ j ∧ j < i + n ∧ p j = true ∧ ∀ m, i ≤ m → m < j → p m = false := by
  induction n generalizing i with
  | zero => simp [fnd] at h
  | succ n ih =>
    simp only [fnd] at h
    by_cases e : p i = true
    · rw [if_pos e] at h
      cases h
      exact ⟨Nat.le_refl _, by omega, e, fun m h1 h2 => by omega⟩
    · rw [if_neg e] at h
      obtain ⟨h1, h2, h3, h4⟩ := ih h
      refine ⟨by omega, by omega, h3, fun m m1 m2 => ?_⟩
      by_cases c : m = i
      · subst c; simpa using e
      · exact h4 m (by omega) m2
theorem fnd_none {p : Nat → Bool} {n i : Nat} (h : fnd p n i = none) : ∀ m, i ≤ m → m < i + n → p m = false := by
  induction n generalizing i with
  | zero => intro m h1 h2; omega
  | succ n ih =>
    simp only [fnd] at h
    by_cases e : p i = true
    · rw [if_pos e] at h; cases h
    · rw [if_neg e] at h
      intro m h1 h2
      by_cases c : m = i
      · subst c; simpa using e
      · exact ih h m (by omega) (by omega)
theorem fnd_eq_some {p : Nat → Bool} {n i j : Nat} (h1 : i ≤ j) (h2 : j < i + n) (h3 : p j = true) (h4 : ∀ m, i ≤ m → m < j → p m = false) : fnd p n i = some j := by
  cases h : fnd p n i with
  | none => have := fnd_none h j h1 h2; rw [this] at h3; cases h3
  | some q =>
    obtain ⟨a, b, c, d⟩ := fnd_some h
    congr 1
    rcases Nat.lt_trichotomy q j with e | e | e
    · have := h4 q a e; rw [this] at c; cases c
    · exact e
    · have := d j h1 e; rw [this] at h3; cases h3
theorem fnd_eq_none {p : Nat → Bool} {n i : Nat} (h : ∀ m, i ≤ m → m < i + n → p m = false) : fnd p n i = none := by
  cases e : fnd p n i with
  | none => rfl
  | some q =>
    obtain ⟨a, b, c, _⟩ := fnd_some e
    rw [h q a b] at c; cases c
theorem rows_eq (a b : List Int) (h : a.length = b.length) : allF (fun i => decide (rd a (i : Int) = rd b (i : Int))) a.length 0 = decide (a = b) := by
  rw [Bool.eq_iff_iff, allF_iff]
  simp only [decide_eq_true_eq]
  constructor
  · intro H
    apply List.ext_getElem h
    intro i h1 h2
    have := H i (by omega) (by omega)
    rw [rd_nat a i h1, rd_nat b i h2] at this
    exact this
  · intro e j _ _
    rw [e]
/-- A loop that asks place by place. -/
theorem all_loop (f : Nat → Nat → Option Bool) (n : Nat) (p : Nat → Bool) (h : ∀ k i, i ≤ n → f (k + 1) i = if i < n then (if p i = true then f k (i + 1) else some false) else some true) :
    ∀ (d k i : Nat), n - i = d → i ≤ n → d < k → f k i = some (allF p d i) := by
  intro d
  induction d with
  | zero =>
    intro k i h1 h2 h3
    obtain ⟨k, rfl⟩ : ∃ m, k = m + 1 := ⟨k - 1, by omega⟩
    rw [h k i h2, if_neg (by omega)]; rfl
  | succ d ih =>
    intro k i h1 h2 h3
    obtain ⟨k, rfl⟩ : ∃ m, k = m + 1 := ⟨k - 1, by omega⟩
    rw [h k i h2, if_pos (by omega)]
    simp only [allF]
    cases e : p i with
    | true => rw [if_pos rfl, ih k (i + 1) (by omega) (by omega) (by omega)]; simp
    | false => simp
/-- A loop that looks for the first place. -/
theorem fnd_loop {α : Type} (f : Nat → Nat → Option α) (n : Nat) (p : Nat → Bool) (yes : Nat → α) (no : α) (c : Nat) (h : ∀ k i, i ≤ n → c ≤ k → f (k + 1) i = if i < n then (if p i = true then some (yes i) else f k (i + 1)) else some no) :
    ∀ (d k i : Nat), n - i = d → i ≤ n → c + d < k → f k i = some (match fnd p d i with | some j => yes j | none => no) := by
  intro d
  induction d with
  | zero =>
    intro k i h1 h2 h3
    obtain ⟨k, rfl⟩ : ∃ m, k = m + 1 := ⟨k - 1, by omega⟩
    rw [h k i h2 (by omega), if_neg (by omega)]; rfl
  | succ d ih =>
    intro k i h1 h2 h3
    obtain ⟨k, rfl⟩ : ∃ m, k = m + 1 := ⟨k - 1, by omega⟩
    rw [h k i h2 (by omega), if_pos (by omega)]
    simp only [fnd]
    cases e : p i with
    | true => simp
    | false => rw [if_neg (by simp), if_neg (by simp), ih k (i + 1) (by omega) (by omega) (by omega)]
theorem rsame_eq (a b : List Int) (k : Nat) (hb : a.length ≤ 4611686018427387904) (hk : a.length < k) : chamberlainref01_Same.f k a b = some (decide (a = b)) := by
  unfold chamberlainref01_Same.f
  by_cases hl : a.length = b.length
  · rw [if_pos (by omega)]
    have h := all_loop (fun k i => chamberlainref01_Same.l0 k a b (i : Int)) a.length (fun i => decide (rd a (i : Int) = rd b (i : Int))) (by
      intro k i hi
      simp only [chamberlainref01_Same.l0]
      by_cases c : i < a.length
      · rw [if_pos (by omega), if_pos (by omega), if_pos (by omega), if_pos c, w64 (by omega) (by omega)]
        simp
      · rw [if_neg (by omega), if_neg c]) a.length k 0 (by omega) (by omega) (by omega)
    simp only [Int.natCast_zero] at h
    rw [h, rows_eq a b hl]
  · rw [if_neg (by omega)]
    congr 1
    symm
    apply decide_eq_false
    intro e
    exact hl (by rw [e])
theorem pe0 (x : Int) : (0 == x) = (x == 0) := by rw [Bool.eq_iff_iff, beq_iff_eq, beq_iff_eq]; exact eq_comm
theorem pe1 (x : Int) : (0 = x) = (x = 0) := propext eq_comm
theorem r7 : List.range 7 = [0, 1, 2, 3, 4, 5, 6] := rfl
theorem same_loop (l : List Int) (hl : l.length ≤ 1000) : ∀ (d k i : Nat), l.length - i = d → i ≤ l.length → d < k → chamberlainref01_Same.l0 k l l (i : Int) = some true := by
  intro d
  induction d with
  | zero =>
    intro k i h1 h2 h3
    obtain ⟨k, rfl⟩ : ∃ m, k = m + 1 := ⟨k - 1, by omega⟩
    rw [chamberlainref01_Same.l0, if_neg (by omega)]
  | succ d ih =>
    intro k i h1 h2 h3
    obtain ⟨k, rfl⟩ : ∃ m, k = m + 1 := ⟨k - 1, by omega⟩
    rw [chamberlainref01_Same.l0, if_pos (by omega), if_pos (by omega), if_pos (by omega), if_pos rfl, w64 (by omega) (by omega), show (i : Int) + 1 = ((i + 1 : Nat) : Int) by omega]
    exact ih k (i + 1) (by omega) (by omega) (by omega)
theorem same_self (l : List Int) (k : Nat) (hl : l.length ≤ 1000) (hk : l.length < k) : chamberlainref01_Same.f k l l = some true := by
  unfold chamberlainref01_Same.f
  rw [if_pos rfl]
  have := same_loop l hl l.length k 0 (by omega) (by omega) hk
  simpa using this
theorem words_len (a0 : Int) (fs : List Int) : (pwords a0 fs).length ≤ 5 := by
  unfold pwords
  split
  · rw [List.length_map]; exact pix.len a0
  · simp
/-- What is read is put as it was. -/
theorem put_get (a0 : Int) (l : List Int) (h : pgetwhy a0 l = 0) : pwhy a0 [pget a0 l 0, pget a0 l 1, pget a0 l 2, pget a0 l 3, pget a0 l 4, pget a0 l 5, pget a0 l 6] = 0 ∧ pwords a0 [pget a0 l 0, pget a0 l 1, pget a0 l 2, pget a0 l 3, pget a0 l 4, pget a0 l 5, pget a0 l 6] = l := by
  have hcase : a0 = 2 ∨ a0 = 3 ∨ a0 = 4 ∨ a0 = 5 ∨ a0 = 6 ∨ a0 = 7 ∨ a0 = 8 ∨ a0 = 9 ∨ (¬ a0 = 2 ∧ ¬ a0 = 3 ∧ ¬ a0 = 4 ∧ ¬ a0 = 5 ∧ ¬ a0 = 6 ∧ ¬ a0 = 7 ∧ ¬ a0 = 8 ∧ ¬ a0 = 9) := by omega
  have hlen : (pix a0).length = l.length := by
    unfold pgetwhy at h
    split at h
    · cases h
    · split at h
      · assumption
      · cases h
  rcases hcase with rfl | rfl | rfl | rfl | rfl | rfl | rfl | rfl | ⟨n2, n3, n4, n5, n6, n7, n8, n9⟩
  · match l, hlen with
    | [a, b, c, d, e], _ => simp [pget, pgetwhy, pgat, pix, pwords, pwhy, pfits, pz, pf, r7]
  · match l, hlen with
    | [a, b, c], _ => simp [pget, pgetwhy, pgat, pix, pwords, pwhy, pfits, pz, pf, r7]
  · match l, hlen with
    | [a], _ => simp [pget, pgetwhy, pgat, pix, pwords, pwhy, pfits, pz, pf, r7]
  · match l, hlen with
    | [a], _ => simp [pget, pgetwhy, pgat, pix, pwords, pwhy, pfits, pz, pf, r7]
  · match l, hlen with
    | [a, b, c, d], _ => simp [pget, pgetwhy, pgat, pix, pwords, pwhy, pfits, pz, pf, r7]
  · match l, hlen with
    | [a, b, c, d], _ => simp [pget, pgetwhy, pgat, pix, pwords, pwhy, pfits, pz, pf, r7]
  · match l, hlen with
    | [a, b], _ => simp [pget, pgetwhy, pgat, pix, pwords, pwhy, pfits, pz, pf, r7]
  · match l, hlen with
    | [a, b], _ => simp [pget, pgetwhy, pgat, pix, pwords, pwhy, pfits, pz, pf, r7]
  · exfalso
    simp [pgetwhy, pix, n2, n3, n4, n5, n6, n7, n8, n9] at h
/-- What is put is read as it was. -/
theorem get_put (a0 x0 x1 x2 x3 x4 x5 x6 : Int) (h : pwhy a0 [x0, x1, x2, x3, x4, x5, x6] = 0) : pgetwhy a0 (pwords a0 [x0, x1, x2, x3, x4, x5, x6]) = 0 ∧ pget a0 (pwords a0 [x0, x1, x2, x3, x4, x5, x6]) 0 = x0 ∧ pget a0 (pwords a0 [x0, x1, x2, x3, x4, x5, x6]) 1 = x1 ∧ pget a0 (pwords a0 [x0, x1, x2, x3, x4, x5, x6]) 2 = x2 ∧ pget a0 (pwords a0 [x0, x1, x2, x3, x4, x5, x6]) 3 = x3 ∧ pget a0 (pwords a0 [x0, x1, x2, x3, x4, x5, x6]) 4 = x4 ∧ pget a0 (pwords a0 [x0, x1, x2, x3, x4, x5, x6]) 5 = x5 ∧ pget a0 (pwords a0 [x0, x1, x2, x3, x4, x5, x6]) 6 = x6 := by
  have hf : pfits a0 [x0, x1, x2, x3, x4, x5, x6] = true := by
    cases c : pfits a0 [x0, x1, x2, x3, x4, x5, x6] with
    | true => rfl
    | false => unfold pwhy at h; rw [c] at h; cases h
  have hcase : a0 = 2 ∨ a0 = 3 ∨ a0 = 4 ∨ a0 = 5 ∨ a0 = 6 ∨ a0 = 7 ∨ a0 = 8 ∨ a0 = 9 ∨ (¬ a0 = 2 ∧ ¬ a0 = 3 ∧ ¬ a0 = 4 ∧ ¬ a0 = 5 ∧ ¬ a0 = 6 ∧ ¬ a0 = 7 ∧ ¬ a0 = 8 ∧ ¬ a0 = 9) := by omega
  unfold pwords
  rw [hf]
  rcases hcase with rfl | rfl | rfl | rfl | rfl | rfl | rfl | rfl | ⟨n2, n3, n4, n5, n6, n7, n8, n9⟩
  case inr.inr.inr.inr.inr.inr.inr.inr =>
    exfalso
    simp [pfits, pix, n2, n3, n4, n5, n6, n7, n8, n9] at hf
  all_goals
    simp [pfits, pz, pf, pix, r7] at hf
    simp [pget, pgetwhy, pgat, pix, pf, hf]
theorem why_len {a0 : Int} {l : List Int} (h : pgetwhy a0 l = 0) : (pix a0).length = l.length := by
  unfold pgetwhy at h
  split at h
  · cases h
  · split at h
    · assumption
    · cases h
theorem why_empty {a0 : Int} {l : List Int} (h : ¬ pgetwhy a0 l = 0) (e : l.length = (pix a0).length) : (pix a0).length = 0 := by
  unfold pgetwhy at h
  cases c : (pix a0).isEmpty with
  | true => rw [List.isEmpty_iff] at c; rw [c]; rfl
  | false => rw [c, if_pos e.symm] at h; exact absurd rfl h
theorem back_j1 (a0 : Int) (l : List Int) (h0 : 0 ≤ a0 ∧ a0 < 4294967296) (hl : l.length ≤ 100) (k : Nat) (hk : 200 ≤ k) : chamberlainlaw11_PartBack.j1 (k + 1) a0 l = some true := by
  have hg : part_Get.f a0 l = some (pget a0 l 0, pget a0 l 1, pget a0 l 2, pget a0 l 3, pget a0 l 4, pget a0 l 5, pget a0 l 6, pgetwhy a0 l) := by unfold part_Get.f; rw [if_pos h0]
  have hs : part_Size.f a0 = some ((pix a0).length : Int) := by unfold part_Size.f; rw [if_pos h0]
  rw [chamberlainlaw11_PartBack.j1, hg, Option.bind_some]
  by_cases q : pgetwhy a0 l = 0
  · have pg := put_get a0 l q
    have hp : part_Put.f a0 (pget a0 l 0) (pget a0 l 1) (pget a0 l 2) (pget a0 l 3) (pget a0 l 4) (pget a0 l 5) (pget a0 l 6) = some (l, 0) := by unfold part_Put.f; rw [if_pos h0, pg.1, pg.2]
    rw [if_pos q, hp, Option.bind_some, if_pos rfl, same_self l k (by omega) (by omega), Option.bind_some, if_pos rfl, hs, Option.bind_some, why_len q]
    simp
  · have z := fun j => part_Get.no (label := a0) (l := l) q j
    rw [if_neg q]
    simp only [z]
    rw [if_pos (by decide), hs, Option.bind_some]
    by_cases e : (l.length : Int) = ((pix a0).length : Int)
    · have := why_empty q (by omega)
      rw [if_pos e, Option.bind_some, this]; rfl
    · rw [if_neg e]
theorem PartBack : chamberlainlaw11_PartBack.Pure := by
  intro a0 x0 x1 x2 x3 x4 x5 x6 y0 y1 y2 y3 y4 y5 y6 l h0 _ _ _ _ _ _ _ _ _ _ _ _ _ _ _ _
  have h0 := wf32 h0
  obtain ⟨k, hk⟩ : ∃ k, k = 20000 := ⟨_, rfl⟩
  refine ⟨k + 4, ?_⟩
  have aw : ∀ n, 60 ≤ n → chamberlainlaw11_awake.f n = some true := fun n hn => at_rounds chamberlainlaw11_awake.mono hn chamberlainlaw11_awake.at60
  have hp : part_Put.f a0 x0 x1 x2 x3 x4 x5 x6 = some (pwords a0 [x0, x1, x2, x3, x4, x5, x6], pwhy a0 [x0, x1, x2, x3, x4, x5, x6]) := by unfold part_Put.f; rw [if_pos h0]
  have hq : part_Put.f a0 y0 y1 y2 y3 y4 y5 y6 = some (pwords a0 [y0, y1, y2, y3, y4, y5, y6], pwhy a0 [y0, y1, y2, y3, y4, y5, y6]) := by unfold part_Put.f; rw [if_pos h0]
  have hg : ∀ m, part_Get.f a0 m = some (pget a0 m 0, pget a0 m 1, pget a0 m 2, pget a0 m 3, pget a0 m 4, pget a0 m 5, pget a0 m 6, pgetwhy a0 m) := fun m => by unfold part_Get.f; rw [if_pos h0]
  unfold chamberlainlaw11_PartBack.f
  rw [aw _ (by omega), Option.bind_some, if_pos rfl]
  by_cases c : (l.length : Int) > 100
  · rw [show decide ((l.length : Int) > 100) = true from decide_eq_true c, chamberlainlaw11_PartBack.j0, if_pos rfl, aw _ (by omega)]; rfl
  rw [show decide ((l.length : Int) > 100) = false from decide_eq_false c, chamberlainlaw11_PartBack.j0, if_neg (by decide), hp, Option.bind_some, hq, Option.bind_some]
  have j1 := back_j1 a0 l h0 (by omega) (k + 2) (by omega)
  by_cases e : pwhy a0 [x0, x1, x2, x3, x4, x5, x6] = 0
  · obtain ⟨g, g0, g1, g2, g3, g4, g5, g6⟩ := get_put a0 x0 x1 x2 x3 x4 x5 x6 e
    have w5 := words_len a0 [x0, x1, x2, x3, x4, x5, x6]
    rw [if_pos e, hg, Option.bind_some]
    simp only [g, g0, g1, g2, g3, g4, g5, g6]
    rw [if_pos trivial, if_neg (by simp)]
    by_cases f : pwhy a0 [y0, y1, y2, y3, y4, y5, y6] = 0
    · obtain ⟨_, f0, f1, f2, f3, f4, f5, f6⟩ := get_put a0 y0 y1 y2 y3 y4 y5 y6 f
      have same : (decide (pwords a0 [x0, x1, x2, x3, x4, x5, x6] = pwords a0 [y0, y1, y2, y3, y4, y5, y6])) = (x0 == y0 && (x1 == y1 && (x2 == y2 && (x3 == y3 && (x4 == y4 && (x5 == y5 && (x6 == y6))))))) := by
        rw [Bool.eq_iff_iff]
        simp only [decide_eq_true_eq, Bool.and_eq_true, beq_iff_eq]
        constructor
        · intro w
          rw [w] at g0 g1 g2 g3 g4 g5 g6
          exact ⟨g0.symm.trans f0, g1.symm.trans f1, g2.symm.trans f2, g3.symm.trans f3, g4.symm.trans f4, g5.symm.trans f5, g6.symm.trans f6⟩
        · rintro ⟨rfl, rfl, rfl, rfl, rfl, rfl, rfl⟩; rfl
      rw [if_pos f, rsame_eq (pwords a0 [x0, x1, x2, x3, x4, x5, x6]) (pwords a0 [y0, y1, y2, y3, y4, y5, y6]) (k + 3) (by omega) (by omega), Option.bind_some, same, if_neg (by simp), j1]
    · rw [if_neg f, j1]
  · rw [if_neg e, j1]

end Go.Proofs.Ytpbmmompbknimaa.Pure
