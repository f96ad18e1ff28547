/- Two that are put in their places are the same in either order, and of one name the last one stays, for every right row; no condition. -/
import Derived.Test.YtlgbahgddpggfaaQPeopleTurned
namespace Go.Proofs.Ytlgbahgddpggfaa.Pure
open Go Go.RowKit Go.Proofs.Ytlgbahgddpggfaa.PPeopleTurned Go.Proofs.YtlgbahgddpggfaaW.PrintWords Go.Proofs.YtlgbahgddpggfaaW.PrintLast Go.Proofs.YtlgbahgddpggfaaW.PrintMore

theorem wf32 {x : Int} (h : (Lit.int .u32 x).wf = true) : 0 ≤ x ∧ x < 4294967296 := by
  simp only [Lit.wf, IntKind.min, IntKind.max, IntKind.signed, IntKind.bits, Bool.and_eq_true] at h
  simp at h
  omega
theorem wf8 {x : Int} (h : (Lit.int .u8 x).wf = true) : 0 ≤ x ∧ x < 256 := by
  simp only [Lit.wf, IntKind.min, IntKind.max, IntKind.signed, IntKind.bits, Bool.and_eq_true] at h
  simp at h
  omega
theorem wf16 {x : Int} (h : (Lit.int .u16 x).wf = true) : 0 ≤ x ∧ x < 65536 := by
  simp only [Lit.wf, IntKind.min, IntKind.max, IntKind.signed, IntKind.bits, Bool.and_eq_true] at h
  simp at h
  omega
theorem wf64 {x : Int} (h : (Lit.int .i64 x).wf = true) : -9223372036854775808 ≤ x ∧ x ≤ 9223372036854775807 := by
  simp only [Lit.wf, IntKind.min, IntKind.max, IntKind.signed, IntKind.bits, Bool.and_eq_true] at h
  simp at h
  omega
theorem w64 {x : Int} (h1 : -9223372036854775808 ≤ x) (h2 : x ≤ 9223372036854775807) : wrap64 x = x := by
  unfold wrap64
  omega
theorem rd_nat (xs : List Int) (i : Nat) (h : i < xs.length) : rd xs (i : Int) = xs[i] := by
  unfold rd
  simp [List.getD_eq_getElem?_getD, h]
/-- From place i on, n places: does p hold of all? -/
def allF (p : Nat → Bool) : Nat → Nat → Bool
  | 0, _ => true
  | n + 1, i => p i && allF p n (i + 1)
theorem allF_iff (p : Nat → Bool) (n i : Nat) : allF p n i = true ↔ ∀ j, i ≤ j → j < i + n → p j = true := by
  induction n generalizing i with
  | zero => simp [allF]; intro j h1 h2; omega
  | succ n ih =>
    simp only [allF, Bool.and_eq_true, ih]
    constructor
    · rintro ⟨h0, h⟩ j h1 h2
      by_cases e : j = i
      · subst e; exact h0
      · exact h j (by omega) (by omega)
    · intro h
      exact ⟨h i (by omega) (by omega), fun j h1 h2 => h j (by omega) (by omega)⟩
/-- The first place from i on, of n, of which p holds. -/
def fnd (p : Nat → Bool) : Nat → Nat → Option Nat
  | 0, _ => none
  | n + 1, i => if p i = true then some i else fnd p n (i + 1)
theorem fnd_some {p : Nat → Bool} {n i j : Nat} (h : fnd p n i = some j) : i ≤ j ∧ j < i + n ∧ p j = true ∧ ∀ m, i ≤ m → m < j → p m = false := by
  induction n generalizing i with
  | zero => simp [fnd] at h
  | succ n ih =>
    simp only [fnd] at h
    by_cases e : p i = true
    · rw [if_pos e] at h
      cases h
      exact ⟨Nat.le_refl _, by omega, e, fun m h1 h2 => by omega⟩
    · rw [if_neg e] at h
      obtain ⟨h1, h2, h3, h4⟩ := ih h
      refine ⟨by omega, by omega, h3, fun m m1 m2 => ?_⟩
      by_cases c : m = i
      · subst c; simpa using e
      · exact h4 m (by omega) m2
theorem fnd_none {p : Nat → Bool} {n i : Nat} (h : fnd p n i = none) : ∀ m, i ≤ m → m < i + n → p m = false := by
  induction n generalizing i with
  | zero => intro m h1 h2; omega
  | succ n ih =>
    simp only [fnd] at h
    by_cases e : p i = true
    · rw [if_pos e] at h; cases h
    · rw [if_neg e] at h
      intro m h1 h2
      by_cases c : m = i
      · subst c; simpa using e
      · exact ih h m (by omega) (by omega)
theorem fnd_eq_some {p : Nat → Bool} {n i j : Nat} (h1 : i ≤ j) (h2 : j < i + n) (h3 : p j = true) (h4 : ∀ m, i ≤ m → m < j → p m = false) : fnd p n i = some j := by
  cases h : fnd p n i with
  | none => have := fnd_none h j h1 h2; rw [this] at h3; cases h3
  | some q =>
    obtain ⟨a, b, c, d⟩ := fnd_some h
    congr 1
    rcases Nat.lt_trichotomy q j with e | e | e
    · have := h4 q a e; rw [this] at c; cases c
    · exact e
    · have := d j h1 e; rw [this] at h3; cases h3
theorem fnd_eq_none {p : Nat → Bool} {n i : Nat} (h : ∀ m, i ≤ m → m < i + n → p m = false) : fnd p n i = none := by
  cases e : fnd p n i with
  | none => rfl
  | some q =>
    obtain ⟨a, b, c, _⟩ := fnd_some e
    rw [h q a b] at c; cases c
theorem rows_eq (a b : List Int) (h : a.length = b.length) : allF (fun i => decide (rd a (i : Int) = rd b (i : Int))) a.length 0 = decide (a = b) := by
  rw [Bool.eq_iff_iff, allF_iff]
  simp only [decide_eq_true_eq]
  constructor
  · intro H
    apply List.ext_getElem h
    intro i h1 h2
    have := H i (by omega) (by omega)
    rw [rd_nat a i h1, rd_nat b i h2] at this
    exact this
  · intro e j _ _
    rw [e]
/-- A loop that asks place by place. -/
theorem all_loop (f : Nat → Nat → Option Bool) (n : Nat) (p : Nat → Bool) (h : ∀ k i, i ≤ n → f (k + 1) i = if i < n then (if p i = true then f k (i + 1) else some false) else some true) :
    ∀ (d k i : Nat), n - i = d → i ≤ n → d < k → f k i = some (allF p d i) := by
  intro d
  induction d with
  | zero =>
    intro k i h1 h2 h3
    obtain ⟨k, rfl⟩ : ∃ m, k = m + 1 := ⟨k - 1, by omega⟩
    rw [h k i h2, if_neg (by omega)]; rfl
  | succ d ih =>
    intro k i h1 h2 h3
    obtain ⟨k, rfl⟩ : ∃ m, k = m + 1 := ⟨k - 1, by omega⟩
    rw [h k i h2, if_pos (by omega)]
    simp only [allF]
    cases e : p i with
    | true => rw [if_pos rfl, ih k (i + 1) (by omega) (by omega) (by omega)]; simp
    | false => simp
/-- A loop that looks for the first place. -/
theorem fnd_loop {α : Type} (f : Nat → Nat → Option α) (n : Nat) (p : Nat → Bool) (yes : Nat → α) (no : α) (c : Nat) (h : ∀ k i, i ≤ n → c ≤ k → f (k + 1) i = if i < n then (if p i = true then some (yes i) else f k (i + 1)) else some no) :
    ∀ (d k i : Nat), n - i = d → i ≤ n → c + d < k → f k i = some (match fnd p d i with | some j => yes j | none => no) := by
  intro d
  induction d with
  | zero =>
    intro k i h1 h2 h3
    obtain ⟨k, rfl⟩ : ∃ m, k = m + 1 := ⟨k - 1, by omega⟩
    rw [h k i h2 (by omega), if_neg (by omega)]; rfl
  | succ d ih =>
    intro k i h1 h2 h3
    obtain ⟨k, rfl⟩ : ∃ m, k = m + 1 := ⟨k - 1, by omega⟩
    rw [h k i h2 (by omega), if_pos (by omega)]
    simp only [fnd]
    cases e : p i with
    | true => simp
    | false => rw [if_neg (by simp), if_neg (by simp), ih k (i + 1) (by omega) (by omega) (by omega)]
theorem wraps_u32 (n : Int) (h₀ : 0 ≤ n) (h₁ : n < 2 ^ 32) : IntKind.u32.wrap n = n := by rw [IntKind.wrap_u32]; omega
theorem bits_or (x : Int) (h : 0 ≤ x ∧ x < 4294967296) : Go.bits .or .u32 x 2147483648 = if x < 2147483648 then x + 2147483648 else x := by
  obtain ⟨n, rfl⟩ : ∃ n : Nat, x = (n : Int) := ⟨x.toNat, by omega⟩
  have hb := (bits_nat .u32 32 (by decide) wraps_u32 n 2147483648 (by omega) (by decide)).2
  have e : ((2147483648 : Nat) : Int) = 2147483648 := rfl
  rw [e] at hb
  rw [hb]
  by_cases c : n < 2147483648
  · rw [if_pos (by omega)]
    have h1 := Nat.two_pow_add_eq_or_of_lt (i := 31) (b := n) (by omega) 1
    have h2 : n ||| 2147483648 = 2147483648 + n := by rw [Nat.or_comm]; exact h1.symm
    omega
  · rw [if_neg (by omega)]
    have h1 := Nat.two_pow_add_eq_or_of_lt (i := 31) (b := n - 2147483648) (by omega) 1
    have h3 : n = 2147483648 ||| (n - 2147483648) := by
      have : 2 ^ 31 * 1 + (n - 2147483648) = n := by omega
      rw [this] at h1; exact h1
    have h2 : n ||| 2147483648 = n := by
      rw [Nat.or_comm, h3, ← Nat.or_assoc, Nat.or_self]
    rw [h2]
theorem draw_eq (x : Int) (h : 0 ≤ x ∧ x < 4294967296) : word_Draw.f x = some (if x < 2147483648 then x + 2147483648 else x) := by
  unfold word_Draw.f
  rw [bits_or x h]
theorem rsame_eq (a b : List Int) (k : Nat) (hb : a.length ≤ 4611686018427387904) (hk : a.length < k) : chamberlainref01_Same.f k a b = some (decide (a = b)) := by
  unfold chamberlainref01_Same.f
  by_cases hl : a.length = b.length
  · rw [if_pos (by omega)]
    have h := all_loop (fun k i => chamberlainref01_Same.l0 k a b (i : Int)) a.length (fun i => decide (rd a (i : Int) = rd b (i : Int))) (by
      intro k i hi
      simp only [chamberlainref01_Same.l0]
      by_cases c : i < a.length
      · rw [if_pos (by omega), if_pos (by omega), if_pos (by omega), if_pos c, w64 (by omega) (by omega)]
        simp
      · rw [if_neg (by omega), if_neg c]) a.length k 0 (by omega) (by omega) (by omega)
    simp only [Int.natCast_zero] at h
    rw [h, rows_eq a b hl]
  · rw [if_neg (by omega)]
    congr 1
    symm
    apply decide_eq_false
    intro e
    exact hl (by rw [e])
theorem bits_range (x : Int) (h : 0 ≤ x ∧ x < 4294967296) : 0 ≤ Go.bits .or .u32 1073741824 x ∧ Go.bits .or .u32 1073741824 x < 4294967296 := by
  obtain ⟨n, rfl⟩ : ∃ n : Nat, x = (n : Int) := ⟨x.toNat, by omega⟩
  have hb := (bits_nat .u32 32 (by decide) wraps_u32 1073741824 n (by decide) (by omega)).2
  have e : ((1073741824 : Nat) : Int) = 1073741824 := rfl
  rw [e] at hb
  rw [hb]
  have : 1073741824 ||| n < 2 ^ 32 := Nat.or_lt_two_pow (by decide) (by omega)
  omega
def rawAt (l : List Int) (i : Int) : Int := if i < (l.length : Int) then rd l i else Go.bits .or .u32 1073741824 (i % 4294967296)
def atOf (l : List Int) (i : Int) : Int := if rawAt l i < 2147483648 then rawAt l i + 2147483648 else rawAt l i
theorem rawAt_range (l : List Int) (i : Int) (hl : ∀ x ∈ l, (Lit.int .u32 x).wf = true) (h : 0 ≤ i) : 0 ≤ rawAt l i ∧ rawAt l i < 4294967296 := by
  unfold rawAt
  split
  · obtain ⟨n, rfl⟩ : ∃ n : Nat, i = (n : Int) := ⟨i.toNat, by omega⟩
    rw [rd_nat l n (by omega)]
    exact wf32 (hl _ (List.getElem_mem _))
  · exact bits_range _ (by omega)
theorem at_eq (l : List Int) (nx i : Int) (hl : ∀ x ∈ l, (Lit.int .u32 x).wf = true) (h : 0 ≤ i) : draw_at.f l nx i = some (atOf l i) := by
  have hr := rawAt_range l i hl h
  unfold draw_at.f atOf
  unfold rawAt at hr ⊢
  by_cases c : i < (l.length : Int)
  · rw [if_pos c] at hr
    rw [if_pos c, if_pos h, if_pos c, draw_eq _ hr]; rfl
  · rw [if_neg c] at hr
    rw [if_neg c, if_neg c, draw_eq _ hr]; rfl
/-- So many draws, from one on. -/
def draws (l : List Int) (i : Int) : Nat → List Int
  | 0 => []
  | n + 1 => atOf l i :: draws l (i + 1) n
theorem draws_length (l : List Int) (n : Nat) : ∀ i, (draws l i n).length = n := by
  induction n with
  | zero => intro i; rfl
  | succ n ih => intro i; rw [draws, List.length_cons, ih]
theorem draws_get (l : List Int) (n : Nat) : ∀ (i : Int) (j : Nat) (h : j < (draws l i n).length), (draws l i n)[j] = atOf l (i + j) := by
  induction n with
  | zero => intro i j h; simp [draws] at h
  | succ n ih =>
    intro i j h
    cases j with
    | zero => simp [draws]
    | succ j =>
      simp only [draws, List.getElem_cons_succ]
      rw [ih]
      congr 1
      omega
theorem peek_l0 (l : List Int) (nx : Int) (hl : ∀ x ∈ l, (Lit.int .u32 x).wf = true) : ∀ (n k : Nat) (i : Int) (acc : List Int), 0 ≤ i → i + n ≤ 4611686018427387904 → acc.length + n ≤ 1000000 → n < k →
    draw_Peek.l0 k acc i (i + n) l nx = some (acc ++ draws l i n) := by
  intro n
  induction n with
  | zero =>
    intro k i acc h1 h2 h3 h4
    obtain ⟨k, rfl⟩ : ∃ m, k = m + 1 := ⟨k - 1, by omega⟩
    rw [draw_Peek.l0, if_neg (by omega), draws, List.append_nil]
  | succ n ih =>
    intro k i acc h1 h2 h3 h4
    obtain ⟨k, rfl⟩ : ∃ m, k = m + 1 := ⟨k - 1, by omega⟩
    rw [draw_Peek.l0, if_pos (by omega), at_eq l nx i hl h1, Option.bind_some, if_pos (by omega), w64 (by omega) (by omega)]
    have e : i + ((n + 1 : Nat) : Int) = (i + 1) + (n : Int) := by omega
    rw [e, ih k (i + 1) _ (by omega) (by omega) (by rw [List.length_append]; simp; omega) (by omega), draws]
    simp
theorem peek_eq (l : List Int) (nx : Int) (n k : Nat) (hl : ∀ x ∈ l, (Lit.int .u32 x).wf = true) (h1 : 0 ≤ nx) (h2 : nx ≤ 1000000000) (h3 : n ≤ 1000000) (h4 : n < k) : draw_Peek.f k l nx (n : Int) = some (draws l nx n) := by
  unfold draw_Peek.f
  rw [w64 (by omega) (by omega), peek_l0 l nx hl n k nx [] h1 (by omega) (by simpa using h3) h4, List.nil_append]
theorem rdP (xs : List S39) (i : Nat) (h : i < xs.length) : rd_T39 xs (i : Int) = xs[i] := by
  unfold rd_T39
  simp [List.getD_eq_getElem?_getD, h]
/-- Principals from one on, of these keys. -/
def ppl (i : Int) : List Int → List S39
  | [] => []
  | x :: xs => ⟨i, x, 0, [], [], false⟩ :: ppl (i + 1) xs
theorem ppl_length (xs : List Int) : ∀ i, (ppl i xs).length = xs.length := by
  induction xs with
  | nil => intro i; rfl
  | cons x xs ih => intro i; rw [ppl, List.length_cons, ih, List.length_cons]
theorem ppl_get (xs : List Int) : ∀ (i : Int) (j : Nat) (h : j < (ppl i xs).length) (h' : j < xs.length), (ppl i xs)[j] = ⟨i + j, xs[j], 0, [], [], false⟩ := by
  induction xs with
  | nil => intro i j h h'; simp at h'
  | cons x xs ih =>
    intro i j h h'
    cases j with
    | zero => simp [ppl]
    | succ j =>
      simp only [ppl, List.getElem_cons_succ]
      rw [ih (i + 1) j _ (by simpa using h')]
      congr 1
      omega
def rowOf (xs : List Int) : List S39 := ⟨0, 0, 0, [], [], false⟩ :: ppl 1 xs
theorem row_l0 (xs : List Int) (hx : xs.length ≤ 1000) : ∀ (d k i : Nat) (acc : List S39), xs.length - i = d → i ≤ xs.length → acc.length ≤ i + 1 → d < k →
    people_row.l0 k acc xs (xs.length : Int) (i : Int) = some (acc ++ ppl (i + 1) (xs.drop i)) := by
  intro d
  induction d with
  | zero =>
    intro k i acc h1 h2 h3 h4
    obtain ⟨k, rfl⟩ : ∃ m, k = m + 1 := ⟨k - 1, by omega⟩
    rw [people_row.l0, if_neg (by omega), List.drop_eq_nil_of_le (by omega), ppl, List.append_nil]
  | succ d ih =>
    intro k i acc h1 h2 h3 h4
    obtain ⟨k, rfl⟩ : ∃ m, k = m + 1 := ⟨k - 1, by omega⟩
    have hi : i < xs.length := by omega
    have ei : (i : Int) + 1 = ((i + 1 : Nat) : Int) := by omega
    have em : ((i + 1 : Nat) : Int) % 4294967296 = ((i + 1 : Nat) : Int) := by omega
    rw [people_row.l0, if_pos (by omega), if_pos (by omega), if_pos (by omega), if_pos (by omega), w64 (by omega) (by omega), rd_nat xs i hi, ei, em, ih k (i + 1) _ (by omega) (by omega) (by rw [List.length_append]; simp; omega) (by omega), List.drop_eq_getElem_cons hi, ppl]
    simp
theorem row_eq (xs : List Int) (k : Nat) (hx : xs.length ≤ 1000) (hk : xs.length < k) : people_row.f k xs = some (rowOf xs) := by
  unfold people_row.f rowOf
  have h := row_l0 xs hx xs.length k 0 [⟨0, 0, 0, [], [], false⟩] (by omega) (by omega) (by simp) hk
  simp only [Int.natCast_zero, Int.zero_add, List.drop_zero, List.singleton_append] at h
  exact h
theorem new_eq (n : Int) (l : List Int) (nx : Int) (k : Nat) (hl : ∀ x ∈ l, (Lit.int .u32 x).wf = true) (h1 : 0 ≤ nx) (h2 : nx ≤ 1000000000) (hk : 20 < k) :
    people_New.f k n l nx = some (if n < 1 ∨ n > 6 then ([], l, nx, 1) else (rowOf (draws l nx n.toNat), l, nx + n, 0)) := by
  unfold people_New.f
  obtain ⟨k, rfl⟩ : ∃ m, k = m + 1 := ⟨k - 1, by omega⟩
  by_cases c : n < 1
  · rw [if_pos c, people_New.j0, if_pos rfl, if_pos (Or.inl c)]
  rw [if_neg c, people_New.j0]
  by_cases d : n > 6
  · rw [if_pos (decide_eq_true d), if_pos (Or.inr d)]
  obtain ⟨m, rfl⟩ : ∃ m : Nat, n = (m : Int) := ⟨n.toNat, by omega⟩
  rw [if_neg (by simpa using d), peek_eq l nx m k hl h1 h2 (by omega) (by omega), Option.bind_some, row_eq _ k (by rw [draws_length]; omega) (by rw [draws_length]; omega), Option.bind_some, w64 (by omega) (by omega), if_neg (by omega)]
  simp
def rightP (l : List S39) : Bool := allF (fun i => decide ((rd_T39 l (i : Int)).f0 = (i : Int) % 4294967296)) l.length 0 && decide (2 ≤ l.length ∧ l.length ≤ 7)
theorem right_eq (l : List S39) (k : Nat) (hl : l.length ≤ 4611686018427387904) (hk : l.length < k) : people_Right.f k l = some (rightP l) := by
  unfold people_Right.f rightP
  have h : ∀ (d k i : Nat), l.length - i = d → i ≤ l.length → d < k → people_Right.l0 k l l (l.length : Int) (i : Int) = some (allF (fun i => decide ((rd_T39 l (i : Int)).f0 = (i : Int) % 4294967296)) d i && decide (2 ≤ l.length ∧ l.length ≤ 7)) := by
    intro d
    induction d with
    | zero =>
      intro k i h1 h2 h3
      obtain ⟨k, rfl⟩ : ∃ m, k = m + 1 := ⟨k - 1, by omega⟩
      rw [people_Right.l0, if_neg (by omega), allF, Bool.true_and]
      by_cases c : (l.length : Int) ≥ 2
      · rw [if_pos c]; congr 1; apply decide_eq_decide.mpr; omega
      · rw [if_neg c]; congr 1; symm; apply decide_eq_false; omega
    | succ d ih =>
      intro k i h1 h2 h3
      obtain ⟨k, rfl⟩ : ∃ m, k = m + 1 := ⟨k - 1, by omega⟩
      have ei : (i : Int) + 1 = ((i + 1 : Nat) : Int) := by omega
      rw [people_Right.l0, if_pos (by omega), if_pos (by omega), if_pos (by omega), allF]
      by_cases c : (rd_T39 l (i : Int)).f0 = (i : Int) % 4294967296
      · rw [if_pos c, w64 (by omega) (by omega), ei, ih k (i + 1) (by omega) (by omega) (by omega), decide_eq_true c, Bool.true_and]
      · rw [if_neg c, decide_eq_false c]; rfl
  have h0 := h l.length k 0 (by omega) (by omega) hk
  simp only [Int.natCast_zero] at h0
  exact h0
theorem rightP_iff (l : List S39) : rightP l = true ↔ (∀ i (h : i < l.length), l[i].f0 = (i : Int)) ∧ 2 ≤ l.length ∧ l.length ≤ 7 := by
  unfold rightP
  rw [Bool.and_eq_true, allF_iff, decide_eq_true_eq]
  constructor
  · rintro ⟨h1, h2⟩
    refine ⟨fun i hi => ?_, h2⟩
    have := h1 i (by omega) (by omega)
    rw [decide_eq_true_eq, rdP l i hi] at this
    omega
  · rintro ⟨h1, h2⟩
    refine ⟨fun i _ hi => ?_, h2⟩
    rw [decide_eq_true_eq, rdP l i (by omega), h1 i (by omega)]
    omega
theorem in_eq (l : List S39) (a : Int) (hl : l.length ≤ 1000000) (ha : 0 ≤ a ∧ a < 4294967296) : people_in.f l a = some (decide (a < (l.length : Int))) := by
  unfold people_in.f
  simp only [IntKind.wrap_u64]
  congr 1
  apply decide_eq_decide.mpr
  omega
/-- A person and whether there is one, as a tuple. -/
def six (p : S39) (ok : Bool) : Int × Int × Int × List Int × List S66 × Bool × Bool := (p.f0, p.f1, p.f2, p.f3, p.f4, p.f5, ok)
def getOf (l : List S39) (a : Int) : Int × Int × Int × List Int × List S66 × Bool × Bool := if a < (l.length : Int) then six (rd_T39 l a) true else (0, 0, 0, [], [], false, false)
theorem get_eq (l : List S39) (a : Int) (hl : l.length ≤ 1000000) (ha : 0 ≤ a ∧ a < 4294967296) : people_Get.f l a = some (getOf l a) := by
  unfold people_Get.f getOf six
  rw [in_eq l a hl ha, Option.bind_some]
  by_cases c : a < (l.length : Int)
  · rw [if_pos (decide_eq_true c), if_pos ha.1, if_pos c, if_pos c]
  · rw [if_neg (by simpa using c), if_neg c]
theorem clone_eq (l : List S39) (h : l.length < 1954687338268) : api_Person.f l = some l := by
  unfold api_Person.f
  rw [Option.bind_some, List.length_nil, if_pos (by omega), List.nil_append]
def setOf (l : List S39) (p : S39) : List S39 × Int := if p.f0 < (l.length : Int) then (l.set p.f0.toNat p, 0) else (l, 1)
theorem set_eq (l : List S39) (a b c : Int) (d : List Int) (e : List S66) (f : Bool) (hl : l.length ≤ 1000000) (ha : 0 ≤ a ∧ a < 4294967296) : people_Set.f l a b c d e f = some (setOf l ⟨a, b, c, d, e, f⟩) := by
  unfold people_Set.f setOf
  rw [in_eq l a hl ha, Option.bind_some]
  by_cases q : a < (l.length : Int)
  · rw [if_pos (decide_eq_true q), clone_eq l (by omega), Option.bind_some, if_pos ha.1, if_pos q, if_pos q]
  · rw [if_neg (by simpa using q), if_neg q]
def pairOf (l : List S39) (a b : Int) : Bool := decide (a ≠ b ∧ a ≠ 0 ∧ b ≠ 0 ∧ a < (l.length : Int) ∧ b < (l.length : Int))
theorem pair_eq (l : List S39) (a b : Int) (hl : l.length ≤ 1000000) (ha : 0 ≤ a ∧ a < 4294967296) (hb : 0 ≤ b ∧ b < 4294967296) : people_Pair.f l a b = some (pairOf l a b) := by
  unfold people_Pair.f pairOf
  by_cases c1 : a = b
  · rw [if_pos c1, decide_eq_false (fun h => h.1 c1)]
  rw [if_neg c1]
  by_cases c2 : a = 0
  · rw [if_pos c2, decide_eq_false (fun h => h.2.1 c2)]
  rw [if_neg c2]
  by_cases c3 : b = 0
  · rw [if_pos c3, decide_eq_false (fun h => h.2.2.1 c3)]
  rw [if_neg c3, in_eq l a hl ha, Option.bind_some, in_eq l b hl hb]
  by_cases c4 : a < (l.length : Int)
  · rw [if_pos (decide_eq_true c4), Option.bind_some]
    congr 1
    apply decide_eq_decide.mpr
    exact ⟨fun h => ⟨c1, c2, c3, c4, h⟩, fun h => h.2.2.2.2⟩
  · rw [if_neg (by simpa using c4), decide_eq_false (fun h => c4 h.2.2.2.1)]
theorem awake60 (k : Nat) (h : 60 ≤ k) : chamberlainlaw10_awake.f k = some true := at_rounds (chamberlainlaw10_awake.mono) h chamberlainlaw10_awake.at60
theorem rdT (xs : List S66) (i : Nat) (h : i < xs.length) : rd_T66 xs (i : Int) = xs[i] := by
  unfold rd_T66
  simp [List.getD_eq_getElem?_getD, h]
theorem runs_self (l : List S66) (k : Nat) (hl : l.length ≤ 1000000) (hk : l.length < k) : chamberlainref09_Same.f k l l = some true := by
  unfold chamberlainref09_Same.f
  rw [if_pos rfl]
  have h : ∀ (d k i : Nat), l.length - i = d → i ≤ l.length → d < k → chamberlainref09_Same.l0 k l l (i : Int) = some true := by
    intro d
    induction d with
    | zero =>
      intro k i h1 h2 h3
      obtain ⟨k, rfl⟩ : ∃ m, k = m + 1 := ⟨k - 1, by omega⟩
      rw [chamberlainref09_Same.l0, if_neg (by omega)]
    | succ d ih =>
      intro k i h1 h2 h3
      obtain ⟨k, rfl⟩ : ∃ m, k = m + 1 := ⟨k - 1, by omega⟩
      have ei : (i : Int) + 1 = ((i + 1 : Nat) : Int) := by omega
      rw [chamberlainref09_Same.l0, if_pos (by omega), if_pos (by omega), if_pos (by omega), if_neg (by simp), w64 (by omega) (by omega), ei, ih k (i + 1) (by omega) (by omega) (by omega)]
  have h0 := h l.length k 0 (by omega) (by omega) (by omega)
  simp only [Int.natCast_zero] at h0
  exact h0
/-- What a person has is short. -/
def small (p : S39) : Prop := p.f3.length ≤ 100 ∧ p.f4.length ≤ 100
theorem one_self (p : S39) (k : Nat) (h : small p) (hk : 200 < k) : chamberlainref10_One.f k p.f0 p.f1 p.f2 p.f3 p.f4 p.f5 p.f0 p.f1 p.f2 p.f3 p.f4 p.f5 = some true := by
  obtain ⟨h1, h2⟩ := h
  unfold chamberlainref10_One.f
  rw [if_pos rfl, if_pos rfl, if_pos rfl, if_pos (by simp), rsame_eq _ _ k (by omega) (by omega), Option.bind_some, if_pos (by simp), runs_self _ k (by omega) (by omega)]
  rfl
theorem ppl_self (l : List S39) (k : Nat) (hl : l.length ≤ 1000) (hs : ∀ p ∈ l, small p) (hk : l.length + 300 < k) : chamberlainref10_Same.f k l l = some true := by
  unfold chamberlainref10_Same.f
  rw [if_pos rfl]
  have h : ∀ (d k i : Nat), l.length - i = d → i ≤ l.length → 300 + d < k → chamberlainref10_Same.l0 k l l (i : Int) = some true := by
    intro d
    induction d with
    | zero =>
      intro k i h1 h2 h3
      obtain ⟨k, rfl⟩ : ∃ m, k = m + 1 := ⟨k - 1, by omega⟩
      rw [chamberlainref10_Same.l0, if_neg (by omega)]
    | succ d ih =>
      intro k i h1 h2 h3
      obtain ⟨k, rfl⟩ : ∃ m, k = m + 1 := ⟨k - 1, by omega⟩
      have ei : (i : Int) + 1 = ((i + 1 : Nat) : Int) := by omega
      have hi : i < l.length := by omega
      rw [chamberlainref10_Same.l0, if_pos (by omega), if_pos (by omega), if_pos (by omega), rdP l i hi, one_self _ k (hs _ (List.getElem_mem _)) (by omega), Option.bind_some, if_pos rfl, w64 (by omega) (by omega), ei, ih k (i + 1) (by omega) (by omega) (by omega)]
  have h0 := h l.length k 0 (by omega) (by omega) (by omega)
  simp only [Int.natCast_zero] at h0
  exact h0
def fewB (l : List S39) : Bool := allF (fun i => decide ((rd_T39 l (i : Int)).f3.length ≤ 100 ∧ (rd_T39 l (i : Int)).f4.length ≤ 100)) (min l.length 20) 0 && decide (l.length ≤ 10)
theorem few_eq (l : List S39) (k : Nat) (hl : l.length ≤ 9223372036854775807) (hk : 60 < k) : chamberlainref10_Few.f k l = some (fewB l) := by
  unfold chamberlainref10_Few.f fewB
  have h : ∀ (d k i : Nat), min l.length 20 - i = d → i ≤ min l.length 20 → d + d + 2 < k → chamberlainref10_Few.l0 k l (i : Int) = some (allF (fun i => decide ((rd_T39 l (i : Int)).f3.length ≤ 100 ∧ (rd_T39 l (i : Int)).f4.length ≤ 100)) d i && decide (l.length ≤ 10)) := by
    intro d
    induction d with
    | zero =>
      intro k i h1 h2 h3
      obtain ⟨k, rfl⟩ : ∃ m, k = m + 1 + 1 := ⟨k - 2, by omega⟩
      have e : decide ((l.length : Int) ≤ 10) = decide (l.length ≤ 10) := decide_eq_decide.mpr (by omega)
      rw [chamberlainref10_Few.l0, allF, Bool.true_and]
      by_cases c : (i : Int) < (l.length : Int)
      · rw [if_pos c, chamberlainref10_Few.j1, if_neg (by simp; omega), e]
      · rw [if_neg c, chamberlainref10_Few.j1, if_neg (by decide), e]
    | succ d ih =>
      intro k i h1 h2 h3
      obtain ⟨k, rfl⟩ : ∃ m, k = m + 1 + 1 := ⟨k - 2, by omega⟩
      have ei : (i : Int) + 1 = ((i + 1 : Nat) : Int) := by omega
      rw [chamberlainref10_Few.l0, if_pos (by omega), chamberlainref10_Few.j1, if_pos (decide_eq_true (by omega)), if_pos (by omega), if_pos (by omega), allF]
      by_cases c1 : ((rd_T39 l (i : Int)).f3.length : Int) > 100
      · rw [if_pos c1, decide_eq_false (by omega)]; rfl
      · rw [if_neg c1]
        by_cases c2 : ((rd_T39 l (i : Int)).f4.length : Int) > 100
        · rw [if_pos c2, decide_eq_false (by omega)]; rfl
        · have e3 : decide ((rd_T39 l (i : Int)).f3.length ≤ 100 ∧ (rd_T39 l (i : Int)).f4.length ≤ 100) = true := decide_eq_true (by omega)
          rw [if_neg c2, w64 (by omega) (by omega), ei, ih k (i + 1) (by omega) (by omega) (by omega), e3, Bool.true_and]
  have h0 := h (min l.length 20) k 0 (by omega) (by omega) (by omega)
  simp only [Int.natCast_zero] at h0
  exact h0
theorem fewB_iff (l : List S39) : fewB l = true ↔ l.length ≤ 10 ∧ ∀ p ∈ l, small p := by
  unfold fewB
  rw [Bool.and_eq_true, allF_iff, decide_eq_true_eq]
  constructor
  · rintro ⟨h1, h2⟩
    refine ⟨h2, fun p hp => ?_⟩
    obtain ⟨i, hi, e⟩ := List.getElem_of_mem hp
    have := h1 i (by omega) (by omega)
    rw [decide_eq_true_eq, rdP l i hi, e] at this
    exact this
  · rintro ⟨h1, h2⟩
    refine ⟨fun i _ hi => ?_, h1⟩
    rw [decide_eq_true_eq, rdP l i (by omega)]
    exact h2 _ (List.getElem_mem _)
theorem rright_eq (l : List S39) (k : Nat) (hl : l.length ≤ 4611686018427387904) (hk : l.length < k) : chamberlainref10_Right.f k l = some (rightP l) := by
  unfold chamberlainref10_Right.f rightP
  have h : ∀ (d k i : Nat), l.length - i = d → i ≤ l.length → d < k → chamberlainref10_Right.l0 k l (i : Int) = some (allF (fun i => decide ((rd_T39 l (i : Int)).f0 = (i : Int) % 4294967296)) d i && decide (2 ≤ l.length ∧ l.length ≤ 7)) := by
    intro d
    induction d with
    | zero =>
      intro k i h1 h2 h3
      obtain ⟨k, rfl⟩ : ∃ m, k = m + 1 := ⟨k - 1, by omega⟩
      rw [chamberlainref10_Right.l0, if_neg (by omega), allF, Bool.true_and]
      by_cases c : (l.length : Int) > 1
      · rw [if_pos c]; congr 1; apply decide_eq_decide.mpr; omega
      · rw [if_neg c]; congr 1; symm; apply decide_eq_false; omega
    | succ d ih =>
      intro k i h1 h2 h3
      obtain ⟨k, rfl⟩ : ∃ m, k = m + 1 := ⟨k - 1, by omega⟩
      have ei : (i : Int) + 1 = ((i + 1 : Nat) : Int) := by omega
      rw [chamberlainref10_Right.l0, if_pos (by omega), if_pos (by omega), allF]
      by_cases c : (rd_T39 l (i : Int)).f0 = (i : Int) % 4294967296
      · rw [if_pos c, w64 (by omega) (by omega), ei, ih k (i + 1) (by omega) (by omega) (by omega), decide_eq_true c, Bool.true_and]
      · rw [if_neg c, decide_eq_false c]; rfl
  have h0 := h l.length k 0 (by omega) (by omega) hk
  simp only [Int.natCast_zero] at h0
  exact h0
theorem set_len (l : List S39) (p : S39) : (setOf l p).1.length = l.length := by unfold setOf; split <;> simp
theorem set_small (l : List S39) (p : S39) (h : ∀ x ∈ l, small x) (hp : small p) : ∀ x ∈ (setOf l p).1, small x := by
  unfold setOf
  split
  · intro x hx
    rcases List.mem_or_eq_of_mem_set hx with q | q
    · exact h x q
    · rw [q]; exact hp
  · exact h
theorem PeopleTurned : chamberlainlaw10_PeopleTurned.Pure := by
  intro l n ky ck us rs co n' ky' ck' us' rs' co' hl _ hn _ _ _ _ _ _ hn' _ _ _ _ _ _
  have hn := wf32 hn
  have hn' := wf32 hn'
  have hlm : l.length ≤ 9223372036854775807 := Nat.le_trans hl (by decide)
  obtain ⟨k, hk⟩ : ∃ k, k = 20000 := ⟨_, rfl⟩
  refine ⟨k + 1 + 1, ?_⟩
  unfold chamberlainlaw10_PeopleTurned.f
  rw [awake60 _ (by omega), Option.bind_some, if_pos rfl]
  have jt : chamberlainlaw10_PeopleTurned.j0 (k + 1 + 1) l true n ky ck us rs co n' ky' ck' us' rs' co' = some true := by
    rw [chamberlainlaw10_PeopleTurned.j0, if_pos rfl, awake60 _ (by omega)]; rfl
  rw [few_eq l _ hlm (by omega), Option.bind_some]
  by_cases c1 : fewB l = true
  · obtain ⟨f1, f2⟩ := (fewB_iff l).mp c1
    rw [if_pos c1, rright_eq l _ (by omega) (by omega), Option.bind_some]
    by_cases c2 : rightP l = true
    · rw [if_pos c2, few_eq _ _ (by simp) (by omega), Option.bind_some]
      by_cases c3 : fewB [(⟨n, ky, ck, us, rs, co⟩ : S39), ⟨n', ky', ck', us', rs', co'⟩] = true
      · obtain ⟨_, g2⟩ := (fewB_iff _).mp c3
        obtain ⟨p, hp⟩ : ∃ p : S39, p = ⟨n, ky, ck, us, rs, co⟩ := ⟨_, rfl⟩
        obtain ⟨q, hq⟩ : ∃ q : S39, q = ⟨n', ky', ck', us', rs', co'⟩ := ⟨_, rfl⟩
        have sp : small p := g2 p (by rw [hp]; simp)
        have sq : small q := g2 q (by rw [hq]; simp)
        have pn : p.f0 = n := by rw [hp]
        have qn : q.f0 = n' := by rw [hq]
        rw [c3, chamberlainlaw10_PeopleTurned.j0, if_neg (by decide), set_eq _ _ _ _ _ _ _ (by omega) hn, Option.bind_some, set_eq _ _ _ _ _ _ _ (by rw [set_len]; omega) hn', Option.bind_some, set_eq _ _ _ _ _ _ _ (by omega) hn', Option.bind_some, set_eq _ _ _ _ _ _ _ (by rw [set_len]; omega) hn, Option.bind_some, ← hp, ← hq]
        have e1 : (setOf (setOf l q).1 p).2 = (setOf l p).2 := by
          unfold setOf
          by_cases z : q.f0 < (l.length : Int)
          · rw [if_pos z]
            by_cases y : p.f0 < (l.length : Int)
            · rw [if_pos (by simpa using y), if_pos y]
            · rw [if_neg (by simpa using y), if_neg y]
          · rw [if_neg z]
        have e2 : (setOf (setOf l p).1 q).2 = (setOf l q).2 := by
          unfold setOf
          by_cases z : p.f0 < (l.length : Int)
          · rw [if_pos z]
            by_cases y : q.f0 < (l.length : Int)
            · rw [if_pos (by simpa using y), if_pos y]
            · rw [if_neg (by simpa using y), if_neg y]
          · rw [if_neg z]
        rw [if_pos e1.symm, e2, bne_self_eq_false, chamberlainlaw10_PeopleTurned.j1, if_neg (by decide)]
        by_cases c4 : n = n'
        · have eb : ∀ (x y : S39), x.f0 = y.f0 → (setOf (setOf l x).1 y).1 = (setOf l y).1 := by
            intro x y hxy
            unfold setOf
            by_cases z : x.f0 < (l.length : Int)
            · rw [if_pos z, if_pos (by simp; omega), if_pos (by omega)]
              dsimp only
              rw [hxy, List.set_set]
            · rw [if_neg z]
          rw [if_pos c4, eb p q (by omega), eb q p (by omega), ppl_self _ k (by rw [set_len]; omega) (set_small l q f2 sq) (by rw [set_len]; omega), Option.bind_some, if_pos rfl, ppl_self _ k (by rw [set_len]; omega) (set_small l p f2 sp) (by rw [set_len]; omega)]
          rfl
        · have eb : (setOf (setOf l p).1 q).1 = (setOf (setOf l q).1 p).1 := by
            unfold setOf
            by_cases z : p.f0 < (l.length : Int)
            · by_cases y : q.f0 < (l.length : Int)
              · rw [if_pos z, if_pos y, if_pos (by simpa using y), if_pos (by simpa using z)]
                dsimp only
                rw [List.set_comm _ _ (by omega)]
              · simp [z, y]
            · by_cases y : q.f0 < (l.length : Int)
              · simp [z, y]
              · simp [z, y]
          rw [if_neg c4, eb, ppl_self _ k (by rw [set_len, set_len]; omega) (set_small _ p (set_small l q f2 sq) sp) (by rw [set_len, set_len]; omega)]
          rfl
      · have c4 : fewB [(⟨n, ky, ck, us, rs, co⟩ : S39), ⟨n', ky', ck', us', rs', co'⟩] = false := by simpa using c3
        rw [c4]; exact jt
    · rw [if_neg c2, jt]
  · rw [if_neg c1, jt]

end Go.Proofs.Ytlgbahgddpggfaa.Pure
